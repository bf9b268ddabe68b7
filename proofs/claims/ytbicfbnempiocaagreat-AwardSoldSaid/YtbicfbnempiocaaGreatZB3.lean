/- Part 4 of what the law's proof rests on: what each function of the program computes, and that the machine's call of it comes to just that. -/
import Derived.Test.YtbicfbnempiocaaGreatZB0
import Derived.Test.YtbicfbnempiocaaGreatZB1
set_option linter.unusedVariables false
set_option linter.unusedSimpArgs false
namespace Go.Proofs.YtbicfbnempiocaaGreat.G
open Go.RowKit Go.Proofs.YtbicfbnempiocaaGreatW.PrintWords Go.Proofs.YtbicfbnempiocaaGreatW.PrintLast Go.Proofs.YtbicfbnempiocaaGreatW.PrintMore
section
open Go.Shelf
def restV (b z b2 b3 : Bool) : Int := if b then 7 else if z then 0 else if b2 then (if b3 then 6 else 0) else 5
def lateR (l : List S26) (x : S26) : Bool := decide (0 < l.length) && decide (x.f1 < (rd_T26 l ((l.length : Int) - 1)).f1)
def followsR (l : List S26) (x : S26) : Int :=
 if 100 ≤ l.length then 2 else if ckR x ≠ 0 then 1 else if l.any (fun y => y.f0 == x.f0) then 6 else if lateR l x then 7 else if x.f7 = 0 then 0
 else if l.any (fun y => y.f0 == x.f7 && y.f7 == 0) then (if l.any (fun y => y.f7 == x.f7) then 6 else 0) else 5
set_option maxRecDepth 100000 in
set_option maxHeartbeats 4000000 in
theorem follows_rate_full (A : Option Addr) (c : Nat) (l : List S26) (X : S26) (w : World) (hr0 : Kd.C k26 w A l.length l) (h1 : 100 ≤ l.length) :
  Calls Tryz.prog 72 #[.slice A l.length c, .agg #[.int .i64 X.f0, .int .i64 X.f1, .int .i64 X.f2, .string X.f3, .int .i64 X.f4.f0, .int .i64 X.f4.f1, .int .i64 X.f5, .int .i64 X.f6, .int .i64 X.f7], .int .i64 100, .func (.func 62) #[] #[]] w fun e w' => e = .returned (.int .i64 2) ∧ Below w.heap.size w w' := by
 have hm : l.length ≤ 9223372036854775807 := hr0.2.1
 have HR := Aq.mk hr0
 clear hr0
 have hmf : ∀ (fn : Fn) (first cap : Array Value) (w : World), (Instr.makeFunc fn first cap).run Tryz.prog w = .ok (.func fn first cap) w := fun _ _ _ _ => rfl
 have hfd1 : ∀ (a b c : Int) (V : World), (Instr.field 143 (.agg #[.int .i64 a, .int .i64 b, .int .i64 c]) 1).run Tryz.prog V = .ok (.int .i64 b) V := fun _ _ _ _ => by rfl
 have HB := Aq.mk (Below.refl w.heap.size w)
 have eg0 : Aq (∀ args w, (callFunc 117 args).run Tryz.prog w = .ok (.enter 117 args) w) := ⟨enters_of Tryz.func117 (by kernel_rfl) rfl⟩
 have eg1 : Aq (∀ args w, (callFunc 118 args).run Tryz.prog w = .ok (.enter 118 args) w) := ⟨enters_of Tryz.func118 (by kernel_rfl) rfl⟩
 have eg2 : Aq (∀ args w, (callFunc 119 args).run Tryz.prog w = .ok (.enter 119 args) w) := ⟨enters_of Tryz.func119 (by kernel_rfl) rfl⟩
 have h1i : (100 : Int) ≤ (l.length : Int) := by omega
 clear h1
 go_enter Tryz.func72, Tryz.ntmps72
 go_wp2_with (first | ((with_reducible refine gD_ (N := 5) rfl ?_); refine bxE (N := 5) #[.int .i64 X.f0, .int .i64 X.f1, .int .i64 X.f2, .string X.f3, .int .i64 X.f4.f0, .int .i64 X.f4.f1, .int .i64 X.f5, .int .i64 X.f6, .int .i64 X.f7] 26 ?_; intro bx hg w1 hbox hb; have n0_ := Aq.mk (bS_ HB.out hb); have HX := Aq.mk hbox; clear HB hb hbox hg; have HB := n0_; clear n0_; obtain ⟨hx0, hx1, hx2, hx3, hx4, hx5, hx6, hx7, hx8⟩ := cz9 HX.out) | (go_at_call 115; go_must (refine (headB_rate X _).mono ?_; rintro e w2 ⟨rfl, hb⟩; replace HB := Aq.mk (bS_ HB.out hb); replace HX := Aq.mk (bB_ HX.out hb); clear hb hx0 hx1 hx2 hx3 hx4 hx5 hx6 hx7 hx8; obtain ⟨hx0, hx1, hx2, hx3, hx4, hx5, hx6, hx7, hx8⟩ := cz9 HX.out)) | ((with_reducible refine gD_ (N := 9) rfl ?_); refine bxE (N := 9) #[.int .i64 0, .int .i64 0, .int .i64 0] 143 ?_; intro bh hg w3 hbox hb; have n0_ := Aq.mk (bS_ HB.out hb); have n1_ := Aq.mk (bB_ HX.out hb); have HH := Aq.mk hbox; have NE := Aq.mk (by rw [hg]; exact Nat.ne_of_lt (blk_lt HX.out) : bx ≠ bh); have GH := Aq.mk (by rw [hg]; exact HB.out.size : w.heap.size ≤ bh); have hnb := NE.out; have hnc := NE.out.symm; clear HB HX hb hbox hg hx0 hx1 hx2 hx3 hx4 hx5 hx6 hx7 hx8; have HB := n0_; have HX := n1_; clear n0_ n1_; obtain ⟨hx0, hx1, hx2, hx3, hx4, hx5, hx6, hx7, hx8⟩ := cz9 HX.out; obtain ⟨hh0, hh1, hh2, hf0, hf1, hf2⟩ := cf3 HH.out))
 go_ret
 exact ⟨rfl, by repeat (first | exact HB.out | (refine bT_ ?_ GH.out))⟩
set_option maxRecDepth 100000 in
set_option maxHeartbeats 4000000 in
theorem follows_rate_form (A : Option Addr) (c : Nat) (l : List S26) (X : S26) (w : World) (hr0 : Kd.C k26 w A l.length l) (h1 : ¬ 100 ≤ l.length) (k : Int) (CK : Aq (ckR X = k)) (hk : (k != 0) = true) :
  Calls Tryz.prog 72 #[.slice A l.length c, .agg #[.int .i64 X.f0, .int .i64 X.f1, .int .i64 X.f2, .string X.f3, .int .i64 X.f4.f0, .int .i64 X.f4.f1, .int .i64 X.f5, .int .i64 X.f6, .int .i64 X.f7], .int .i64 100, .func (.func 62) #[] #[]] w fun e w' => e = .returned (.int .i64 1) ∧ Below w.heap.size w w' := by
 have hm : l.length ≤ 9223372036854775807 := hr0.2.1
 have HR := Aq.mk hr0
 clear hr0
 have hmf : ∀ (fn : Fn) (first cap : Array Value) (w : World), (Instr.makeFunc fn first cap).run Tryz.prog w = .ok (.func fn first cap) w := fun _ _ _ _ => rfl
 have hfd1 : ∀ (a b c : Int) (V : World), (Instr.field 143 (.agg #[.int .i64 a, .int .i64 b, .int .i64 c]) 1).run Tryz.prog V = .ok (.int .i64 b) V := fun _ _ _ _ => by rfl
 have HB := Aq.mk (Below.refl w.heap.size w)
 have eg0 : Aq (∀ args w, (callFunc 117 args).run Tryz.prog w = .ok (.enter 117 args) w) := ⟨enters_of Tryz.func117 (by kernel_rfl) rfl⟩
 have eg1 : Aq (∀ args w, (callFunc 118 args).run Tryz.prog w = .ok (.enter 118 args) w) := ⟨enters_of Tryz.func118 (by kernel_rfl) rfl⟩
 have eg2 : Aq (∀ args w, (callFunc 119 args).run Tryz.prog w = .ok (.enter 119 args) w) := ⟨enters_of Tryz.func119 (by kernel_rfl) rfl⟩
 have h1i : ¬ (100 : Int) ≤ (l.length : Int) := by omega
 have h1j : (l.length : Int) < 100 := by omega
 clear h1
 go_enter Tryz.func72, Tryz.ntmps72
 go_wp2_with (first | ((with_reducible refine gD_ (N := 5) rfl ?_); refine bxE (N := 5) #[.int .i64 X.f0, .int .i64 X.f1, .int .i64 X.f2, .string X.f3, .int .i64 X.f4.f0, .int .i64 X.f4.f1, .int .i64 X.f5, .int .i64 X.f6, .int .i64 X.f7] 26 ?_; intro bx hg w1 hbox hb; have n0_ := Aq.mk (bS_ HB.out hb); have HX := Aq.mk hbox; clear HB hb hbox hg; have HB := n0_; clear n0_; obtain ⟨hx0, hx1, hx2, hx3, hx4, hx5, hx6, hx7, hx8⟩ := cz9 HX.out) | (go_at_call 115; go_must (refine (headB_rate X _).mono ?_; rintro e w2 ⟨rfl, hb⟩; replace HB := Aq.mk (bS_ HB.out hb); replace HX := Aq.mk (bB_ HX.out hb); clear hb hx0 hx1 hx2 hx3 hx4 hx5 hx6 hx7 hx8; obtain ⟨hx0, hx1, hx2, hx3, hx4, hx5, hx6, hx7, hx8⟩ := cz9 HX.out)) | ((with_reducible refine gD_ (N := 9) rfl ?_); refine bxE (N := 9) #[.int .i64 0, .int .i64 0, .int .i64 0] 143 ?_; intro bh hg w3 hbox hb; have n0_ := Aq.mk (bS_ HB.out hb); have n1_ := Aq.mk (bB_ HX.out hb); have HH := Aq.mk hbox; have NE := Aq.mk (by rw [hg]; exact Nat.ne_of_lt (blk_lt HX.out) : bx ≠ bh); have GH := Aq.mk (by rw [hg]; exact HB.out.size : w.heap.size ≤ bh); have hnb := NE.out; have hnc := NE.out.symm; clear HB HX hb hbox hg hx0 hx1 hx2 hx3 hx4 hx5 hx6 hx7 hx8; have HB := n0_; have HX := n1_; clear n0_ n1_; obtain ⟨hx0, hx1, hx2, hx3, hx4, hx5, hx6, hx7, hx8⟩ := cz9 HX.out; obtain ⟨hh0, hh1, hh2, hf0, hf1, hf2⟩ := cf3 HH.out) | (go_at_call 62; go_must (have m0_ : (((w3.setCell ⟨bh, 0, none⟩ (.int .i64 X.f0)).setCell ⟨bh, 1, none⟩ (.int .i64 X.f1)).setCell ⟨bh, 2, none⟩ (.int .i64 X.f7)).heap[bx]? = some (.cells #[.int .i64 X.f0, .int .i64 X.f1, .int .i64 X.f2, .string X.f3, .int .i64 X.f4.f0, .int .i64 X.f4.f1, .int .i64 X.f5, .int .i64 X.f6, .int .i64 X.f7] 26 (0, 0)) := bF_ (p := ⟨bh, 2, none⟩) (bF_ (p := ⟨bh, 1, none⟩) (bF_ (p := ⟨bh, 0, none⟩) HX.out NE.out _) NE.out _) NE.out _; have m1_ : (((w3.setCell ⟨bh, 0, none⟩ (.int .i64 X.f0)).setCell ⟨bh, 1, none⟩ (.int .i64 X.f1)).setCell ⟨bh, 2, none⟩ (.int .i64 X.f7)).heap[bh]? = some (.cells #[.int .i64 X.f0, .int .i64 X.f1, .int .i64 X.f7] 143 (0, 0)) := bP_ (bP_ (bP_ HH.out 0 _ rfl) 1 _ rfl) 2 _ rfl; have m2_ : Below w.heap.size w (((w3.setCell ⟨bh, 0, none⟩ (.int .i64 X.f0)).setCell ⟨bh, 1, none⟩ (.int .i64 X.f1)).setCell ⟨bh, 2, none⟩ (.int .i64 X.f7)) := bT_ (bT_ (bT_ HB.out GH.out) GH.out) GH.out; clear HB HX HH hf0 hf1 hf2 hx0 hx1 hx2 hx3 hx4 hx5 hx6 hx7 hx8 hh0 hh1 hh2; generalize (((w3.setCell ⟨bh, 0, none⟩ (.int .i64 X.f0)).setCell ⟨bh, 1, none⟩ (.int .i64 X.f1)).setCell ⟨bh, 2, none⟩ (.int .i64 X.f7)) = w4 at m0_ m1_ m2_ ⊢; have HB := Aq.mk m2_; have HX := Aq.mk m0_; have HH := Aq.mk m1_; clear m0_ m1_ m2_; refine (checkRate_any X _).mono ?_; rintro e w5 ⟨he, hb⟩; rw [CK.out] at he; subst he; replace HB := Aq.mk (bS_ HB.out hb); replace HX := Aq.mk (bB_ HX.out hb); replace HH := Aq.mk (bB_ HH.out hb); clear hb; obtain ⟨hx0, hx1, hx2, hx3, hx4, hx5, hx6, hx7, hx8⟩ := cz9 HX.out; obtain ⟨hh0, hh1, hh2⟩ := cz3 HH.out)))
 go_ret
 exact ⟨rfl, by repeat (first | exact HB.out | (refine bT_ ?_ GH.out))⟩
set_option maxRecDepth 100000 in
set_option maxHeartbeats 4000000 in
theorem follows_rate_same (A : Option Addr) (c : Nat) (l : List S26) (X : S26) (w : World) (hr0 : Kd.C k26 w A l.length l) (h1 : ¬ 100 ≤ l.length) (CK : Aq (ckR X = 0)) (S1 : Aq ((l.any fun y => y.f0 == X.f0) = true)) :
  Calls Tryz.prog 72 #[.slice A l.length c, .agg #[.int .i64 X.f0, .int .i64 X.f1, .int .i64 X.f2, .string X.f3, .int .i64 X.f4.f0, .int .i64 X.f4.f1, .int .i64 X.f5, .int .i64 X.f6, .int .i64 X.f7], .int .i64 100, .func (.func 62) #[] #[]] w fun e w' => e = .returned (.int .i64 6) ∧ Below w.heap.size w w' := by
 have hm : l.length ≤ 9223372036854775807 := hr0.2.1
 have HR := Aq.mk hr0
 clear hr0
 have hmf : ∀ (fn : Fn) (first cap : Array Value) (w : World), (Instr.makeFunc fn first cap).run Tryz.prog w = .ok (.func fn first cap) w := fun _ _ _ _ => rfl
 have hfd1 : ∀ (a b c : Int) (V : World), (Instr.field 143 (.agg #[.int .i64 a, .int .i64 b, .int .i64 c]) 1).run Tryz.prog V = .ok (.int .i64 b) V := fun _ _ _ _ => by rfl
 have HB := Aq.mk (Below.refl w.heap.size w)
 have eg0 : Aq (∀ args w, (callFunc 117 args).run Tryz.prog w = .ok (.enter 117 args) w) := ⟨enters_of Tryz.func117 (by kernel_rfl) rfl⟩
 have eg1 : Aq (∀ args w, (callFunc 118 args).run Tryz.prog w = .ok (.enter 118 args) w) := ⟨enters_of Tryz.func118 (by kernel_rfl) rfl⟩
 have eg2 : Aq (∀ args w, (callFunc 119 args).run Tryz.prog w = .ok (.enter 119 args) w) := ⟨enters_of Tryz.func119 (by kernel_rfl) rfl⟩
 have h1i : ¬ (100 : Int) ≤ (l.length : Int) := by omega
 have h1j : (l.length : Int) < 100 := by omega
 clear h1
 go_enter Tryz.func72, Tryz.ntmps72
 go_wp2_with (first | ((with_reducible refine gD_ (N := 5) rfl ?_); refine bxE (N := 5) #[.int .i64 X.f0, .int .i64 X.f1, .int .i64 X.f2, .string X.f3, .int .i64 X.f4.f0, .int .i64 X.f4.f1, .int .i64 X.f5, .int .i64 X.f6, .int .i64 X.f7] 26 ?_; intro bx hg w1 hbox hb; have n0_ := Aq.mk (bS_ HB.out hb); have HX := Aq.mk hbox; clear HB hb hbox hg; have HB := n0_; clear n0_; obtain ⟨hx0, hx1, hx2, hx3, hx4, hx5, hx6, hx7, hx8⟩ := cz9 HX.out) | (go_at_call 115; go_must (refine (headB_rate X _).mono ?_; rintro e w2 ⟨rfl, hb⟩; replace HB := Aq.mk (bS_ HB.out hb); replace HX := Aq.mk (bB_ HX.out hb); clear hb hx0 hx1 hx2 hx3 hx4 hx5 hx6 hx7 hx8; obtain ⟨hx0, hx1, hx2, hx3, hx4, hx5, hx6, hx7, hx8⟩ := cz9 HX.out)) | ((with_reducible refine gD_ (N := 9) rfl ?_); refine bxE (N := 9) #[.int .i64 0, .int .i64 0, .int .i64 0] 143 ?_; intro bh hg w3 hbox hb; have n0_ := Aq.mk (bS_ HB.out hb); have n1_ := Aq.mk (bB_ HX.out hb); have HH := Aq.mk hbox; have NE := Aq.mk (by rw [hg]; exact Nat.ne_of_lt (blk_lt HX.out) : bx ≠ bh); have GH := Aq.mk (by rw [hg]; exact HB.out.size : w.heap.size ≤ bh); have hnb := NE.out; have hnc := NE.out.symm; clear HB HX hb hbox hg hx0 hx1 hx2 hx3 hx4 hx5 hx6 hx7 hx8; have HB := n0_; have HX := n1_; clear n0_ n1_; obtain ⟨hx0, hx1, hx2, hx3, hx4, hx5, hx6, hx7, hx8⟩ := cz9 HX.out; obtain ⟨hh0, hh1, hh2, hf0, hf1, hf2⟩ := cf3 HH.out) | (go_at_call 62; go_must (have m0_ : (((w3.setCell ⟨bh, 0, none⟩ (.int .i64 X.f0)).setCell ⟨bh, 1, none⟩ (.int .i64 X.f1)).setCell ⟨bh, 2, none⟩ (.int .i64 X.f7)).heap[bx]? = some (.cells #[.int .i64 X.f0, .int .i64 X.f1, .int .i64 X.f2, .string X.f3, .int .i64 X.f4.f0, .int .i64 X.f4.f1, .int .i64 X.f5, .int .i64 X.f6, .int .i64 X.f7] 26 (0, 0)) := bF_ (p := ⟨bh, 2, none⟩) (bF_ (p := ⟨bh, 1, none⟩) (bF_ (p := ⟨bh, 0, none⟩) HX.out NE.out _) NE.out _) NE.out _; have m1_ : (((w3.setCell ⟨bh, 0, none⟩ (.int .i64 X.f0)).setCell ⟨bh, 1, none⟩ (.int .i64 X.f1)).setCell ⟨bh, 2, none⟩ (.int .i64 X.f7)).heap[bh]? = some (.cells #[.int .i64 X.f0, .int .i64 X.f1, .int .i64 X.f7] 143 (0, 0)) := bP_ (bP_ (bP_ HH.out 0 _ rfl) 1 _ rfl) 2 _ rfl; have m2_ : Below w.heap.size w (((w3.setCell ⟨bh, 0, none⟩ (.int .i64 X.f0)).setCell ⟨bh, 1, none⟩ (.int .i64 X.f1)).setCell ⟨bh, 2, none⟩ (.int .i64 X.f7)) := bT_ (bT_ (bT_ HB.out GH.out) GH.out) GH.out; clear HB HX HH hf0 hf1 hf2 hx0 hx1 hx2 hx3 hx4 hx5 hx6 hx7 hx8 hh0 hh1 hh2; generalize (((w3.setCell ⟨bh, 0, none⟩ (.int .i64 X.f0)).setCell ⟨bh, 1, none⟩ (.int .i64 X.f1)).setCell ⟨bh, 2, none⟩ (.int .i64 X.f7)) = w4 at m0_ m1_ m2_ ⊢; have HB := Aq.mk m2_; have HX := Aq.mk m0_; have HH := Aq.mk m1_; clear m0_ m1_ m2_; refine (checkRate_any X _).mono ?_; rintro e w5 ⟨he, hb⟩; rw [CK.out] at he; subst he; replace HB := Aq.mk (bS_ HB.out hb); replace HX := Aq.mk (bB_ HX.out hb); replace HH := Aq.mk (bB_ HH.out hb); clear hb; obtain ⟨hx0, hx1, hx2, hx3, hx4, hx5, hx6, hx7, hx8⟩ := cz9 HX.out; obtain ⟨hh0, hh1, hh2⟩ := cz3 HH.out)) | (go_at_call 116; (with_reducible refine (contains_Rate 117 #[.pointer (some ⟨bh, 0, none⟩)] (fun y => y.f0 == X.f0) _ c l _ eg0.out ?hp (Kd.C_below HR.out HB.out)).mono ?_); (case hp => exact fun W2 y _ hb2 => (same_rate y bh X.f0 X.f1 X.f7 W2 (bB_ HH.out hb2)).mono fun e W3 ⟨he, hw⟩ => ⟨he, bS_ hb2 hw⟩); rintro e w5b ⟨he, hb⟩; rw [S1.out] at he; subst he; replace HB := Aq.mk (bS_ HB.out hb); replace HX := Aq.mk (bB_ HX.out hb); replace HH := Aq.mk (bB_ HH.out hb); clear hb hx0 hx1 hx2 hx3 hx4 hx5 hx6 hx7 hx8 hh0 hh1 hh2; obtain ⟨hx0, hx1, hx2, hx3, hx4, hx5, hx6, hx7, hx8⟩ := cz9 HX.out; obtain ⟨hh0, hh1, hh2⟩ := cz3 HH.out))
 go_ret
 exact ⟨rfl, by repeat (first | exact HB.out | (refine bT_ ?_ GH.out))⟩
theorem kHFolR_1 {Q : Prop} (f : Q := by
 go_wp2_with (first | (go_at_call 116; (with_reducible refine (contains_Rate 118 #[.pointer (some ⟨bh, 0, none⟩)] (fun y => y.f0 == X.f7 && y.f7 == 0) _ c l _ eg1.out ?hp (Kd.C_below HR.out HB.out)).mono ?_); (case hp => exact fun W2 y _ hb2 => (named_rate y bh X.f0 X.f1 X.f7 W2 (bB_ HH.out hb2)).mono fun e W3 ⟨he, hw⟩ => ⟨he, bS_ hb2 hw⟩); rintro e w7 ⟨he, hb⟩; rw [S2.out] at he; subst he; replace HB := Aq.mk (bS_ HB.out hb); replace HX := Aq.mk (bB_ HX.out hb); replace HH := Aq.mk (bB_ HH.out hb); clear hb hx0 hx1 hx2 hx3 hx4 hx5 hx6 hx7 hx8 hh0 hh1 hh2; obtain ⟨hx0, hx1, hx2, hx3, hx4, hx5, hx6, hx7, hx8⟩ := cz9 HX.out; obtain ⟨hh0, hh1, hh2⟩ := cz3 HH.out) | (go_at_call 116; (with_reducible refine (contains_Rate 119 #[.pointer (some ⟨bh, 0, none⟩)] (fun y => y.f7 == X.f7) _ c l _ eg2.out ?hp (Kd.C_below HR.out HB.out)).mono ?_); (case hp => exact fun W2 y _ hb2 => (twice_rate y bh X.f0 X.f1 X.f7 W2 (bB_ HH.out hb2)).mono fun e W3 ⟨he, hw⟩ => ⟨he, bS_ hb2 hw⟩); rintro e w8 ⟨he, hb⟩; rw [S3.out] at he; subst he; replace HB := Aq.mk (bS_ HB.out hb); replace HX := Aq.mk (bB_ HX.out hb); replace HH := Aq.mk (bB_ HH.out hb); clear hb hx0 hx1 hx2 hx3 hx4 hx5 hx6 hx7 hx8 hh0 hh1 hh2; obtain ⟨hx0, hx1, hx2, hx3, hx4, hx5, hx6, hx7, hx8⟩ := cz9 HX.out; obtain ⟨hh0, hh1, hh2⟩ := cz3 HH.out))
 go_ret
 exact ⟨rfl, HB.out⟩) : Q := f
set_option maxRecDepth 100000 in
set_option maxHeartbeats 4000000 in
theorem follows_rate_rest (A : Option Addr) (c : Nat) (l : List S26) (X : S26) (w : World) (hr0 : Kd.C k26 w A l.length l) (h1 : ¬ 100 ≤ l.length) (CK : Aq (ckR X = 0)) (S1 : Aq ((l.any fun y => y.f0 == X.f0) = false)) (b z b2 b3 : Bool) (n0 : 0 < l.length) (LA : decide (X.f1 < (rd_T26 l ((l.length : Int) - 1)).f1) = b) (hof : (X.f7 == 0) = z) (S2 : Aq ((l.any fun y => y.f0 == X.f7 && y.f7 == 0) = b2)) (S3 : Aq ((l.any fun y => y.f7 == X.f7) = b3)) :
  Calls Tryz.prog 72 #[.slice A l.length c, .agg #[.int .i64 X.f0, .int .i64 X.f1, .int .i64 X.f2, .string X.f3, .int .i64 X.f4.f0, .int .i64 X.f4.f1, .int .i64 X.f5, .int .i64 X.f6, .int .i64 X.f7], .int .i64 100, .func (.func 62) #[] #[]] w fun e w' => e = .returned (.int .i64 (restV b z b2 b3)) ∧ Below w.heap.size w w' := by
 have hm : l.length ≤ 9223372036854775807 := hr0.2.1
 have HR := Aq.mk hr0
 clear hr0
 have hmf : ∀ (fn : Fn) (first cap : Array Value) (w : World), (Instr.makeFunc fn first cap).run Tryz.prog w = .ok (.func fn first cap) w := fun _ _ _ _ => rfl
 have hfd1 : ∀ (a b c : Int) (V : World), (Instr.field 143 (.agg #[.int .i64 a, .int .i64 b, .int .i64 c]) 1).run Tryz.prog V = .ok (.int .i64 b) V := fun _ _ _ _ => by rfl
 have HB := Aq.mk (Below.refl w.heap.size w)
 have eg0 : Aq (∀ args w, (callFunc 117 args).run Tryz.prog w = .ok (.enter 117 args) w) := ⟨enters_of Tryz.func117 (by kernel_rfl) rfl⟩
 have eg1 : Aq (∀ args w, (callFunc 118 args).run Tryz.prog w = .ok (.enter 118 args) w) := ⟨enters_of Tryz.func118 (by kernel_rfl) rfl⟩
 have eg2 : Aq (∀ args w, (callFunc 119 args).run Tryz.prog w = .ok (.enter 119 args) w) := ⟨enters_of Tryz.func119 (by kernel_rfl) rfl⟩
 have h1i : ¬ (100 : Int) ≤ (l.length : Int) := by omega
 have h1j : (l.length : Int) < 100 := by omega
 clear h1
 have n0i : (0 : Int) < (l.length : Int) := by omega
 have n0b : decide ((0 : Int) < (l.length : Int)) = true := decide_eq_true n0i
 have p0 : (0 : Int) ≤ (l.length : Int) - 1 := by omega
 have p1 : (l.length : Int) - 1 < (l.length : Int) := by omega
 have n1i : (1 : Int) ≤ (l.length : Int) := by omega
 have et : ((l.length : Int) - 1).toNat = l.length - 1 := by omega
 have pw : IntKind.i64.wrap ((l.length : Int) - 1) = (l.length : Int) - 1 := IntWalk.i64_in _ (by omega)
 obtain ⟨ad, e_, hl0, hl1, hl2, hl3, hl4, hl5, hl6, hl7, hl8⟩ := at_T26 HR.out ((l.length : Int) - 1) p0 p1
 cases e_
 rw [et] at hl0 hl1 hl2 hl3 hl4 hl5 hl6 hl7 hl8
 clear et
 generalize rd_T26 l ((l.length : Int) - 1) = Y at LA hl0 hl1 hl2 hl3 hl4 hl5 hl6 hl7 hl8
 go_enter Tryz.func72, Tryz.ntmps72
 go_wp2_with (first | ((with_reducible refine gD_ (N := 5) rfl ?_); refine bxE (N := 5) #[.int .i64 X.f0, .int .i64 X.f1, .int .i64 X.f2, .string X.f3, .int .i64 X.f4.f0, .int .i64 X.f4.f1, .int .i64 X.f5, .int .i64 X.f6, .int .i64 X.f7] 26 ?_; intro bx hg w1 hbox hb; have n0_ := Aq.mk (bS_ HB.out hb); have HX := Aq.mk hbox; clear HB hb hbox hg; have HB := n0_; clear n0_; obtain ⟨hx0, hx1, hx2, hx3, hx4, hx5, hx6, hx7, hx8⟩ := cz9 HX.out) | (go_at_call 115; go_must (refine (headB_rate X _).mono ?_; rintro e w2 ⟨rfl, hb⟩; replace HB := Aq.mk (bS_ HB.out hb); replace HX := Aq.mk (bB_ HX.out hb); clear hb hx0 hx1 hx2 hx3 hx4 hx5 hx6 hx7 hx8; obtain ⟨hx0, hx1, hx2, hx3, hx4, hx5, hx6, hx7, hx8⟩ := cz9 HX.out)) | ((with_reducible refine gD_ (N := 9) rfl ?_); refine bxE (N := 9) #[.int .i64 0, .int .i64 0, .int .i64 0] 143 ?_; intro bh hg w3 hbox hb; have n0_ := Aq.mk (bS_ HB.out hb); have n1_ := Aq.mk (bB_ HX.out hb); have HH := Aq.mk hbox; have NE := Aq.mk (by rw [hg]; exact Nat.ne_of_lt (blk_lt HX.out) : bx ≠ bh); have GH := Aq.mk (by rw [hg]; exact HB.out.size : w.heap.size ≤ bh); have hnb := NE.out; have hnc := NE.out.symm; clear HB HX hb hbox hg hx0 hx1 hx2 hx3 hx4 hx5 hx6 hx7 hx8; have HB := n0_; have HX := n1_; clear n0_ n1_; obtain ⟨hx0, hx1, hx2, hx3, hx4, hx5, hx6, hx7, hx8⟩ := cz9 HX.out; obtain ⟨hh0, hh1, hh2, hf0, hf1, hf2⟩ := cf3 HH.out) | (go_at_call 62; go_must (have m0_ : (((w3.setCell ⟨bh, 0, none⟩ (.int .i64 X.f0)).setCell ⟨bh, 1, none⟩ (.int .i64 X.f1)).setCell ⟨bh, 2, none⟩ (.int .i64 X.f7)).heap[bx]? = some (.cells #[.int .i64 X.f0, .int .i64 X.f1, .int .i64 X.f2, .string X.f3, .int .i64 X.f4.f0, .int .i64 X.f4.f1, .int .i64 X.f5, .int .i64 X.f6, .int .i64 X.f7] 26 (0, 0)) := bF_ (p := ⟨bh, 2, none⟩) (bF_ (p := ⟨bh, 1, none⟩) (bF_ (p := ⟨bh, 0, none⟩) HX.out NE.out _) NE.out _) NE.out _; have m1_ : (((w3.setCell ⟨bh, 0, none⟩ (.int .i64 X.f0)).setCell ⟨bh, 1, none⟩ (.int .i64 X.f1)).setCell ⟨bh, 2, none⟩ (.int .i64 X.f7)).heap[bh]? = some (.cells #[.int .i64 X.f0, .int .i64 X.f1, .int .i64 X.f7] 143 (0, 0)) := bP_ (bP_ (bP_ HH.out 0 _ rfl) 1 _ rfl) 2 _ rfl; have m2_ : Below w.heap.size w (((w3.setCell ⟨bh, 0, none⟩ (.int .i64 X.f0)).setCell ⟨bh, 1, none⟩ (.int .i64 X.f1)).setCell ⟨bh, 2, none⟩ (.int .i64 X.f7)) := bT_ (bT_ (bT_ HB.out GH.out) GH.out) GH.out; clear HB HX HH hf0 hf1 hf2 hx0 hx1 hx2 hx3 hx4 hx5 hx6 hx7 hx8 hh0 hh1 hh2; generalize (((w3.setCell ⟨bh, 0, none⟩ (.int .i64 X.f0)).setCell ⟨bh, 1, none⟩ (.int .i64 X.f1)).setCell ⟨bh, 2, none⟩ (.int .i64 X.f7)) = w4 at m0_ m1_ m2_ ⊢; have HB := Aq.mk m2_; have HX := Aq.mk m0_; have HH := Aq.mk m1_; clear m0_ m1_ m2_; refine (checkRate_any X _).mono ?_; rintro e w5 ⟨he, hb⟩; rw [CK.out] at he; subst he; replace HB := Aq.mk (bS_ HB.out hb); replace HX := Aq.mk (bB_ HX.out hb); replace HH := Aq.mk (bB_ HH.out hb); clear hb; obtain ⟨hx0, hx1, hx2, hx3, hx4, hx5, hx6, hx7, hx8⟩ := cz9 HX.out; obtain ⟨hh0, hh1, hh2⟩ := cz3 HH.out)) | (go_at_call 116; (with_reducible refine (contains_Rate 117 #[.pointer (some ⟨bh, 0, none⟩)] (fun y => y.f0 == X.f0) _ c l _ eg0.out ?hp (Kd.C_below HR.out HB.out)).mono ?_); (case hp => exact fun W2 y _ hb2 => (same_rate y bh X.f0 X.f1 X.f7 W2 (bB_ HH.out hb2)).mono fun e W3 ⟨he, hw⟩ => ⟨he, bS_ hb2 hw⟩); rintro e w5b ⟨he, hb⟩; rw [S1.out] at he; subst he; replace HB := Aq.mk (bS_ HB.out hb); replace HX := Aq.mk (bB_ HX.out hb); replace HH := Aq.mk (bB_ HH.out hb); clear hb hx0 hx1 hx2 hx3 hx4 hx5 hx6 hx7 hx8 hh0 hh1 hh2; obtain ⟨hx0, hx1, hx2, hx3, hx4, hx5, hx6, hx7, hx8⟩ := cz9 HX.out; obtain ⟨hh0, hh1, hh2⟩ := cz3 HH.out))
 refine stT 17 (fun w' => w'.cell? ⟨bh, 1, none⟩ = some (.int .i64 X.f1) ∧ w'.cell? (ad.add ((l.length - 1) * 9)) = some (.int .i64 Y.f0) ∧ w'.cell? ⟨(ad.add ((l.length - 1) * 9)).block, (ad.add ((l.length - 1) * 9)).off + 1, none⟩ = some (.int .i64 Y.f1) ∧ w'.cell? ⟨(ad.add ((l.length - 1) * 9)).block, (ad.add ((l.length - 1) * 9)).off + 2, none⟩ = some (.int .i64 Y.f2) ∧ w'.cell? ⟨(ad.add ((l.length - 1) * 9)).block, (ad.add ((l.length - 1) * 9)).off + 3, none⟩ = some (.string Y.f3) ∧ w'.cell? ⟨(ad.add ((l.length - 1) * 9)).block, (ad.add ((l.length - 1) * 9)).off + 4, none⟩ = some (.int .i64 Y.f4.f0) ∧ w'.cell? ⟨(ad.add ((l.length - 1) * 9)).block, (ad.add ((l.length - 1) * 9)).off + 5, none⟩ = some (.int .i64 Y.f4.f1) ∧ w'.cell? ⟨(ad.add ((l.length - 1) * 9)).block, (ad.add ((l.length - 1) * 9)).off + 6, none⟩ = some (.int .i64 Y.f5) ∧ w'.cell? ⟨(ad.add ((l.length - 1) * 9)).block, (ad.add ((l.length - 1) * 9)).off + 7, none⟩ = some (.int .i64 Y.f6) ∧ w'.cell? ⟨(ad.add ((l.length - 1) * 9)).block, (ad.add ((l.length - 1) * 9)).off + 8, none⟩ = some (.int .i64 Y.f7)) ⟨(bC_ (bD_ HH.out) 1).trans rfl, pC_ (bE_ HB.out) hl0, pC_ (bE_ HB.out) hl1, pC_ (bE_ HB.out) hl2, pC_ (bE_ HB.out) hl3, pC_ (bE_ HB.out) hl4, pC_ (bE_ HB.out) hl5, pC_ (bE_ HB.out) hl6, pC_ (bE_ HB.out) hl7, pC_ (bE_ HB.out) hl8⟩ (fun hHeld => ?_)
 replace HB := Aq.mk (bE_ HB.out)
 replace HX := Aq.mk (bD_ HX.out)
 replace HH := Aq.mk (bD_ HH.out)
 clear hx0 hx1 hx2 hx3 hx4 hx5 hx6 hx7 hx8
 clear hh0 hh1 hh2
 generalize w5b.drew = w6 at HB HX HH hHeld ⊢
 refine pI 0 27 ?_
 refine pI 1 28 ?_
 refine pI 2 29 ?_
 refine pI 3 30 ?_
 refine pI 4 31 ?_
 refine pI 6 33 ?_
 refine pI 7 34 ?_
 refine pI 8 35 ?_
 refine pI 9 36 ?_
 refine pI 10 37 ?_
 refine tI 5 32 hHeld ?_
 refine tI 11 38 hHeld ?_
 refine one_ (i := 12) (N := some 39) #[true, true, true, true, true, true, true, true, true, true, true, true, true, false, false, false, false] rfl rfl (by kernel_rfl) (by decide) (fun K hK => ?_)
 refine goes_ Tryz.func115 (by kernel_rfl) rfl #[.agg #[.int .i64 Y.f0, .int .i64 Y.f1, .int .i64 Y.f2, .string Y.f3, .int .i64 Y.f4.f0, .int .i64 Y.f4.f1, .int .i64 Y.f5, .int .i64 Y.f6, .int .i64 Y.f7]] (by rfl) rfl rfl (by simp only [List.map_toArray, List.map_cons, List.map_nil]; rfl) ?_
 with_reducible refine (headB_rate Y _).mono ?_
 rintro e wr ⟨rfl, hb⟩
 refine ⟨_, rfl, ?_⟩
 replace HB := Aq.mk (bS_ HB.out hb)
 replace HX := Aq.mk (bB_ HX.out hb)
 replace HH := Aq.mk (bB_ HH.out hb)
 refine hK.out _ _ (hh hb hHeld) (fun hHeld => ?_)
 clear hK K
 refine nM 39 ?_
 refine pI 13 40 ?_
 refine pI 14 41 ?_
 refine pI 15 42 ?_
 refine pI 16 26 ?_
 refine done_ (by kernel_rfl) ?_
 obtain ⟨hx0, hx1, hx2, hx3, hx4, hx5, hx6, hx7, hx8⟩ := cz9 HX.out
 obtain ⟨hh0, hh1, hh2⟩ := cz3 HH.out
 cases b with
 | true =>
  go_wp2
  go_ret
  exact ⟨rfl, HB.out⟩
 | false =>
 cases z with
 | true =>
  go_wp2
  go_ret
  exact ⟨rfl, HB.out⟩
 | false =>
 cases b2 with
 | false =>
  exact kHFolR_1
 | true =>
 cases b3 with
 | true =>
  exact kHFolR_1
 | false =>
  exact kHFolR_1
theorem kHFolR_2 {Q : Prop} (f : Q := by
 go_wp2_with (first | (go_at_call 116; (with_reducible refine (contains_Rate 118 #[.pointer (some ⟨bh, 0, none⟩)] (fun y => y.f0 == X.f7 && y.f7 == 0) _ c l _ eg1.out ?hp (Kd.C_below HR.out HB.out)).mono ?_); (case hp => exact fun W2 y _ hb2 => (named_rate y bh X.f0 X.f1 X.f7 W2 (bB_ HH.out hb2)).mono fun e W3 ⟨he, hw⟩ => ⟨he, bS_ hb2 hw⟩); rintro e w7 ⟨he, hb⟩; rw [S2.out] at he; subst he; replace HB := Aq.mk (bS_ HB.out hb); replace HX := Aq.mk (bB_ HX.out hb); replace HH := Aq.mk (bB_ HH.out hb); clear hb hx0 hx1 hx2 hx3 hx4 hx5 hx6 hx7 hx8 hh0 hh1 hh2; obtain ⟨hx0, hx1, hx2, hx3, hx4, hx5, hx6, hx7, hx8⟩ := cz9 HX.out; obtain ⟨hh0, hh1, hh2⟩ := cz3 HH.out) | (go_at_call 116; (with_reducible refine (contains_Rate 119 #[.pointer (some ⟨bh, 0, none⟩)] (fun y => y.f7 == X.f7) _ c l _ eg2.out ?hp (Kd.C_below HR.out HB.out)).mono ?_); (case hp => exact fun W2 y _ hb2 => (twice_rate y bh X.f0 X.f1 X.f7 W2 (bB_ HH.out hb2)).mono fun e W3 ⟨he, hw⟩ => ⟨he, bS_ hb2 hw⟩); rintro e w8 ⟨he, hb⟩; rw [S3.out] at he; subst he; replace HB := Aq.mk (bS_ HB.out hb); replace HX := Aq.mk (bB_ HX.out hb); replace HH := Aq.mk (bB_ HH.out hb); clear hb hx0 hx1 hx2 hx3 hx4 hx5 hx6 hx7 hx8 hh0 hh1 hh2; obtain ⟨hx0, hx1, hx2, hx3, hx4, hx5, hx6, hx7, hx8⟩ := cz9 HX.out; obtain ⟨hh0, hh1, hh2⟩ := cz3 HH.out))
 go_ret
 exact ⟨rfl, HB.out⟩) : Q := f
set_option maxRecDepth 100000 in
set_option maxHeartbeats 4000000 in
theorem follows_rate_rest0 (A : Option Addr) (c : Nat) (l : List S26) (X : S26) (w : World) (hr0 : Kd.C k26 w A l.length l) (h1 : ¬ 100 ≤ l.length) (CK : Aq (ckR X = 0)) (S1 : Aq ((l.any fun y => y.f0 == X.f0) = false)) (z b2 b3 : Bool) (n0 : l.length = 0) (hof : (X.f7 == 0) = z) (S2 : Aq ((l.any fun y => y.f0 == X.f7 && y.f7 == 0) = b2)) (S3 : Aq ((l.any fun y => y.f7 == X.f7) = b3)) :
  Calls Tryz.prog 72 #[.slice A l.length c, .agg #[.int .i64 X.f0, .int .i64 X.f1, .int .i64 X.f2, .string X.f3, .int .i64 X.f4.f0, .int .i64 X.f4.f1, .int .i64 X.f5, .int .i64 X.f6, .int .i64 X.f7], .int .i64 100, .func (.func 62) #[] #[]] w fun e w' => e = .returned (.int .i64 (restV false z b2 b3)) ∧ Below w.heap.size w w' := by
 have hm : l.length ≤ 9223372036854775807 := hr0.2.1
 have HR := Aq.mk hr0
 clear hr0
 have hmf : ∀ (fn : Fn) (first cap : Array Value) (w : World), (Instr.makeFunc fn first cap).run Tryz.prog w = .ok (.func fn first cap) w := fun _ _ _ _ => rfl
 have hfd1 : ∀ (a b c : Int) (V : World), (Instr.field 143 (.agg #[.int .i64 a, .int .i64 b, .int .i64 c]) 1).run Tryz.prog V = .ok (.int .i64 b) V := fun _ _ _ _ => by rfl
 have HB := Aq.mk (Below.refl w.heap.size w)
 have eg0 : Aq (∀ args w, (callFunc 117 args).run Tryz.prog w = .ok (.enter 117 args) w) := ⟨enters_of Tryz.func117 (by kernel_rfl) rfl⟩
 have eg1 : Aq (∀ args w, (callFunc 118 args).run Tryz.prog w = .ok (.enter 118 args) w) := ⟨enters_of Tryz.func118 (by kernel_rfl) rfl⟩
 have eg2 : Aq (∀ args w, (callFunc 119 args).run Tryz.prog w = .ok (.enter 119 args) w) := ⟨enters_of Tryz.func119 (by kernel_rfl) rfl⟩
 have h1i : ¬ (100 : Int) ≤ (l.length : Int) := by omega
 have h1j : (l.length : Int) < 100 := by omega
 clear h1
 have n0c : decide (0 < l.length) = false := by simp [n0]
 have n0b : decide ((0 : Int) < (l.length : Int)) = false := by simp [n0]
 have n0i : ¬ (0 : Int) < (l.length : Int) := by omega
 clear n0
 go_enter Tryz.func72, Tryz.ntmps72
 go_wp2_with (first | ((with_reducible refine gD_ (N := 5) rfl ?_); refine bxE (N := 5) #[.int .i64 X.f0, .int .i64 X.f1, .int .i64 X.f2, .string X.f3, .int .i64 X.f4.f0, .int .i64 X.f4.f1, .int .i64 X.f5, .int .i64 X.f6, .int .i64 X.f7] 26 ?_; intro bx hg w1 hbox hb; have n0_ := Aq.mk (bS_ HB.out hb); have HX := Aq.mk hbox; clear HB hb hbox hg; have HB := n0_; clear n0_; obtain ⟨hx0, hx1, hx2, hx3, hx4, hx5, hx6, hx7, hx8⟩ := cz9 HX.out) | (go_at_call 115; go_must (refine (headB_rate X _).mono ?_; rintro e w2 ⟨rfl, hb⟩; replace HB := Aq.mk (bS_ HB.out hb); replace HX := Aq.mk (bB_ HX.out hb); clear hb hx0 hx1 hx2 hx3 hx4 hx5 hx6 hx7 hx8; obtain ⟨hx0, hx1, hx2, hx3, hx4, hx5, hx6, hx7, hx8⟩ := cz9 HX.out)) | ((with_reducible refine gD_ (N := 9) rfl ?_); refine bxE (N := 9) #[.int .i64 0, .int .i64 0, .int .i64 0] 143 ?_; intro bh hg w3 hbox hb; have n0_ := Aq.mk (bS_ HB.out hb); have n1_ := Aq.mk (bB_ HX.out hb); have HH := Aq.mk hbox; have NE := Aq.mk (by rw [hg]; exact Nat.ne_of_lt (blk_lt HX.out) : bx ≠ bh); have GH := Aq.mk (by rw [hg]; exact HB.out.size : w.heap.size ≤ bh); have hnb := NE.out; have hnc := NE.out.symm; clear HB HX hb hbox hg hx0 hx1 hx2 hx3 hx4 hx5 hx6 hx7 hx8; have HB := n0_; have HX := n1_; clear n0_ n1_; obtain ⟨hx0, hx1, hx2, hx3, hx4, hx5, hx6, hx7, hx8⟩ := cz9 HX.out; obtain ⟨hh0, hh1, hh2, hf0, hf1, hf2⟩ := cf3 HH.out) | (go_at_call 62; go_must (have m0_ : (((w3.setCell ⟨bh, 0, none⟩ (.int .i64 X.f0)).setCell ⟨bh, 1, none⟩ (.int .i64 X.f1)).setCell ⟨bh, 2, none⟩ (.int .i64 X.f7)).heap[bx]? = some (.cells #[.int .i64 X.f0, .int .i64 X.f1, .int .i64 X.f2, .string X.f3, .int .i64 X.f4.f0, .int .i64 X.f4.f1, .int .i64 X.f5, .int .i64 X.f6, .int .i64 X.f7] 26 (0, 0)) := bF_ (p := ⟨bh, 2, none⟩) (bF_ (p := ⟨bh, 1, none⟩) (bF_ (p := ⟨bh, 0, none⟩) HX.out NE.out _) NE.out _) NE.out _; have m1_ : (((w3.setCell ⟨bh, 0, none⟩ (.int .i64 X.f0)).setCell ⟨bh, 1, none⟩ (.int .i64 X.f1)).setCell ⟨bh, 2, none⟩ (.int .i64 X.f7)).heap[bh]? = some (.cells #[.int .i64 X.f0, .int .i64 X.f1, .int .i64 X.f7] 143 (0, 0)) := bP_ (bP_ (bP_ HH.out 0 _ rfl) 1 _ rfl) 2 _ rfl; have m2_ : Below w.heap.size w (((w3.setCell ⟨bh, 0, none⟩ (.int .i64 X.f0)).setCell ⟨bh, 1, none⟩ (.int .i64 X.f1)).setCell ⟨bh, 2, none⟩ (.int .i64 X.f7)) := bT_ (bT_ (bT_ HB.out GH.out) GH.out) GH.out; clear HB HX HH hf0 hf1 hf2 hx0 hx1 hx2 hx3 hx4 hx5 hx6 hx7 hx8 hh0 hh1 hh2; generalize (((w3.setCell ⟨bh, 0, none⟩ (.int .i64 X.f0)).setCell ⟨bh, 1, none⟩ (.int .i64 X.f1)).setCell ⟨bh, 2, none⟩ (.int .i64 X.f7)) = w4 at m0_ m1_ m2_ ⊢; have HB := Aq.mk m2_; have HX := Aq.mk m0_; have HH := Aq.mk m1_; clear m0_ m1_ m2_; refine (checkRate_any X _).mono ?_; rintro e w5 ⟨he, hb⟩; rw [CK.out] at he; subst he; replace HB := Aq.mk (bS_ HB.out hb); replace HX := Aq.mk (bB_ HX.out hb); replace HH := Aq.mk (bB_ HH.out hb); clear hb; obtain ⟨hx0, hx1, hx2, hx3, hx4, hx5, hx6, hx7, hx8⟩ := cz9 HX.out; obtain ⟨hh0, hh1, hh2⟩ := cz3 HH.out)) | (go_at_call 116; (with_reducible refine (contains_Rate 117 #[.pointer (some ⟨bh, 0, none⟩)] (fun y => y.f0 == X.f0) _ c l _ eg0.out ?hp (Kd.C_below HR.out HB.out)).mono ?_); (case hp => exact fun W2 y _ hb2 => (same_rate y bh X.f0 X.f1 X.f7 W2 (bB_ HH.out hb2)).mono fun e W3 ⟨he, hw⟩ => ⟨he, bS_ hb2 hw⟩); rintro e w5b ⟨he, hb⟩; rw [S1.out] at he; subst he; replace HB := Aq.mk (bS_ HB.out hb); replace HX := Aq.mk (bB_ HX.out hb); replace HH := Aq.mk (bB_ HH.out hb); clear hb hx0 hx1 hx2 hx3 hx4 hx5 hx6 hx7 hx8 hh0 hh1 hh2; obtain ⟨hx0, hx1, hx2, hx3, hx4, hx5, hx6, hx7, hx8⟩ := cz9 HX.out; obtain ⟨hh0, hh1, hh2⟩ := cz3 HH.out))
 refine stT 17 (fun w' => w'.cell? ⟨bh, 1, none⟩ = some (.int .i64 X.f1)) ((bC_ (bD_ HH.out) 1).trans rfl) (fun hHeld => ?_)
 replace HB := Aq.mk (bE_ HB.out)
 replace HX := Aq.mk (bD_ HX.out)
 replace HH := Aq.mk (bD_ HH.out)
 clear hx0 hx1 hx2 hx3 hx4 hx5 hx6 hx7 hx8
 clear hh0 hh1 hh2
 generalize w5b.drew = w6 at HB HX HH hHeld ⊢
 refine pI 0 27 ?_
 refine pI 1 28 ?_
 refine pI 2 29 ?_
 refine pI 3 30 ?_
 refine pO 4 31 ?_
 refine pO 5 32 ?_
 refine pO 6 33 ?_
 refine pO 7 34 ?_
 refine pO 8 35 ?_
 refine pO 9 36 ?_
 refine pO 10 37 ?_
 refine pO 11 38 ?_
 refine pO 12 39 ?_
 refine pO 13 40 ?_
 refine pO 14 41 ?_
 refine pI 15 42 ?_
 refine pI 16 26 ?_
 refine done_ (by kernel_rfl) ?_
 obtain ⟨hx0, hx1, hx2, hx3, hx4, hx5, hx6, hx7, hx8⟩ := cz9 HX.out
 obtain ⟨hh0, hh1, hh2⟩ := cz3 HH.out
 cases z with
 | true =>
  go_wp2
  go_ret
  exact ⟨rfl, HB.out⟩
 | false =>
 cases b2 with
 | false =>
  exact kHFolR_2
 | true =>
 cases b3 with
 | true =>
  exact kHFolR_2
 | false =>
  exact kHFolR_2
theorem follows_rate_any (A : Option Addr) (c : Nat) (l : List S26) (X : S26) (w : World) (hr0 : Kd.C k26 w A l.length l) :
  Calls Tryz.prog 72 #[.slice A l.length c, .agg #[.int .i64 X.f0, .int .i64 X.f1, .int .i64 X.f2, .string X.f3, .int .i64 X.f4.f0, .int .i64 X.f4.f1, .int .i64 X.f5, .int .i64 X.f6, .int .i64 X.f7], .int .i64 100, .func (.func 62) #[] #[]] w fun e w' => e = .returned (.int .i64 (followsR l X)) ∧ Below w.heap.size w w' := by
 by_cases h1 : 100 ≤ l.length
 ·rw [show followsR l X = 2 by unfold followsR; rw [if_pos h1]]
  exact follows_rate_full A c l X w hr0 h1
 by_cases hck : ckR X = 0
 ·cases s1 : (l.any fun y => y.f0 == X.f0) with
  | true =>
   rw [show followsR l X = 6 by unfold followsR; rw [if_neg h1, if_neg (by simp [hck]), if_pos s1]]
   exact follows_rate_same A c l X w hr0 h1 ⟨hck⟩ ⟨s1⟩
  | false =>
   have base : followsR l X = (if lateR l X then 7 else if X.f7 = 0 then 0 else if l.any (fun y => y.f0 == X.f7 && y.f7 == 0) then (if l.any (fun y => y.f7 == X.f7) then 6 else 0) else 5) := by
    unfold followsR
    rw [if_neg h1, if_neg (by simp [hck]), if_neg (by simp [s1])]
   rw [base]
   have hv : (if lateR l X then (7 : Int) else if X.f7 = 0 then 0 else if l.any (fun y => y.f0 == X.f7 && y.f7 == 0) then (if l.any (fun y => y.f7 == X.f7) then 6 else 0) else 5) = restV (lateR l X) (X.f7 == 0) (l.any fun y => y.f0 == X.f7 && y.f7 == 0) (l.any fun y => y.f7 == X.f7) := by
    unfold restV
    by_cases hof : X.f7 = 0 <;> simp [hof]
   rw [hv]
   by_cases h0 : 0 < l.length
   ·have hl : lateR l X = decide (X.f1 < (rd_T26 l ((l.length : Int) - 1)).f1) := by unfold lateR; simp [h0]
    rw [hl]
    exact follows_rate_rest A c l X w hr0 h1 ⟨hck⟩ ⟨s1⟩ _ _ _ _ h0 rfl rfl ⟨rfl⟩ ⟨rfl⟩
   ·have hl : lateR l X = false := by unfold lateR; simp [h0]
    rw [hl]
    exact follows_rate_rest0 A c l X w hr0 h1 ⟨hck⟩ ⟨s1⟩ _ _ _ (by omega) rfl ⟨rfl⟩ ⟨rfl⟩
 ·rw [show followsR l X = 1 by unfold followsR; rw [if_neg h1, if_pos hck]]
  exact follows_rate_form A c l X w hr0 h1 _ ⟨rfl⟩ (bne_iff_ne.mpr hck)
def award_followsRate.f (l0 : List S26) (a1_0 : Int) (a1_1 : Int) (a1_2 : Int) (a1_3 : ByteArray) (a1_4 : Int) (a1_5 : Int) (a1_6 : Int) (a1_7 : Int) (a1_8 : Int) : Option Int := some (followsR l0 (⟨a1_0, a1_1, a1_2, a1_3, (⟨a1_4, a1_5⟩ : S24), a1_6, a1_7, a1_8⟩ : S26))
theorem award_followsRate.calls (A0 : Option Addr) (c0 : Nat) (l0 : List S26) (a1_0 : Int) (a1_1 : Int) (a1_2 : Int) (a1_3 : ByteArray) (a1_4 : Int) (a1_5 : Int) (a1_6 : Int) (a1_7 : Int) (a1_8 : Int) (r : Int) (w : World) (hr0 : Kd.C k26 w A0 l0.length l0) (hc0 : l0.length ≤ c0) (h : award_followsRate.f l0 a1_0 a1_1 a1_2 a1_3 a1_4 a1_5 a1_6 a1_7 a1_8 = some r) :
  Calls Tryz.prog 72 #[.slice A0 l0.length c0, .agg #[.int .i64 a1_0, .int .i64 a1_1, .int .i64 a1_2, .string a1_3, .int .i64 a1_4, .int .i64 a1_5, .int .i64 a1_6, .int .i64 a1_7, .int .i64 a1_8], .int .i64 100, .func (.func 62) #[] #[]] w fun e w' => e = .returned (.int .i64 r) ∧ Below w.heap.size w w' := by
 obtain rfl := Option.some.inj h
 exact follows_rate_any A0 c0 l0 (⟨a1_0, a1_1, a1_2, a1_3, (⟨a1_4, a1_5⟩ : S24), a1_6, a1_7, a1_8⟩ : S26) w hr0
end
section
open Go.Shelf
def checks {α : Type} (f : List α → α → Int) (pre : List α) : List α → Int → Int × Int
 | [], _ => (0, 0)
 | x :: r, i => if f pre x ≠ 0 then (i, f pre x) else checks f (pre ++ [x]) r (i + 1)
def award_CheckRates.f (l : List S26) : Option (Int × Int) := some (checks followsR [] l 0)
set_option maxRecDepth 100000 in
set_option maxHeartbeats 4000000 in
theorem award_CheckRates.calls (A0 : Option Addr) (c0 : Nat) (l0 : List (S26)) (r1 : Int) (r2 : Int) (w : World) (hr0 : Kd.C k26 w A0 l0.length l0) (hc0 : l0.length ≤ c0) (h : award_CheckRates.f l0 = some (r1, r2)) :
  Calls Tryz.prog 32 #[.slice A0 l0.length c0] w fun e w' => e = .returned (.tuple #[.int .i64 r1, .int .i64 r2]) ∧ Below w.heap.size w w' := by
 have hm : l0.length ≤ 9223372036854775807 := hr0.2.1
 have hmx : c0 ≤ maxLen ∨ True := .inr trivial
 have HR := Aq.mk hr0
 have HA := Aq.mk (Option.some.inj h)
 clear hr0 h hmx
 have HB0 := Aq.mk (Below.refl w.heap.size w)
 go_enter Tryz.func32, Tryz.ntmps32
 go_wp2
 go_loopg [9] l0.length (fun gg s9 wr => ∃ kk : Nat, kk ≤ l0.length ∧ l0.length - kk ≤ gg ∧ s9 = .int .i64 kk ∧ Aq (Below w.heap.size w wr) ∧ Aq (checks followsR (l0.take kk) (l0.drop kk) kk = (r1, r2)))
 case atStart => exact ⟨0, Nat.zero_le _, by omega, rfl, HB0, ⟨by simpa using HA.out⟩⟩
 case round =>
  clear HB0 HA
  obtain ⟨kk, hkk, hg, rfl, HB, HA⟩ := hrel
  by_cases hlt : kk < l0.length
  ·have hltz : (kk : Int) < (l0.length : Int) := by omega
   have h0 : (0 : Int) ≤ (kk : Int) := by omega
   have h0c : kk ≤ c0 := by omega
   have h0d : (kk : Int) ≤ (c0 : Int) := by omega
   obtain ⟨ad, e_, hx0, hx1, hx2, hx3, hx4, hx5, hx6, hx7, hx8⟩ := at_T26 HR.out (kk : Int) h0 hltz
   cases e_
   obtain ⟨_, HD⟩ := rdT26_drop l0 kk hlt
   generalize rd_T26 l0 (kk : Int) = X at hx0 hx1 hx2 hx3 hx4 hx5 hx6 hx7 hx8 HD
   replace hx0 := mv HB hx0
   replace hx1 := mv HB hx1
   replace hx2 := mv HB hx2
   replace hx3 := mv HB hx3
   replace hx4 := mv HB hx4
   replace hx5 := mv HB hx5
   replace hx6 := mv HB hx6
   replace hx7 := mv HB hx7
   replace hx8 := mv HB hx8
   simp only [Int.toNat_natCast] at hx0 hx1 hx2 hx3 hx4 hx5 hx6 hx7 hx8
   have HC : Aq (∀ W : World, Below w.heap.size w W → Calls Tryz.prog 72 #[.slice (some ad) kk kk, .agg #[.int .i64 X.f0, .int .i64 X.f1, .int .i64 X.f2, .string X.f3, .int .i64 X.f4.f0, .int .i64 X.f4.f1, .int .i64 X.f5, .int .i64 X.f6, .int .i64 X.f7], .int .i64 100, .func (.func 62) #[] #[]] W fun e w' => e = .returned (.int .i64 (followsR (l0.take kk) X)) ∧ Below W.heap.size W w') := ⟨fun W hW => by
    have hl : (l0.take kk).length = kk := by rw [List.length_take]; omega
    have z := follows_rate_any (some ad) kk (l0.take kk) X W (Kd.C_below (Kd.C_take HR.out (by omega)) hW)
    rw [hl] at z
    exact z⟩
   have HT : Aq (l0.take (kk + 1) = l0.take kk ++ [X]) := ⟨take_snoc_drop HD⟩
   have HA2 : Aq ((if followsR (l0.take kk) X ≠ 0 then ((kk : Int), followsR (l0.take kk) X) else checks followsR (l0.take (kk + 1)) (l0.drop (kk + 1)) ((kk : Int) + 1)) = (r1, r2)) := ⟨by
    have z := HA.out
    rw [HD] at z
    rw [HT.out]
    exact z⟩
   clear HA HT HD
   generalize followsR (l0.take kk) X = fv at HC HA2
   go_wp2_with (first | ((with_reducible refine gD_ (N := 5) rfl ?_); refine bxE (N := 5) #[.int .i64 0, .int .i64 0, .int .i64 0, .string ⟨#[]⟩, .int .i64 0, .int .i64 0, .int .i64 0, .int .i64 0, .int .i64 0] 26 ?_; intro bx hg wb hbox hb; have n0_ := Aq.mk (bS_ HB.out hb); have HX := Aq.mk hbox; have GX := Aq.mk (by rw [hg]; exact HB.out.size : w.heap.size ≤ bx); clear HB hb hbox hg hx0 hx1 hx2 hx3 hx4 hx5 hx6 hx7 hx8; have HB := n0_; clear n0_; have hz0 : wb.cell? ⟨bx, 0, none⟩ = some (.int .i64 0) := (bC_ HX.out 0).trans rfl; have hf0 := bR_ HX.out 0; have hz1 : wb.cell? ⟨bx, 1, none⟩ = some (.int .i64 0) := (bC_ HX.out 1).trans rfl; have hf1 := bR_ HX.out 1; have hz2 : wb.cell? ⟨bx, 2, none⟩ = some (.int .i64 0) := (bC_ HX.out 2).trans rfl; have hf2 := bR_ HX.out 2; have hz3 : wb.cell? ⟨bx, 3, none⟩ = some (.string ⟨#[]⟩) := (bC_ HX.out 3).trans rfl; have hf3 := bR_ HX.out 3; have hz4 : wb.cell? ⟨bx, 4, none⟩ = some (.int .i64 0) := (bC_ HX.out 4).trans rfl; have hf4 := bR_ HX.out 4; have hz5 : wb.cell? ⟨bx, 5, none⟩ = some (.int .i64 0) := (bC_ HX.out 5).trans rfl; have hf5 := bR_ HX.out 5; have hz6 : wb.cell? ⟨bx, 6, none⟩ = some (.int .i64 0) := (bC_ HX.out 6).trans rfl; have hf6 := bR_ HX.out 6; have hz7 : wb.cell? ⟨bx, 7, none⟩ = some (.int .i64 0) := (bC_ HX.out 7).trans rfl; have hf7 := bR_ HX.out 7; have hz8 : wb.cell? ⟨bx, 8, none⟩ = some (.int .i64 0) := (bC_ HX.out 8).trans rfl; have hf8 := bR_ HX.out 8))
   have m0_ : (((((((((wb.setCell ⟨bx, 0, none⟩ (.int .i64 X.f0)).setCell ⟨bx, 1, none⟩ (.int .i64 X.f1)).setCell ⟨bx, 2, none⟩ (.int .i64 X.f2)).setCell ⟨bx, 3, none⟩ (.string X.f3)).setCell ⟨bx, 4, none⟩ (.int .i64 X.f4.f0)).setCell ⟨bx, 5, none⟩ (.int .i64 X.f4.f1)).setCell ⟨bx, 6, none⟩ (.int .i64 X.f5)).setCell ⟨bx, 7, none⟩ (.int .i64 X.f6)).setCell ⟨bx, 8, none⟩ (.int .i64 X.f7)).heap[bx]? = some (.cells #[.int .i64 X.f0, .int .i64 X.f1, .int .i64 X.f2, .string X.f3, .int .i64 X.f4.f0, .int .i64 X.f4.f1, .int .i64 X.f5, .int .i64 X.f6, .int .i64 X.f7] 26 (0, 0)) := bP_ (bP_ (bP_ (bP_ (bP_ (bP_ (bP_ (bP_ (bP_ (HX.out) 0 _ rfl) 1 _ rfl) 2 _ rfl) 3 _ rfl) 4 _ rfl) 5 _ rfl) 6 _ rfl) 7 _ rfl) 8 _ rfl
   have m1_ : Below w.heap.size w (((((((((wb.setCell ⟨bx, 0, none⟩ (.int .i64 X.f0)).setCell ⟨bx, 1, none⟩ (.int .i64 X.f1)).setCell ⟨bx, 2, none⟩ (.int .i64 X.f2)).setCell ⟨bx, 3, none⟩ (.string X.f3)).setCell ⟨bx, 4, none⟩ (.int .i64 X.f4.f0)).setCell ⟨bx, 5, none⟩ (.int .i64 X.f4.f1)).setCell ⟨bx, 6, none⟩ (.int .i64 X.f5)).setCell ⟨bx, 7, none⟩ (.int .i64 X.f6)).setCell ⟨bx, 8, none⟩ (.int .i64 X.f7)) := bT_ (bT_ (bT_ (bT_ (bT_ (bT_ (bT_ (bT_ (bT_ (HB.out) GX.out) GX.out) GX.out) GX.out) GX.out) GX.out) GX.out) GX.out) GX.out
   clear HB HX hz0 hf0 hz1 hf1 hz2 hf2 hz3 hf3 hz4 hf4 hz5 hf5 hz6 hf6 hz7 hf7 hz8 hf8
   generalize (((((((((wb.setCell ⟨bx, 0, none⟩ (.int .i64 X.f0)).setCell ⟨bx, 1, none⟩ (.int .i64 X.f1)).setCell ⟨bx, 2, none⟩ (.int .i64 X.f2)).setCell ⟨bx, 3, none⟩ (.string X.f3)).setCell ⟨bx, 4, none⟩ (.int .i64 X.f4.f0)).setCell ⟨bx, 5, none⟩ (.int .i64 X.f4.f1)).setCell ⟨bx, 6, none⟩ (.int .i64 X.f5)).setCell ⟨bx, 7, none⟩ (.int .i64 X.f6)).setCell ⟨bx, 8, none⟩ (.int .i64 X.f7)) = wb2 at m0_ m1_ ⊢
   have HB := Aq.mk m1_
   have HX := Aq.mk m0_
   clear m0_ m1_
   refine stT 7 (fun w' => w'.cell? ⟨bx, 0, none⟩ = some (.int .i64 X.f0) ∧ w'.cell? ⟨bx, 1, none⟩ = some (.int .i64 X.f1) ∧ w'.cell? ⟨bx, 2, none⟩ = some (.int .i64 X.f2) ∧ w'.cell? ⟨bx, 3, none⟩ = some (.string X.f3) ∧ w'.cell? ⟨bx, 4, none⟩ = some (.int .i64 X.f4.f0) ∧ w'.cell? ⟨bx, 5, none⟩ = some (.int .i64 X.f4.f1) ∧ w'.cell? ⟨bx, 6, none⟩ = some (.int .i64 X.f5) ∧ w'.cell? ⟨bx, 7, none⟩ = some (.int .i64 X.f6) ∧ w'.cell? ⟨bx, 8, none⟩ = some (.int .i64 X.f7)) ⟨(bC_ (bD_ HX.out) 0).trans rfl, (bC_ (bD_ HX.out) 1).trans rfl, (bC_ (bD_ HX.out) 2).trans rfl, (bC_ (bD_ HX.out) 3).trans rfl, (bC_ (bD_ HX.out) 4).trans rfl, (bC_ (bD_ HX.out) 5).trans rfl, (bC_ (bD_ HX.out) 6).trans rfl, (bC_ (bD_ HX.out) 7).trans rfl, (bC_ (bD_ HX.out) 8).trans rfl⟩ (fun hHeld => ?_)
   replace HB := Aq.mk (bE_ HB.out)
   replace HX := Aq.mk (bD_ HX.out)
   generalize wb2.drew = wd at HB HX hHeld ⊢
   refine pI 0 14 ?_
   refine pI 1 15 ?_
   refine pI 2 16 ?_
   refine pI 3 17 ?_
   refine tI 4 18 hHeld ?_
   refine one_ (i := 5) (N := some 19) #[true, true, true, true, true, true, false] rfl rfl (by kernel_rfl) (by decide) (fun K hK => ?_)
   refine goes_ Tryz.func72 (by kernel_rfl) rfl #[.slice (some ad) kk kk, .agg #[.int .i64 X.f0, .int .i64 X.f1, .int .i64 X.f2, .string X.f3, .int .i64 X.f4.f0, .int .i64 X.f4.f1, .int .i64 X.f5, .int .i64 X.f6, .int .i64 X.f7], .int .i64 100, .func (.func 62) #[] #[]] (by rfl) rfl rfl (by simp only [List.map_toArray, List.map_cons, List.map_nil]; rfl) ?_
   with_reducible refine (HC.out _ HB.out).mono ?_
   rintro e wr2 ⟨rfl, hb⟩
   refine ⟨_, rfl, ?_⟩
   replace HB := Aq.mk (bS_ HB.out hb)
   refine hK.out _ _ (hh hb hHeld) (fun hHeld => ?_)
   clear hK K
   refine nM 19 ?_
   refine pI 6 6 ?_
   refine done_ (by kernel_rfl) ?_
   by_cases hfv : fv = 0
   ·have hb1 : (fv != 0) = false := bne_eq_false_iff_eq.mpr hfv
    have HA3 : Aq (checks followsR (l0.take (kk + 1)) (l0.drop (kk + 1)) ((kk : Int) + 1) = (r1, r2)) := ⟨by have z := HA2.out; rw [if_neg (by simpa using hfv)] at z; exact z⟩
    clear hfv HA2 HC
    go_wp2
    go_roundg (l0.length - (kk + 1))
    case measure => omega
    case rel => exact ⟨kk + 1, by omega, by omega, by go_num, HB, ⟨by have z := HA3.out; simpa using z⟩⟩
   ·have hb1 : (fv != 0) = true := bne_iff_ne.mpr hfv
    have HA3 : Aq (((kk : Int), fv) = (r1, r2)) := ⟨by have z := HA2.out; rw [if_pos hfv] at z; exact z⟩
    clear hfv HA2 HC
    go_wp2
    go_ret2
    exact ⟨by injection HA3.out with e1 e2; rw [← e1, ← e2]; rfl, HB.out⟩
  ·have hltz : ¬ (kk : Int) < (l0.length : Int) := by omega
   have HA3 : Aq (((0 : Int), (0 : Int)) = (r1, r2)) := ⟨by have z := HA.out; rw [List.drop_eq_nil_of_le (by omega)] at z; exact z⟩
   clear HA
   go_wp2
   go_ret2
   exact ⟨by injection HA3.out with e1 e2; rw [← e1, ← e2]; rfl, HB.out⟩
end
end Go.Proofs.YtbicfbnempiocaaGreat.G
