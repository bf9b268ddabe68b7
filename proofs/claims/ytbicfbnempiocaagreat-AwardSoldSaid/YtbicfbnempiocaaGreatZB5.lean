/- Part 6 of what the law's proof rests on: what each function of the program computes, and that the machine's call of it comes to just that. -/
import Derived.Test.YtbicfbnempiocaaGreatZB0
import Derived.Test.YtbicfbnempiocaaGreatZB1
set_option linter.unusedVariables false
set_option linter.unusedSimpArgs false
namespace Go.Proofs.YtbicfbnempiocaaGreat.G
open Go.RowKit Go.Proofs.YtbicfbnempiocaaGreatW.PrintWords Go.Proofs.YtbicfbnempiocaaGreatW.PrintLast Go.Proofs.YtbicfbnempiocaaGreatW.PrintMore
section
open Go.Shelf
def soldS (l : List S39) (p k : Int) : Option S39 := (l.filter (countsS l k)).find? (fun x => x.f3 == p)
def award_sold.f (l0 : List S39) (a1 : Int) (a2 : Int) : Option (Int × Int × Int × Int × Int × Int × Int × Int × Int × Bool) :=
 match soldS l0 a1 a2 with
 | some x => some (x.f0, x.f1, x.f2, x.f3, x.f4, x.f5, x.f6, x.f7, x.f8, true)
 | none => some (0, 0, 0, 0, 0, 0, 0, 0, 0, false)
def soldV (o : Option S39) : Value := match o with
 | some x => .tuple #[.agg #[.int .i64 x.f0, .int .i64 x.f1, .int .i64 x.f2, .int .i64 x.f3, .int .i64 x.f4, .int .i64 x.f5, .int .i64 x.f6, .int .i64 x.f7, .int .i64 x.f8], .bool true]
 | none => .tuple #[.agg #[.int .i64 0, .int .i64 0, .int .i64 0, .int .i64 0, .int .i64 0, .int .i64 0, .int .i64 0, .int .i64 0, .int .i64 0], .bool false]
attribute [local go_sem] Oper.semAt_some in
set_option maxRecDepth 100000 in
set_option maxHeartbeats 4000000 in
theorem sold_any (A : Option Addr) (c : Nat) (l : List S39) (p k : Int) (w : World) (hr : Kd.C k39 w A l.length l) :
  Calls Tryz.prog 86 #[.slice A l.length c, .int .i64 p, .int .i64 k] w fun e w' => e = .returned (soldV (soldS l p k)) ∧ Below w.heap.size w w' := by
 have HR := Aq.mk hr
 clear hr
 refine (callsIn_wide (n := 3)).1 ?_
 refine callsIn_of_wp_marks Tryz.func86 rfl trivial ?_ rfl
 simp only [Tryz.ntmps86, List.size_toArray, List.length_cons, List.length_nil, Nat.reduceAdd, Nat.reduceSub, Array.replicate_succ, Array.replicate_zero, List.push_toArray, List.append_toArray, List.nil_append, List.cons_append]
 gi_wp2_with (refine ⟨trivial, ?_⟩; gi_at_call 89; refine (callsIn_wide.2 (make_sale _ _ _ _ _)).mono ?_; rintro e w' ⟨rfl, rfl⟩)
 obtain ⟨W0, hW0⟩ : ∃ W0, ((((w.alloc (.cells #[.int .i64 p] 3)).alloc (.cells #[.int .i64 0, .int .i64 0, .int .i64 0, .int .i64 0, .int .i64 0, .int .i64 0, .int .i64 0, .int .i64 0, .int .i64 0] 39)).alloc (.cells #[.bool false] 4)).alloc (.cells #[.slice A l.length c] 54)).alloc (.cells #[.int .i64 k] 3) = W0 := ⟨_, rfl⟩
 have hsz : W0.heap.size = w.heap.size + 5 := by rw [← hW0]; simp
 have HB0 : Aq (Below w.heap.size w W0) := ⟨by rw [← hW0]; repeat (first | exact Below.refl _ _ | apply bA_)⟩
 have P0 : Aq (W0.heap[w.heap.size]? = some (.cells #[.int .i64 p] 3 (0, 0))) := ⟨by rw [← hW0]; exact bL_ (bL_ (bL_ (bL_ (blk_at _ _ _ (by simp)) _) _) _) _⟩
 have P1 : Aq (W0.heap[w.heap.size + 1]? = some (.cells #[.int .i64 0, .int .i64 0, .int .i64 0, .int .i64 0, .int .i64 0, .int .i64 0, .int .i64 0, .int .i64 0, .int .i64 0] 39 (0, 0))) := ⟨by rw [← hW0]; exact bL_ (bL_ (bL_ (blk_at _ _ _ (by simp)) _) _) _⟩
 have P2 : Aq (W0.heap[w.heap.size + 1 + 1]? = some (.cells #[.bool false] 4 (0, 0))) := ⟨by rw [← hW0]; exact bL_ (bL_ (blk_at _ _ _ (by simp)) _) _⟩
 have P3 : Aq (W0.heap[w.heap.size + 1 + 1 + 1]? = some (.cells #[.slice A l.length c] 54 (0, 0))) := ⟨by rw [← hW0]; exact bL_ (blk_at _ _ _ (by simp)) _⟩
 have P4 : Aq (W0.heap[w.heap.size + 1 + 1 + 1 + 1]? = some (.cells #[.int .i64 k] 3 (0, 0))) := ⟨by rw [← hW0]; exact blk_at _ _ _ (by simp)⟩
 rw [hW0]
 clear hW0
 refine wpIn_rangeFunc_ownH rfl (by omega) (gf := 127) (lb := #[.pointer (some ⟨w.heap.size + 1 + 1 + 1, 0, none⟩), .pointer (some ⟨w.heap.size + 1 + 1 + 1 + 1, 0, none⟩)]) rfl trivial (enters_of Tryz.func127 (by kernel_rfl) rfl)
  (stops_sale 2 _ _ w A c l k HR.out W0 HB0.out P3.out P4.out) kpb_t (kpb_b (by omega) (by omega) (by omega)) (Below.refl _ _) (fun _ => rfl)
  (fun pre W => (((((Aq (∀ y ∈ pre, (y.f3 == p) = false) ∧ W.heap[w.heap.size]? = some (.cells #[.int .i64 p] 3 (0, 0))) ∧ W.heap[w.heap.size + 1]? = some (.cells #[.int .i64 0, .int .i64 0, .int .i64 0, .int .i64 0, .int .i64 0, .int .i64 0, .int .i64 0, .int .i64 0, .int .i64 0] 39 (0, 0))) ∧ W.heap[w.heap.size + 1 + 1]? = some (.cells #[.bool false] 4 (0, 0)))) ∧ Below w.heap.size w W) ∧ W0.heap.size ≤ W.heap.size)
  (fun cd pre W => ∃ x : S39, (((Aq (cd = .ret ∧ (x.f3 == p) = true ∧ ∃ ini, pre = ini ++ [x] ∧ ∀ y ∈ ini, (y.f3 == p) = false) ∧ W.heap[w.heap.size + 1]? = some (.cells #[.int .i64 x.f0, .int .i64 x.f1, .int .i64 x.f2, .int .i64 x.f3, .int .i64 x.f4, .int .i64 x.f5, .int .i64 x.f6, .int .i64 x.f7, .int .i64 x.f8] 39 (0, 0))) ∧ W.heap[w.heap.size + 1 + 1]? = some (.cells #[.bool true] 4 (0, 0)))) ∧ Below w.heap.size w W)
  (OwnFrom.and (OwnFrom.and (OwnFrom.and (OwnFrom.and (OwnFrom.and (own_pure _ _) (own_blk _ _ _ (fun _ => rfl))) (own_blk _ _ _ (fun _ => rfl))) (own_blk _ _ _ (fun _ => rfl))) (ownFrom_below (Nat.le_refl _) (by omega))) (own_size _ _))
  (fun cd => own_ex (fun x => OwnFrom.and (OwnFrom.and (OwnFrom.and (own_pure _ _) (own_blk _ _ _ (fun _ => rfl))) (own_blk _ _ _ (fun _ => rfl))) (ownFrom_below (Nat.le_refl _) (by omega))))
  ⟨⟨⟨⟨⟨⟨by simp⟩, P0.out⟩, P1.out⟩, P2.out⟩, HB0.out⟩, Nat.le_refl _⟩
  (fun x a' W => ∃ Bx, (w.heap.size + 5 ≤ Bx ∧ W.heap[Bx]? = some (.cells #[.int .i64 x.f0, .int .i64 x.f1, .int .i64 x.f2, .int .i64 x.f3, .int .i64 x.f4, .int .i64 x.f5, .int .i64 x.f6, .int .i64 x.f7, .int .i64 x.f8] 39 (0, 0))) ∧ a' = { tmps := #[.slice A l.length c, .int .i64 p, .int .i64 k, undef, .pointer (some ⟨w.heap.size, 0, none⟩), undef, .pointer (some ⟨w.heap.size + 1, 0, none⟩), .pointer (some ⟨w.heap.size + 1 + 1, 0, none⟩), .pointer (some ⟨Bx, 0, none⟩), .slice A l.length c, .int .i64 k, .func (.func 127) #[] #[.pointer (some ⟨w.heap.size + 1 + 1 + 1, 0, none⟩), .pointer (some ⟨w.heap.size + 1 + 1 + 1 + 1, 0, none⟩)], .agg #[.int .i64 x.f0, .int .i64 x.f1, .int .i64 x.f2, .int .i64 x.f3, .int .i64 x.f4, .int .i64 x.f5, .int .i64 x.f6, .int .i64 x.f7, .int .i64 x.f8], undef, undef, undef, undef, undef, undef], defers := [] })
  (fun x a' => own_ex (fun Bx => OwnFrom.and (OwnFrom.and (own_pure _ _) (own_blk _ _ _ (fun _ => rfl))) (own_pure _ _)))
  ?assign ?body ?done ?stop
 case assign =>
  rintro lo pre x W K ⟨⟨⟨⟨⟨h0, h1⟩, h2⟩, h3⟩, hB⟩, hS⟩ hK
  have hsW : w.heap.size + 5 ≤ W.heap.size := by omega
  unfold encS
  gi_wp2
  have hk := hK _ (W.alloc (.cells #[.int .i64 x.f0, .int .i64 x.f1, .int .i64 x.f2, .int .i64 x.f3, .int .i64 x.f4, .int .i64 x.f5, .int .i64 x.f6, .int .i64 x.f7, .int .i64 x.f8] 39)) ((KeepsOthers.alloc _ _).from _) (kpb_below (bA_ (Below.refl _ _) _) (by omega) (by omega) (by omega)) ⟨⟨⟨⟨⟨h0, bL_ h1 _⟩, bL_ h2 _⟩, bL_ h3 _⟩, bA_ hB _⟩, by simp; omega⟩ ⟨W.heap.size, ⟨by omega, heap_alloc_new _ _⟩, rfl⟩
  exact hk
 case body =>
  rintro lo pre x a' W hlo ⟨rr, hrr⟩ ⟨⟨⟨⟨⟨h0, h1⟩, h2⟩, h3⟩, hB⟩, hS⟩ ⟨Bx, ⟨hBx, hX⟩, rfl⟩ hlt
  have hp : W.cell? ⟨w.heap.size, 0, none⟩ = some (.int .i64 p) := (bC_ h1 0).trans rfl
  obtain ⟨hx0, hx1, hx2, hx3, hx4, hx5, hx6, hx7, hx8⟩ := cz9 hX
  obtain ⟨hc10, hc11, hc12, hc13, hc14, hc15, hc16, hc17, hc18, hf10, hf11, hf12, hf13, hf14, hf15, hf16, hf17, hf18⟩ := cf9 h2
  have hf2 : W.frozen? ⟨w.heap.size + 1 + 1, 0, none⟩ = false := by simp [World.frozen?, h3]
  have hc2 : W.cell? ⟨w.heap.size + 1 + 1, 0, none⟩ = some (.bool false) := (bC_ h3 0).trans rfl
  rcases hq : (x.f3 == p) with _ | _
  ·gi_wp2
   exact ⟨KeepsFrom.refl _ _, ⟨Below.refl _ _, rfl, rfl⟩, ⟨⟨⟨⟨⟨fun y hy => (List.mem_append.1 hy).elim (h0.out y) (fun e => by rw [List.mem_singleton.1 e]; exact hq)⟩, h1⟩, h2⟩, h3⟩, hB⟩, hS⟩
  ·gi_wp2
   exact ⟨((((((((((KeepsFrom.refl _ _).trans ((KeepsOthers.setCell _ _ _).from _)).trans ((KeepsOthers.setCell _ _ _).from _)).trans ((KeepsOthers.setCell _ _ _).from _)).trans ((KeepsOthers.setCell _ _ _).from _)).trans ((KeepsOthers.setCell _ _ _).from _)).trans ((KeepsOthers.setCell _ _ _).from _)).trans ((KeepsOthers.setCell _ _ _).from _)).trans ((KeepsOthers.setCell _ _ _).from _)).trans ((KeepsOthers.setCell _ _ _).from _)).trans ((KeepsOthers.setCell _ _ _).from _), x, ⟨⟨⟨⟨rfl, hq, pre, rfl, h0.out⟩⟩, bF_ (p := ⟨w.heap.size + 1 + 1, 0, none⟩) (bP_ (bP_ (bP_ (bP_ (bP_ (bP_ (bP_ (bP_ (bP_ (h2) 0 _ rfl) 1 _ rfl) 2 _ rfl) 3 _ rfl) 4 _ rfl) 5 _ rfl) 6 _ rfl) 7 _ rfl) 8 _ rfl) (by show w.heap.size + 1 ≠ w.heap.size + 1 + 1; omega) _⟩, bP_ (bF_ (p := ⟨w.heap.size + 1, 8, none⟩) (bF_ (p := ⟨w.heap.size + 1, 7, none⟩) (bF_ (p := ⟨w.heap.size + 1, 6, none⟩) (bF_ (p := ⟨w.heap.size + 1, 5, none⟩) (bF_ (p := ⟨w.heap.size + 1, 4, none⟩) (bF_ (p := ⟨w.heap.size + 1, 3, none⟩) (bF_ (p := ⟨w.heap.size + 1, 2, none⟩) (bF_ (p := ⟨w.heap.size + 1, 1, none⟩) (bF_ (p := ⟨w.heap.size + 1, 0, none⟩) (h3) (by show w.heap.size + 1 + 1 ≠ w.heap.size + 1; omega) _) (by show w.heap.size + 1 + 1 ≠ w.heap.size + 1; omega) _) (by show w.heap.size + 1 + 1 ≠ w.heap.size + 1; omega) _) (by show w.heap.size + 1 + 1 ≠ w.heap.size + 1; omega) _) (by show w.heap.size + 1 + 1 ≠ w.heap.size + 1; omega) _) (by show w.heap.size + 1 + 1 ≠ w.heap.size + 1; omega) _) (by show w.heap.size + 1 + 1 ≠ w.heap.size + 1; omega) _) (by show w.heap.size + 1 + 1 ≠ w.heap.size + 1; omega) _) (by show w.heap.size + 1 + 1 ≠ w.heap.size + 1; omega) _) 0 _ rfl⟩, bT_ (bT_ (bT_ (bT_ (bT_ (bT_ (bT_ (bT_ (bT_ (bT_ (hB) (by omega)) (by omega)) (by omega)) (by omega)) (by omega)) (by omega)) (by omega)) (by omega)) (by omega)) (by omega)⟩
 case done =>
  rintro D ys W hD rfl ⟨⟨⟨⟨⟨h0, h1⟩, h2⟩, h3⟩, hB⟩, hS⟩ hK
  obtain ⟨hc10, hc11, hc12, hc13, hc14, hc15, hc16, hc17, hc18, hf10, hf11, hf12, hf13, hf14, hf15, hf16, hf17, hf18⟩ := cf9 h2
  have hf2 : W.frozen? ⟨w.heap.size + 1 + 1, 0, none⟩ = false := by simp [World.frozen?, h3]
  have hc2 : W.cell? ⟨w.heap.size + 1 + 1, 0, none⟩ = some (.bool false) := (bC_ h3 0).trans rfl
  gi_wp2
  have Q2 : Aq ((((((((((((W.setCell ⟨w.heap.size + 1, 0, none⟩ (.int .i64 0)).setCell ⟨w.heap.size + 1, 1, none⟩ (.int .i64 0)).setCell ⟨w.heap.size + 1, 2, none⟩ (.int .i64 0)).setCell ⟨w.heap.size + 1, 3, none⟩ (.int .i64 0)).setCell ⟨w.heap.size + 1, 4, none⟩ (.int .i64 0)).setCell ⟨w.heap.size + 1, 5, none⟩ (.int .i64 0)).setCell ⟨w.heap.size + 1, 6, none⟩ (.int .i64 0)).setCell ⟨w.heap.size + 1, 7, none⟩ (.int .i64 0)).setCell ⟨w.heap.size + 1, 8, none⟩ (.int .i64 0)).setCell ⟨w.heap.size + 1 + 1, 0, none⟩ (.bool false))).heap[w.heap.size + 1]? = some (.cells #[.int .i64 0, .int .i64 0, .int .i64 0, .int .i64 0, .int .i64 0, .int .i64 0, .int .i64 0, .int .i64 0, .int .i64 0] 39 (0, 0))) := ⟨bF_ (p := ⟨w.heap.size + 1 + 1, 0, none⟩) (bP_ (bP_ (bP_ (bP_ (bP_ (bP_ (bP_ (bP_ (bP_ (h2) 0 _ rfl) 1 _ rfl) 2 _ rfl) 3 _ rfl) 4 _ rfl) 5 _ rfl) 6 _ rfl) 7 _ rfl) 8 _ rfl) (by show w.heap.size + 1 ≠ w.heap.size + 1 + 1; omega) _⟩
  have Q3 : Aq ((((((((((((W.setCell ⟨w.heap.size + 1, 0, none⟩ (.int .i64 0)).setCell ⟨w.heap.size + 1, 1, none⟩ (.int .i64 0)).setCell ⟨w.heap.size + 1, 2, none⟩ (.int .i64 0)).setCell ⟨w.heap.size + 1, 3, none⟩ (.int .i64 0)).setCell ⟨w.heap.size + 1, 4, none⟩ (.int .i64 0)).setCell ⟨w.heap.size + 1, 5, none⟩ (.int .i64 0)).setCell ⟨w.heap.size + 1, 6, none⟩ (.int .i64 0)).setCell ⟨w.heap.size + 1, 7, none⟩ (.int .i64 0)).setCell ⟨w.heap.size + 1, 8, none⟩ (.int .i64 0)).setCell ⟨w.heap.size + 1 + 1, 0, none⟩ (.bool false))).heap[w.heap.size + 1 + 1]? = some (.cells #[.bool false] 4 (0, 0))) := ⟨bP_ (bF_ (p := ⟨w.heap.size + 1, 8, none⟩) (bF_ (p := ⟨w.heap.size + 1, 7, none⟩) (bF_ (p := ⟨w.heap.size + 1, 6, none⟩) (bF_ (p := ⟨w.heap.size + 1, 5, none⟩) (bF_ (p := ⟨w.heap.size + 1, 4, none⟩) (bF_ (p := ⟨w.heap.size + 1, 3, none⟩) (bF_ (p := ⟨w.heap.size + 1, 2, none⟩) (bF_ (p := ⟨w.heap.size + 1, 1, none⟩) (bF_ (p := ⟨w.heap.size + 1, 0, none⟩) (h3) (by show w.heap.size + 1 + 1 ≠ w.heap.size + 1; omega) _) (by show w.heap.size + 1 + 1 ≠ w.heap.size + 1; omega) _) (by show w.heap.size + 1 + 1 ≠ w.heap.size + 1; omega) _) (by show w.heap.size + 1 + 1 ≠ w.heap.size + 1; omega) _) (by show w.heap.size + 1 + 1 ≠ w.heap.size + 1; omega) _) (by show w.heap.size + 1 + 1 ≠ w.heap.size + 1; omega) _) (by show w.heap.size + 1 + 1 ≠ w.heap.size + 1; omega) _) (by show w.heap.size + 1 + 1 ≠ w.heap.size + 1; omega) _) (by show w.heap.size + 1 + 1 ≠ w.heap.size + 1; omega) _) 0 _ rfl⟩
  have QB : Aq (Below w.heap.size w (((((((((((W.setCell ⟨w.heap.size + 1, 0, none⟩ (.int .i64 0)).setCell ⟨w.heap.size + 1, 1, none⟩ (.int .i64 0)).setCell ⟨w.heap.size + 1, 2, none⟩ (.int .i64 0)).setCell ⟨w.heap.size + 1, 3, none⟩ (.int .i64 0)).setCell ⟨w.heap.size + 1, 4, none⟩ (.int .i64 0)).setCell ⟨w.heap.size + 1, 5, none⟩ (.int .i64 0)).setCell ⟨w.heap.size + 1, 6, none⟩ (.int .i64 0)).setCell ⟨w.heap.size + 1, 7, none⟩ (.int .i64 0)).setCell ⟨w.heap.size + 1, 8, none⟩ (.int .i64 0)).setCell ⟨w.heap.size + 1 + 1, 0, none⟩ (.bool false)))) := ⟨bT_ (bT_ (bT_ (bT_ (bT_ (bT_ (bT_ (bT_ (bT_ (bT_ (hB) (by omega)) (by omega)) (by omega)) (by omega)) (by omega)) (by omega)) (by omega)) (by omega)) (by omega)) (by omega)⟩
  have QK : Aq ((((((((((((W.setCell ⟨w.heap.size + 1, 0, none⟩ (.int .i64 0)).setCell ⟨w.heap.size + 1, 1, none⟩ (.int .i64 0)).setCell ⟨w.heap.size + 1, 2, none⟩ (.int .i64 0)).setCell ⟨w.heap.size + 1, 3, none⟩ (.int .i64 0)).setCell ⟨w.heap.size + 1, 4, none⟩ (.int .i64 0)).setCell ⟨w.heap.size + 1, 5, none⟩ (.int .i64 0)).setCell ⟨w.heap.size + 1, 6, none⟩ (.int .i64 0)).setCell ⟨w.heap.size + 1, 7, none⟩ (.int .i64 0)).setCell ⟨w.heap.size + 1, 8, none⟩ (.int .i64 0)).setCell ⟨w.heap.size + 1 + 1, 0, none⟩ (.bool false))).heap[D]? = some (.deferred (some []))) := ⟨(((((((((((KeepsOthers.refl _).trans (KeepsOthers.setCell _ _ _)).trans (KeepsOthers.setCell _ _ _)).trans (KeepsOthers.setCell _ _ _)).trans (KeepsOthers.setCell _ _ _)).trans (KeepsOthers.setCell _ _ _)).trans (KeepsOthers.setCell _ _ _)).trans (KeepsOthers.setCell _ _ _)).trans (KeepsOthers.setCell _ _ _)).trans (KeepsOthers.setCell _ _ _)).trans (KeepsOthers.setCell _ _ _) : KeepsOthers W (((((((((((W.setCell ⟨w.heap.size + 1, 0, none⟩ (.int .i64 0)).setCell ⟨w.heap.size + 1, 1, none⟩ (.int .i64 0)).setCell ⟨w.heap.size + 1, 2, none⟩ (.int .i64 0)).setCell ⟨w.heap.size + 1, 3, none⟩ (.int .i64 0)).setCell ⟨w.heap.size + 1, 4, none⟩ (.int .i64 0)).setCell ⟨w.heap.size + 1, 5, none⟩ (.int .i64 0)).setCell ⟨w.heap.size + 1, 6, none⟩ (.int .i64 0)).setCell ⟨w.heap.size + 1, 7, none⟩ (.int .i64 0)).setCell ⟨w.heap.size + 1, 8, none⟩ (.int .i64 0)).setCell ⟨w.heap.size + 1 + 1, 0, none⟩ (.bool false)))).same D _ hK rfl⟩
  have HV : Aq (soldS l p k = none) := ⟨by unfold soldS; rw [List.find?_eq_none]; intro y hy; rw [h0.out y hy]; decide⟩
  clear h0 h1 h2 h3 hB hK
  generalize ((((((((((W.setCell ⟨w.heap.size + 1, 0, none⟩ (.int .i64 0)).setCell ⟨w.heap.size + 1, 1, none⟩ (.int .i64 0)).setCell ⟨w.heap.size + 1, 2, none⟩ (.int .i64 0)).setCell ⟨w.heap.size + 1, 3, none⟩ (.int .i64 0)).setCell ⟨w.heap.size + 1, 4, none⟩ (.int .i64 0)).setCell ⟨w.heap.size + 1, 5, none⟩ (.int .i64 0)).setCell ⟨w.heap.size + 1, 6, none⟩ (.int .i64 0)).setCell ⟨w.heap.size + 1, 7, none⟩ (.int .i64 0)).setCell ⟨w.heap.size + 1, 8, none⟩ (.int .i64 0)).setCell ⟨w.heap.size + 1 + 1, 0, none⟩ (.bool false)) = V at Q2 Q3 QB QK ⊢
  refine ⟨by simp, .inl ⟨_, _, rfl, run_takeDeferred QK.out, ?_⟩⟩
  have R2 : (V.putObj D (.deferred none)).heap[w.heap.size + 1]? = some (.cells #[.int .i64 0, .int .i64 0, .int .i64 0, .int .i64 0, .int .i64 0, .int .i64 0, .int .i64 0, .int .i64 0, .int .i64 0] 39 (0, 0)) := (World.putObj_heap_other (by omega)).trans Q2.out
  have R3 : (V.putObj D (.deferred none)).heap[w.heap.size + 1 + 1]? = some (.cells #[.bool false] 4 (0, 0)) := (World.putObj_heap_other (by omega)).trans Q3.out
  have r0 : (V.putObj D (.deferred none)).cell? ⟨w.heap.size + 1, 0, none⟩ = some (.int .i64 0) := (bC_ R2 0).trans rfl
  have r1 : (V.putObj D (.deferred none)).cell? ⟨w.heap.size + 1, 1, none⟩ = some (.int .i64 0) := (bC_ R2 1).trans rfl
  have r2 : (V.putObj D (.deferred none)).cell? ⟨w.heap.size + 1, 2, none⟩ = some (.int .i64 0) := (bC_ R2 2).trans rfl
  have r3 : (V.putObj D (.deferred none)).cell? ⟨w.heap.size + 1, 3, none⟩ = some (.int .i64 0) := (bC_ R2 3).trans rfl
  have r4 : (V.putObj D (.deferred none)).cell? ⟨w.heap.size + 1, 4, none⟩ = some (.int .i64 0) := (bC_ R2 4).trans rfl
  have r5 : (V.putObj D (.deferred none)).cell? ⟨w.heap.size + 1, 5, none⟩ = some (.int .i64 0) := (bC_ R2 5).trans rfl
  have r6 : (V.putObj D (.deferred none)).cell? ⟨w.heap.size + 1, 6, none⟩ = some (.int .i64 0) := (bC_ R2 6).trans rfl
  have r7 : (V.putObj D (.deferred none)).cell? ⟨w.heap.size + 1, 7, none⟩ = some (.int .i64 0) := (bC_ R2 7).trans rfl
  have r8 : (V.putObj D (.deferred none)).cell? ⟨w.heap.size + 1, 8, none⟩ = some (.int .i64 0) := (bC_ R2 8).trans rfl
  have rb : (V.putObj D (.deferred none)).cell? ⟨w.heap.size + 1 + 1, 0, none⟩ = some (.bool false) := (bC_ R3 0).trans rfl
  refine ⟨.tuple #[.agg #[.int .i64 0, .int .i64 0, .int .i64 0, .int .i64 0, .int .i64 0, .int .i64 0, .int .i64 0, .int .i64 0, .int .i64 0], .bool false], ?_, by rw [HV.out]; rfl, QB.out.trans (belowK_b (w := w) (Nat.le_refl _) V D _ _ (by omega) QK.out rfl rfl)⟩
  simp [results, Tryz.f86, go_sem, r0, r1, r2, r3, r4, r5, r6, r7, r8, rb]
 case stop =>
  rintro D cd pre W hD hpre ⟨x, ⟨⟨⟨⟨rfl, hq, ini, rfl, h0⟩⟩, h2⟩, h3⟩, hB⟩ hK
  gi_wp2
  have Q2 := Aq.mk h2
  have Q3 := Aq.mk h3
  have QB := Aq.mk hB
  have QK := Aq.mk hK
  have HV : Aq (soldS l p k = some x) := ⟨by
   unfold soldS
   obtain ⟨t, ht⟩ := hpre
   rw [← ht, List.find?_append, List.find?_append, List.find?_eq_none.2 (fun y hy => by rw [h0 y hy]; decide)]
   simp [List.find?, hq]⟩
  clear h2 h3 hB hK
  generalize W = V at Q2 Q3 QB QK ⊢
  refine ⟨by simp, .inl ⟨_, _, rfl, run_takeDeferred QK.out, ?_⟩⟩
  have R2 : (V.putObj D (.deferred none)).heap[w.heap.size + 1]? = some (.cells #[.int .i64 x.f0, .int .i64 x.f1, .int .i64 x.f2, .int .i64 x.f3, .int .i64 x.f4, .int .i64 x.f5, .int .i64 x.f6, .int .i64 x.f7, .int .i64 x.f8] 39 (0, 0)) := (World.putObj_heap_other (by omega)).trans Q2.out
  have R3 : (V.putObj D (.deferred none)).heap[w.heap.size + 1 + 1]? = some (.cells #[.bool true] 4 (0, 0)) := (World.putObj_heap_other (by omega)).trans Q3.out
  have r0 : (V.putObj D (.deferred none)).cell? ⟨w.heap.size + 1, 0, none⟩ = some (.int .i64 x.f0) := (bC_ R2 0).trans rfl
  have r1 : (V.putObj D (.deferred none)).cell? ⟨w.heap.size + 1, 1, none⟩ = some (.int .i64 x.f1) := (bC_ R2 1).trans rfl
  have r2 : (V.putObj D (.deferred none)).cell? ⟨w.heap.size + 1, 2, none⟩ = some (.int .i64 x.f2) := (bC_ R2 2).trans rfl
  have r3 : (V.putObj D (.deferred none)).cell? ⟨w.heap.size + 1, 3, none⟩ = some (.int .i64 x.f3) := (bC_ R2 3).trans rfl
  have r4 : (V.putObj D (.deferred none)).cell? ⟨w.heap.size + 1, 4, none⟩ = some (.int .i64 x.f4) := (bC_ R2 4).trans rfl
  have r5 : (V.putObj D (.deferred none)).cell? ⟨w.heap.size + 1, 5, none⟩ = some (.int .i64 x.f5) := (bC_ R2 5).trans rfl
  have r6 : (V.putObj D (.deferred none)).cell? ⟨w.heap.size + 1, 6, none⟩ = some (.int .i64 x.f6) := (bC_ R2 6).trans rfl
  have r7 : (V.putObj D (.deferred none)).cell? ⟨w.heap.size + 1, 7, none⟩ = some (.int .i64 x.f7) := (bC_ R2 7).trans rfl
  have r8 : (V.putObj D (.deferred none)).cell? ⟨w.heap.size + 1, 8, none⟩ = some (.int .i64 x.f8) := (bC_ R2 8).trans rfl
  have rb : (V.putObj D (.deferred none)).cell? ⟨w.heap.size + 1 + 1, 0, none⟩ = some (.bool true) := (bC_ R3 0).trans rfl
  refine ⟨.tuple #[.agg #[.int .i64 x.f0, .int .i64 x.f1, .int .i64 x.f2, .int .i64 x.f3, .int .i64 x.f4, .int .i64 x.f5, .int .i64 x.f6, .int .i64 x.f7, .int .i64 x.f8], .bool true], ?_, by rw [HV.out]; rfl, QB.out.trans (belowK_b (w := w) (Nat.le_refl _) V D _ _ (by omega) QK.out rfl rfl)⟩
  simp [results, Tryz.f86, go_sem, r0, r1, r2, r3, r4, r5, r6, r7, r8, rb]
theorem award_sold.calls (A0 : Option Addr) (c0 : Nat) (l0 : List (S39)) (a1 : Int) (a2 : Int) (r1 : Int) (r2 : Int) (r3 : Int) (r4 : Int) (r5 : Int) (r6 : Int) (r7 : Int) (r8 : Int) (r9 : Int) (r10 : Bool) (w : World) (hr0 : Kd.C k39 w A0 l0.length l0) (hc0 : l0.length ≤ c0) (h : award_sold.f l0 a1 a2 = some (r1, r2, r3, r4, r5, r6, r7, r8, r9, r10)) :
  Calls Tryz.prog 86 #[.slice A0 l0.length c0, .int .i64 a1, .int .i64 a2] w fun e w' => e = .returned (.tuple #[.agg #[.int .i64 r1, .int .i64 r2, .int .i64 r3, .int .i64 r4, .int .i64 r5, .int .i64 r6, .int .i64 r7, .int .i64 r8, .int .i64 r9], .bool r10]) ∧ Below w.heap.size w w' := by
 refine (sold_any A0 c0 l0 a1 a2 w hr0).mono fun e w' ⟨he, hw⟩ => ⟨?_, hw⟩
 rw [he]
 unfold award_sold.f at h
 unfold soldV
 cases hs : soldS l0 a1 a2 with
 | none => rw [hs] at h; simp only [Option.some.injEq, Prod.mk.injEq] at h; obtain ⟨rfl, rfl, rfl, rfl, rfl, rfl, rfl, rfl, rfl, rfl⟩ := h; rfl
 | some x => rw [hs] at h; simp only [Option.some.injEq, Prod.mk.injEq] at h; obtain ⟨rfl, rfl, rfl, rfl, rfl, rfl, rfl, rfl, rfl, rfl⟩ := h; rfl
end
end Go.Proofs.YtbicfbnempiocaaGreat.G
