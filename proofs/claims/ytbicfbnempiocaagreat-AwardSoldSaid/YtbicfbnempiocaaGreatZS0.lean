/- What the law's proof rests on beside the base: further functions of the program, what each computes, and that the machine's call of it comes to just that; the law's plain side. -/
import Derived.SizedLaws
import Derived.ChangeSlices
import Derived.Below
import Derived.Deep.Draws
import Derived.Deep.AppendLies
import Derived.Maps.AppendAt
import Derived.OwnWalk
import Derived.Laws.BytesArg
import Derived.Laws.MakeOwn
import Derived.Laws.OwnMore
import Derived.Tactics
import Derived.Lib.ConvBytes
import Derived.Laws.Slices
import Derived.WalkKit
import Derived.KernelRfl
import Derived.RowKit3
import Derived.Deep.LoopGhost
import Derived.Deep.QuietTactic
import Derived.BigQuiet
import Derived.WideLaws
import Derived.Deep.DeepCutAuto
import Derived.Deep.CutBlock
import Derived.Deep.RegionHeld3
import Derived.Lib.AppendStr
import Derived.ArgAppend
import Derived.Laws.IdiomCopy
import Derived.RowKit
import Derived.OrdersHeld
import Derived.Laws.BitsLemmas
import Derived.Laws.StructEq
import Derived.Test.YtbicfbnempiocaaGreatProg
import Derived.Shelf.Abstract
import Derived.RangeFuncNested
import Derived.RangeFuncBound
import Derived.RangeFuncCalls
import Derived.RangeFuncLeaves
import Derived.Shelf.RegionOpen
import Derived.OwnWalkIn
import Derived.TacticsInMore
import Derived.LoopNIn
import Derived.LoopIn
import Derived.Deep.DeepMust
import Derived.Defers
import Derived.Recover
import Derived.Laws.Pointers
import Derived.WalkLawsBesides
import Derived.WalkSpells
import Derived.Shelf.SlGeneric
import Derived.Shelf.Slices.CompactI
import Derived.Shelf.SlIterI.Nil
import Derived.Shelf.SortM.Plain
import Derived.Shelf.SortM.SortNone
import Derived.Ground.GgzProg
import Derived.Ground.SlgmProg
import Derived.Maps.OwnOps
import Derived.Maps.OwnSet
import Derived.Shelf.SlSortCmp.Insertion1
import Derived.Ground.SlsfProg
import Derived.Deep.RegionWith
import Derived.Laws.EntriesVeiled
import Derived.ChangeSame
import Derived.ChangeArms
import Derived.DataReads
import Derived.Deep.Slices
import Derived.ProofKit
import Derived.OpenShut
import Derived.ShutString
import Derived.ChangeOld
import Derived.Test.YtbicfbnempiocaaGreatZB0
import Derived.Test.YtbicfbnempiocaaGreatZB1
import Derived.Test.YtbicfbnempiocaaGreatZB2
import Derived.Test.YtbicfbnempiocaaGreatZB3
import Derived.Test.YtbicfbnempiocaaGreatZB4
import Derived.Test.YtbicfbnempiocaaGreatZB5
import Derived.Test.YtbicfbnempiocaaGreatZB6
import Derived.Test.YtbicfbnempiocaaGreatZB7
import Derived.Test.YtbicfbnempiocaaGreatZB8
import Derived.Test.YtbicfbnempiocaaGreatZB9
import Derived.Test.YtbicfbnempiocaaGreatZB11
set_option linter.unusedVariables false
set_option linter.unusedSimpArgs false
namespace Go.Proofs.YtbicfbnempiocaaGreat.G
open Go.RowKit Go.Proofs.YtbicfbnempiocaaGreatW.PrintWords Go.Proofs.YtbicfbnempiocaaGreatW.PrintLast Go.Proofs.YtbicfbnempiocaaGreatW.PrintMore
section
open Go.Shelf
open Go.Proofs Go.Sort
def soldAll (l : List S39) (k : Int) : List Int := if (checks sellsS [] l 0).2 ≠ 0 then [] else ((l.filter (countsS l k)).map fun x => x.f3).mergeSort fun x y => decide (x ≤ y)
theorem own_rowv {β : Type} (B base e n : Nat) (v : Value) (xs : β → List Value) (m : β → Nat) : OwnFrom B (fun (s : β) W => W.ownsRow base e n v (m s) (xs s)) := fun s W W' row hs hg hr => by
 refine hs.kept hg ?_
 cases hv : v.ownBlock with
 | none => exact .inl rfl
 | some g =>
  refine .inr fun h => ?_
  obtain ⟨_, o, ho, hc⟩ := hr g h.symm
  obtain ⟨_, ⟨rfl, _⟩ | ⟨g2, cap, cur, rfl, _, hb, _⟩⟩ := hs
  ·cases hv
  ·obtain rfl : g2 = g := by simpa [Value.ownBlock] using hv
   rw [hb] at ho
   cases ho
   cases hc
theorem grown_putRow {W : World} {g : Nat} {d : Array Int} {q : Nat} {os : Array Obj} : W.grownBy (grow (putRow (Value.int .i64) (Sort.ahead W q) g 0 d) os) (some g) := by
 refine ⟨rfl, rfl, rfl, ?_, fun k hk hne => ?_⟩
 ·show W.heap.size ≤ (W.heap.modify g _ ++ os).size
  simp
 ·have h1 : k < (putRow (Value.int .i64) (Sort.ahead W q) g 0 d).heap.size := by
   show k < (mapBlock _ _ _).heap.size
   rw [size_mapBlock]
   exact hk
  rw [heap_grow h1]
  exact heap_mapBlock_other (w := Sort.ahead W q) (fun e => hne (by rw [e]))
theorem sort_at {W : World} {base : Nat} {v : Value} {xs : List Int} (h : W.ownsRow base 3 1 v xs.length (encs (Value.int .i64) xs)) (hl : xs.length < 4611686018427387904) :
  Calls Tryz.prog 90 #[v] W fun e w' => e = .returned (.tuple #[]) ∧ w'.ownsRow base 3 1 v xs.length (encs (Value.int .i64) (xs.mergeSort fun x y => decide (x ≤ y))) ∧ W.grownBy w' v.ownBlock := by
 have hlen : (xs.mergeSort fun x y => decide (x ≤ y)).length = xs.length := List.length_mergeSort _
 rcases h with ⟨hx, ⟨rfl, h0⟩ | ⟨g, cap, cur, rfl, hg, hb, hn, hc, hs, ht⟩⟩
 ·have hx0 : xs = [] := List.length_eq_zero_iff.1 h0
  subst hx0
  refine (AnyM.slices_Sort_int_none Tryz.sortA none 0 W).mono ?_
  rintro e w' ⟨rfl, rfl⟩
  exact ⟨rfl, by simpa [encs] using World.ownsRow_nil _ _ _ _, rfl, rfl, rfl, Nat.le_refl _, fun _ _ _ => rfl⟩
 ·refine (AnyM.slices_Sort_int Tryz.sortA g 0 cap xs W (holds_of_row hb rfl ht) (Array.getElem?_eq_some_iff.1 hb).1 hl).mono ?_
  rintro e w' ⟨rfl, q, os, rfl⟩
  refine ⟨rfl, ?_, grown_putRow⟩
  have z := own_putRow (W := W) (base := base) (q := q) (os := os) hg hb hn hc hs (xs.mergeSort fun x y => decide (x ≤ y)) hlen (Nat.le_refl _)
  rw [List.take_of_length_le (by omega)] at z
  exact z
theorem own_low {W : World} {base base' e n m : Nat} {v : Value} {xs : List Value} (h : W.ownsRow base e n v m xs) (hb : base' ≤ base) : W.ownsRow base' e n v m xs := by
 obtain ⟨hx, h | ⟨g, cap, cur, e1, hg, z⟩⟩ := h
 ·exact ⟨hx, .inl h⟩
 ·exact ⟨hx, .inr ⟨g, cap, cur, e1, Nat.le_trans hb hg, z⟩⟩
theorem ownsRow_succ' {W : World} {base e n m : Nat} {v : Value} {xs : List Value} (h : W.ownsRow base e n v (m + 1) xs) : ∃ g cap, v = .slice (some ⟨g, 0, none⟩) (m + 1) cap := by
 obtain ⟨_, ⟨_, h0⟩ | ⟨g2, cap, cur, rfl, _⟩⟩ := h
 ·omega
 ·exact ⟨g2, cap, rfl⟩
theorem ownsRow_ge {W : World} {base e n m : Nat} {v : Value} {xs : List Value} (h : W.ownsRow base e n v m xs) : ∀ g, v.ownBlock = some g → base ≤ g ∧ ∃ cur, W.heap[g]? = some (.cells cur e (0, 0)) := fun g hv => by
 obtain ⟨_, ⟨rfl, _⟩ | ⟨g2, cap, cur, rfl, hg, hb, _⟩⟩ := h
 ·cases hv
 ·obtain rfl : g2 = g := by simpa [Value.ownBlock] using hv
  exact ⟨hg, cur, hb⟩
attribute [local go_sem] Oper.semAt_some in
set_option maxRecDepth 100000 in
set_option maxHeartbeats 4000000 in
theorem soldL_any (A : Option Addr) (c : Nat) (l : List S39) (k : Int) (w : World) (hr : Kd.C k39 w A l.length l) (hc : l.length ≤ c) (r : List Int) (hq : r = soldAll l k) (hlen : l.length ≤ 1000000) :
  Calls Tryz.prog 51 #[.slice A l.length c, .int .i64 k] w fun e w' => ∃ v, e = .returned v ∧ Kd.R (Kd.int .i64) 3 w' w.heap.size (fun _ => True) v r ∧ Below w.heap.size w w' := by
 obtain ⟨i3, hi, hz0, hz1, hz2⟩ := info_parts info3
 rcases hck : checks sellsS [] l 0 with ⟨i0, e0⟩
 have HCk := Aq.mk (award_CheckSales.calls A c l i0 e0 w hr hc (by unfold award_CheckSales.f; rw [hck]))
 have HK0 := Aq.mk (congrArg Prod.snd hck)
 have HQ := Aq.mk hq
 have HR := Aq.mk hr
 clear hr hc hq hck
 refine (callsIn_wide (n := 3)).1 ?_
 refine callsIn_of_wp_marks Tryz.func51 rfl trivial ?_ rfl
 simp only [Tryz.ntmps51, List.size_toArray, List.length_cons, List.length_nil, Nat.reduceAdd, Nat.reduceSub, Array.replicate_succ, Array.replicate_zero, List.push_toArray, List.append_toArray, List.nil_append, List.cons_append]
 by_cases he : e0 = 0
 ·have hb0 : (e0 != 0) = false := bne_eq_false_iff_eq.mpr he
  have HE : Aq (r = ((l.filter (countsS l k)).map fun x => x.f3).mergeSort fun x y => decide (x ≤ y)) := ⟨by rw [HQ.out]; unfold soldAll; rw [HK0.out, if_neg (by simp [he])]⟩
  clear he HQ HK0
  gi_wp2_with (first | (refine ⟨trivial, ?_⟩; gi_at_call 33; go_must (refine (callsIn_wide.2 HCk.out).mono ?_; rintro e w1 ⟨rfl, hb⟩; have HB := Aq.mk hb; clear hb HCk)) | (refine ⟨trivial, ?_⟩; gi_at_call 89; refine (callsIn_wide.2 (make_sale _ _ _ _ _)).mono ?_; rintro e w' ⟨rfl, rfl⟩))
  obtain ⟨W0, hW0⟩ : ∃ W0, (((w1.alloc (.cells #[.slice none 0 0] 35)).alloc (.cells #[.slice A l.length c] 54)).alloc (.cells #[.int .i64 k] 3)) = W0 := ⟨_, rfl⟩
  have hsz : W0.heap.size = w1.heap.size + 3 := by rw [← hW0]; simp
  have hs1 := HB.out.size
  have HB0 : Aq (Below w.heap.size w W0) := ⟨by rw [← hW0]; exact bA_ (bA_ (bA_ HB.out _) _) _⟩
  have P0 : Aq (W0.heap[w1.heap.size]? = some (.cells #[.slice none 0 0] 35 (0, 0))) := ⟨by rw [← hW0]; exact bL_ (bL_ (blk_at _ _ _ (by simp)) _) _⟩
  have P3 : Aq (W0.heap[w1.heap.size + 1]? = some (.cells #[.slice A l.length c] 54 (0, 0))) := ⟨by rw [← hW0]; exact bL_ (blk_at _ _ _ (by simp)) _⟩
  have P4 : Aq (W0.heap[w1.heap.size + 1 + 1]? = some (.cells #[.int .i64 k] 3 (0, 0))) := ⟨by rw [← hW0]; exact blk_at _ _ _ (by simp)⟩
  rw [hW0]
  clear hW0
  refine wpIn_rangeFunc_ownH rfl (by omega) (gf := 127) (lb := #[.pointer (some ⟨w1.heap.size + 1, 0, none⟩), .pointer (some ⟨w1.heap.size + 1 + 1, 0, none⟩)]) rfl trivial (enters_of Tryz.func127 (by kernel_rfl) rfl)
   (stops_sale 2 _ _ w A c l k HR.out W0 HB0.out P3.out P4.out) kpb_t (kpb_b (by omega) (by omega) (by omega)) (Below.refl _ _) (fun _ => rfl)
   (fun pre W => ((∃ v, W.ownsRow W0.heap.size 3 1 v pre.length (encs (Value.int .i64) (pre.map fun x => x.f3)) ∧ W.heap[w1.heap.size]? = some (.cells #[v] 35 (0, 0))) ∧ Below w.heap.size w W) ∧ W0.heap.size ≤ W.heap.size)
   (fun _ _ _ => False)
   (OwnFrom.and (OwnFrom.and (own_ex fun v => OwnFrom.and (own_rowv _ _ _ _ v _ _) (own_blk _ _ _ (fun _ => rfl))) (ownFrom_below (Nat.le_refl _) (by omega))) (own_size _ _))
   (fun _ _ _ _ _ h _ _ => h)
   ⟨⟨⟨.slice none 0 0, World.ownsRow_nil _ _ _ _, P0.out⟩, HB0.out⟩, Nat.le_refl _⟩
   (fun x a' W => ∃ Bx, (w1.heap.size + 3 ≤ Bx ∧ W.heap[Bx]? = some (.cells #[.int .i64 x.f0, .int .i64 x.f1, .int .i64 x.f2, .int .i64 x.f3, .int .i64 x.f4, .int .i64 x.f5, .int .i64 x.f6, .int .i64 x.f7, .int .i64 x.f8] 39 (0, 0))) ∧ a' = { tmps := #[.slice A l.length c, .int .i64 k, undef, undef, .slice none 0 0, .int .i64 i0, .int .i64 e0, .pointer (some ⟨w1.heap.size, 0, none⟩), .pointer (some ⟨Bx, 0, none⟩), .tuple #[.int .i64 i0, .int .i64 e0], .slice A l.length c, .tuple #[.int .i64 i0, .int .i64 e0], .int .i64 i0, .int .i64 e0, .int .i64 e0, .bool false, .slice A l.length c, .int .i64 k, .func (.func 127) #[] #[.pointer (some ⟨w1.heap.size + 1, 0, none⟩), .pointer (some ⟨w1.heap.size + 1 + 1, 0, none⟩)], .agg #[.int .i64 x.f0, .int .i64 x.f1, .int .i64 x.f2, .int .i64 x.f3, .int .i64 x.f4, .int .i64 x.f5, .int .i64 x.f6, .int .i64 x.f7, .int .i64 x.f8], undef, undef, undef, undef, undef, undef, undef, undef], defers := [] })
   (fun x a' => own_ex (fun Bx => OwnFrom.and (OwnFrom.and (own_pure _ _) (own_blk _ _ _ (fun _ => rfl))) (own_pure _ _)))
   ?assign ?body ?done ?stop
  case assign =>
   rintro lo pre x W K ⟨⟨⟨v, h0, h1⟩, hB⟩, hS⟩ hK
   unfold encS
   gi_wp2
   have hk := hK _ (W.alloc (.cells #[.int .i64 x.f0, .int .i64 x.f1, .int .i64 x.f2, .int .i64 x.f3, .int .i64 x.f4, .int .i64 x.f5, .int .i64 x.f6, .int .i64 x.f7, .int .i64 x.f8] 39)) ((KeepsOthers.alloc _ _).from _) (kpb_below (bA_ (Below.refl _ _) _) (by omega) (by omega) (by omega)) ⟨⟨⟨v, h0.alloc _, bL_ h1 _⟩, bA_ hB _⟩, by simp; omega⟩ ⟨W.heap.size, ⟨by omega, heap_alloc_new _ _⟩, rfl⟩
   exact hk
  case body =>
   rintro lo pre x a' W hlo ⟨rr, hrr⟩ ⟨⟨⟨v, h0, h1⟩, hB⟩, hS⟩ ⟨Bx, ⟨hBx, hX⟩, rfl⟩ hlt
   have hp : W.cell? ⟨w1.heap.size, 0, none⟩ = some v := (bC_ h1 0).trans rfl
   have hf : W.frozen? ⟨w1.heap.size, 0, none⟩ = false := by simp [World.frozen?, h1]
   have hx3 : W.cell? ⟨Bx, 3, none⟩ = some (.int .i64 x.f3) := (bC_ hX 3).trans rfl
   have hN : pre.length < 1000000 := Nat.lt_of_lt_of_le hlt (Nat.le_trans (List.length_filter_le _ _) hlen)
   have HPre := Aq.mk hN
   have hx0w := ownsRow_ge (h0.alloc (.cells #[.int .i64 x.f3] 3))
   have HO := Aq.mk h0
   have H1 := Aq.mk h1
   clear h0 h1 hN hlt
   gi_wp2_with (gi_at_builtin; refine wpListIn_append_own _ rfl _ _ 35 rfl W0.heap.size 3 i3 (.int .i64 0) 1 8 Tryz.underlying35 hi hz0 hz1 hz2 rfl (by decide) _ _ _ rfl (HO.out.alloc _) ⟨W.heap.size, 0, none⟩ 1 1 [.int .i64 x.f3] rfl rfl (cell_one_new _ _ _) (by simp [Value.oneCell']) (by have := HPre.out; unfold maxLen; omega) (by have := HPre.out; omega) (by simp; omega) ?_; intro v' w3 hown' hg3 hnil3; obtain ⟨g', cap', rfl⟩ := ownsRow_succ' hown'; have hb7 : w3.heap[w1.heap.size]? = some (.cells #[v] 35 (0, 0)) := (hg3.block _ (by simp; omega) (fun e => by have := (hx0w _ e.symm).1; omega)).trans (bL_ H1.out _); clear hp hf; have hp : w3.cell? ⟨w1.heap.size, 0, none⟩ = some v := (bC_ hb7 0).trans rfl; have hf : w3.frozen? ⟨w1.heap.size, 0, none⟩ = false := by simp [World.frozen?, hb7])
   have hk3 : KpB w.heap.size (w1.heap.size + 1) (w1.heap.size + 1 + 1) (W.alloc (.cells #[.int .i64 x.f3] 3)) w3 := ⟨⟨hg3.os, hg3.tape, hg3.output, hg3.size, fun j hj => hg3.block j (by simp; omega) (fun e => by have := (hx0w _ e.symm).1; omega)⟩, hg3.block _ (by simp; omega) (fun e => by have := (hx0w _ e.symm).1; omega), hg3.block _ (by simp; omega) (fun e => by have := (hx0w _ e.symm).1; omega)⟩
   have hkp : KpB w.heap.size (w1.heap.size + 1) (w1.heap.size + 1 + 1) W (w3.setCell ⟨w1.heap.size, 0, none⟩ (.slice (some ⟨g', 0, none⟩) (pre.length + 1) cap')) := kpb_set _ (kpb_t (kpb_below (bA_ (Below.refl _ _) _) (by omega) (by omega) (by omega)) hk3) (by omega) (by omega) (by omega)
   refine ⟨((KeepsOthers.alloc W _).trans ((KeepsOthers.of_grownBy hg3 (fun j o ej ho => by obtain ⟨_, cur, hc⟩ := hx0w j ej; rw [hc] at ho; cases ho; rfl)).trans (KeepsOthers.setCell _ _ _))).from _, hkp, ⟨⟨_, ?_, (bP_ (cs := #[v]) (cs' := #[.slice (some ⟨g', 0, none⟩) (pre.length + 1) cap']) hb7 0 _ rfl)⟩, hB.trans hkp.1⟩, Nat.le_trans hS hkp.1.size⟩
   have ho2 := hown'.kept (grownBy_setCell' w3 w1.heap.size (.slice (some ⟨g', 0, none⟩) (pre.length + 1) cap')) (.inr fun e => by have h2 := (ownsRow_ge hown' g' rfl).1; have e2 : some g' = some w1.heap.size := e; injection e2 with e2; omega)
   rw [List.length_append, List.map_append, encs, List.map_append]
   exact ho2
  case done =>
   rintro D ys W hD rfl ⟨⟨⟨v, h0, h1⟩, hB⟩, hS⟩ hK
   have hp : W.cell? ⟨w1.heap.size, 0, none⟩ = some v := (bC_ h1 0).trans rfl
   have hl0 : ((l.filter (countsS l k)).map fun x => x.f3).length ≤ 1000000 := by rw [List.length_map]; exact Nat.le_trans (List.length_filter_le _ _) hlen
   have h0' : W.ownsRow W0.heap.size 3 1 v ((l.filter (countsS l k)).map fun x => x.f3).length (encs (Value.int .i64) ((l.filter (countsS l k)).map fun x => x.f3)) := by rw [List.length_map]; exact h0
   have hge := ownsRow_ge h0'
   have hvD : v.ownBlock ≠ some D := fun e => by
    obtain ⟨_, cur, hcu⟩ := hge D e
    rw [hK] at hcu
    cases hcu
   have hv7 : v.ownBlock ≠ some w1.heap.size := fun e => by have := (hge _ e).1; omega
   have HS0 := Aq.mk (sort_at h0' (by omega))
   have hltD : D < W.heap.size := (Array.getElem?_eq_some_iff.1 hK).1
   have HB2 := Aq.mk hB
   have H1 := Aq.mk h1
   have HKD := Aq.mk hK
   have HGe := Aq.mk hge
   clear h0 h0' hge hB h1 hK
   gi_wp2_with (refine ⟨trivial, ?_⟩; gi_at_call 90; go_must (refine (callsIn_wide.2 HS0.out).mono ?_; rintro e wS ⟨rfl, hrow, hg⟩; have hb7 : wS.heap[w1.heap.size]? = some (.cells #[v] 35 (0, 0)) := (hg.block _ (by omega) (fun e => hv7 e.symm)).trans H1.out; have HKS := Aq.mk ((hg.block D hltD (fun e => hvD e.symm)).trans HKD.out); have HRow := Aq.mk hrow; have HB3 := Aq.mk (HB2.out.trans ⟨hg.os, hg.tape, hg.output, hg.size, fun j hj => hg.block j (by have := HB2.out.size; omega) (fun e => by have := (HGe.out _ e.symm).1; omega)⟩); clear hp hrow hg HS0; have hp : wS.cell? ⟨w1.heap.size, 0, none⟩ = some v := (bC_ hb7 0).trans rfl))
   refine ⟨by simp, .inl ⟨_, _, rfl, run_takeDeferred HKS.out, ?_⟩⟩
   refine ⟨v, by simp [results, Tryz.f51, go_sem], v, rfl, ?_, HB3.out.trans (belowK_b (w := w) (Nat.le_refl _) wS D _ _ (by omega) HKS.out rfl rfl)⟩
   rw [HE.out]
   refine Kd.R_of_own ?_ (fun _ _ => trivial)
   rw [List.length_mergeSort]
   exact own_low (HRow.out.kept (grownBy_putObj' wS D (.deferred none)) (.inr hvD)) (by omega)
  case stop => exact fun _ _ _ _ _ _ h => h.elim
 ·have hb0 : (e0 != 0) = true := bne_iff_ne.mpr he
  have HE : Aq (r = []) := ⟨by rw [HQ.out]; unfold soldAll; rw [HK0.out, if_pos he]⟩
  clear he HQ HK0
  gi_wp2_with (first | (refine ⟨trivial, ?_⟩; gi_at_call 33; go_must (refine (callsIn_wide.2 HCk.out).mono ?_; rintro e w1 ⟨rfl, hb⟩; have HB := Aq.mk hb; clear hb HCk)))
  exact ⟨.slice none 0 0, by simp [results, Tryz.f51, go_sem], .slice none 0 0, rfl, by rw [HE.out]; exact Kd.R_nil _ _ _ _ _, HB.out⟩
def award_Sold.f (l0 : List S39) (a1 : Int) : Option (List Int) := if l0.length ≤ 1000000 then some (soldAll l0 a1) else none
theorem award_Sold.calls (A0 : Option Addr) (c0 : Nat) (l0 : List S39) (a1 : Int) (r : List Int) (w : World) (hr0 : Kd.C k39 w A0 l0.length l0) (hc0 : l0.length ≤ c0) (h : award_Sold.f l0 a1 = some r) :
  Calls Tryz.prog 51 #[.slice A0 l0.length c0, .int .i64 a1] w fun e w' => ∃ v0_ : Value, e = .returned v0_ ∧ Kd.R (Kd.int .i64) 3 w' w.heap.size (fun _ => True) v0_ r ∧ Below w.heap.size w w' := by
 unfold award_Sold.f at h
 by_cases hl : l0.length ≤ 1000000
 ·rw [if_pos hl] at h
  exact soldL_any A0 c0 l0 a1 w hr0 hc0 r (Option.some.inj h).symm hl
 ·rw [if_neg hl] at h
  exact absurd h (by simp)
end
section
open Go.Shelf
open Go.Maps Go.Proofs
def scanI : List Int → (Int → Bool) → Bool
 | [], _ => false
 | p :: l, s => if s p then true else scanI l (fun q => q == p || s q)
def sumV (l : List S39) (k : Int) : List Int → Int → Int × Int
 | [], a => if a > 1000000000000 then (0, 2) else (a, 0)
 | p :: r, a => match soldS l p k with
  | none => (0, 61)
  | some x => sumV l k r (wrap64 (a + x.f4))
def valueF (l : List S39) (ps : List Int) (k : Int) : Int × Int :=
 if (checks sellsS [] l 0).2 ≠ 0 then (0, (checks sellsS [] l 0).2) else if 200 < ps.length then (0, 2) else if scanI ps (fun _ => false) then (0, 6) else sumV l k ps 0
set_option maxRecDepth 100000 in
set_option maxHeartbeats 4000000 in
theorem value_any (A : Option Addr) (c : Nat) (l : List S39) (A2 : Option Addr) (c2 : Nat) (ps : List Int) (k : Int) (w : World) (hr : Kd.C k39 w A l.length l) (hc : l.length ≤ c) (hp : Kd.C (Kd.int .i64) w A2 ps.length ps) (hwf : ∀ p ∈ ps, (Lit.int .i64 p).wf = true) (r : Int × Int) (hq : r = valueF l ps k) :
  Calls Tryz.prog 49 #[.slice A l.length c, .slice A2 ps.length c2, .int .i64 k] w fun e w' => e = .returned (.tuple #[.int .i64 r.1, .int .i64 r.2]) ∧ Below w.heap.size w w' := by
 have hmm := @run_makeMap Tryz.prog
 rcases hck : checks sellsS [] l 0 with ⟨i0, e0⟩
 have HCk := Aq.mk (award_CheckSales.calls A c l i0 e0 w hr hc (by unfold award_CheckSales.f; rw [hck]))
 have HQ := Aq.mk hq
 have HK0 := Aq.mk (congrArg Prod.snd hck)
 have HR := Aq.mk hr
 have HP := Aq.mk hp
 have HWf := Aq.mk hwf
 clear hr hc hp hwf hq hck
 go_enter Tryz.func49, Tryz.ntmps49
 by_cases he : e0 = 0
 ·have hb0 : (e0 != 0) = false := bne_eq_false_iff_eq.mpr he
  have HE0 : Aq ((checks sellsS [] l 0).2 = 0) := ⟨by rw [HK0.out]; exact he⟩
  clear he HK0
  by_cases h200 : 200 < ps.length
  ·have h200z : decide ((ps.length : Int) > 200) = true := decide_eq_true (by omega)
   have HE : Aq (r = (0, 2)) := ⟨by rw [HQ.out]; unfold valueF; rw [if_neg (by rw [HE0.out]; decide), if_pos h200]⟩
   clear h200
   go_wp2_with (first | (go_at_call 33; go_must ((with_reducible refine HCk.out.mono ?_); rintro e w1 ⟨rfl, hb⟩; have HB := Aq.mk hb; clear hb HCk)))
   exact bodyPost_ret (v := .tuple #[.int .i64 0, .int .i64 2]) (by simp [results, Tryz.results49, go_sem]) rfl ⟨by rw [HE.out], HB.out⟩
  ·have h200z : decide ((ps.length : Int) > 200) = false := decide_eq_false (by omega)
   have HQ2 : Aq (r = if scanI ps (fun _ => false) then (0, 6) else sumV l k ps 0) := ⟨by rw [HQ.out]; unfold valueF; rw [if_neg (by rw [HE0.out]; decide), if_neg h200]⟩
   have H200 := Aq.mk h200
   clear h200 HQ
   go_wp2_with (first | (go_at_call 33; go_must ((with_reducible refine HCk.out.mono ?_); rintro e w1 ⟨rfl, hb⟩; have HB0 := Aq.mk hb; clear hb HCk)))
   go_loopg [32] ps.length (fun gg s32 wr => ∃ (kk : Nat) (s : Int → Bool) (D : MD), kk ≤ ps.length ∧ ps.length - kk ≤ gg ∧ s32 = .int .i64 kk ∧ Aq (scanI ps (fun _ => false) = scanI (ps.drop kk) s) ∧ Aq (wr.ownsMap Tryz.prog 3 (plainElem Tryz.prog 4) w1.heap.size kk D) ∧ Aq (RepB D s) ∧ Aq (Below w.heap.size w wr))
   case atStart => exact ⟨0, fun _ => false, .map [], Nat.zero_le _, by omega, rfl, ⟨rfl⟩, ⟨World.ownsMap_made _ _ _ _⟩, ⟨repB_nil⟩, ⟨bA_ HB0.out _⟩⟩
   case round =>
    obtain ⟨kk, s, D, hkk, hg, rfl, HA, HM, HS, HB⟩ := hrel
    by_cases hlt : kk < ps.length
    ·have hltz : (kk : Int) < (ps.length : Int) := by omega
     have h0 : (0 : Int) ≤ (kk : Int) := by omega
     obtain ⟨ad, e_, hz0⟩ := at_int HP.out (kk : Int) h0 hltz
     cases e_
     obtain ⟨hme, HD⟩ := rd_drop ps kk hlt
     have hwfX := HWf.out _ hme
     clear hme
     generalize rd ps (kk : Int) = X at hz0 HD hwfX
     replace hz0 := mv HB hz0
     simp only [Int.toNat_natCast] at hz0
     have HA2 : Aq (scanI ps (fun _ => false) = if s X then true else scanI (ps.drop (kk + 1)) (fun q => q == X || s q)) := ⟨by rw [HA.out, HD]; rfl⟩
     clear HA HD
     have hrun := look_set HM.out HS.out X hwfX
     cases hsx : s X with
     | true =>
      rw [hsx] at hrun
      have HE : Aq (r = (0, 6)) := ⟨by rw [HQ2.out, HA2.out, hsx]; rfl⟩
      clear HA2 hsx
      go_wp2
      exact bodyPost_ret (v := .tuple #[.int .i64 0, .int .i64 6]) (by simp [results, Tryz.results49, go_sem]) rfl ⟨by rw [HE.out], HB.out⟩
     | false =>
      rw [hsx] at hrun
      have HA3 : Aq (scanI ps (fun _ => false) = scanI (ps.drop (kk + 1)) (fun q => q == X || s q)) := ⟨by rw [HA2.out, hsx]; rfl⟩
      have HKy := Aq.mk (keyOf_int_mk Tryz.underlying3 hwfX)
      have HML := Aq.mk (show kk + 1 ≤ maxLen by unfold maxLen; have := H200.out; omega)
      clear HA2 hsx hwfX
      go_wp2_with (at_mapUpdate; go_must (refine wpList_mapUpdate_own _ rfl _ _ _ 96 rfl 3 4 law3 Tryz.underlying96 _ w1.heap.size kk D rfl HM.out HML.out _ (.bool true) _ rfl rfl HKy.out _ [] (plainElem_bool Tryz.underlying4 true) ?_; intro w2 hown2 hgrow; have n0_ := Aq.mk hown2; have n1_ := Aq.mk (below_turned HB.out hgrow HB0.out.size); clear hown2 hgrow hrun hz0))
      go_roundg (ps.length - (kk + 1))
      case measure => omega
      case rel => exact ⟨kk + 1, _, _, by omega, by omega, by have h2 := H200.out; have h3 := IntWalk.wrap64_in ((kk : Int) + 1) (by omega); first | (rw [i64_w, h3]; rfl) | (rw [h3]; rfl), HA3, n0_, ⟨repB_put HS.out X⟩, n1_⟩
    ·have hltz : ¬ (kk : Int) < (ps.length : Int) := by omega
     obtain rfl : kk = ps.length := by omega
     have HQ3 : Aq (r = sumV l k ps 0) := ⟨by rw [HQ2.out, HA.out, List.drop_length]; rfl⟩
     clear HQ2 HA HM HS
     go_wp2
     go_loopg [13, 44] ps.length (fun gg s13 s44 wq => ∃ (kk : Nat) (a : Int), kk ≤ ps.length ∧ ps.length - kk ≤ gg ∧ s13 = .int .i64 a ∧ s44 = .int .i64 kk ∧ Aq (r = sumV l k (ps.drop kk) a) ∧ Aq (Below w.heap.size w wq))
     case atStart => exact ⟨0, 0, Nat.zero_le _, by omega, rfl, rfl, HQ3, HB⟩
     case round =>
      clear HB HQ3
      obtain ⟨kk, a, hkk, hg, rfl, rfl, HA, HB⟩ := hrel
      by_cases hlt : kk < ps.length
      ·have hltz : (kk : Int) < (ps.length : Int) := by omega
       have h0 : (0 : Int) ≤ (kk : Int) := by omega
       obtain ⟨ad, e_, hz0⟩ := at_int HP.out (kk : Int) h0 hltz
       cases e_
       obtain ⟨_, HD⟩ := rd_drop ps kk hlt
       generalize rd ps (kk : Int) = X at hz0 HD
       replace hz0 := mv HB hz0
       simp only [Int.toNat_natCast] at hz0
       have hsd := fun V (hV : Below w.heap.size w V) => sold_any A c l X k V (Kd.C_below HR.out hV)
       cases hsx : soldS l X k with
       | none =>
        rw [hsx] at hsd
        simp only [soldV] at hsd
        have HSd := Aq.mk hsd
        have HE : Aq (r = (0, 61)) := ⟨by rw [HA.out, HD]; simp only [sumV, hsx]⟩
        clear hsd hsx HA HD
        go_wp2_with (go_at_call 86; go_must ((with_reducible refine (HSd.out _ HB.out).mono ?_); rintro e w3 ⟨rfl, hb⟩; have HB2 := Aq.mk (bS_ HB.out hb); clear hb HSd))
        exact bodyPost_ret (v := .tuple #[.int .i64 0, .int .i64 61]) (by simp [results, Tryz.results49, go_sem]) rfl ⟨by rw [HE.out], bA_ HB2.out _⟩
       | some x =>
        rw [hsx] at hsd
        simp only [soldV] at hsd
        have HSd := Aq.mk hsd
        have HA2 : Aq (r = sumV l k (ps.drop (kk + 1)) (wrap64 (a + x.f4))) := ⟨by rw [HA.out, HD]; simp only [sumV, hsx]⟩
        clear hsd hsx HA HD
        go_wp2_with (go_at_call 86; go_must ((with_reducible refine (HSd.out _ HB.out).mono ?_); rintro e w3 ⟨rfl, hb⟩; have HB2 := Aq.mk (bS_ HB.out hb); have hx4 : (w3.alloc (.cells #[.int .i64 x.f0, .int .i64 x.f1, .int .i64 x.f2, .int .i64 x.f3, .int .i64 x.f4, .int .i64 x.f5, .int .i64 x.f6, .int .i64 x.f7, .int .i64 x.f8] 39)).cell? ⟨w3.heap.size, 4, none⟩ = some (.int .i64 x.f4) := (bC_ (heap_alloc_new w3 _) 4).trans rfl; clear hb HSd))
        go_roundg (ps.length - (kk + 1))
        case measure => omega
        case rel => exact ⟨kk + 1, _, by omega, by omega, by rw [← i64_w], by have h2 := H200.out; have h3 := IntWalk.wrap64_in ((kk : Int) + 1) (by omega); first | (rw [i64_w, h3]; rfl) | (rw [h3]; rfl), HA2, ⟨bA_ HB2.out _⟩⟩
      ·have hltz : ¬ (kk : Int) < (ps.length : Int) := by omega
       obtain rfl : kk = ps.length := by omega
       by_cases ha : a > 1000000000000
       ·have haz : decide (a > 1000000000000) = true := decide_eq_true ha
        have HE : Aq (r = (0, 2)) := ⟨by rw [HA.out, List.drop_length]; simp only [sumV]; rw [if_pos ha]⟩
        clear ha HA
        go_wp2
        exact bodyPost_ret (v := .tuple #[.int .i64 0, .int .i64 2]) (by simp [results, Tryz.results49, go_sem]) rfl ⟨by rw [HE.out], HB.out⟩
       ·have haz : decide (a > 1000000000000) = false := decide_eq_false ha
        have HE : Aq (r = (a, 0)) := ⟨by rw [HA.out, List.drop_length]; simp only [sumV]; rw [if_neg ha]⟩
        clear ha HA
        go_wp2
        exact bodyPost_ret (v := .tuple #[.int .i64 a, .int .i64 0]) (by simp [results, Tryz.results49, go_sem]) rfl ⟨by rw [HE.out], HB.out⟩
 ·have hb0 : (e0 != 0) = true := bne_iff_ne.mpr he
  have HE : Aq (r = (0, e0)) := ⟨by rw [HQ.out]; unfold valueF; rw [if_pos (by rw [HK0.out]; exact he), HK0.out]⟩
  clear he HQ HK0
  go_wp2_with (first | (go_at_call 33; go_must ((with_reducible refine HCk.out.mono ?_); rintro e w1 ⟨rfl, hb⟩; have HB := Aq.mk hb; clear hb HCk)))
  exact bodyPost_ret (v := .tuple #[.int .i64 0, .int .i64 e0]) (by simp [results, Tryz.results49, go_sem]) rfl ⟨by rw [HE.out], HB.out⟩
def award_Value.f (l0 : List S39) (l1 : List Int) (a2 : Int) : Option (Int × Int) := if l1.all (fun p => (Lit.int .i64 p).wf) then some (valueF l0 l1 a2) else none
theorem award_Value.calls (A0 : Option Addr) (c0 : Nat) (l0 : List S39) (A1 : Option Addr) (c1 : Nat) (l1 : List Int) (a2 : Int) (r1 : Int) (r2 : Int) (w : World) (hr0 : Kd.C k39 w A0 l0.length l0) (hc0 : l0.length ≤ c0) (hr1 : Kd.C (Kd.int .i64) w A1 l1.length l1) (hc1 : l1.length ≤ c1) (h : award_Value.f l0 l1 a2 = some (r1, r2)) :
  Calls Tryz.prog 49 #[.slice A0 l0.length c0, .slice A1 l1.length c1, .int .i64 a2] w fun e w' => e = .returned (.tuple #[.int .i64 r1, .int .i64 r2]) ∧ Below w.heap.size w w' := by
 unfold award_Value.f at h
 by_cases hl : l1.all (fun p => (Lit.int .i64 p).wf) = true
 ·rw [if_pos hl] at h
  exact value_any A0 c0 l0 A1 c1 l1 a2 w hr0 hc0 hr1 (fun p hp => List.all_eq_true.1 hl p hp) (r1, r2) (Option.some.inj h).symm
 ·rw [if_neg hl] at h
  exact absurd h (by simp)
end
section
attribute [local go_sem] max2_int min2_int max_two min_two max_three min_three max_four min_four
mutual
def laganlaw06_AwardSold.l0 : Nat → List (S39) → Int → Int → List Int → Int → List Int → Int → Option (Bool)
 | 0, _, _, _, _, _, _, _ => none
 | k + 1, x0, x1, x2, x9, x10, x11, x12 => if x12 < (x9.length : Int) then (if x12 > 0 then (if 0 ≤ (wrap64 (x12 - 1)) then (if (wrap64 (x12 - 1)) < (x9.length : Int) then (if 0 ≤ x12 then (laganlaw06_AwardSold.j1 k x0 x1 x2 x9 x10 x11 x12 (decide ((rd x9 (wrap64 (x12 - 1))) ≥ (rd x9 x12)))) else (none)) else (none)) else (none)) else (laganlaw06_AwardSold.j1 k x0 x1 x2 x9 x10 x11 x12 false)) else ((award_Value.f x0 x9 x1).bind fun bt1144 => ((award_Value.f x0 x11 x1).bind fun bt1146 => ((laganlaw06_paid.f).bind fun t1148 => (if t1148 = true then (if bt1144.2 = 0 then (if bt1146.2 = 0 then (if bt1144.1 = x10 then (some (bt1146.1 == x10)) else (some false)) else (some false)) else (some false)) else (some false)))))
def laganlaw06_AwardSold.j1 : Nat → List (S39) → Int → Int → List Int → Int → List Int → Int → Bool → Option (Bool)
 | 0, _, _, _, _, _, _, _, _ => none
 | k + 1, x0, x1, x2, x9, x10, x11, x12, x58 => if x58 = true then (some false) else (if 0 ≤ x12 then (if x12 < (x9.length : Int) then ((award_SaleOf.f x0 (rd x9 x12) x1).bind fun bt1152 => (if bt1152.2.2.2.2.2.2.2.2.2 = 0 then (if bt1152.2.2.2.1 = (rd x9 x12) then (if (IntKind.u64.wrap ((x9.length : Int))) = 0 then (none) else (if (x9.length : Int) = 0 then (none) else (if 0 ≤ (Int.tmod (wrap64 (x12 + (wrap64 (Int.tmod (IntKind.u64.wrap (x2)) (IntKind.u64.wrap ((x9.length : Int))))))) (x9.length : Int)) then (if (Int.tmod (wrap64 (x12 + (wrap64 (Int.tmod (IntKind.u64.wrap (x2)) (IntKind.u64.wrap ((x9.length : Int))))))) (x9.length : Int)) < (x9.length : Int) then (if x11.length < 17592186044416 then (laganlaw06_AwardSold.l0 k x0 x1 x2 x9 (wrap64 (x10 + bt1152.2.2.2.2.1)) (x11 ++ [rd x9 (Int.tmod (wrap64 (x12 + (wrap64 (Int.tmod (IntKind.u64.wrap (x2)) (IntKind.u64.wrap ((x9.length : Int))))))) (x9.length : Int))]) (wrap64 (x12 + 1))) else (none)) else (none)) else (none)))) else (some false)) else (some false))) else (none)) else (none))
end
def laganlaw06_AwardSold.f (k : Nat) (l0 : List (S39)) (a1 : Int) (a2 : Int) : Option (Bool) := if (l0.length : Int) > 30 then ((laganlaw06_paid.f).bind fun t1137 => (some t1137)) else ((award_CheckSales.f l0).bind fun bt1138 => ((award_Sold.f l0 a1).bind fun t1140 => (if bt1138.2 = 0 then (laganlaw06_AwardSold.l0 k l0 a1 a2 t1140 0 ([] : List Int) 0) else ((laganlaw06_paid.f).bind fun t1143 => (if t1143 = true then (some ((t1140.length : Int) == 0)) else (some false))))))
set_option maxHeartbeats 8000000 in
set_option maxRecDepth 100000 in
theorem laganlaw06_AwardSold.calls (k : Nat) (A0 : Option Addr) (c0 : Nat) (l0 : List (S39)) (a1 : Int) (a2 : Int) (r : Bool) (w : World) (hr_ : Aq (r = true)) (hr0 : Kd.C k39 w A0 l0.length l0) (hc0 : l0.length ≤ c0) (h : laganlaw06_AwardSold.f k l0 a1 a2 = some r) :
  Calls Tryz.prog 14 #[.slice A0 l0.length c0, .int .i64 a1, .int .i64 a2] w fun e w' => e = .returned (.bool r) ∧ Below w.heap.size w w' := by
 have hu39 := Tryz.underlying39
 have HR0 := Aq.mk hr0
 have HC0 := Aq.mk hc0
 clear hr0 hc0
 have HB := Aq.mk (Below.refl w.heap.size w)
 have H : (if (l0.length : Int) > 30 then ((laganlaw06_paid.f).bind fun t1137 => (some t1137)) else ((award_CheckSales.f l0).bind fun bt1138 => ((award_Sold.f l0 a1).bind fun t1140 => (if bt1138.2 = 0 then (laganlaw06_AwardSold.l0 k l0 a1 a2 t1140 0 ([] : List Int) 0) else ((laganlaw06_paid.f).bind fun t1143 => (if t1143 = true then (some ((t1140.length : Int) == 0)) else (some false))))))) = some r := h
 clear h
 replace H := oI H; rcases H with ⟨c4, H⟩ | ⟨c4, H⟩
 ·have c4b0 : decide (30 < (l0.length : Int)) = true := decide_eq_true c4
  have c4b1 : decide (30 < l0.length) = true := decide_eq_true (by omega)
  clear c4
  replace H := oB H; obtain ⟨t1137, A5, H⟩ := H
  obtain rfl := Option.some.inj H
  go_enter Tryz.func14, Tryz.ntmps14
  go_wp2_with (first | (go_at_call 16; (with_reducible refine cX (laganlaw06_paid.calls  t1137 _ A5.out) ?_); intro w6 hb; replace HB := yB HB hb; try clear hb))
  repeat (go_quiet (fail); try go_wp2_with (first | (go_at_call 16; (with_reducible refine cX (laganlaw06_paid.calls  t1137 _ A5.out) ?_); intro w6 hb; replace HB := yB HB hb; try clear hb)))
  go_ret
  exact ⟨sE, sB HB.out⟩
 ·have c4b0 : decide (30 < (l0.length : Int)) = false := decide_eq_false c4
  have c4b1 : decide (30 < l0.length) = false := decide_eq_false (by omega)
  clear c4
  replace H := oB H; obtain ⟨⟨t1138, t1139⟩, A7, H⟩ := H
  dsimp only at H
  replace H := oB H; obtain ⟨t1140, A8, H⟩ := H
  replace H := oI H; rcases H with ⟨c9, H⟩ | ⟨c9, H⟩
  ·have c9b0 := bT c9
   have c9b1 := bN c9
   clear c9
   have H' := Aq.mk H
   clear H
   go_enter Tryz.func14, Tryz.ntmps14
   go_wp2_with (first | (go_at_call 33; (with_reducible refine cX (award_CheckSales.calls _ _ l0 t1138 t1139 _ ?side1 ?side2 A7.out) ?_); (case side1 => exact sC HR0.out); (case side2 => exact HC0.out); intro w10 hb; replace HB := yB HB hb; try clear hb) | (go_at_call 51; (with_reducible refine (award_Sold.calls _ _ l0 a1 t1140 _ ?side1 ?side2 A8.out).mono ?_); (case side1 => exact yC HR0 HB); (case side2 => exact HC0.out); rintro e w11 ⟨v1141, rfl, ho0, hb⟩; have HO1142 := Aq.mk (Kd.R_lower ho0 (bZ_ (sB HB.out))); replace HB := yB HB hb; try clear hb; (try clear ho0)))
   repeat (go_quiet (fail); try go_wp2_with (first | (go_at_call 33; (with_reducible refine cX (award_CheckSales.calls _ _ l0 t1138 t1139 _ ?side1 ?side2 A7.out) ?_); (case side1 => exact sC HR0.out); (case side2 => exact HC0.out); intro w10 hb; replace HB := yB HB hb; try clear hb) | (go_at_call 51; (with_reducible refine (award_Sold.calls _ _ l0 a1 t1140 _ ?side1 ?side2 A8.out).mono ?_); (case side1 => exact yC HR0 HB); (case side2 => exact HC0.out); rintro e w11 ⟨v1141, rfl, ho0, hb⟩; have HO1142 := Aq.mk (Kd.R_lower ho0 (bZ_ (sB HB.out))); replace HB := yB HB hb; try clear hb; (try clear ho0))))
   go_loopg [10, 11, 12] k (fun kq v10 v11 v12 w' => ∃ (x10_1 : Int) (x11_1 : List Int) (x12_1 : Int), v10 = .int .i64 x10_1 ∧ v12 = .int .i64 x12_1 ∧ Aq (laganlaw06_AwardSold.l0 kq l0 a1 a2 t1140 x10_1 x11_1 x12_1 = some r) ∧ Aq (kq ≤ k) ∧ Aq (Kd.R (Kd.int .i64) 3 w' w.heap.size (fun k_ => some k_ ≠ (v11 : Value).ownBlock) v1141 t1140) ∧ Aq (Kd.R (Kd.int .i64) 3 w' w.heap.size (fun k_ => some k_ ≠ (v1141 : Value).ownBlock) v11 x11_1) ∧ Aq (Below w.heap.size w w'))
   case atStart => exact ⟨(0), (([] : List Int)), (0), sS, sS, H', ⟨Nat.le_refl _⟩, ⟨by refine wR ?_; exact Kd.R_mono HO1142.out (fun _ hk => (by simp [Value.ownBlock]))⟩, ⟨by first | exact Kd.R_nil _ _ _ _ _ | exact Kd.N_nil _ _ _ _ _ | exact Kd.V_nil _ _ _ _ _ | exact Kd.Q_nil _ _ _ _ _ | exact Kd.S_nil _ _ _ _ _⟩, ⟨sB HB.out⟩⟩
   case round =>
    clear H'
    try clear c4
    try clear c4b0
    try clear c4b1
    try clear c9
    try clear c9b0
    obtain ⟨x10_1, x11_1, x12_1, rfl, rfl, HA, HK1, HO_9, HO_11, HB⟩ := hrel
    cases gk with
    | zero => exact absurd HA.out (by simp [laganlaw06_AwardSold.l0])
    | succ k1 =>
     have H := HA.out
     clear HA
     simp only [laganlaw06_AwardSold.l0] at H
     replace H := oI H; rcases H with ⟨c12, H⟩ | ⟨c12, H⟩
     ·have c12b0 := dT c12
      clear c12
      have HC13 := Aq.mk H
      clear H
      obtain ⟨Ao14, co14, eo14⟩ := Kd.R_slice HO_9.out
      subst eo14
      go_upto_region 12 with (fail)
      repeat (go_quiet (fail); go_upto_region 12 with (fail))
      go_cut [58] (fun v58 wc => ∃ (kq : Nat) (x58_12 : Bool), v58 = .bool x58_12 ∧ Aq (laganlaw06_AwardSold.j1 kq l0 a1 a2 t1140 x10_1 x11_1 x12_1 x58_12 = some r) ∧ Aq (kq ≤ k1) ∧ Aq (Kd.R (Kd.int .i64) 3 wc w.heap.size (fun k_ => some k_ ≠ (u11 : Value).ownBlock) (.slice Ao14 t1140.length co14) t1140) ∧ Aq (Kd.R (Kd.int .i64) 3 wc w.heap.size (fun k_ => some k_ ≠ ((.slice Ao14 t1140.length co14) : Value).ownBlock) u11 x11_1) ∧ Aq (Below w.heap.size w wc))
      case first =>
       have H := HC13.out
       clear HC13
       replace H := oI H; rcases H with ⟨c15, H⟩ | ⟨c15, H⟩
       ·have c15b0 : decide (0 < x12_1) = true := decide_eq_true c15
        clear c15
        (first | rw [c15b0] | (simp only [i64_w, i32_w]; rw [c15b0]) | skip)
        obtain ⟨ji16, hji16⟩ : ∃ j_ : Int, (wrap64 (x12_1 - 1)) = j_ := ⟨_, rfl⟩
        replace H : (if 0 ≤ (ji16) then (if (ji16) < (t1140.length : Int) then (if 0 ≤ x12_1 then (laganlaw06_AwardSold.j1 k1 l0 a1 a2 t1140 x10_1 x11_1 x12_1 (decide ((rd t1140 (ji16)) ≥ (rd t1140 x12_1)))) else (none)) else (none)) else (none)) = some r := by first | (rw [hji16] at H; exact H) | (simp only [hji16] at H ⊢; exact H)
        have hji16w : (IntKind.i64.wrap (x12_1 - 1)) = ji16 := (i64_w _).trans hji16
        replace H := oI H; rcases H with ⟨c17, H⟩ | ⟨c17, H⟩
        ·have c17b0 := dT c17
         clear c17
         replace H := oI H; rcases H with ⟨c18, H⟩ | ⟨c18, H⟩
         ·have c18b0 := dT c18
          clear c18
          replace H := oI H; rcases H with ⟨c19, H⟩ | ⟨c19, H⟩
          ·have c19b0 := dT c19
           clear c19
           have H' := Aq.mk H
           clear H
           have p1149 : 0 ≤ ((ji16) : Int) := oA
           have q1149 : (ji16) < (t1140.length : Int) := oA
           obtain ⟨ad1149, e1149, hx1149_0⟩ := Kd.at_int (Kd.R_reads' HO_9.out).2.2 (ji16) p1149 q1149
           cases e1149
           replace p1149 := eq_true p1149
           replace q1149 := eq_true q1149
           have p1150 : 0 ≤ (x12_1 : Int) := oA
           have q1150 : x12_1 < (t1140.length : Int) := oA
           obtain ⟨ad1150, e1150, hx1150_0⟩ := Kd.at_int (Kd.R_reads' HO_9.out).2.2 x12_1 p1150 q1150
           obtain rfl : ad1149 = ad1150 := (by injection e1150)
           replace p1150 := eq_true p1150
           replace q1150 := eq_true q1150
           go_wp2
           repeat (go_quiet (fail); try go_wp2)
           go_meet
           case rel => exact ⟨_, (decide ((rd t1140 (ji16)) ≥ (rd t1140 x12_1))), (by first | rfl | (simp; done) | (simp only [← hji16] <;> (first | rfl | simp)) | (simp [*]; done)), H', ⟨by have := HK1.out; first | omega | exact Nat.le_refl _⟩, ⟨sR HO_9.out⟩, ⟨sR HO_11.out⟩, ⟨sB HB.out⟩⟩
          ·exact absurd H (by simp)
         ·exact absurd H (by simp)
        ·exact absurd H (by simp)
       ·have c15b0 : decide (0 < x12_1) = false := decide_eq_false c15
        clear c15
        (first | rw [c15b0] | (simp only [i64_w, i32_w]; rw [c15b0]) | skip)
        have H' := Aq.mk H
        clear H
        go_wp2
        repeat (go_quiet (fail); try go_wp2)
        go_meet
        case rel => exact ⟨_, (false), sS, H', ⟨by have := HK1.out; first | omega | exact Nat.le_refl _⟩, ⟨sR HO_9.out⟩, ⟨sR HO_11.out⟩, ⟨sB HB.out⟩⟩
      case rest =>
       clear HC13
       try clear c4
       try clear c4b0
       try clear c4b1
       try clear c9
       try clear c9b0
       try clear c12
       try clear c12b0
       obtain ⟨kq, x58_12, rfl, HA, HJ12, HO_9, HO_11, HB⟩ := hcut
       cases kq with
       | zero => exact absurd HA.out (by simp [laganlaw06_AwardSold.j1])
       | succ kj12 =>
        have H := HA.out
        clear HA
        simp only [laganlaw06_AwardSold.j1] at H
        replace H := oT H; rcases H with ⟨rfl, H⟩ | ⟨rfl, H⟩
        ·obtain rfl := Option.some.inj H
         exact absurd hr_.out (by decide)
        ·replace H := oI H; rcases H with ⟨c21, H⟩ | ⟨c21, H⟩
         ·have c21b0 := dT c21
          clear c21
          replace H := oI H; rcases H with ⟨c22, H⟩ | ⟨c22, H⟩
          ·have c22b0 := dT c22
           clear c22
           replace H := oB H; obtain ⟨⟨t1152, t1153, t1154, t1155, t1156, t1157, t1158, t1159, t1160, t1161⟩, A23, H⟩ := H
           dsimp only at H
           replace H := oI H; rcases H with ⟨c24, H⟩ | ⟨c24, H⟩
           ·have c24b0 := bT c24
            have c24b1 := bN c24
            clear c24
            replace H := oI H; rcases H with ⟨c25, H⟩ | ⟨c25, H⟩
            ·have c25b0 := bT c25
             have c25b1 := bN c25
             clear c25
             replace H := oI H; rcases H with ⟨c26, H⟩ | ⟨c26, H⟩
             ·exact absurd H (by simp)
             ·have c26b0 := bF c26
              have c26b1 := bM c26
              replace H := oI H; rcases H with ⟨c27, H⟩ | ⟨c27, H⟩
              ·exact absurd H (by simp)
              ·have c27b0 := bF c27
               have c27b1 := bM c27
               have c27b2 : ¬ (t1140 = []) := fun h_ => c27 (by rw [h_]; rfl)
               obtain ⟨ji28, hji28⟩ : ∃ j_ : Int, (Int.tmod (wrap64 (x12_1 + (wrap64 (Int.tmod (IntKind.u64.wrap (a2)) (IntKind.u64.wrap ((t1140.length : Int))))))) (t1140.length : Int)) = j_ := ⟨_, rfl⟩
               replace H : (if 0 ≤ (ji28) then (if (ji28) < (t1140.length : Int) then (if x11_1.length < 17592186044416 then (laganlaw06_AwardSold.l0 kj12 l0 a1 a2 t1140 (wrap64 (x10_1 + t1156)) (x11_1 ++ [rd t1140 (ji28)]) (wrap64 (x12_1 + 1))) else (none)) else (none)) else (none)) = some r := by first | (rw [hji28] at H; exact H) | (simp only [hji28] at H ⊢; exact H)
               (try rw [hji28] at A23)
               replace H := oI H; rcases H with ⟨c29, H⟩ | ⟨c29, H⟩
               ·have c29b0 := dT c29
                clear c29
                replace H := oI H; rcases H with ⟨c30, H⟩ | ⟨c30, H⟩
                ·have c30b0 := dT c30
                 clear c30
                 replace H := oI H; rcases H with ⟨c31, H⟩ | ⟨c31, H⟩
                 ·have LMc31 := Aq.mk c31
                  clear c31
                  obtain ⟨y1165, hy1165⟩ : ∃ y_ : List Int, y_ = (x11_1 ++ [rd t1140 (ji28)]) := ⟨_, rfl⟩
                  replace H : (laganlaw06_AwardSold.l0 kj12 l0 a1 a2 t1140 (wrap64 (x10_1 + t1156)) y1165 (wrap64 (x12_1 + 1))) = some r := by first | (rw [hy1165]; with_reducible exact H) | (have H2_ := (Option.bind_some _ _).symm.trans H; rw [hy1165]; with_reducible exact H2_) | (have H2_ := (Option.bind_some _ _).symm.trans H; with_reducible exact H2_) | with_reducible exact H | (rw [hy1165]; exact H) | exact H
                  have Ny1165 := Aq.mk hy1165
                  clear hy1165
                  have H' := Aq.mk H
                  clear H
                  have p1151 : 0 ≤ (x12_1 : Int) := oA
                  have q1151 : x12_1 < (t1140.length : Int) := oA
                  obtain ⟨ad1151, e1151, hx1151_0⟩ := Kd.at_int (Kd.R_reads' HO_9.out).2.2 x12_1 p1151 q1151
                  cases e1151
                  replace p1151 := eq_true p1151
                  replace q1151 := eq_true q1151
                  go_wp2_with (first | (go_at_call 47; (with_reducible refine cX (award_SaleOf.calls _ _ l0 (rd t1140 x12_1) a1 t1152 t1153 t1154 t1155 t1156 t1157 t1158 t1159 t1160 t1161 _ ?side1 ?side2 A23.out) ?_); (case side1 => exact yC HR0 HB); (case side2 => exact HC0.out); intro w32 hb; replace HO_9 := yR HO_9 hb; replace HO_11 := yR HO_11 hb; replace HB := yB HB hb; try clear hb) | ((with_reducible refine gD_ (N := 13) rfl ?_); (try (refine gate_guard (by rfl) ?_; dsimp only)); refine bxE (N := 13) #[.int .i64 0, .int .i64 0, .int .i64 0, .int .i64 0, .int .i64 0, .int .i64 0, .int .i64 0, .int .i64 0, .int .i64 0] 39 ?_; intro gb1162 hg w33 hbox hb; have BK1162 := Aq.mk hbox; have GW1162 := yS HB hg; have GE1162 := yS HB hg; replace HO_9 := yR HO_9 hb; replace HO_11 := yR HO_11 hb; replace HB := yB HB hb; clear hb hbox hg; obtain ⟨hcz34_0, hcz34_1, hcz34_2, hcz34_3, hcz34_4, hcz34_5, hcz34_6, hcz34_7, hcz34_8, hfz34_0, hfz34_1, hfz34_2, hfz34_3, hfz34_4, hfz34_5, hfz34_6, hfz34_7, hfz34_8⟩ := cf9 BK1162.out; have p1163 : 0 ≤ (x12_1 : Int) := oA; have q1163 : x12_1 < (t1140.length : Int) := oA; obtain ⟨ad1163, e1163, hx1163_0⟩ := Kd.at_int (Kd.R_reads' HO_9.out).2.2 x12_1 p1163 q1163; obtain rfl : ad1151 = ad1163 := (by injection e1163); have hn1163_0 : ad1151.block ≠ gb1162 := Kd.own_blk (Kd.R_ne HO_9.out BK1162.out (by decide)); have hn1163_1 : ad1151.block ≠ gb1162 := Kd.own_blk (Kd.R_ne HO_9.out BK1162.out (by decide)); have hn1163_2 : ad1151.block ≠ gb1162 := Kd.own_blk (Kd.R_ne HO_9.out BK1162.out (by decide)); have hn1163_3 : ad1151.block ≠ gb1162 := Kd.own_blk (Kd.R_ne HO_9.out BK1162.out (by decide)); have hn1163_4 : ad1151.block ≠ gb1162 := Kd.own_blk (Kd.R_ne HO_9.out BK1162.out (by decide)); have hn1163_5 : ad1151.block ≠ gb1162 := Kd.own_blk (Kd.R_ne HO_9.out BK1162.out (by decide)); have hn1163_6 : ad1151.block ≠ gb1162 := Kd.own_blk (Kd.R_ne HO_9.out BK1162.out (by decide)); have hn1163_7 : ad1151.block ≠ gb1162 := Kd.own_blk (Kd.R_ne HO_9.out BK1162.out (by decide)); have hn1163_8 : ad1151.block ≠ gb1162 := Kd.own_blk (Kd.R_ne HO_9.out BK1162.out (by decide)); replace hx1163_0 := (cell_far (p := ⟨gb1162, 0, none⟩) (by first | (rw [add_block]; exact hn1163_0) | (show (Addr.add _ _).block ≠ _; rw [add_block]; exact hn1163_0) | exact hn1163_0) (.int .i64 t1152)).trans hx1163_0; replace hx1163_0 := (cell_far (p := ⟨gb1162, 1, none⟩) (by first | (rw [add_block]; exact hn1163_1) | (show (Addr.add _ _).block ≠ _; rw [add_block]; exact hn1163_1) | exact hn1163_1) (.int .i64 t1153)).trans hx1163_0; replace hx1163_0 := (cell_far (p := ⟨gb1162, 2, none⟩) (by first | (rw [add_block]; exact hn1163_2) | (show (Addr.add _ _).block ≠ _; rw [add_block]; exact hn1163_2) | exact hn1163_2) (.int .i64 t1154)).trans hx1163_0; replace hx1163_0 := (cell_far (p := ⟨gb1162, 3, none⟩) (by first | (rw [add_block]; exact hn1163_3) | (show (Addr.add _ _).block ≠ _; rw [add_block]; exact hn1163_3) | exact hn1163_3) (.int .i64 t1155)).trans hx1163_0; replace hx1163_0 := (cell_far (p := ⟨gb1162, 4, none⟩) (by first | (rw [add_block]; exact hn1163_4) | (show (Addr.add _ _).block ≠ _; rw [add_block]; exact hn1163_4) | exact hn1163_4) (.int .i64 t1156)).trans hx1163_0; replace hx1163_0 := (cell_far (p := ⟨gb1162, 5, none⟩) (by first | (rw [add_block]; exact hn1163_5) | (show (Addr.add _ _).block ≠ _; rw [add_block]; exact hn1163_5) | exact hn1163_5) (.int .i64 t1157)).trans hx1163_0; replace hx1163_0 := (cell_far (p := ⟨gb1162, 6, none⟩) (by first | (rw [add_block]; exact hn1163_6) | (show (Addr.add _ _).block ≠ _; rw [add_block]; exact hn1163_6) | exact hn1163_6) (.int .i64 t1158)).trans hx1163_0; replace hx1163_0 := (cell_far (p := ⟨gb1162, 7, none⟩) (by first | (rw [add_block]; exact hn1163_7) | (show (Addr.add _ _).block ≠ _; rw [add_block]; exact hn1163_7) | exact hn1163_7) (.int .i64 t1159)).trans hx1163_0; replace hx1163_0 := (cell_far (p := ⟨gb1162, 8, none⟩) (by first | (rw [add_block]; exact hn1163_8) | (show (Addr.add _ _).block ≠ _; rw [add_block]; exact hn1163_8) | exact hn1163_8) (.int .i64 t1160)).trans hx1163_0; clear hn1163_0; clear hn1163_1; clear hn1163_2; clear hn1163_3; clear hn1163_4; clear hn1163_5; clear hn1163_6; clear hn1163_7; clear hn1163_8; replace p1163 := eq_true p1163; replace q1163 := eq_true q1163; have p1164 : 0 ≤ ((ji28) : Int) := oA; have q1164 : (ji28) < (t1140.length : Int) := oA; obtain ⟨ad1164, e1164, hx1164_0⟩ := Kd.at_int (Kd.R_reads' HO_9.out).2.2 (ji28) p1164 q1164; obtain rfl : ad1151 = ad1164 := (by injection e1164); have hn1164_0 : ad1151.block ≠ gb1162 := Kd.own_blk (Kd.R_ne HO_9.out BK1162.out (by decide)); have hn1164_1 : ad1151.block ≠ gb1162 := Kd.own_blk (Kd.R_ne HO_9.out BK1162.out (by decide)); have hn1164_2 : ad1151.block ≠ gb1162 := Kd.own_blk (Kd.R_ne HO_9.out BK1162.out (by decide)); have hn1164_3 : ad1151.block ≠ gb1162 := Kd.own_blk (Kd.R_ne HO_9.out BK1162.out (by decide)); have hn1164_4 : ad1151.block ≠ gb1162 := Kd.own_blk (Kd.R_ne HO_9.out BK1162.out (by decide)); have hn1164_5 : ad1151.block ≠ gb1162 := Kd.own_blk (Kd.R_ne HO_9.out BK1162.out (by decide)); have hn1164_6 : ad1151.block ≠ gb1162 := Kd.own_blk (Kd.R_ne HO_9.out BK1162.out (by decide)); have hn1164_7 : ad1151.block ≠ gb1162 := Kd.own_blk (Kd.R_ne HO_9.out BK1162.out (by decide)); have hn1164_8 : ad1151.block ≠ gb1162 := Kd.own_blk (Kd.R_ne HO_9.out BK1162.out (by decide)); replace hx1164_0 := (cell_far (p := ⟨gb1162, 0, none⟩) (by first | (rw [add_block]; exact hn1164_0) | (show (Addr.add _ _).block ≠ _; rw [add_block]; exact hn1164_0) | exact hn1164_0) (.int .i64 t1152)).trans hx1164_0; replace hx1164_0 := (cell_far (p := ⟨gb1162, 1, none⟩) (by first | (rw [add_block]; exact hn1164_1) | (show (Addr.add _ _).block ≠ _; rw [add_block]; exact hn1164_1) | exact hn1164_1) (.int .i64 t1153)).trans hx1164_0; replace hx1164_0 := (cell_far (p := ⟨gb1162, 2, none⟩) (by first | (rw [add_block]; exact hn1164_2) | (show (Addr.add _ _).block ≠ _; rw [add_block]; exact hn1164_2) | exact hn1164_2) (.int .i64 t1154)).trans hx1164_0; replace hx1164_0 := (cell_far (p := ⟨gb1162, 3, none⟩) (by first | (rw [add_block]; exact hn1164_3) | (show (Addr.add _ _).block ≠ _; rw [add_block]; exact hn1164_3) | exact hn1164_3) (.int .i64 t1155)).trans hx1164_0; replace hx1164_0 := (cell_far (p := ⟨gb1162, 4, none⟩) (by first | (rw [add_block]; exact hn1164_4) | (show (Addr.add _ _).block ≠ _; rw [add_block]; exact hn1164_4) | exact hn1164_4) (.int .i64 t1156)).trans hx1164_0; replace hx1164_0 := (cell_far (p := ⟨gb1162, 5, none⟩) (by first | (rw [add_block]; exact hn1164_5) | (show (Addr.add _ _).block ≠ _; rw [add_block]; exact hn1164_5) | exact hn1164_5) (.int .i64 t1157)).trans hx1164_0; replace hx1164_0 := (cell_far (p := ⟨gb1162, 6, none⟩) (by first | (rw [add_block]; exact hn1164_6) | (show (Addr.add _ _).block ≠ _; rw [add_block]; exact hn1164_6) | exact hn1164_6) (.int .i64 t1158)).trans hx1164_0; replace hx1164_0 := (cell_far (p := ⟨gb1162, 7, none⟩) (by first | (rw [add_block]; exact hn1164_7) | (show (Addr.add _ _).block ≠ _; rw [add_block]; exact hn1164_7) | exact hn1164_7) (.int .i64 t1159)).trans hx1164_0; replace hx1164_0 := (cell_far (p := ⟨gb1162, 8, none⟩) (by first | (rw [add_block]; exact hn1164_8) | (show (Addr.add _ _).block ≠ _; rw [add_block]; exact hn1164_8) | exact hn1164_8) (.int .i64 t1160)).trans hx1164_0; clear hn1164_0; clear hn1164_1; clear hn1164_2; clear hn1164_3; clear hn1164_4; clear hn1164_5; clear hn1164_6; clear hn1164_7; clear hn1164_8; replace p1164 := eq_true p1164; replace q1164 := eq_true q1164) | ((with_reducible refine gate_builtin (b := .append) (xs := #[.tmp 84, .tmp 100]) rfl ?_); (try (refine gate_guard (by rfl) ?_; dsimp only)); at_builtin; refine Kd.R_append (Kd.int .i64) (w0 := w) w.heap.size rfl (.tmp 84) (.tmp 100) 35 3 (.int .i64 0) 8 rfl Tryz.underlying35 info3 rfl (by decide) (by omega) u11 x11_1 (rd t1140 (ji28)) [.int .i64 (rd t1140 (ji28))] (fun k_ => some k_ ≠ (.slice (some ad1151) t1140.length co14 : Value).ownBlock) (fun _ => False) rfl (by first | (go_simp; done) | (go_simp; rfl)) ?aP (fun _ hk => hk.elim) ?aF ?aO ?aB ?aS ?aL ?_; (case aP => exact rfl); (case aB => exact (sB HB.out)); (case aF => exact (fun k_ hk => Kd.fresh' (Kd.R_lt (by refine wR ?_; exact (Kd.R_mono (rf9 (Kd.R_types HO_9.out BK1162.out (by decide))) (fun _ h_ => h_.1)))) k_ hk)); (case aO => exact (by refine wR ?_; exact Kd.R_mono (rf9 (Kd.R_types HO_11.out BK1162.out (by decide))) (fun _ hk => hk.1))); (case aS => exact (bZ_ (sB HB.out))); (case aL => have := LMc31.out; omega); intro v1166 w35 ho hb hg hat; rw [← Ny1165.out] at ho; have HO1167 := Aq.mk ho; replace HO_9 := Aq.mk (Kd.R_after (ok := (fun _ => True)) (by refine wR ?_; exact Kd.R_mono (rf9 (Kd.R_types HO_9.out BK1162.out (by decide))) (fun _ hk => ⟨trivial, hk.1⟩)) hg hat); replace BK1162 := Aq.mk (blk_grown (g := gb1162) (o := .cells #[.int .i64 t1152, .int .i64 t1153, .int .i64 t1154, .int .i64 t1155, .int .i64 t1156, .int .i64 t1157, .int .i64 t1158, .int .i64 t1159, .int .i64 t1160] 39 (0, 0)) (by refine wB ?_; refine pt9 (u0 := .int .i64 0) (u1 := .int .i64 0) (u2 := .int .i64 0) (u3 := .int .i64 0) (u4 := .int .i64 0) (u5 := .int .i64 0) (u6 := .int .i64 0) (u7 := .int .i64 0) (u8 := .int .i64 0) ?_; refine wB ?_; exact BK1162.out) hg (Kd.R_ne HO_11.out BK1162.out (by decide))); replace HB := Aq.mk hb; clear HO_11; clear ho hb hg hat))
                  repeat (go_quiet (fail); try go_wp2_with (first | (go_at_call 47; (with_reducible refine cX (award_SaleOf.calls _ _ l0 (rd t1140 x12_1) a1 t1152 t1153 t1154 t1155 t1156 t1157 t1158 t1159 t1160 t1161 _ ?side1 ?side2 A23.out) ?_); (case side1 => exact yC HR0 HB); (case side2 => exact HC0.out); intro w32 hb; replace HO_9 := yR HO_9 hb; replace HO_11 := yR HO_11 hb; replace HB := yB HB hb; try clear hb) | ((with_reducible refine gD_ (N := 13) rfl ?_); (try (refine gate_guard (by rfl) ?_; dsimp only)); refine bxE (N := 13) #[.int .i64 0, .int .i64 0, .int .i64 0, .int .i64 0, .int .i64 0, .int .i64 0, .int .i64 0, .int .i64 0, .int .i64 0] 39 ?_; intro gb1162 hg w33 hbox hb; have BK1162 := Aq.mk hbox; have GW1162 := yS HB hg; have GE1162 := yS HB hg; replace HO_9 := yR HO_9 hb; replace HO_11 := yR HO_11 hb; replace HB := yB HB hb; clear hb hbox hg; obtain ⟨hcz34_0, hcz34_1, hcz34_2, hcz34_3, hcz34_4, hcz34_5, hcz34_6, hcz34_7, hcz34_8, hfz34_0, hfz34_1, hfz34_2, hfz34_3, hfz34_4, hfz34_5, hfz34_6, hfz34_7, hfz34_8⟩ := cf9 BK1162.out; have p1163 : 0 ≤ (x12_1 : Int) := oA; have q1163 : x12_1 < (t1140.length : Int) := oA; obtain ⟨ad1163, e1163, hx1163_0⟩ := Kd.at_int (Kd.R_reads' HO_9.out).2.2 x12_1 p1163 q1163; obtain rfl : ad1151 = ad1163 := (by injection e1163); have hn1163_0 : ad1151.block ≠ gb1162 := Kd.own_blk (Kd.R_ne HO_9.out BK1162.out (by decide)); have hn1163_1 : ad1151.block ≠ gb1162 := Kd.own_blk (Kd.R_ne HO_9.out BK1162.out (by decide)); have hn1163_2 : ad1151.block ≠ gb1162 := Kd.own_blk (Kd.R_ne HO_9.out BK1162.out (by decide)); have hn1163_3 : ad1151.block ≠ gb1162 := Kd.own_blk (Kd.R_ne HO_9.out BK1162.out (by decide)); have hn1163_4 : ad1151.block ≠ gb1162 := Kd.own_blk (Kd.R_ne HO_9.out BK1162.out (by decide)); have hn1163_5 : ad1151.block ≠ gb1162 := Kd.own_blk (Kd.R_ne HO_9.out BK1162.out (by decide)); have hn1163_6 : ad1151.block ≠ gb1162 := Kd.own_blk (Kd.R_ne HO_9.out BK1162.out (by decide)); have hn1163_7 : ad1151.block ≠ gb1162 := Kd.own_blk (Kd.R_ne HO_9.out BK1162.out (by decide)); have hn1163_8 : ad1151.block ≠ gb1162 := Kd.own_blk (Kd.R_ne HO_9.out BK1162.out (by decide)); replace hx1163_0 := (cell_far (p := ⟨gb1162, 0, none⟩) (by first | (rw [add_block]; exact hn1163_0) | (show (Addr.add _ _).block ≠ _; rw [add_block]; exact hn1163_0) | exact hn1163_0) (.int .i64 t1152)).trans hx1163_0; replace hx1163_0 := (cell_far (p := ⟨gb1162, 1, none⟩) (by first | (rw [add_block]; exact hn1163_1) | (show (Addr.add _ _).block ≠ _; rw [add_block]; exact hn1163_1) | exact hn1163_1) (.int .i64 t1153)).trans hx1163_0; replace hx1163_0 := (cell_far (p := ⟨gb1162, 2, none⟩) (by first | (rw [add_block]; exact hn1163_2) | (show (Addr.add _ _).block ≠ _; rw [add_block]; exact hn1163_2) | exact hn1163_2) (.int .i64 t1154)).trans hx1163_0; replace hx1163_0 := (cell_far (p := ⟨gb1162, 3, none⟩) (by first | (rw [add_block]; exact hn1163_3) | (show (Addr.add _ _).block ≠ _; rw [add_block]; exact hn1163_3) | exact hn1163_3) (.int .i64 t1155)).trans hx1163_0; replace hx1163_0 := (cell_far (p := ⟨gb1162, 4, none⟩) (by first | (rw [add_block]; exact hn1163_4) | (show (Addr.add _ _).block ≠ _; rw [add_block]; exact hn1163_4) | exact hn1163_4) (.int .i64 t1156)).trans hx1163_0; replace hx1163_0 := (cell_far (p := ⟨gb1162, 5, none⟩) (by first | (rw [add_block]; exact hn1163_5) | (show (Addr.add _ _).block ≠ _; rw [add_block]; exact hn1163_5) | exact hn1163_5) (.int .i64 t1157)).trans hx1163_0; replace hx1163_0 := (cell_far (p := ⟨gb1162, 6, none⟩) (by first | (rw [add_block]; exact hn1163_6) | (show (Addr.add _ _).block ≠ _; rw [add_block]; exact hn1163_6) | exact hn1163_6) (.int .i64 t1158)).trans hx1163_0; replace hx1163_0 := (cell_far (p := ⟨gb1162, 7, none⟩) (by first | (rw [add_block]; exact hn1163_7) | (show (Addr.add _ _).block ≠ _; rw [add_block]; exact hn1163_7) | exact hn1163_7) (.int .i64 t1159)).trans hx1163_0; replace hx1163_0 := (cell_far (p := ⟨gb1162, 8, none⟩) (by first | (rw [add_block]; exact hn1163_8) | (show (Addr.add _ _).block ≠ _; rw [add_block]; exact hn1163_8) | exact hn1163_8) (.int .i64 t1160)).trans hx1163_0; clear hn1163_0; clear hn1163_1; clear hn1163_2; clear hn1163_3; clear hn1163_4; clear hn1163_5; clear hn1163_6; clear hn1163_7; clear hn1163_8; replace p1163 := eq_true p1163; replace q1163 := eq_true q1163; have p1164 : 0 ≤ ((ji28) : Int) := oA; have q1164 : (ji28) < (t1140.length : Int) := oA; obtain ⟨ad1164, e1164, hx1164_0⟩ := Kd.at_int (Kd.R_reads' HO_9.out).2.2 (ji28) p1164 q1164; obtain rfl : ad1151 = ad1164 := (by injection e1164); have hn1164_0 : ad1151.block ≠ gb1162 := Kd.own_blk (Kd.R_ne HO_9.out BK1162.out (by decide)); have hn1164_1 : ad1151.block ≠ gb1162 := Kd.own_blk (Kd.R_ne HO_9.out BK1162.out (by decide)); have hn1164_2 : ad1151.block ≠ gb1162 := Kd.own_blk (Kd.R_ne HO_9.out BK1162.out (by decide)); have hn1164_3 : ad1151.block ≠ gb1162 := Kd.own_blk (Kd.R_ne HO_9.out BK1162.out (by decide)); have hn1164_4 : ad1151.block ≠ gb1162 := Kd.own_blk (Kd.R_ne HO_9.out BK1162.out (by decide)); have hn1164_5 : ad1151.block ≠ gb1162 := Kd.own_blk (Kd.R_ne HO_9.out BK1162.out (by decide)); have hn1164_6 : ad1151.block ≠ gb1162 := Kd.own_blk (Kd.R_ne HO_9.out BK1162.out (by decide)); have hn1164_7 : ad1151.block ≠ gb1162 := Kd.own_blk (Kd.R_ne HO_9.out BK1162.out (by decide)); have hn1164_8 : ad1151.block ≠ gb1162 := Kd.own_blk (Kd.R_ne HO_9.out BK1162.out (by decide)); replace hx1164_0 := (cell_far (p := ⟨gb1162, 0, none⟩) (by first | (rw [add_block]; exact hn1164_0) | (show (Addr.add _ _).block ≠ _; rw [add_block]; exact hn1164_0) | exact hn1164_0) (.int .i64 t1152)).trans hx1164_0; replace hx1164_0 := (cell_far (p := ⟨gb1162, 1, none⟩) (by first | (rw [add_block]; exact hn1164_1) | (show (Addr.add _ _).block ≠ _; rw [add_block]; exact hn1164_1) | exact hn1164_1) (.int .i64 t1153)).trans hx1164_0; replace hx1164_0 := (cell_far (p := ⟨gb1162, 2, none⟩) (by first | (rw [add_block]; exact hn1164_2) | (show (Addr.add _ _).block ≠ _; rw [add_block]; exact hn1164_2) | exact hn1164_2) (.int .i64 t1154)).trans hx1164_0; replace hx1164_0 := (cell_far (p := ⟨gb1162, 3, none⟩) (by first | (rw [add_block]; exact hn1164_3) | (show (Addr.add _ _).block ≠ _; rw [add_block]; exact hn1164_3) | exact hn1164_3) (.int .i64 t1155)).trans hx1164_0; replace hx1164_0 := (cell_far (p := ⟨gb1162, 4, none⟩) (by first | (rw [add_block]; exact hn1164_4) | (show (Addr.add _ _).block ≠ _; rw [add_block]; exact hn1164_4) | exact hn1164_4) (.int .i64 t1156)).trans hx1164_0; replace hx1164_0 := (cell_far (p := ⟨gb1162, 5, none⟩) (by first | (rw [add_block]; exact hn1164_5) | (show (Addr.add _ _).block ≠ _; rw [add_block]; exact hn1164_5) | exact hn1164_5) (.int .i64 t1157)).trans hx1164_0; replace hx1164_0 := (cell_far (p := ⟨gb1162, 6, none⟩) (by first | (rw [add_block]; exact hn1164_6) | (show (Addr.add _ _).block ≠ _; rw [add_block]; exact hn1164_6) | exact hn1164_6) (.int .i64 t1158)).trans hx1164_0; replace hx1164_0 := (cell_far (p := ⟨gb1162, 7, none⟩) (by first | (rw [add_block]; exact hn1164_7) | (show (Addr.add _ _).block ≠ _; rw [add_block]; exact hn1164_7) | exact hn1164_7) (.int .i64 t1159)).trans hx1164_0; replace hx1164_0 := (cell_far (p := ⟨gb1162, 8, none⟩) (by first | (rw [add_block]; exact hn1164_8) | (show (Addr.add _ _).block ≠ _; rw [add_block]; exact hn1164_8) | exact hn1164_8) (.int .i64 t1160)).trans hx1164_0; clear hn1164_0; clear hn1164_1; clear hn1164_2; clear hn1164_3; clear hn1164_4; clear hn1164_5; clear hn1164_6; clear hn1164_7; clear hn1164_8; replace p1164 := eq_true p1164; replace q1164 := eq_true q1164) | ((with_reducible refine gate_builtin (b := .append) (xs := #[.tmp 84, .tmp 100]) rfl ?_); (try (refine gate_guard (by rfl) ?_; dsimp only)); at_builtin; refine Kd.R_append (Kd.int .i64) (w0 := w) w.heap.size rfl (.tmp 84) (.tmp 100) 35 3 (.int .i64 0) 8 rfl Tryz.underlying35 info3 rfl (by decide) (by omega) u11 x11_1 (rd t1140 (ji28)) [.int .i64 (rd t1140 (ji28))] (fun k_ => some k_ ≠ (.slice (some ad1151) t1140.length co14 : Value).ownBlock) (fun _ => False) rfl (by first | (go_simp; done) | (go_simp; rfl)) ?aP (fun _ hk => hk.elim) ?aF ?aO ?aB ?aS ?aL ?_; (case aP => exact rfl); (case aB => exact (sB HB.out)); (case aF => exact (fun k_ hk => Kd.fresh' (Kd.R_lt (by refine wR ?_; exact (Kd.R_mono (rf9 (Kd.R_types HO_9.out BK1162.out (by decide))) (fun _ h_ => h_.1)))) k_ hk)); (case aO => exact (by refine wR ?_; exact Kd.R_mono (rf9 (Kd.R_types HO_11.out BK1162.out (by decide))) (fun _ hk => hk.1))); (case aS => exact (bZ_ (sB HB.out))); (case aL => have := LMc31.out; omega); intro v1166 w35 ho hb hg hat; rw [← Ny1165.out] at ho; have HO1167 := Aq.mk ho; replace HO_9 := Aq.mk (Kd.R_after (ok := (fun _ => True)) (by refine wR ?_; exact Kd.R_mono (rf9 (Kd.R_types HO_9.out BK1162.out (by decide))) (fun _ hk => ⟨trivial, hk.1⟩)) hg hat); replace BK1162 := Aq.mk (blk_grown (g := gb1162) (o := .cells #[.int .i64 t1152, .int .i64 t1153, .int .i64 t1154, .int .i64 t1155, .int .i64 t1156, .int .i64 t1157, .int .i64 t1158, .int .i64 t1159, .int .i64 t1160] 39 (0, 0)) (by refine wB ?_; refine pt9 (u0 := .int .i64 0) (u1 := .int .i64 0) (u2 := .int .i64 0) (u3 := .int .i64 0) (u4 := .int .i64 0) (u5 := .int .i64 0) (u6 := .int .i64 0) (u7 := .int .i64 0) (u8 := .int .i64 0) ?_; refine wB ?_; exact BK1162.out) hg (Kd.R_ne HO_11.out BK1162.out (by decide))); replace HB := Aq.mk hb; clear HO_11; clear ho hb hg hat)))
                  go_roundg kj12
                  case measure => have := HK1.out; have := HJ12.out; omega
                  case rel => exact ⟨(wrap64 (x10_1 + t1156)), (y1165), (wrap64 (x12_1 + 1)), sS, sS, H', ⟨by have := HK1.out; have := HJ12.out; omega⟩, ⟨by refine wR ?_; exact Kd.R_mono HO_9.out (fun _ hk => hk.2)⟩, ⟨sR HO1167.out⟩, ⟨sB HB.out⟩⟩
                 ·exact absurd H (by simp)
                ·exact absurd H (by simp)
               ·exact absurd H (by simp)
            ·have c25b0 := bF c25
             have c25b1 := bM c25
             obtain rfl := Option.some.inj H
             exact absurd hr_.out (by decide)
           ·have c24b0 := bF c24
            have c24b1 := bM c24
            obtain rfl := Option.some.inj H
            exact absurd hr_.out (by decide)
          ·exact absurd H (by simp)
         ·exact absurd H (by simp)
     ·have c12b0 := dF c12
      clear c12
      replace H := oB H; obtain ⟨⟨t1144, t1145⟩, A36, H⟩ := H
      dsimp only at H
      replace H := oB H; obtain ⟨⟨t1146, t1147⟩, A37, H⟩ := H
      dsimp only at H
      replace H := oB H; obtain ⟨t1148, A38, H⟩ := H
      replace H := oT H; rcases H with ⟨rfl, H⟩ | ⟨rfl, H⟩
      ·replace H := oI H; rcases H with ⟨c40, H⟩ | ⟨c40, H⟩
       ·have c40b0 := bT c40
        have c40b1 := bN c40
        clear c40
        replace H := oI H; rcases H with ⟨c41, H⟩ | ⟨c41, H⟩
        ·have c41b0 := bT c41
         have c41b1 := bN c41
         clear c41
         replace H := oI H; rcases H with ⟨c42, H⟩ | ⟨c42, H⟩
         ·have c42b0 := bT c42
          have c42b1 := bN c42
          clear c42
          obtain rfl := Option.some.inj H
          obtain ⟨Ao43, co43, eo43⟩ := Kd.R_slice HO_9.out
          subst eo43
          go_wp2_with (first | (go_at_call 49; (with_reducible refine (award_Value.calls _ _ l0 _ _ t1140 a1 t1144 t1145 _ ?side1 ?side2 ?side3 ?side4 A36.out).mono ?_); (case side1 => exact yC HR0 HB); (case side2 => exact HC0.out); (case side3 => exact sC (Kd.R_reads' HO_9.out).2.2); (case side4 => exact (Kd.R_reads' HO_9.out).2.1); rintro e w44 ⟨rfl, hb⟩; replace HO_9 := yR HO_9 hb; replace HO_11 := yR HO_11 hb; replace HB := yB HB hb; try clear hb; obtain ⟨Ao45, co45, eo45⟩ := Kd.R_slice HO_11.out; subst eo45) | (go_at_call 49; (with_reducible refine (award_Value.calls _ _ l0 _ _ x11_1 a1 t1146 t1147 _ ?side1 ?side2 ?side3 ?side4 A37.out).mono ?_); (case side1 => exact yC HR0 HB); (case side2 => exact HC0.out); (case side3 => exact sC (Kd.R_reads' HO_11.out).2.2); (case side4 => exact (Kd.R_reads' HO_11.out).2.1); rintro e w46 ⟨rfl, hb⟩; replace HO_9 := yR HO_9 hb; replace HO_11 := yR HO_11 hb; replace HB := yB HB hb; try clear hb) | (go_at_call 16; (with_reducible refine cX (laganlaw06_paid.calls  true _ A38.out) ?_); intro w47 hb; replace HO_9 := yR HO_9 hb; replace HO_11 := yR HO_11 hb; replace HB := yB HB hb; try clear hb))
          repeat (go_quiet (fail); try go_wp2_with (first | (go_at_call 49; (with_reducible refine (award_Value.calls _ _ l0 _ _ t1140 a1 t1144 t1145 _ ?side1 ?side2 ?side3 ?side4 A36.out).mono ?_); (case side1 => exact yC HR0 HB); (case side2 => exact HC0.out); (case side3 => exact sC (Kd.R_reads' HO_9.out).2.2); (case side4 => exact (Kd.R_reads' HO_9.out).2.1); rintro e w44 ⟨rfl, hb⟩; replace HO_9 := yR HO_9 hb; replace HO_11 := yR HO_11 hb; replace HB := yB HB hb; try clear hb; obtain ⟨Ao45, co45, eo45⟩ := Kd.R_slice HO_11.out; subst eo45) | (go_at_call 49; (with_reducible refine (award_Value.calls _ _ l0 _ _ x11_1 a1 t1146 t1147 _ ?side1 ?side2 ?side3 ?side4 A37.out).mono ?_); (case side1 => exact yC HR0 HB); (case side2 => exact HC0.out); (case side3 => exact sC (Kd.R_reads' HO_11.out).2.2); (case side4 => exact (Kd.R_reads' HO_11.out).2.1); rintro e w46 ⟨rfl, hb⟩; replace HO_9 := yR HO_9 hb; replace HO_11 := yR HO_11 hb; replace HB := yB HB hb; try clear hb) | (go_at_call 16; (with_reducible refine cX (laganlaw06_paid.calls  true _ A38.out) ?_); intro w47 hb; replace HO_9 := yR HO_9 hb; replace HO_11 := yR HO_11 hb; replace HB := yB HB hb; try clear hb)))
          go_ret
          exact ⟨sE, sB HB.out⟩
         ·have c42b0 := bF c42
          have c42b1 := bM c42
          obtain rfl := Option.some.inj H
          exact absurd hr_.out (by decide)
        ·have c41b0 := bF c41
         have c41b1 := bM c41
         obtain rfl := Option.some.inj H
         exact absurd hr_.out (by decide)
       ·have c40b0 := bF c40
        have c40b1 := bM c40
        obtain rfl := Option.some.inj H
        exact absurd hr_.out (by decide)
      ·obtain rfl := Option.some.inj H
       exact absurd hr_.out (by decide)
  ·have c9b0 := bF c9
   have c9b1 := bM c9
   replace H := oB H; obtain ⟨t1143, A48, H⟩ := H
   replace H := oT H; rcases H with ⟨rfl, H⟩ | ⟨rfl, H⟩
   ·obtain rfl := Option.some.inj H
    go_enter Tryz.func14, Tryz.ntmps14
    go_wp2_with (first | (go_at_call 33; (with_reducible refine cX (award_CheckSales.calls _ _ l0 t1138 t1139 _ ?side1 ?side2 A7.out) ?_); (case side1 => exact sC HR0.out); (case side2 => exact HC0.out); intro w50 hb; replace HB := yB HB hb; try clear hb) | (go_at_call 51; (with_reducible refine (award_Sold.calls _ _ l0 a1 t1140 _ ?side1 ?side2 A8.out).mono ?_); (case side1 => exact yC HR0 HB); (case side2 => exact HC0.out); rintro e w51 ⟨v1141, rfl, ho0, hb⟩; have HO1142 := Aq.mk (Kd.R_lower ho0 (bZ_ (sB HB.out))); replace HB := yB HB hb; try clear hb; (try clear ho0)) | (go_at_call 16; (with_reducible refine cX (laganlaw06_paid.calls  true _ A48.out) ?_); intro w52 hb; replace HO1142 := yR HO1142 hb; replace HB := yB HB hb; try clear hb; obtain ⟨Ao53, co53, eo53⟩ := Kd.R_slice HO1142.out; subst eo53))
    repeat (go_quiet (fail); try go_wp2_with (first | (go_at_call 33; (with_reducible refine cX (award_CheckSales.calls _ _ l0 t1138 t1139 _ ?side1 ?side2 A7.out) ?_); (case side1 => exact sC HR0.out); (case side2 => exact HC0.out); intro w50 hb; replace HB := yB HB hb; try clear hb) | (go_at_call 51; (with_reducible refine (award_Sold.calls _ _ l0 a1 t1140 _ ?side1 ?side2 A8.out).mono ?_); (case side1 => exact yC HR0 HB); (case side2 => exact HC0.out); rintro e w51 ⟨v1141, rfl, ho0, hb⟩; have HO1142 := Aq.mk (Kd.R_lower ho0 (bZ_ (sB HB.out))); replace HB := yB HB hb; try clear hb; (try clear ho0)) | (go_at_call 16; (with_reducible refine cX (laganlaw06_paid.calls  true _ A48.out) ?_); intro w52 hb; replace HO1142 := yR HO1142 hb; replace HB := yB HB hb; try clear hb; obtain ⟨Ao53, co53, eo53⟩ := Kd.R_slice HO1142.out; subst eo53)))
    go_ret
    exact ⟨sE, sB HB.out⟩
   ·obtain rfl := Option.some.inj H
    exact absurd hr_.out (by decide)
end
section
open Go.Shelf
theorem checks_all {α : Type} (f : List α → α → Int) : ∀ (l pre : List α) (i : Int), (checks f pre l i).2 = 0 → ∀ l1 x l2, l = l1 ++ x :: l2 → f (pre ++ l1) x = 0
 | [], pre, i, _, l1, x, l2, e => by cases l1 <;> cases e
 | y :: r, pre, i, h, l1, x, l2, e => by
  unfold checks at h
  by_cases h0 : f pre y = 0
  ·rw [if_neg (by simp [h0])] at h
   cases l1 with
   | nil =>
    simp only [List.nil_append, List.cons.injEq] at e
    obtain ⟨rfl, rfl⟩ := e
    rw [List.append_nil]
    exact h0
   | cons z l1 =>
    simp only [List.cons_append, List.cons.injEq] at e
    obtain ⟨rfl, e⟩ := e
    have := checks_all f r (pre ++ [y]) (i + 1) h l1 x l2 e
    rwa [List.append_assoc] at this
  ·rw [if_pos h0] at h
   exact absurd h h0
theorem split_at {α : Type} (l : List α) (j : Nat) (hj : j < l.length) : l = l.take j ++ l[j] :: l.drop (j + 1) := by
 rw [← List.drop_eq_getElem_cons hj, List.take_append_drop]
theorem sorted_of {α : Type} (g : α → Int) (l : List α) (h : ∀ l1 x l2, l = l1 ++ x :: l2 → ∀ y, l1.getLast? = some y → g y ≤ g x) : ∀ (d i j : Nat) (hi : i < l.length) (hj : j < l.length), i + d = j → g l[i] ≤ g l[j]
  | 0, i, j, hi, hj, e => by obtain rfl : i = j := by omega
                             exact Int.le_refl _
  | d + 1, i, j, hi, hj, e => by
    have ih := sorted_of g l h d i (j - 1) hi (by omega) (by omega)
    refine Int.le_trans ih (h (l.take j) l[j] (l.drop (j + 1)) (split_at l j hj) l[j - 1] ?_)
    rw [List.getLast?_eq_getElem?, List.length_take, show min j l.length - 1 = j - 1 by omega, List.getElem?_take, if_pos (by omega), List.getElem?_eq_getElem]
theorem lateS_le (pre : List S39) (x : S39) (h : followsS pre x = 0) (y : S39) (hy : pre.getLast? = some y) : y.f1 ≤ x.f1 := by
 have hl : 0 < pre.length := by cases pre with | nil => simp at hy | cons a r => simp
 have e : rd_T39 pre ((pre.length : Int) - 1) = y := by
  rw [List.getLast?_eq_getElem?] at hy
  unfold rd_T39
  rw [show ((pre.length : Int) - 1).toNat = pre.length - 1 by omega, List.getD_eq_getElem?_getD, hy]
  rfl
 have hL : lateS pre x = false := by
  cases hb : lateS pre x with
  | false => rfl
  | true =>
   unfold followsS at h
   rw [hb] at h
   repeat' split at h
   all_goals simp_all
 unfold lateS at hL
 rw [e] at hL
 simp [hl] at hL
 exact hL
theorem sells_follows {pre : List S39} {x : S39} (h : sellsS pre x = 0) : followsS pre x = 0 := by
 unfold sellsS at h
 by_cases h0 : followsS pre x = 0
 ·exact h0
 ·rw [if_neg h0] at h
  exact absurd h h0
theorem sells_free {pre : List S39} {x : S39} (h : sellsS pre x = 0) (h8 : x.f8 = 0) : soldS pre x.f3 x.f1 = none := by
 have h0 := sells_follows h
 unfold sellsS at h
 rw [if_pos h0] at h
 cases hs : soldS pre x.f3 x.f1 with
 | none => rfl
 | some y => rw [hs, h8] at h; simp at h
theorem follows_ok {pre : List S39} {x : S39} (h : followsS pre x = 0) : saleB x = true := by
 unfold followsS ckS at h
 cases hb : saleB x with
 | true => rfl
 | false =>
  rw [hb] at h
  repeat' split at h
  all_goals simp_all
theorem counts_iff (l : List S39) (k : Int) (x : S39) : countsS l k x = true ↔ x.f8 = 0 ∧ x.f1 ≤ k ∧ ∀ v ∈ l, v.f8 = x.f0 → ¬ v.f1 ≤ k := by
 unfold countsS
 simp only [Bool.and_eq_true, beq_iff_eq, decide_eq_true_eq, Bool.not_eq_true', List.any_eq_false, not_and]
 exact ⟨fun ⟨⟨a, b⟩, c⟩ => ⟨a, b, c⟩, fun ⟨a, b, c⟩ => ⟨⟨a, b⟩, c⟩⟩
theorem parcels_nodup (l : List S39) (k : Int) (h : (checks sellsS [] l 0).2 = 0) : ((l.filter (countsS l k)).map fun x => x.f3).Nodup := by
 have hall := checks_all sellsS l [] 0 h
 simp only [List.nil_append] at hall
 have hsort := sorted_of (fun x : S39 => x.f1) l (fun l1 x l2 e y hy => lateS_le l1 x (sells_follows (hall l1 x l2 e)) y hy)
 have hp : l.Pairwise (fun y x => countsS l k y = true → countsS l k x = true → y.f3 ≠ x.f3) := by
  rw [List.pairwise_iff_getElem]
  intro i j hi hj hij hy hx e
  have hs := hall (l.take j) l[j] (l.drop (j + 1)) (split_at l j hj)
  rw [counts_iff] at hx hy
  have hn := sells_free hs hx.1
  unfold soldS at hn
  rw [List.find?_eq_none] at hn
  have hmem : l[i] ∈ l.take j := by
   rw [List.mem_take_iff_getElem]
   exact ⟨i, by omega, rfl⟩
  refine absurd (hn l[i] (List.mem_filter.2 ⟨hmem, (counts_iff _ _ _).2 ⟨hy.1, hsort (j - i) i j hi hj (by omega), fun v hv e2 h3 => ?_⟩⟩)) (by simp [e])
  exact hy.2.2 v (List.mem_of_mem_take hv) e2 (Int.le_trans h3 hx.2.1)
 rw [List.nodup_iff_pairwise_ne, List.pairwise_map]
 have hf := hp.filter (countsS l k)
 refine hf.imp_of_mem ?_
 intro a b ha hb hab
 exact hab (List.mem_filter.1 ha).2 (List.mem_filter.1 hb).2
theorem counting_ok (l : List S39) (k : Int) (h : (checks sellsS [] l 0).2 = 0) (x : S39) (hx : x ∈ l.filter (countsS l k)) : 10 ≤ x.f3 ∧ x.f3 ≤ 10000007 ∧ 1 ≤ x.f4 ∧ x.f4 ≤ 1000000000 := by
 obtain ⟨hm, hc⟩ := List.mem_filter.1 hx
 have h8 := ((counts_iff _ _ _).1 hc).1
 obtain ⟨l1, l2, e⟩ := List.append_of_mem hm
 have hall := checks_all sellsS l [] 0 h l1 x l2 e
 have hb := follows_ok (sells_follows hall)
 unfold saleB at hb
 rw [if_pos h8] at hb
 simp only [Bool.and_eq_true, inB_iff] at hb
 omega
def priceS (l : List S39) (k p : Int) : Int := match soldS l p k with | some x => x.f4 | none => 0
def sumW (l : List S39) (k : Int) : List Int → Int
 | [] => 0
 | p :: r => priceS l k p + sumW l k r
theorem sumW_app (l : List S39) (k : Int) : ∀ a b : List Int, sumW l k (a ++ b) = sumW l k a + sumW l k b
 | [], b => by simp [sumW]
 | p :: a, b => by simp only [List.cons_append, sumW]; rw [sumW_app l k a b]; omega
theorem sold_found (l : List S39) (k : Int) (h : (checks sellsS [] l 0).2 = 0) (p : Int) (hp : p ∈ (l.filter (countsS l k)).map fun x => x.f3) : ∃ x, soldS l p k = some x ∧ x.f3 = p ∧ 1 ≤ x.f4 ∧ x.f4 ≤ 1000000000 ∧ 10 ≤ p ∧ p ≤ 10000007 := by
 obtain ⟨y, hy, rfl⟩ := List.mem_map.1 hp
 cases hs : soldS l y.f3 k with
 | none =>
  unfold soldS at hs
  rw [List.find?_eq_none] at hs
  exact absurd (hs y hy) (by simp)
 | some x =>
  have hs2 := hs
  unfold soldS at hs2
  have hx := List.mem_of_find?_eq_some hs2
  have he := List.find?_some hs2
  have ok := counting_ok l k h x hx
  have e : x.f3 = y.f3 := by simpa using he
  exact ⟨x, rfl, e, ok.2.2.1, ok.2.2.2, by omega, by omega⟩
theorem sumW_bd (l : List S39) (k : Int) (h : (checks sellsS [] l 0).2 = 0) : ∀ ps : List Int, (∀ p ∈ ps, p ∈ (l.filter (countsS l k)).map fun x => x.f3) → 0 ≤ sumW l k ps ∧ sumW l k ps ≤ 1000000000 * (ps.length : Int)
 | [], _ => by simp [sumW]
 | p :: r, hp => by
  obtain ⟨x, hx, _, b1, b2, _⟩ := sold_found l k h p (hp p (by simp))
  have ih := sumW_bd l k h r (fun q hq => hp q (by simp [hq]))
  simp only [sumW, priceS, hx, List.length_cons]
  omega
theorem sumV_val (l : List S39) (k : Int) (h : (checks sellsS [] l 0).2 = 0) : ∀ (ps : List Int) (a : Int), (∀ p ∈ ps, p ∈ (l.filter (countsS l k)).map fun x => x.f3) → 0 ≤ a → a + 1000000000 * (ps.length : Int) ≤ 1000000000000 → sumV l k ps a = (a + sumW l k ps, 0)
 | [], a, _, h0, h1 => by
  simp only [sumV, sumW]
  rw [if_neg (by simp at h1; omega), Int.add_zero]
 | p :: r, a, hp, h0, h1 => by
  obtain ⟨x, hx, _, b1, b2, _⟩ := sold_found l k h p (hp p (by simp))
  simp only [List.length_cons] at h1
  have ih := sumV_val l k h r (a + x.f4) (fun q hq => hp q (by simp [hq])) (by omega) (by omega)
  simp only [sumV, sumW, priceS, hx]
  rw [IntWalk.wrap64_in _ (by omega), ih]
  congr 1
  omega
theorem scan_no : ∀ (ps : List Int) (s : Int → Bool), ps.Nodup → (∀ p ∈ ps, s p = false) → scanI ps s = false
 | [], s, _, _ => rfl
 | p :: r, s, hn, hs => by
  rw [List.nodup_cons] at hn
  unfold scanI
  rw [if_neg (by rw [hs p (by simp)]; decide)]
  refine scan_no r _ hn.2 fun q hq => ?_
  have h1 : (q == p) = false := beq_eq_false_iff_ne.2 (fun e => hn.1 (e ▸ hq))
  rw [h1, hs q (by simp [hq])]
  rfl
theorem value_sold (l : List S39) (k : Int) (h : (checks sellsS [] l 0).2 = 0) (hl : l.length ≤ 30) (ps : List Int) (hp : ∀ p ∈ ps, p ∈ (l.filter (countsS l k)).map fun x => x.f3) (hn : ps.Nodup) (hlen : ps.length ≤ 30) : award_Value.f l ps k = some (sumW l k ps, 0) := by
 have hwf : ps.all (fun p => (Lit.int .i64 p).wf) = true := by
  rw [List.all_eq_true]
  intro p hm
  obtain ⟨x, _, _, _, _, b1, b2⟩ := sold_found l k h p (hp p hm)
  rw [show p = wrap64 p from (IntWalk.wrap64_in p (by omega)).symm]
  exact wrap64_wf _
 unfold award_Value.f valueF
 rw [if_pos hwf, if_neg (by simp [h]), if_neg (by omega), scan_no ps _ hn (fun _ _ => rfl), if_neg (by decide), sumV_val l k h ps 0 hp (by omega) (by omega), Int.zero_add]
theorem soldAll_ok (l : List S39) (k : Int) (h : (checks sellsS [] l 0).2 = 0) : (soldAll l k).Perm ((l.filter (countsS l k)).map fun x => x.f3) ∧ (soldAll l k).Pairwise (· < ·) := by
 have e : soldAll l k = ((l.filter (countsS l k)).map fun x => x.f3).mergeSort fun x y => decide (x ≤ y) := by
  unfold soldAll
  rw [if_neg (by simp [h])]
 rw [e]
 have hperm := List.mergeSort_perm ((l.filter (countsS l k)).map fun x => x.f3) (fun x y => decide (x ≤ y))
 refine ⟨hperm, ?_⟩
 have h1 : (((l.filter (countsS l k)).map fun x => x.f3).mergeSort fun x y => decide (x ≤ y)).Pairwise (fun a b => decide (a ≤ b) = true) := List.pairwise_mergeSort (fun a b c h1 h2 => by simp at h1 h2 ⊢; omega) (fun a b => by simp; omega) _
 have h2 := (hperm.nodup_iff).2 (parcels_nodup l k h)
 rw [List.nodup_iff_pairwise_ne] at h2
 refine (h1.and h2).imp ?_
 intro a b ⟨h3, h4⟩
 have : a ≤ b := by simpa using h3
 omega
end
section
open Go.Shelf
theorem rot_eq (S : List Int) (r : Nat) (hr : r ≤ S.length) : (List.range S.length).map (fun j => rd S (((j + r) % S.length : Nat) : Int)) = S.drop r ++ S.take r := by
 refine List.ext_getElem (by simp; omega) fun i h1 h2 => ?_
 have hi : i < S.length := by simpa using h1
 have hrd : ∀ j : Nat, (hj : j < S.length) → rd S (j : Int) = S[j] := fun j hj => by
  unfold rd
  rw [Int.toNat_natCast, List.getD_eq_getElem?_getD, List.getElem?_eq_getElem hj]
  rfl
 rw [List.getElem_map, List.getElem_range, List.getElem_append]
 by_cases hc : i < S.length - r
 ·rw [dif_pos (by rw [List.length_drop]; exact hc), Nat.mod_eq_of_lt (by omega), hrd _ (by omega), List.getElem_drop]
  congr 1
  omega
 ·rw [dif_neg (by rw [List.length_drop]; exact hc), show i + r = (i + r - S.length) + S.length by omega, Nat.add_mod_right, Nat.mod_eq_of_lt (by omega), hrd _ (by omega), List.getElem_take]
  congr 1
  rw [List.length_drop]
  omega
theorem u64_ge (n : Int) : 0 ≤ IntKind.u64.wrap n ∧ IntKind.u64.wrap n ≤ 18446744073709551615 := by
 have : IntKind.u64.wrap n = n % 18446744073709551616 := by simp [IntKind.wrap, IntKind.bits, IntKind.signed]
 omega
theorem saleOf_sold (l : List S39) (k : Int) (h : (checks sellsS [] l 0).2 = 0) (p : Int) (hp : p ∈ soldAll l k) : ∃ a b c e f g i j, award_SaleOf.f l p k = some (a, b, c, p, priceS l k p, e, f, g, i, j) ∧ j = 0 := by
 obtain ⟨x, hx, he, _⟩ := sold_found l k h p (((soldAll_ok l k h).1.mem_iff).1 hp)
 refine ⟨x.f0, x.f1, x.f2, x.f5, x.f6, x.f7, x.f8, 0, ?_, rfl⟩
 unfold award_SaleOf.f award_CheckSales.f award_sold.f
 simp only [Option.bind_some, h, if_true, hx, priceS, he]
theorem sold_l0 (l : List S39) (k turn : Int) (h : (checks sellsS [] l 0).2 = 0) (hl : l.length ≤ 30) (S : List Int) (hS : S = soldAll l k) (hlen : S.length ≤ 30) (r : Nat) (hr : r ≤ S.length)
  (hr2 : 0 < S.length → r < S.length ∧ wrap64 (Int.tmod (IntKind.u64.wrap turn) (IntKind.u64.wrap (S.length : Int))) = (r : Int)) :
  ∀ (d i K : Nat), S.length - i < d → 2 * d + 5 ≤ K → i ≤ S.length → laganlaw06_AwardSold.l0 K l k turn S (sumW l k (S.take i)) ((List.range i).map fun j => rd S (((j + r) % S.length : Nat) : Int)) (i : Int) = some true
 | 0, i, K, hd, _, _ => by omega
 | d + 1, i, K, hd, hK, hi => by
  obtain ⟨K, rfl⟩ : ∃ q, K = q + 1 + 1 := ⟨K - 2, by omega⟩
  have hok := soldAll_ok l k h
  rw [← hS] at hok
  have hmem : ∀ p ∈ S, p ∈ (l.filter (countsS l k)).map fun x => x.f3 := fun p hp => (hok.1.mem_iff).1 hp
  have hrd : ∀ j : Nat, (hj : j < S.length) → rd S (j : Int) = S[j] := fun j hj => by
   unfold rd
   rw [Int.toNat_natCast, List.getD_eq_getElem?_getD, List.getElem?_eq_getElem hj]
   rfl
  unfold laganlaw06_AwardSold.l0
  by_cases hlt : i < S.length
  ·obtain ⟨hr3, hr4⟩ := hr2 (by omega)
   have HR4 := Aq.mk hr4
   clear hr4
   have step : laganlaw06_AwardSold.j1 (K + 1) l k turn S (sumW l k (S.take i)) ((List.range i).map fun j => rd S (((j + r) % S.length : Nat) : Int)) (i : Int) false = some true := by
    unfold laganlaw06_AwardSold.j1
    obtain ⟨a, b, c, e, f, g, m, j, hs, rfl⟩ := saleOf_sold l k h S[i] (by rw [← hS]; exact List.getElem_mem _)
    rw [if_neg (by decide), if_pos (by omega), if_pos (by omega), hrd i hlt, hs]
    simp only [Option.bind_some, if_true]
    have HU : Aq (IntKind.u64.wrap (S.length : Int) = (S.length : Int)) := ⟨IntWalk.u64_in _ (by omega)⟩
    have HA : Aq (wrap64 ((i : Int) + (r : Int)) = ((i + r : Nat) : Int)) := ⟨by rw [IntWalk.wrap64_in _ (by omega)]; omega⟩
    have HM : Aq (Int.tmod ((i + r : Nat) : Int) (S.length : Int) = (((i + r) % S.length : Nat) : Int)) := ⟨(Int.ofNat_tmod _ _).symm⟩
    have hml : (i + r) % S.length < S.length := Nat.mod_lt _ (by omega)
    rw [HR4.out, HU.out, HA.out, HM.out, if_neg (by omega), if_neg (by omega), if_pos (by omega), if_pos (by omega), if_pos (by rw [List.length_map, List.length_range]; omega)]
    have hb := sumW_bd l k h (S.take i) (fun p hp => hmem p (List.mem_of_mem_take hp))
    obtain ⟨x, hx, _, b1, b2, _⟩ := sold_found l k h S[i] (hmem _ (List.getElem_mem _))
    have hpr : priceS l k S[i] = x.f4 := by unfold priceS; rw [hx]
    have htl : (S.take i).length ≤ 30 := by rw [List.length_take]; omega
    have ih := sold_l0 l k turn h hl S hS hlen r hr hr2 d (i + 1) K (by omega) (by omega) (by omega)
    have ht : S.take (i + 1) = S.take i ++ [S[i]] := (List.take_append_getElem hlt).symm
    rw [ht, sumW_app, List.range_succ, List.map_append] at ih
    simp only [sumW, List.map_cons, List.map_nil, Int.add_zero] at ih
    rw [IntWalk.wrap64_in (sumW l k (S.take i) + priceS l k S[i]) (by rw [hpr]; omega), IntWalk.wrap64_in ((i : Int) + 1) (by omega)]
    exact ih
   rw [if_pos (by omega)]
   by_cases h0 : (i : Int) > 0
   ·have hw : wrap64 ((i : Int) - 1) = ((i - 1 : Nat) : Int) := by rw [IntWalk.wrap64_in _ (by omega)]; omega
    have hltS : S[i - 1] < S[i] := (List.pairwise_iff_getElem.1 hok.2) (i - 1) i (by omega) hlt (by omega)
    rw [if_pos h0, hw, if_pos (by omega), if_pos (by omega), if_pos (by omega), hrd _ (by omega), hrd i hlt, decide_eq_false (by omega : ¬ S[i - 1] ≥ S[i])]
    exact step
   ·rw [if_neg h0]
    exact step
  ·obtain rfl : i = S.length := by omega
   rw [if_neg (by omega), List.take_length, rot_eq S r hr]
   have hnd : S.Nodup := (hok.1.nodup_iff).2 (parcels_nodup l k h)
   have hperm : (S.drop r ++ S.take r).Perm S := by
    have := List.perm_append_comm (l₁ := S.drop r) (l₂ := S.take r)
    rwa [List.take_append_drop] at this
   have hsum : sumW l k (S.drop r ++ S.take r) = sumW l k S := by
    have := sumW_app l k (S.take r) (S.drop r)
    rw [List.take_append_drop] at this
    rw [sumW_app]
    omega
   rw [value_sold l k h hl S hmem hnd hlen, value_sold l k h hl (S.drop r ++ S.take r) (fun p hp => hmem p ((hperm.mem_iff).1 hp)) ((hperm.nodup_iff).2 hnd) (by rw [hperm.length_eq]; exact hlen), hsum]
   simp [laganlaw06_paid.f]
theorem awardSold_true (l : List S39) (k turn : Int) : laganlaw06_AwardSold.f 300 l k turn = some true := by
 unfold laganlaw06_AwardSold.f
 by_cases h30 : (l.length : Int) > 30
 ·rw [if_pos h30]
  rfl
 ·rw [if_neg h30]
  unfold award_CheckSales.f award_Sold.f
  rw [if_pos (by omega)]
  simp only [Option.bind_some]
  by_cases h : (checks sellsS [] l 0).2 = 0
  ·rw [if_pos h]
   have hok := soldAll_ok l k h
   have hlen : (soldAll l k).length ≤ 30 := by
    rw [hok.1.length_eq, List.length_map]
    have := List.length_filter_le (countsS l k) l
    omega
   by_cases h0 : 0 < (soldAll l k).length
   ·have hu : IntKind.u64.wrap ((soldAll l k).length : Int) = ((soldAll l k).length : Int) := IntWalk.u64_in _ (by omega)
    have hg := u64_ge turn
    have hm : Int.tmod (IntKind.u64.wrap turn) ((soldAll l k).length : Int) = IntKind.u64.wrap turn % ((soldAll l k).length : Int) := Int.tmod_eq_emod_of_nonneg hg.1
    have hm0 := Int.emod_nonneg (IntKind.u64.wrap turn) (show ((soldAll l k).length : Int) ≠ 0 by omega)
    have hm1 := Int.emod_lt_of_pos (IntKind.u64.wrap turn) (show (0 : Int) < ((soldAll l k).length : Int) by omega)
    exact sold_l0 l k turn h (by omega) (soldAll l k) rfl hlen (IntKind.u64.wrap turn % ((soldAll l k).length : Int)).toNat (by omega) (fun _ => ⟨by omega, by rw [hu, hm, IntWalk.wrap64_in _ (by omega)]; omega⟩) 31 0 300 (by omega) (by omega) (by omega)
   ·exact sold_l0 l k turn h (by omega) (soldAll l k) rfl hlen 0 (by omega) (fun h1 => absurd h1 h0) 31 0 300 (by omega) (by omega) (by omega)
  ·rw [if_neg h]
   have : soldAll l k = [] := by unfold soldAll; rw [if_pos h]
   rw [this]
   rfl
end
end Go.Proofs.YtbicfbnempiocaaGreat.G
