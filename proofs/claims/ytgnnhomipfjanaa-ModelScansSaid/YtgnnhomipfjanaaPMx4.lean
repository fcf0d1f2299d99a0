/- Functions with the same answers as the Go functions named, and that the Go code comes to just these; written by a program of this work, out of the kit's print. -/
import Derived.Test.YtgnnhomipfjanaaPMx0
import Derived.Test.YtgnnhomipfjanaaPMx3
import Derived.Test.YtgnnhomipfjanaaMAdd
import Derived.Test.YtgnnhomipfjanaaMCheck
namespace Go.Proofs.Ytgnnhomipfjanaa.PM
open Go.RowKit Go.Proofs.YtgnnhomipfjanaaW.PrintWords Go.Proofs.YtgnnhomipfjanaaW.PrintLast Go.Proofs.YtgnnhomipfjanaaW.PrintMore
attribute [local go_sem] Go.Lib.run_max_strs max2_int min2_int max_two min_two max_three min_three max_four min_four   -- for this text's walks alone
set_option linter.unusedVariables false
set_option linter.unusedSimpArgs false

/-! ### rundlelaw24_lay: function 28 -/
mutual
def rundlelaw24_lay.l0 : Nat → List (S78) → List (S109) → Int → Int → List (S112) → Option ((List (S112)) × (List (S109)) × Bool)
 | 0, _, _, _, _, _ => none
 | k + 1, x0, x6, x7, x8, x149000 => if x8 < (x0.length : Int) then ((some (([] : List (S37)) : List (S37))).bind fun y149 => (if 0 ≤ x8 then (if y149.length + ((rd_T78 x0 x8).f1).length < 3518437208883 then ((some (y149 ++ ((rd_T78 x0 x8).f1) : List (S37))).bind fun y153 => ((model_Add.f x149000 ((rd_T78 x0 x8).f0) y153).bind fun bt157 => (rundlelaw24_lay.l1 k x0 x6 x7 x8 y153 bt157.2 0 x149000 bt157.1))) else (none)) else (none))) else (some (x149000, x6, true))
def rundlelaw24_lay.l1 : Nat → List (S78) → List (S109) → Int → Int → List (S37) → Int → Int → List (S112) → List (S112) → Option ((List (S112)) × (List (S109)) × Bool)
 | 0, _, _, _, _, _, _, _, _, _ => none
 | k + 1, x0, x6, x7, x8, x9, x11, x12, x149000, x162000 => if x12 < (x9.length : Int) then (if 0 ≤ x12 then (rundlelaw24_lay.l1 k x0 x6 x7 x8 (x9.set (x12 : Int).toNat (⟨(⟨#[]⟩ : ByteArray), (⟨#[]⟩ : ByteArray), false⟩ : S37)) x11 (wrap64 (x12 + 1)) x149000 x162000) else (none)) else (if 0 ≤ x8 then (if x8 < (x0.length : Int) then ((batch_Check.f k ((rd_T78 x0 x8).f1)).bind fun t164 => (if ((rd_T78 x0 x8).f0) ≤ x7 then (rundlelaw24_lay.j2 k x0 x6 x7 x8 x11 10 x149000 x162000) else (rundlelaw24_lay.j2 k x0 x6 x7 x8 x11 t164 x149000 x162000))) else (none)) else (none))
def rundlelaw24_lay.j2 : Nat → List (S78) → List (S109) → Int → Int → Int → Int → List (S112) → List (S112) → Option ((List (S112)) × (List (S109)) × Bool)
 | 0, _, _, _, _, _, _, _, _ => none
 | k + 1, x0, x6, x7, x8, x11, x13, x149000, x162000 => if x11 = x13 then ((model_Last.f x149000).bind fun t166 => (rundlelaw24_lay.j3 k x0 x6 x7 x8 x11 (t166 != x7) x149000 x162000)) else (rundlelaw24_lay.j3 k x0 x6 x7 x8 x11 true x149000 x162000)
def rundlelaw24_lay.j3 : Nat → List (S78) → List (S109) → Int → Int → Int → Bool → List (S112) → List (S112) → Option ((List (S112)) × (List (S109)) × Bool)
 | 0, _, _, _, _, _, _, _, _ => none
 | k + 1, x0, x6, x7, x8, x11, x71, x149000, x162000 => if x71 = true then (some (x149000, x6, false)) else (if x11 = 0 then (if 0 ≤ x8 then (if x8 < (x0.length : Int) then (rundlelaw24_lay.l2 k x0 x6 ((rd_T78 x0 x8).f0) x8 ([] : List (S104)) 0 x162000) else (none)) else (none)) else (if (x162000.length : Int) = 0 then (rundlelaw24_lay.l0 k x0 x6 x7 (wrap64 (x8 + 1)) x149000) else (some (x149000, x6, false))))
def rundlelaw24_lay.l2 : Nat → List (S78) → List (S109) → Int → Int → List (S104) → Int → List (S112) → Option ((List (S112)) × (List (S109)) × Bool)
 | 0, _, _, _, _, _, _, _ => none
 | k + 1, x0, x6, x7, x8, x14, x15, x149000 => if 0 ≤ x8 then (if x8 < (x0.length : Int) then (if x15 < (((rd_T78 x0 x8).f1).length : Int) then (if 0 ≤ x15 then (if x14.length < 3518437208883 then (rundlelaw24_lay.l2 k x0 x6 x7 x8 (x14 ++ [(⟨(rd_T37 ((rd_T78 x0 x8).f1) x15).f0, (rd_T37 ((rd_T78 x0 x8).f1) x15).f1, (rd_T37 ((rd_T78 x0 x8).f1) x15).f2⟩ : S104)]) (wrap64 (x15 + 1)) x149000) else (none)) else (none)) else ((rundleref24_Add.f k x6 x7 x14).bind fun t178 => (rundlelaw24_lay.l0 k x0 t178 x7 (wrap64 (x8 + 1)) x149000))) else (none)) else (none)
end
def rundlelaw24_lay.f (k : Nat) (l0 : List (S78)) : Option ((List (S112)) × (List (S109)) × Bool) := rundlelaw24_lay.l0 k l0 ([] : List (S109)) 0 0 ([] : List (S112))
theorem rundlelaw24_lay.mono_l : ∀ k, (∀ y0 y1 y2 y3 y4, LeO (rundlelaw24_lay.l0 k y0 y1 y2 y3 y4) (rundlelaw24_lay.l0 (k + 1) y0 y1 y2 y3 y4)) ∧ (∀ y0 y1 y2 y3 y4 y5 y6 y7 y8, LeO (rundlelaw24_lay.l1 k y0 y1 y2 y3 y4 y5 y6 y7 y8) (rundlelaw24_lay.l1 (k + 1) y0 y1 y2 y3 y4 y5 y6 y7 y8)) ∧ (∀ y0 y1 y2 y3 y4 y5 y6 y7, LeO (rundlelaw24_lay.j2 k y0 y1 y2 y3 y4 y5 y6 y7) (rundlelaw24_lay.j2 (k + 1) y0 y1 y2 y3 y4 y5 y6 y7)) ∧ (∀ y0 y1 y2 y3 y4 y5 y6 y7, LeO (rundlelaw24_lay.j3 k y0 y1 y2 y3 y4 y5 y6 y7) (rundlelaw24_lay.j3 (k + 1) y0 y1 y2 y3 y4 y5 y6 y7)) ∧ (∀ y0 y1 y2 y3 y4 y5 y6, LeO (rundlelaw24_lay.l2 k y0 y1 y2 y3 y4 y5 y6) (rundlelaw24_lay.l2 (k + 1) y0 y1 y2 y3 y4 y5 y6))
 | 0 => ⟨fun _ _ _ _ _ r h => by simp [rundlelaw24_lay.l0] at h, fun _ _ _ _ _ _ _ _ _ r h => by simp [rundlelaw24_lay.l1] at h, fun _ _ _ _ _ _ _ _ r h => by simp [rundlelaw24_lay.j2] at h, fun _ _ _ _ _ _ _ _ r h => by simp [rundlelaw24_lay.j3] at h, fun _ _ _ _ _ _ _ r h => by simp [rundlelaw24_lay.l2] at h⟩
 | k + 1 => by
  obtain ⟨ih0, ih1, ih2, ih3, ih4⟩ := rundlelaw24_lay.mono_l k
  refine ⟨?_, ?_, ?_, ?_, ?_⟩
  ·
   intro y0 y1 y2 y3 y4
   unfold rundlelaw24_lay.l0
   repeat' first
   | (with_reducible exact ih0 _ _ _ _ _)
   | (with_reducible exact ih1 _ _ _ _ _ _ _ _ _)
   | (with_reducible exact ih2 _ _ _ _ _ _ _ _)
   | (with_reducible exact ih3 _ _ _ _ _ _ _ _)
   | (with_reducible exact ih4 _ _ _ _ _ _ _)
   | (with_reducible exact batch_Check.mono _ _)
   | (with_reducible exact rundleref24_Add.mono _ _ _ _)
   | (with_reducible exact LeO.refl _)
   | (with_reducible exact LeO.none _)
   | (with_reducible refine LeO.ite ?_ ?_)
   | (with_reducible refine LeO.bind ?_ (fun _ => ?_))
   | exact ih0 _ _ _ _ _
   | exact ih1 _ _ _ _ _ _ _ _ _
   | exact ih2 _ _ _ _ _ _ _ _
   | exact ih3 _ _ _ _ _ _ _ _
   | exact ih4 _ _ _ _ _ _ _
   | exact batch_Check.mono _ _
   | exact rundleref24_Add.mono _ _ _ _
   | exact LeO.none _
   | refine LeO.ite ?_ ?_
   | refine LeO.bind ?_ (fun _ => ?_)
  ·
   intro y0 y1 y2 y3 y4 y5 y6 y7 y8
   unfold rundlelaw24_lay.l1
   repeat' first
   | (with_reducible exact ih0 _ _ _ _ _)
   | (with_reducible exact ih1 _ _ _ _ _ _ _ _ _)
   | (with_reducible exact ih2 _ _ _ _ _ _ _ _)
   | (with_reducible exact ih3 _ _ _ _ _ _ _ _)
   | (with_reducible exact ih4 _ _ _ _ _ _ _)
   | (with_reducible exact batch_Check.mono _ _)
   | (with_reducible exact rundleref24_Add.mono _ _ _ _)
   | (with_reducible exact LeO.refl _)
   | (with_reducible exact LeO.none _)
   | (with_reducible refine LeO.ite ?_ ?_)
   | (with_reducible refine LeO.bind ?_ (fun _ => ?_))
   | exact ih0 _ _ _ _ _
   | exact ih1 _ _ _ _ _ _ _ _ _
   | exact ih2 _ _ _ _ _ _ _ _
   | exact ih3 _ _ _ _ _ _ _ _
   | exact ih4 _ _ _ _ _ _ _
   | exact batch_Check.mono _ _
   | exact rundleref24_Add.mono _ _ _ _
   | exact LeO.none _
   | refine LeO.ite ?_ ?_
   | refine LeO.bind ?_ (fun _ => ?_)
  ·
   intro y0 y1 y2 y3 y4 y5 y6 y7
   unfold rundlelaw24_lay.j2
   repeat' first
   | (with_reducible exact ih0 _ _ _ _ _)
   | (with_reducible exact ih1 _ _ _ _ _ _ _ _ _)
   | (with_reducible exact ih2 _ _ _ _ _ _ _ _)
   | (with_reducible exact ih3 _ _ _ _ _ _ _ _)
   | (with_reducible exact ih4 _ _ _ _ _ _ _)
   | (with_reducible exact batch_Check.mono _ _)
   | (with_reducible exact rundleref24_Add.mono _ _ _ _)
   | (with_reducible exact LeO.refl _)
   | (with_reducible exact LeO.none _)
   | (with_reducible refine LeO.ite ?_ ?_)
   | (with_reducible refine LeO.bind ?_ (fun _ => ?_))
   | exact ih0 _ _ _ _ _
   | exact ih1 _ _ _ _ _ _ _ _ _
   | exact ih2 _ _ _ _ _ _ _ _
   | exact ih3 _ _ _ _ _ _ _ _
   | exact ih4 _ _ _ _ _ _ _
   | exact batch_Check.mono _ _
   | exact rundleref24_Add.mono _ _ _ _
   | exact LeO.none _
   | refine LeO.ite ?_ ?_
   | refine LeO.bind ?_ (fun _ => ?_)
  ·
   intro y0 y1 y2 y3 y4 y5 y6 y7
   unfold rundlelaw24_lay.j3
   repeat' first
   | (with_reducible exact ih0 _ _ _ _ _)
   | (with_reducible exact ih1 _ _ _ _ _ _ _ _ _)
   | (with_reducible exact ih2 _ _ _ _ _ _ _ _)
   | (with_reducible exact ih3 _ _ _ _ _ _ _ _)
   | (with_reducible exact ih4 _ _ _ _ _ _ _)
   | (with_reducible exact batch_Check.mono _ _)
   | (with_reducible exact rundleref24_Add.mono _ _ _ _)
   | (with_reducible exact LeO.refl _)
   | (with_reducible exact LeO.none _)
   | (with_reducible refine LeO.ite ?_ ?_)
   | (with_reducible refine LeO.bind ?_ (fun _ => ?_))
   | exact ih0 _ _ _ _ _
   | exact ih1 _ _ _ _ _ _ _ _ _
   | exact ih2 _ _ _ _ _ _ _ _
   | exact ih3 _ _ _ _ _ _ _ _
   | exact ih4 _ _ _ _ _ _ _
   | exact batch_Check.mono _ _
   | exact rundleref24_Add.mono _ _ _ _
   | exact LeO.none _
   | refine LeO.ite ?_ ?_
   | refine LeO.bind ?_ (fun _ => ?_)
  ·
   intro y0 y1 y2 y3 y4 y5 y6
   unfold rundlelaw24_lay.l2
   repeat' first
   | (with_reducible exact ih0 _ _ _ _ _)
   | (with_reducible exact ih1 _ _ _ _ _ _ _ _ _)
   | (with_reducible exact ih2 _ _ _ _ _ _ _ _)
   | (with_reducible exact ih3 _ _ _ _ _ _ _ _)
   | (with_reducible exact ih4 _ _ _ _ _ _ _)
   | (with_reducible exact batch_Check.mono _ _)
   | (with_reducible exact rundleref24_Add.mono _ _ _ _)
   | (with_reducible exact LeO.refl _)
   | (with_reducible exact LeO.none _)
   | (with_reducible refine LeO.ite ?_ ?_)
   | (with_reducible refine LeO.bind ?_ (fun _ => ?_))
   | exact ih0 _ _ _ _ _
   | exact ih1 _ _ _ _ _ _ _ _ _
   | exact ih2 _ _ _ _ _ _ _ _
   | exact ih3 _ _ _ _ _ _ _ _
   | exact ih4 _ _ _ _ _ _ _
   | exact batch_Check.mono _ _
   | exact rundleref24_Add.mono _ _ _ _
   | exact LeO.none _
   | refine LeO.ite ?_ ?_
   | refine LeO.bind ?_ (fun _ => ?_)
theorem rundlelaw24_lay.mono : ∀ a0 k, LeO (rundlelaw24_lay.f k a0) (rundlelaw24_lay.f (k + 1) a0) := by
 intro a0 k
 obtain ⟨ih0, ih1, ih2, ih3, ih4⟩ := rundlelaw24_lay.mono_l k
 unfold rundlelaw24_lay.f
 repeat' first
   | (with_reducible exact ih0 _ _ _ _ _)
   | (with_reducible exact ih1 _ _ _ _ _ _ _ _ _)
   | (with_reducible exact ih2 _ _ _ _ _ _ _ _)
   | (with_reducible exact ih3 _ _ _ _ _ _ _ _)
   | (with_reducible exact ih4 _ _ _ _ _ _ _)
   | (with_reducible exact batch_Check.mono _ _)
   | (with_reducible exact rundleref24_Add.mono _ _ _ _)
   | (with_reducible exact LeO.refl _)
   | (with_reducible exact LeO.none _)
   | (with_reducible refine LeO.ite ?_ ?_)
   | (with_reducible refine LeO.bind ?_ (fun _ => ?_))
   | exact ih0 _ _ _ _ _
   | exact ih1 _ _ _ _ _ _ _ _ _
   | exact ih2 _ _ _ _ _ _ _ _
   | exact ih3 _ _ _ _ _ _ _ _
   | exact ih4 _ _ _ _ _ _ _
   | exact batch_Check.mono _ _
   | exact rundleref24_Add.mono _ _ _ _
   | exact LeO.none _
   | refine LeO.ite ?_ ?_
   | refine LeO.bind ?_ (fun _ => ?_)
def rundlelaw24_lay.T8 : Bool × List (List Nat × List Nat) := (true, [([], []), ([], []), ([], []), ([1, 2], [1, 2]), ([3], [3]), ([4], [4]), ([], []), ([0, 5, 6], [0, 5, 6]), ([7], [7]), ([8], [8]), ([8], [8]), ([], []), ([11, 9, 7, 0, 1, 2, 3, 4, 5, 6, 7, 8, 9, 11], [9, 11]), ([10, 12, 0, 1, 2, 3, 4, 5, 6, 7, 8, 9, 10, 11, 12], [10])])
def rundlelaw24_lay.B8 : List Nat := [0, 0, 0, 6, 14, 30, 0, 127, 255, 511, 511, 0, 3071, 8191]
theorem rundlelaw24_lay.tab8 : rtab .any (opsOf Try.f28 8) = rundlelaw24_lay.T8 := by kernel_rfl
theorem rundlelaw24_lay.bits8 : waitsOk rundlelaw24_lay.T8.2 rundlelaw24_lay.B8 = true := by kernel_rfl
def rundlelaw24_lay.T21 : Bool × List (List Nat × List Nat) := (true, [([], []), ([], []), ([], []), ([1, 2], [1, 2]), ([3], [3]), ([4], [4]), ([0, 0], [0]), ([5, 6, 0, 1, 2, 3, 4, 5, 6], [5])])
def rundlelaw24_lay.B21 : List Nat := [0, 0, 0, 6, 14, 30, 1, 127]
theorem rundlelaw24_lay.tab21 : rtab .any (opsOf Try.f28 21) = rundlelaw24_lay.T21 := by kernel_rfl
theorem rundlelaw24_lay.bits21 : waitsOk rundlelaw24_lay.T21.2 rundlelaw24_lay.B21 = true := by kernel_rfl
def rundlelaw24_lay.T26 : Bool × List (List Nat × List Nat) := (true, [([], []), ([], []), ([], []), ([1, 2], [1, 2]), ([3], [3]), ([4], [4]), ([], []), ([5, 6], [5, 6]), ([7], [7]), ([8], [8]), ([], []), ([], []), ([10, 11], [10, 11]), ([12], [12]), ([13], [13]), ([], []), ([14, 15], [14, 15]), ([16], [16]), ([17], [17]), ([], []), ([], []), ([19, 20], [19, 20]), ([21], [21]), ([22], [22]), ([], []), ([23, 24], [23, 24]), ([25], [25]), ([26], [26]), ([9, 18, 27], [9, 18, 27]), ([28], [28]), ([0, 29], [0, 29]), ([30, 30, 0, 1, 2, 3, 4, 5, 6, 7, 8, 9, 10, 11, 12, 13, 14, 15, 16, 17, 18, 19, 20, 21, 22, 23, 24, 25, 26, 27, 28, 29, 30], [0, 30])])
def rundlelaw24_lay.B26 : List Nat := [0, 0, 0, 6, 14, 30, 0, 126, 254, 510, 0, 0, 3072, 7168, 15360, 0, 64512, 130048, 261120, 0, 0, 1572864, 3670016, 7864320, 0, 33030144, 66584576, 133693440, 268435454, 536870910, 1073741823, 2147483647]
theorem rundlelaw24_lay.tab26 : rtab .any (opsOf Try.f28 26) = rundlelaw24_lay.T26 := by kernel_rfl
theorem rundlelaw24_lay.bits26 : waitsOk rundlelaw24_lay.T26.2 rundlelaw24_lay.B26 = true := by kernel_rfl
set_option maxHeartbeats 8000000 in
set_option maxRecDepth 100000 in
theorem rundlelaw24_lay.calls (k : Nat) (A0 : Option Addr) (c0 : Nat) (l0 : List (S78)) (r1 : List (S112)) (r2 : List (S109)) (r3 : Bool) (w : World) (hr0 : Kd.C k78 w A0 l0.length l0) (hc0 : l0.length ≤ c0) (h : rundlelaw24_lay.f k l0 = some (r1, r2, r3)) :
  Calls Try.prog 28 #[.slice A0 l0.length c0] w fun e w' => ∃ v0_ v1_ : Value, e = .returned (.tuple #[.agg #[v0_], v1_, .bool r3]) ∧ Kd.N k112 112 w' w.heap.size (fun k_ => (w.heap.size ≤ k_) ∧ some k_ ≠ (v1_ : Value).ownBlock) v0_ r1 ∧ Kd.R k109 109 w' w.heap.size (fun k_ => (w.heap.size ≤ k_)) v1_ r2 ∧ Below w.heap.size w w' := by
 have hu57 := Try.underlying57
 have hu37 := Try.underlying37
 have hu104 := Try.underlying104
 have HR0 := Aside0.mk hr0
 have HC0 := Aside0.mk hc0
 clear hr0 hc0
 have HB := Aside0.mk (Below.refl w.heap.size w)
 have H : (rundlelaw24_lay.l0 k l0 ([] : List (S109)) 0 0 ([] : List (S112))) = some (r1, r2, r3) := h
 clear h
 have H' := Aside0.mk H
 clear H
 go_enter Try.func28, Try.ntmps28
 go_wp2_with (first | ((with_reducible refine gate_dst (N := 2) rfl ?_); refine box_event ?hg (N := 2) ?hd (cs := #[.slice none 0 0]) (t := 57) ?hr ?_; (case hd => rfl); (case hg => rfl); (case hr => first | (go_simp; done) | (go_simp; rfl)); intro gb147 hg w2 hbox hb; have n0_ := Aside0.mk (below_step (by repeat (first | (with_reducible first | exact HB.out | apply below_alloc | apply pw_below_drewN | apply below_drew1) | exact HB.out)) hb); have n1_ := Aside0.mk (hbox); have n2_ := Aside0.mk ((by rw [hg]; exact (below_size (by repeat (first | (with_reducible first | exact HB.out | apply below_alloc | apply pw_below_drewN | apply below_drew1) | exact HB.out))) : w.heap.size ≤ gb147)); have n3_ := Aside0.mk ((by rw [hg]; exact (below_size (by repeat (first | (with_reducible first | exact HB.out | apply below_alloc | apply pw_below_drewN | apply below_drew1) | exact HB.out))) : w.heap.size ≤ gb147)); clear HB; have HB := n0_; have BK147 := n1_; have GW147 := n2_; have GE147 := n3_; clear n0_ n1_ n2_ n3_; clear hb hbox hg) | ((with_reducible refine gate_dst (N := 5) rfl ?_); refine box_event ?hg (N := 5) ?hd (cs := #[.slice none 0 0]) (t := 57) ?hr ?_; (case hd => rfl); (case hg => rfl); (case hr => first | (go_simp; done) | (go_simp; rfl)); intro gb148 hg w3 hbox hb; have n0_ := Aside0.mk (blk_below (g := gb147) (o := .cells #[.slice none 0 0] 57 (0, 0)) (by (with_reducible repeat (first | refine blk_drewN ?_ _ | refine blk_drew ?_ | refine blk_alloc ?_ _)); exact BK147.out) hb); have n1_ := Aside0.mk (below_step (by repeat (first | (with_reducible first | exact HB.out | apply below_alloc | apply pw_below_drewN | apply below_drew1 | refine below_set ?_ GE147.out) | exact HB.out)) hb); have n2_ := Aside0.mk (hbox); have n3_ := Aside0.mk ((by rw [hg]; exact (below_size (by repeat (first | (with_reducible first | exact HB.out | apply below_alloc | apply pw_below_drewN | apply below_drew1 | refine below_set ?_ GE147.out) | exact HB.out))) : w.heap.size ≤ gb148)); have n4_ := Aside0.mk ((by rw [hg]; exact (below_size (by repeat (first | (with_reducible first | exact HB.out | apply below_alloc | apply pw_below_drewN | apply below_drew1 | refine below_set ?_ GE147.out) | exact HB.out))) : w.heap.size ≤ gb148)); have n5_ := Aside0.mk ((by rw [hg]; exact Nat.ne_of_lt (blk_lt (g := gb147) (o := .cells #[.slice none 0 0] 57 (0, 0)) (by (with_reducible repeat (first | refine blk_drewN ?_ _ | refine blk_drew ?_ | refine blk_alloc ?_ _)); exact BK147.out)) : gb147 ≠ gb148)); have n6_ := Aside0.mk ((by rw [hg]; exact Nat.ne_of_gt (blk_lt (g := gb147) (o := .cells #[.slice none 0 0] 57 (0, 0)) (by (with_reducible repeat (first | refine blk_drewN ?_ _ | refine blk_drew ?_ | refine blk_alloc ?_ _)); exact BK147.out)) : gb148 ≠ gb147)); clear BK147; clear HB; have BK147 := n0_; have HB := n1_; have BK148 := n2_; have GW148 := n3_; have GE148 := n4_; have NB147_148 := n5_; have NB148_147 := n6_; clear n0_ n1_ n2_ n3_ n4_ n5_ n6_; clear hb hbox hg))
 go_loopg [6, 7, 8] k (fun kq v6 v7 v8 w' => ∃ (x6_1 : List (S109)) (x7_1 : Int) (x8_1 : Int) (x149000_1 : List (S112)) (u149000 : Value), v7 = .int .i64 x7_1 ∧ v8 = .int .i64 x8_1 ∧ Aside0 (rundlelaw24_lay.l0 kq l0 x6_1 x7_1 x8_1 x149000_1 = some (r1, r2, r3)) ∧ Aside0 (kq ≤ k) ∧ Aside0 (Kd.R k109 109 w' w.heap.size (fun k_ => (w.heap.size ≤ k_)) v6 x6_1) ∧ Aside0 (Kd.N k112 112 w' w.heap.size (fun k_ => (w.heap.size ≤ k_) ∧ some k_ ≠ (v6 : Value).ownBlock ∧ k_ ≠ gb147 ∧ k_ ≠ gb148) u149000 x149000_1) ∧ Aside0 (w'.heap[gb147]? = some (.cells #[(.slice none 0 0)] 57 (0, 0))) ∧ Aside0 (w'.heap[gb148]? = some (.cells #[u149000] 57 (0, 0))) ∧ Aside0 (Below w.heap.size w w'))
 case atStart => exact ⟨(([] : List (S109))), (0), (0), (([] : List (S112))), (.slice none 0 0), (by first | rfl | (simp; done) | (simp [*]; done)), (by first | rfl | (simp; done) | (simp [*]; done)), H', ⟨Nat.le_refl _⟩, ⟨by first | exact Kd.R_nil _ _ _ _ _ | exact Kd.N_nil _ _ _ _ _ | exact Kd.V_nil _ _ _ _ _ | exact Kd.Q_nil _ _ _ _ _ | exact Kd.S_nil _ _ _ _ _⟩, ⟨by first | exact Kd.S_nil _ _ _ _ _ | exact Kd.N_nil _ _ _ _ _ | exact Kd.V_nil _ _ _ _ _ | exact Kd.Q_nil _ _ _ _ _ | exact Kd.R_nil _ _ _ _ _⟩, ⟨by (with_reducible repeat (first | refine blk_drewN ?_ _ | refine blk_drew ?_ | refine blk_alloc ?_ _)); exact BK147.out⟩, ⟨by (with_reducible repeat (first | refine blk_drewN ?_ _ | refine blk_drew ?_ | refine blk_alloc ?_ _)); exact BK148.out⟩, ⟨by repeat (first | (with_reducible first | exact HB.out | apply below_alloc | apply pw_below_drewN | apply below_drew1 | refine below_set ?_ GE147.out | refine below_set ?_ GE148.out) | exact HB.out)⟩⟩
 case round =>
  clear H'
  try clear c2
  try clear p2
  obtain ⟨x6_1, x7_1, x8_1, x149000_1, u149000, rfl, rfl, HA, HK1, HO_6, HO_149000, BK147, BK148, HB⟩ := hrel
  cases gk with
  | zero => exact absurd HA.out (by simp [rundlelaw24_lay.l0])
  | succ k1 =>
   have H := HA.out
   clear HA
   simp only [rundlelaw24_lay.l0] at H
   by_cases c4 : x8_1 < (l0.length : Int)
   ·
    rw [if_pos c4] at H
    have c4b0 : decide (x8_1 < (l0.length : Int)) = true := decide_eq_true c4
    clear c4
    obtain ⟨y149, hy149⟩ : ∃ y_ : List (S37), y_ = (([] : List (S37))) := ⟨_, rfl⟩
    replace H : (if 0 ≤ x8_1 then (if y149.length + ((rd_T78 l0 x8_1).f1).length < 3518437208883 then ((some (y149 ++ ((rd_T78 l0 x8_1).f1) : List (S37))).bind fun y153 => ((model_Add.f x149000_1 ((rd_T78 l0 x8_1).f0) y153).bind fun bt157 => (rundlelaw24_lay.l1 k1 l0 x6_1 x7_1 x8_1 y153 bt157.2 0 x149000_1 bt157.1))) else (none)) else (none)) = some (r1, r2, r3) := by first | (rw [hy149]; with_reducible exact H) | (have H2_ := (Option.bind_some _ _).symm.trans H; rw [hy149]; with_reducible exact H2_) | (have H2_ := (Option.bind_some _ _).symm.trans H; with_reducible exact H2_) | with_reducible exact H | (rw [hy149]; exact H) | exact H
    have Ny149 := Aside0.mk hy149
    clear hy149
    by_cases c5 : 0 ≤ x8_1
    ·
     rw [if_pos c5] at H
     have c5b0 : decide (0 ≤ x8_1) = true := decide_eq_true c5
     clear c5
     by_cases c6 : y149.length + ((rd_T78 l0 x8_1).f1).length < 3518437208883
     ·
      rw [if_pos c6] at H
      have LMc6 := Aside0.mk c6
      clear c6
      obtain ⟨y153, hy153⟩ : ∃ y_ : List (S37), y_ = (y149 ++ ((rd_T78 l0 x8_1).f1)) := ⟨_, rfl⟩
      replace H : ((model_Add.f x149000_1 ((rd_T78 l0 x8_1).f0) y153).bind fun bt157 => (rundlelaw24_lay.l1 k1 l0 x6_1 x7_1 x8_1 y153 bt157.2 0 x149000_1 bt157.1)) = some (r1, r2, r3) := by first | (rw [hy153]; with_reducible exact H) | (have H2_ := (Option.bind_some _ _).symm.trans H; rw [hy153]; with_reducible exact H2_) | (have H2_ := (Option.bind_some _ _).symm.trans H; with_reducible exact H2_) | with_reducible exact H | (rw [hy153]; exact H) | exact H
      have Ny153 := Aside0.mk hy153
      clear hy153
      replace H := Option.bind_eq_some_iff.mp H
      obtain ⟨⟨t157, t160⟩, A70, H⟩ := H
      replace H : (rundlelaw24_lay.l1 k1 l0 x6_1 x7_1 x8_1 y153 t160 0 x149000_1 t157) = some (r1, r2, r3) := H
      have A7 := Aside0.mk A70
      clear A70
      have H' := Aside0.mk H
      clear H
      try go_wp2_with (first | ((with_reducible refine gate_dst (N := 22) rfl ?_); refine Kd.R_lit k37 _ 37 ?hg (N := 22) ?hd (xs := ([] : List (S37))) (inner := []) (ok := fun _ => True) (okp := fun _ => True) ?hr ?hp (fun _ hk => hk) trivial (Below.refl _ _) (Nat.le_refl _) (by simp) ?_; (case hd => rfl); (case hg => rfl); (case hr => first | (go_simp; done) | (go_simp; rfl)); (case hp => exact (Reps.none _ _)); intro v150 w8 ho9 hb hg_ hnew_; clear hg_ hnew_; (first | rw [← Ny149.out] at ho9 | (simp only [Int.reduceToNat] at ho9; rw [← Ny149.out] at ho9)); have n0_ := Aside0.mk (Kd.R_below (by (with_reducible repeat (first | apply Kd.R_alloc | apply Kd.R_drewN | apply Kd.R_drew)); exact HO_6.out) hb); have n1_ := Aside0.mk (Kd.N_elder' (by (with_reducible repeat (first | apply Kd.N_alloc | apply Kd.N_drewN | apply Kd.N_drew)); exact HO_149000.out) (Kd.R_base ho9) hb); have n2_ := Aside0.mk (Kd.R_lower (Kd.R_newM (M := fun k_ => (w.heap.size ≤ k_)) ho9 (below_size (by repeat (first | (with_reducible first | exact HB.out | apply below_alloc | apply pw_below_drewN | apply below_drew1 | refine below_set ?_ GE147.out | refine below_set ?_ GE148.out) | exact HB.out))) (fun k_ h_ => h_)) (below_size (by repeat (first | (with_reducible first | exact HB.out | apply below_alloc | apply pw_below_drewN | apply below_drew1 | refine below_set ?_ GE147.out | refine below_set ?_ GE148.out) | exact HB.out)))); have n3_ := Aside0.mk (blk_below (g := gb147) (o := .cells #[.slice none 0 0] 57 (0, 0)) (by (with_reducible repeat (first | refine blk_drewN ?_ _ | refine blk_drew ?_ | refine blk_alloc ?_ _)); exact BK147.out) hb); have n4_ := Aside0.mk (blk_below (g := gb148) (o := .cells #[u149000] 57 (0, 0)) (by (with_reducible repeat (first | refine blk_drewN ?_ _ | refine blk_drew ?_ | refine blk_alloc ?_ _)); exact BK148.out) hb); have n5_ := Aside0.mk (below_step (by repeat (first | (with_reducible first | exact HB.out | apply below_alloc | apply pw_below_drewN | apply below_drew1 | refine below_set ?_ GE147.out | refine below_set ?_ GE148.out) | exact HB.out)) hb); clear HO_6; clear HO_149000; clear BK147; clear BK148; clear HB; have HO_6 := n0_; have HO_149000 := n1_; have HO151 := n2_; have BK147 := n3_; have BK148 := n4_; have HB := n5_; clear n0_ n1_ n2_ n3_ n4_ n5_; clear hb ho9; have p152 : 0 ≤ (x8_1 : Int) := of_decide_eq_true (by first | (with_reducible assumption) | assumption); have q152 : x8_1 < (l0.length : Int) := of_decide_eq_true (by first | (with_reducible assumption) | assumption); obtain ⟨ad152, A152_1, c152_1, e152, hx152_0, hx152_1, hl152_1, hi152_1⟩ := at_T78 HR0.out x8_1 p152 q152; cases e152; replace hx152_0 := (HB.out.cell (World.block_lt_of_cell? w _ hx152_0)).trans hx152_0; replace hx152_1 := (HB.out.cell (World.block_lt_of_cell? w _ hx152_1)).trans hx152_1; have HR152_1 := Aside0.mk hi152_1; have HC152_1 := Aside0.mk hl152_1; clear hi152_1 hl152_1; replace p152 := eq_true p152; replace q152 := eq_true q152) | ((with_reducible refine gate_builtin (b := .append) (xs := #[.tmp 22, .tmp 27]) rfl ?_); at_builtin; refine Kd.R_append_rows k37 (w0 := w) w.heap.size rfl (.tmp 22) (.tmp 27) 25 37 (.agg #[(.string ⟨#[]⟩), (.string ⟨#[]⟩), (.bool false)]) 40 rfl Try.underlying25 info37 rfl (by decide) (by omega) v150 y149 ((rd_T78 l0 x8_1).f1) _ _ _ (fun k_ => (w.heap.size ≤ k_)) (fun _ => False) rfl rfl ?aO ?aR (fun _ _ h => h) (fun _ h => h.elim) ?aF ?aB ?aS ?aL ?_; (case aR => repeat (first | exact (Kd.C_below HR152_1.out HB.out) | (with_reducible refine Kd.C_alloc ?_ _) | (with_reducible refine Kd.C_drewN ?_ _) | (with_reducible refine Kd.C_drew ?_))); (case aB => exact (by repeat (first | (with_reducible first | exact HB.out | apply below_alloc | apply pw_below_drewN | apply below_drew1 | refine below_set ?_ GE147.out | refine below_set ?_ GE148.out) | exact HB.out))); (case aF => exact (fun k_ hk => (Nat.le_trans (below_size (by repeat (first | (with_reducible first | exact HB.out | apply below_alloc | apply pw_below_drewN | apply below_drew1 | refine below_set ?_ GE147.out | refine below_set ?_ GE148.out) | exact HB.out))) hk))); (case aO => exact (by (with_reducible repeat (first | apply Kd.R_alloc | apply Kd.R_drewN | apply Kd.R_drew)); exact Kd.R_mono HO151.out (fun _ hk => hk.1))); (case aS => exact (below_size (by repeat (first | (with_reducible first | exact HB.out | apply below_alloc | apply pw_below_drewN | apply below_drew1 | refine below_set ?_ GE147.out | refine below_set ?_ GE148.out) | exact HB.out)))); (case aL => have := LMc6.out; omega); intro v154 w10 ho hb hg hat; rw [← Ny153.out] at ho; have n0_ := Aside0.mk (Kd.R_over' (by (with_reducible repeat (first | apply Kd.R_alloc | apply Kd.R_drewN | apply Kd.R_drew)); exact HO_6.out) (Kd.R_typed (by (with_reducible repeat (first | apply Kd.R_alloc | apply Kd.R_drewN | apply Kd.R_drew)); exact HO151.out)) (by decide) hg); have n1_ := Aside0.mk (Kd.N_afterv (ok := (fun k_ => (w.heap.size ≤ k_) ∧ some k_ ≠ (u6 : Value).ownBlock ∧ k_ ≠ gb147 ∧ k_ ≠ gb148)) (by (with_reducible repeat (first | apply Kd.N_alloc | apply Kd.N_drewN | apply Kd.N_drew)); exact HO_149000.out) hg hat); have n2_ := Aside0.mk (blk_grown (g := gb147) (o := .cells #[.slice none 0 0] 57 (0, 0)) (by (with_reducible repeat (first | refine blk_drewN ?_ _ | refine blk_drew ?_ | refine blk_alloc ?_ _)); exact BK147.out) hg (Kd.R_ne HO151.out BK147.out (by decide))); have n3_ := Aside0.mk (blk_grown (g := gb148) (o := .cells #[u149000] 57 (0, 0)) (by (with_reducible repeat (first | refine blk_drewN ?_ _ | refine blk_drew ?_ | refine blk_alloc ?_ _)); exact BK148.out) hg (Kd.R_ne HO151.out BK148.out (by decide))); have n4_ := Aside0.mk (hb); have n5_ := Aside0.mk (ho); clear HO_6; clear HO_149000; clear BK147; clear BK148; clear HB; clear HO151; have HO_6 := n0_; have HO_149000 := n1_; have BK147 := n2_; have BK148 := n3_; have HB := n4_; have HO155 := n5_; clear n0_ n1_ n2_ n3_ n4_ n5_; clear ho hb hg hat; obtain ⟨Ao11, co11, eo11⟩ := Kd.N_slice HO_149000.out; subst eo11; obtain ⟨Ao12, co12, eo12⟩ := Kd.R_slice HO155.out; subst eo12))
      have n0_ := Aside0.mk (Kd.R_drew HO_6.out)
      have n1_ := Aside0.mk (Kd.N_drew HO_149000.out)
      have n2_ := Aside0.mk (Kd.R_drew HO155.out)
      have n3_ := Aside0.mk (blk_drew BK147.out)
      have n4_ := Aside0.mk (blk_drew BK148.out)
      have n5_ := Aside0.mk (below_drew1 HB.out)
      clear HO_6
      clear HO_149000
      clear HO155
      clear BK147
      clear BK148
      clear HB
      have HO_6 := n0_
      have HO_149000 := n1_
      have HO155 := n2_
      have BK147 := n3_
      have BK148 := n4_
      have HB := n5_
      clear n0_ n1_ n2_ n3_ n4_ n5_
      have p156 : 0 ≤ (x8_1 : Int) := of_decide_eq_true (by first | (with_reducible assumption) | assumption)
      have q156 : x8_1 < (l0.length : Int) := of_decide_eq_true (by first | (with_reducible assumption) | assumption)
      obtain ⟨ad156, A156_1, c156_1, e156, hx156_0, hx156_1, hl156_1, hi156_1⟩ := at_T78 HR0.out x8_1 p156 q156
      have hw156_1 := hx156_1
      have hw156_0 := hx156_0
      obtain rfl : ad152 = ad156 := (by injection e156)
      replace hx156_0 := (HB.out.cell (World.block_lt_of_cell? w _ hx156_0)).trans hx156_0
      replace hx156_1 := (HB.out.cell (World.block_lt_of_cell? w _ hx156_1)).trans hx156_1
      have HR156_1 := Aside0.mk hi156_1
      have HC156_1 := Aside0.mk hl156_1
      clear hi156_1 hl156_1
      replace p156 := eq_true p156
      replace q156 := eq_true q156
      refine start_ (n := 14) (S := fun w' => w'.cell? ⟨gb148, 0, none⟩ = some (.slice Ao11 x149000_1.length co11) ∧ w'.cell? (ad152.add ((x8_1).toNat * 2)) = some (.int .i64 ((rd_T78 l0 x8_1).f0)) ∧ w'.cell? ⟨(ad152.add ((x8_1).toNat * 2)).block, (ad152.add ((x8_1).toNat * 2)).off + 1, none⟩ = some (.slice A156_1 ((rd_T78 l0 x8_1).f1).length c156_1)) (ds := []) #[false, false, false, false, false, false, false, false, false, false, false, false, false, false] (by kernel_rfl) rfl rfl ⟨(blk_cell BK148.out 0).trans rfl, ((HB.out.cell (World.block_lt_of_cell? w _ hw156_0)).trans hw156_0), ((HB.out.cell (World.block_lt_of_cell? w _ hw156_1)).trans hw156_1)⟩ (fun hHeld => ?_); refine with_tabW rundlelaw24_lay.tab8 rundlelaw24_lay.bits8 (fun HT_ HW_ => ?_)
      generalize w10.drew = w13 at HO_6 HO_149000 HO155 BK147 BK148 HB HR156_1 hx156_0 hx156_1 hHeld ⊢
      refine pure_ (i := 1) (N := some 31) (v := ?_) (a' := ?_) #[false, true, false, false, false, false, false, false, false, false, false, false, false, false] rfl rfl (any_of HT_.out (by kernel_rfl)) (fun _ _ _ h => h) (Or.inl ⟨by rfl, ?_⟩) ?_ ?_
      rotate_left
      ·
       intro w'
       go_simp
       with_reducible rfl
      rotate_left
      ·
       simp only [Act.put, List.setIfInBounds_toArray, List.set_cons_zero, List.set_cons_succ, i64_w, i32_w]
       rfl
      refine pure_ (i := 2) (N := some 32) (v := ?_) (a' := ?_) #[false, true, true, false, false, false, false, false, false, false, false, false, false, false] rfl rfl (any_of HT_.out (by kernel_rfl)) (fun _ _ _ h => h) (Or.inl ⟨by rfl, ?_⟩) ?_ ?_
      rotate_left
      ·
       intro w'
       go_simp
       with_reducible rfl
      rotate_left
      ·
       simp only [Act.put, List.setIfInBounds_toArray, List.set_cons_zero, List.set_cons_succ, i64_w, i32_w]
       rfl
      refine pure_ (i := 3) (N := some 33) (v := ?_) (a' := ?_) #[false, true, true, true, false, false, false, false, false, false, false, false, false, false] rfl rfl (any_of HT_.out (by kernel_rfl)) (fun _ _ _ h => h) (Or.inl ⟨by rfl, ?_⟩) ?_ ?_
      rotate_left
      ·
       intro w'
       go_simp
       with_reducible rfl
      rotate_left
      ·
       simp only [Act.put, List.setIfInBounds_toArray, List.set_cons_zero, List.set_cons_succ, i64_w, i32_w]
       rfl
      refine pure_ (i := 4) (N := some 34) (v := ?_) (a' := ?_) #[false, true, true, true, true, false, false, false, false, false, false, false, false, false] rfl rfl (any_of HT_.out (by kernel_rfl)) (fun _ _ _ h => h) (Or.inl ⟨by rfl, ?_⟩) ?_ ?_
      rotate_left
      ·
       intro w'
       go_simp
       with_reducible rfl
      rotate_left
      ·
       simp only [Act.put, List.setIfInBounds_toArray, List.set_cons_zero, List.set_cons_succ, i64_w, i32_w]
       rfl
      refine pure_ (i := 6) (N := some 36) (v := ?_) (a' := ?_) #[false, true, true, true, true, false, true, false, false, false, false, false, false, false] rfl rfl (any_of HT_.out (by kernel_rfl)) (fun _ _ _ h => h) (Or.inl ⟨by rfl, ?_⟩) ?_ ?_
      rotate_left
      ·
       intro w'
       go_simp
       with_reducible rfl
      rotate_left
      ·
       simp only [Act.put, List.setIfInBounds_toArray, List.set_cons_zero, List.set_cons_succ, i64_w, i32_w]
       rfl
      refine take_ (i := 0) (N := some 30) (v := ?_) (a' := ?_) #[true, true, true, true, true, false, true, false, false, false, false, false, false, false] rfl rfl (take_ofW HT_.out HW_.out (by kernel_rfl)) (fun _ _ _ h => h) (Or.inl ⟨by rfl, ?_⟩) hHeld ?_ ?_
      rotate_left
      ·
       rintro w' ⟨s0, s1, s2⟩
       go_simp
       with_reducible rfl
      rotate_left
      ·
       simp only [Act.put, List.setIfInBounds_toArray, List.set_cons_zero, List.set_cons_succ, i64_w, i32_w]
       rfl
      refine take_ (i := 5) (N := some 35) (v := ?_) (a' := ?_) #[true, true, true, true, true, true, true, false, false, false, false, false, false, false] rfl rfl (take_ofW HT_.out HW_.out (by kernel_rfl)) (fun _ _ _ h => h) (Or.inl ⟨by rfl, ?_⟩) hHeld ?_ ?_
      rotate_left
      ·
       rintro w' ⟨s0, s1, s2⟩
       go_simp
       with_reducible rfl
      rotate_left
      ·
       simp only [Act.put, List.setIfInBounds_toArray, List.set_cons_zero, List.set_cons_succ, i64_w, i32_w]
       rfl
      refine join_ (σ := Value × Nat) 2 #[true, true, true, true, true, true, true, true, true, true, true, true, false, false] (fun s_ => [(37, .tuple #[.agg #[s_.1], .int .i64 t160]), (10, .pointer (some ⟨s_.2, 0, none⟩)), (29, .tuple #[.agg #[s_.1], .int .i64 t160]), (38, .agg #[s_.1]), (39, .int .i64 t160)]) (fun s_ w' => (w'.cell? ⟨gb148, 0, none⟩ = some (.slice Ao11 x149000_1.length co11) ∧ w'.cell? (ad152.add ((x8_1).toNat * 2)) = some (.int .i64 ((rd_T78 l0 x8_1).f0)) ∧ w'.cell? ⟨(ad152.add ((x8_1).toNat * 2)).block, (ad152.add ((x8_1).toNat * 2)).off + 1, none⟩ = some (.slice A156_1 ((rd_T78 l0 x8_1).f1).length c156_1)) ∧ (Kd.R k37 37 w' w.heap.size (fun k_ => (w.heap.size ≤ k_)) (.slice Ao12 y153.length co12) y153) ∧ (Kd.N k112 112 w' w.heap.size (fun k_ => (w.heap.size ≤ k_) ∧ some k_ ≠ (.slice Ao12 y153.length co12 : Value).ownBlock ∧ some k_ ≠ (u6 : Value).ownBlock ∧ k_ ≠ gb147 ∧ k_ ≠ gb148 ∧ k_ ≠ s_.2) s_.1 t157) ∧ (Kd.N k112 112 w' w.heap.size (fun k_ => (w.heap.size ≤ k_) ∧ some k_ ≠ (.slice Ao12 y153.length co12 : Value).ownBlock ∧ some k_ ≠ (s_.1 : Value).ownBlock ∧ some k_ ≠ (u6 : Value).ownBlock ∧ k_ ≠ gb147 ∧ k_ ≠ gb148 ∧ k_ ≠ s_.2) (.slice Ao11 x149000_1.length co11) x149000_1) ∧ (Kd.R k109 109 w' w.heap.size (fun k_ => (w.heap.size ≤ k_)) u6 x6_1) ∧ (w'.heap[gb147]? = some (.cells #[.slice none 0 0] 57 (0, 0))) ∧ (w'.heap[gb148]? = some (.cells #[.slice Ao11 x149000_1.length co11] 57 (0, 0))) ∧ (w'.heap[s_.2]? = some (.cells #[.slice none 0 0] 57 (0, 0))) ∧ (w.heap.size ≤ s_.2) ∧ (w.heap.size ≤ s_.2) ∧ (gb147 ≠ s_.2) ∧ (s_.2 ≠ gb147) ∧ (gb148 ≠ s_.2) ∧ (s_.2 ≠ gb148) ∧ (Below w.heap.size w w')) ?_ ?_
      rotate_left
      ·
       intro hCont
       refine two_ (i := 7) (j := 11) (Ni := some 37) (Nj := some 10) #[true, true, true, true, true, true, true, true, false, false, false, false, false, false] #[true, true, true, true, true, true, true, false, false, false, false, true, false, false] rfl rfl rfl rfl (two_of HT_.out (by kernel_rfl)) (by decide) (by decide) (fun K hK => ?_) (fun K hK => ?_)
       ·
        skip
        refine goes_ Try.func37 (by kernel_rfl) rfl #[.agg #[.slice Ao11 x149000_1.length co11], .int .i64 ((rd_T78 l0 x8_1).f0), .slice Ao12 y153.length co12] (by rfl) rfl rfl (by (try simp only [List.map_toArray, List.map_cons, List.map_nil]); first | done | rfl | (simp only [List.length_drop, List.length_take]; rfl)) ?_
        with_reducible refine (model_Add.calls (fun k_ => (((w.heap.size ≤ k_) ∧ (some k_ ≠ (u6 : Value).ownBlock ∧ (k_ ≠ gb147 ∧ k_ ≠ gb148))) ∧ some k_ ≠ (.slice Ao12 y153.length co12 : Value).ownBlock)) _ _ x149000_1 ((rd_T78 l0 x8_1).f0) _ _ y153 t157 t160 _ ?side1 ?side2 ?side3 A7.out).mono ?_
        (case side1 => exact Kd.N_V (HO_149000.out))
        (case side2 => repeat (first | exact (Kd.R_reads' HO155.out).2.2 | (with_reducible refine Kd.C_alloc ?_ _) | (with_reducible refine Kd.C_drewN ?_ _) | (with_reducible refine Kd.C_drew ?_)))
        (case side3 => exact (Kd.R_reads' HO155.out).2.1)
        rintro e w14 ⟨v158, rfl, ho0, hb⟩
        refine ⟨_, rfl, ?_⟩
        have n0_ := Aside0.mk (Kd.R_below (by (with_reducible repeat (first | apply Kd.R_alloc | apply Kd.R_drewN | apply Kd.R_drew)); exact HO_6.out) hb)
        have n1_ := Aside0.mk (Kd.N_elder' (by (with_reducible repeat (first | apply Kd.N_alloc | apply Kd.N_drewN | apply Kd.N_drew)); exact HO_149000.out) (Kd.N_base ho0) hb)
        have n2_ := Aside0.mk (Kd.R_below (by (with_reducible repeat (first | apply Kd.R_alloc | apply Kd.R_drewN | apply Kd.R_drew)); exact HO155.out) hb)
        have n3_ := Aside0.mk (Kd.N_lower (Kd.N_mono (ok' := fun k_ => (w.heap.size ≤ k_) ∧ some k_ ≠ (u6 : Value).ownBlock ∧ some k_ ≠ (.slice Ao12 y153.length co12 : Value).ownBlock ∧ k_ ≠ gb147 ∧ k_ ≠ gb148) ho0 (fun k_ hk_ => ⟨Or.elim hk_ (fun hs_ => hs_.1.1) (fun hn_ => (Nat.le_trans (below_size (by repeat (first | (with_reducible first | exact HB.out | apply below_alloc | apply pw_below_drewN | apply below_drew1 | refine below_set ?_ GE147.out | refine below_set ?_ GE148.out) | exact HB.out))) hn_)), Or.elim hk_ (fun hs_ => hs_.1.2.1) (fun hn_ => (Kd.fresh' (Kd.R_lt (by (with_reducible repeat (first | apply Kd.R_alloc | apply Kd.R_drewN | apply Kd.R_drew)); exact HO_6.out)) k_ hn_)), Or.elim hk_ (fun hs_ => hs_.2) (fun hn_ => (Kd.fresh' (Kd.R_lt (by (with_reducible repeat (first | apply Kd.R_alloc | apply Kd.R_drewN | apply Kd.R_drew)); exact HO155.out)) k_ hn_)), Or.elim hk_ (fun hs_ => hs_.1.2.2.1) (fun hn_ => (Kd.freshB (g := gb147) (o := .cells #[.slice none 0 0] 57 (0, 0)) (by (with_reducible repeat (first | refine blk_drewN ?_ _ | refine blk_drew ?_ | refine blk_alloc ?_ _)); exact BK147.out) k_ hn_)), Or.elim hk_ (fun hs_ => hs_.1.2.2.2) (fun hn_ => (Kd.freshB (g := gb148) (o := .cells #[.slice Ao11 x149000_1.length co11] 57 (0, 0)) (by (with_reducible repeat (first | refine blk_drewN ?_ _ | refine blk_drew ?_ | refine blk_alloc ?_ _)); exact BK148.out) k_ hn_))⟩)) (below_size (by repeat (first | (with_reducible first | exact HB.out | apply below_alloc | apply pw_below_drewN | apply below_drew1 | refine below_set ?_ GE147.out | refine below_set ?_ GE148.out) | exact HB.out))))
        have n4_ := Aside0.mk (blk_below (g := gb147) (o := .cells #[.slice none 0 0] 57 (0, 0)) (by (with_reducible repeat (first | refine blk_drewN ?_ _ | refine blk_drew ?_ | refine blk_alloc ?_ _)); exact BK147.out) hb)
        have n5_ := Aside0.mk (blk_below (g := gb148) (o := .cells #[.slice Ao11 x149000_1.length co11] 57 (0, 0)) (by (with_reducible repeat (first | refine blk_drewN ?_ _ | refine blk_drew ?_ | refine blk_alloc ?_ _)); exact BK148.out) hb)
        have n6_ := Aside0.mk (below_step (by repeat (first | (with_reducible first | exact HB.out | apply below_alloc | apply pw_below_drewN | apply below_drew1 | refine below_set ?_ GE147.out | refine below_set ?_ GE148.out) | exact HB.out)) hb)
        clear HO_6
        clear HO_149000
        clear HO155
        clear BK147
        clear BK148
        clear HB
        have HO_6 := n0_
        have HO_149000 := n1_
        have HO155 := n2_
        have HO159 := n3_
        have BK147 := n4_
        have BK148 := n5_
        have HB := n6_
        clear n0_ n1_ n2_ n3_ n4_ n5_ n6_
        (try clear hb)
        (try clear hb2)
        (try clear hk)
        (try clear hi)
        (try clear ho0)
        refine hK.out _ _ ⟨(blk_cell BK148.out 0).trans rfl, ((HB.out.cell (World.block_lt_of_cell? w _ hw156_0)).trans hw156_0), ((HB.out.cell (World.block_lt_of_cell? w _ hw156_1)).trans hw156_1)⟩ (fun hHeld => ?_)
        clear hK K
        refine norm_ (a' := ?_) ?_ ?_
        rotate_left
        ·
         show Act.put _ (some 37) _ = _
         simp only [Act.put, List.setIfInBounds_toArray, List.set_cons_zero, List.set_cons_succ, i64_w, i32_w]
         rfl
        refine pure_ (i := 8) (N := some 29) (v := ?_) (a' := ?_) #[true, true, true, true, true, true, true, true, true, false, false, false, false, false] rfl rfl (any_of HT_.out (by kernel_rfl)) (fun _ _ _ h => h) (Or.inl ⟨by rfl, ?_⟩) ?_ ?_
        rotate_left
        ·
         intro w'
         go_simp
         with_reducible rfl
        rotate_left
        ·
         simp only [Act.put, List.setIfInBounds_toArray, List.set_cons_zero, List.set_cons_succ, i64_w, i32_w]
         rfl
        refine pure_ (i := 9) (N := some 38) (v := ?_) (a' := ?_) #[true, true, true, true, true, true, true, true, true, true, false, false, false, false] rfl rfl (any_of HT_.out (by kernel_rfl)) (fun _ _ _ h => h) (Or.inl ⟨by rfl, ?_⟩) ?_ ?_
        rotate_left
        ·
         intro w'
         go_simp
         with_reducible rfl
        rotate_left
        ·
         simp only [Act.put, List.setIfInBounds_toArray, List.set_cons_zero, List.set_cons_succ, i64_w, i32_w]
         rfl
        refine pure_ (i := 10) (N := some 39) (v := ?_) (a' := ?_) #[true, true, true, true, true, true, true, true, true, true, true, false, false, false] rfl rfl (any_of HT_.out (by kernel_rfl)) (fun _ _ _ h => h) (Or.inl ⟨by rfl, ?_⟩) ?_ ?_
        rotate_left
        ·
         intro w'
         go_simp
         with_reducible rfl
        rotate_left
        ·
         simp only [Act.put, List.setIfInBounds_toArray, List.set_cons_zero, List.set_cons_succ, i64_w, i32_w]
         rfl
        refine one_ (i := 11) (N := some 10) #[true, true, true, true, true, true, true, true, true, true, true, true, false, false] rfl rfl (one_of HT_.out (by kernel_rfl)) (by decide) (fun K hK => ?_)
        refine box_step ?hg (N := 10) ?hd (cs := #[.slice none 0 0]) (t := 57) ?hr ?_; (case hd => rfl); (case hg => rfl); (case hr => first | (go_simp; done) | (go_simp; rfl))
        intro gb161 hg w15 hbox hb
        have n0_ := Aside0.mk (Kd.R_below (by (with_reducible repeat (first | apply Kd.R_alloc | apply Kd.R_drewN | apply Kd.R_drew)); exact HO_6.out) hb)
        have n1_ := Aside0.mk (Kd.N_below (Kd.N_elderB (by (with_reducible repeat (first | apply Kd.N_alloc | apply Kd.N_drewN | apply Kd.N_drew)); exact HO_149000.out) gb161 (Nat.le_of_eq hg.symm)) hb)
        have n2_ := Aside0.mk (Kd.R_below (by (with_reducible repeat (first | apply Kd.R_alloc | apply Kd.R_drewN | apply Kd.R_drew)); exact HO155.out) hb)
        have n3_ := Aside0.mk (Kd.N_below (Kd.N_elderB (by (with_reducible repeat (first | apply Kd.N_alloc | apply Kd.N_drewN | apply Kd.N_drew)); exact HO159.out) gb161 (Nat.le_of_eq hg.symm)) hb)
        have n4_ := Aside0.mk (blk_below (g := gb147) (o := .cells #[.slice none 0 0] 57 (0, 0)) (by (with_reducible repeat (first | refine blk_drewN ?_ _ | refine blk_drew ?_ | refine blk_alloc ?_ _)); exact BK147.out) hb)
        have n5_ := Aside0.mk (blk_below (g := gb148) (o := .cells #[.slice Ao11 x149000_1.length co11] 57 (0, 0)) (by (with_reducible repeat (first | refine blk_drewN ?_ _ | refine blk_drew ?_ | refine blk_alloc ?_ _)); exact BK148.out) hb)
        have n6_ := Aside0.mk (below_step (by repeat (first | (with_reducible first | exact HB.out | apply below_alloc | apply pw_below_drewN | apply below_drew1 | refine below_set ?_ GE147.out | refine below_set ?_ GE148.out) | exact HB.out)) hb)
        have n7_ := Aside0.mk (hbox)
        have n8_ := Aside0.mk ((by rw [hg]; exact (below_size (by repeat (first | (with_reducible first | exact HB.out | apply below_alloc | apply pw_below_drewN | apply below_drew1 | refine below_set ?_ GE147.out | refine below_set ?_ GE148.out) | exact HB.out))) : w.heap.size ≤ gb161))
        have n9_ := Aside0.mk ((by rw [hg]; exact (below_size (by repeat (first | (with_reducible first | exact HB.out | apply below_alloc | apply pw_below_drewN | apply below_drew1 | refine below_set ?_ GE147.out | refine below_set ?_ GE148.out) | exact HB.out))) : w.heap.size ≤ gb161))
        have n10_ := Aside0.mk ((by rw [hg]; exact Nat.ne_of_lt (blk_lt (g := gb147) (o := .cells #[.slice none 0 0] 57 (0, 0)) (by (with_reducible repeat (first | refine blk_drewN ?_ _ | refine blk_drew ?_ | refine blk_alloc ?_ _)); exact BK147.out)) : gb147 ≠ gb161))
        have n11_ := Aside0.mk ((by rw [hg]; exact Nat.ne_of_gt (blk_lt (g := gb147) (o := .cells #[.slice none 0 0] 57 (0, 0)) (by (with_reducible repeat (first | refine blk_drewN ?_ _ | refine blk_drew ?_ | refine blk_alloc ?_ _)); exact BK147.out)) : gb161 ≠ gb147))
        have n12_ := Aside0.mk ((by rw [hg]; exact Nat.ne_of_lt (blk_lt (g := gb148) (o := .cells #[.slice Ao11 x149000_1.length co11] 57 (0, 0)) (by (with_reducible repeat (first | refine blk_drewN ?_ _ | refine blk_drew ?_ | refine blk_alloc ?_ _)); exact BK148.out)) : gb148 ≠ gb161))
        have n13_ := Aside0.mk ((by rw [hg]; exact Nat.ne_of_gt (blk_lt (g := gb148) (o := .cells #[.slice Ao11 x149000_1.length co11] 57 (0, 0)) (by (with_reducible repeat (first | refine blk_drewN ?_ _ | refine blk_drew ?_ | refine blk_alloc ?_ _)); exact BK148.out)) : gb161 ≠ gb148))
        clear HO_6
        clear HO_149000
        clear HO155
        clear HO159
        clear BK147
        clear BK148
        clear HB
        have HO_6 := n0_
        have HO_149000 := n1_
        have HO155 := n2_
        have HO159 := n3_
        have BK147 := n4_
        have BK148 := n5_
        have HB := n6_
        have BK161 := n7_
        have GW161 := n8_
        have GE161 := n9_
        have NB147_161 := n10_
        have NB161_147 := n11_
        have NB148_161 := n12_
        have NB161_148 := n13_
        clear n0_ n1_ n2_ n3_ n4_ n5_ n6_ n7_ n8_ n9_ n10_ n11_ n12_ n13_
        clear hb hbox hg
        refine hK.out _ _ ⟨(blk_cell BK148.out 0).trans rfl, ((HB.out.cell (World.block_lt_of_cell? w _ hw156_0)).trans hw156_0), ((HB.out.cell (World.block_lt_of_cell? w _ hw156_1)).trans hw156_1)⟩ (fun hHeld => ?_)
        clear hK K
        refine norm_ (a' := ?_) ?_ ?_
        rotate_left
        ·
         show Act.put _ (some 10) _ = _
         simp only [Act.put, List.setIfInBounds_toArray, List.set_cons_zero, List.set_cons_succ, i64_w, i32_w]
         rfl
        exact norm_ (by simp only [putAll, Act.put, List.setIfInBounds_toArray, List.set_cons_zero, List.set_cons_succ]) (hCont (v158, gb161) _ ⟨hHeld, (by (with_reducible repeat (first | apply Kd.R_alloc | apply Kd.R_drewN | apply Kd.R_drew)); exact HO155.out), (by (with_reducible repeat (first | apply Kd.N_alloc | apply Kd.N_drewN | apply Kd.N_drew)); exact Kd.N_mono HO159.out (fun _ hk => ⟨hk.1.1, ⟨hk.1.2.2.1, ⟨hk.1.2.1, ⟨hk.1.2.2.2.1, ⟨hk.1.2.2.2.2, hk.2⟩⟩⟩⟩⟩)), (by (with_reducible repeat (first | apply Kd.N_alloc | apply Kd.N_drewN | apply Kd.N_drew)); exact Kd.N_mono HO_149000.out (fun _ hk => ⟨hk.1.1.1.1, ⟨hk.1.1.2, ⟨hk.1.2, ⟨hk.1.1.1.2.1, ⟨hk.1.1.1.2.2.1, ⟨hk.1.1.1.2.2.2, hk.2⟩⟩⟩⟩⟩⟩)), (by (with_reducible repeat (first | apply Kd.R_alloc | apply Kd.R_drewN | apply Kd.R_drew)); exact HO_6.out), (by (with_reducible repeat (first | refine blk_drewN ?_ _ | refine blk_drew ?_ | refine blk_alloc ?_ _)); exact BK147.out), (by (with_reducible repeat (first | refine blk_drewN ?_ _ | refine blk_drew ?_ | refine blk_alloc ?_ _)); exact BK148.out), (by (with_reducible repeat (first | refine blk_drewN ?_ _ | refine blk_drew ?_ | refine blk_alloc ?_ _)); exact BK161.out), GW161.out, GE161.out, NB147_161.out, NB161_147.out, NB148_161.out, NB161_148.out, (by repeat (first | (with_reducible first | exact HB.out | apply below_alloc | apply pw_below_drewN | apply below_drew1 | refine below_set ?_ GE147.out | refine below_set ?_ GE148.out | refine below_set ?_ GE161.out) | exact HB.out))⟩)
       ·
        skip
        refine box_step ?hg (N := 10) ?hd (cs := #[.slice none 0 0]) (t := 57) ?hr ?_; (case hd => rfl); (case hg => rfl); (case hr => first | (go_simp; done) | (go_simp; rfl))
        intro gb161 hg w14 hbox hb
        have n0_ := Aside0.mk (Kd.R_below (by (with_reducible repeat (first | apply Kd.R_alloc | apply Kd.R_drewN | apply Kd.R_drew)); exact HO_6.out) hb)
        have n1_ := Aside0.mk (Kd.N_below (Kd.N_elderB (by (with_reducible repeat (first | apply Kd.N_alloc | apply Kd.N_drewN | apply Kd.N_drew)); exact HO_149000.out) gb161 (Nat.le_of_eq hg.symm)) hb)
        have n2_ := Aside0.mk (Kd.R_below (by (with_reducible repeat (first | apply Kd.R_alloc | apply Kd.R_drewN | apply Kd.R_drew)); exact HO155.out) hb)
        have n3_ := Aside0.mk (blk_below (g := gb147) (o := .cells #[.slice none 0 0] 57 (0, 0)) (by (with_reducible repeat (first | refine blk_drewN ?_ _ | refine blk_drew ?_ | refine blk_alloc ?_ _)); exact BK147.out) hb)
        have n4_ := Aside0.mk (blk_below (g := gb148) (o := .cells #[.slice Ao11 x149000_1.length co11] 57 (0, 0)) (by (with_reducible repeat (first | refine blk_drewN ?_ _ | refine blk_drew ?_ | refine blk_alloc ?_ _)); exact BK148.out) hb)
        have n5_ := Aside0.mk (below_step (by repeat (first | (with_reducible first | exact HB.out | apply below_alloc | apply pw_below_drewN | apply below_drew1 | refine below_set ?_ GE147.out | refine below_set ?_ GE148.out) | exact HB.out)) hb)
        have n6_ := Aside0.mk (hbox)
        have n7_ := Aside0.mk ((by rw [hg]; exact (below_size (by repeat (first | (with_reducible first | exact HB.out | apply below_alloc | apply pw_below_drewN | apply below_drew1 | refine below_set ?_ GE147.out | refine below_set ?_ GE148.out) | exact HB.out))) : w.heap.size ≤ gb161))
        have n8_ := Aside0.mk ((by rw [hg]; exact (below_size (by repeat (first | (with_reducible first | exact HB.out | apply below_alloc | apply pw_below_drewN | apply below_drew1 | refine below_set ?_ GE147.out | refine below_set ?_ GE148.out) | exact HB.out))) : w.heap.size ≤ gb161))
        have n9_ := Aside0.mk ((by rw [hg]; exact Nat.ne_of_lt (blk_lt (g := gb147) (o := .cells #[.slice none 0 0] 57 (0, 0)) (by (with_reducible repeat (first | refine blk_drewN ?_ _ | refine blk_drew ?_ | refine blk_alloc ?_ _)); exact BK147.out)) : gb147 ≠ gb161))
        have n10_ := Aside0.mk ((by rw [hg]; exact Nat.ne_of_gt (blk_lt (g := gb147) (o := .cells #[.slice none 0 0] 57 (0, 0)) (by (with_reducible repeat (first | refine blk_drewN ?_ _ | refine blk_drew ?_ | refine blk_alloc ?_ _)); exact BK147.out)) : gb161 ≠ gb147))
        have n11_ := Aside0.mk ((by rw [hg]; exact Nat.ne_of_lt (blk_lt (g := gb148) (o := .cells #[.slice Ao11 x149000_1.length co11] 57 (0, 0)) (by (with_reducible repeat (first | refine blk_drewN ?_ _ | refine blk_drew ?_ | refine blk_alloc ?_ _)); exact BK148.out)) : gb148 ≠ gb161))
        have n12_ := Aside0.mk ((by rw [hg]; exact Nat.ne_of_gt (blk_lt (g := gb148) (o := .cells #[.slice Ao11 x149000_1.length co11] 57 (0, 0)) (by (with_reducible repeat (first | refine blk_drewN ?_ _ | refine blk_drew ?_ | refine blk_alloc ?_ _)); exact BK148.out)) : gb161 ≠ gb148))
        clear HO_6
        clear HO_149000
        clear HO155
        clear BK147
        clear BK148
        clear HB
        have HO_6 := n0_
        have HO_149000 := n1_
        have HO155 := n2_
        have BK147 := n3_
        have BK148 := n4_
        have HB := n5_
        have BK161 := n6_
        have GW161 := n7_
        have GE161 := n8_
        have NB147_161 := n9_
        have NB161_147 := n10_
        have NB148_161 := n11_
        have NB161_148 := n12_
        clear n0_ n1_ n2_ n3_ n4_ n5_ n6_ n7_ n8_ n9_ n10_ n11_ n12_
        clear hb hbox hg
        refine hK.out _ _ ⟨(blk_cell BK148.out 0).trans rfl, ((HB.out.cell (World.block_lt_of_cell? w _ hw156_0)).trans hw156_0), ((HB.out.cell (World.block_lt_of_cell? w _ hw156_1)).trans hw156_1)⟩ (fun hHeld => ?_)
        clear hK K
        refine norm_ (a' := ?_) ?_ ?_
        rotate_left
        ·
         show Act.put _ (some 10) _ = _
         simp only [Act.put, List.setIfInBounds_toArray, List.set_cons_zero, List.set_cons_succ, i64_w, i32_w]
         rfl
        refine one_ (i := 7) (N := some 37) #[true, true, true, true, true, true, true, true, false, false, false, true, false, false] rfl rfl (one_of HT_.out (by kernel_rfl)) (by decide) (fun K hK => ?_)
        refine goes_ Try.func37 (by kernel_rfl) rfl #[.agg #[.slice Ao11 x149000_1.length co11], .int .i64 ((rd_T78 l0 x8_1).f0), .slice Ao12 y153.length co12] (by rfl) rfl rfl (by (try simp only [List.map_toArray, List.map_cons, List.map_nil]); first | done | rfl | (simp only [List.length_drop, List.length_take]; rfl)) ?_
        with_reducible refine (model_Add.calls (fun k_ => ((((w.heap.size ≤ k_) ∧ (some k_ ≠ (u6 : Value).ownBlock ∧ (k_ ≠ gb147 ∧ k_ ≠ gb148))) ∧ some k_ ≠ (.slice Ao12 y153.length co12 : Value).ownBlock) ∧ k_ ≠ gb161)) _ _ x149000_1 ((rd_T78 l0 x8_1).f0) _ _ y153 t157 t160 _ ?side1 ?side2 ?side3 A7.out).mono ?_
        (case side1 => exact Kd.N_V (HO_149000.out))
        (case side2 => repeat (first | exact (Kd.R_reads' HO155.out).2.2 | (with_reducible refine Kd.C_alloc ?_ _) | (with_reducible refine Kd.C_drewN ?_ _) | (with_reducible refine Kd.C_drew ?_)))
        (case side3 => exact (Kd.R_reads' HO155.out).2.1)
        rintro e w15 ⟨v158, rfl, ho0, hb⟩
        refine ⟨_, rfl, ?_⟩
        have n0_ := Aside0.mk (Kd.R_below (by (with_reducible repeat (first | apply Kd.R_alloc | apply Kd.R_drewN | apply Kd.R_drew)); exact HO_6.out) hb)
        have n1_ := Aside0.mk (Kd.N_elder' (by (with_reducible repeat (first | apply Kd.N_alloc | apply Kd.N_drewN | apply Kd.N_drew)); exact HO_149000.out) (Kd.N_base ho0) hb)
        have n2_ := Aside0.mk (Kd.R_below (by (with_reducible repeat (first | apply Kd.R_alloc | apply Kd.R_drewN | apply Kd.R_drew)); exact HO155.out) hb)
        have n3_ := Aside0.mk (Kd.N_lower (Kd.N_mono (ok' := fun k_ => (w.heap.size ≤ k_) ∧ some k_ ≠ (u6 : Value).ownBlock ∧ some k_ ≠ (.slice Ao12 y153.length co12 : Value).ownBlock ∧ k_ ≠ gb147 ∧ k_ ≠ gb148 ∧ k_ ≠ gb161) ho0 (fun k_ hk_ => ⟨Or.elim hk_ (fun hs_ => hs_.1.1.1) (fun hn_ => (Nat.le_trans (below_size (by repeat (first | (with_reducible first | exact HB.out | apply below_alloc | apply pw_below_drewN | apply below_drew1 | refine below_set ?_ GE147.out | refine below_set ?_ GE148.out | refine below_set ?_ GE161.out) | exact HB.out))) hn_)), Or.elim hk_ (fun hs_ => hs_.1.1.2.1) (fun hn_ => (Kd.fresh' (Kd.R_lt (by (with_reducible repeat (first | apply Kd.R_alloc | apply Kd.R_drewN | apply Kd.R_drew)); exact HO_6.out)) k_ hn_)), Or.elim hk_ (fun hs_ => hs_.1.2) (fun hn_ => (Kd.fresh' (Kd.R_lt (by (with_reducible repeat (first | apply Kd.R_alloc | apply Kd.R_drewN | apply Kd.R_drew)); exact HO155.out)) k_ hn_)), Or.elim hk_ (fun hs_ => hs_.1.1.2.2.1) (fun hn_ => (Kd.freshB (g := gb147) (o := .cells #[.slice none 0 0] 57 (0, 0)) (by (with_reducible repeat (first | refine blk_drewN ?_ _ | refine blk_drew ?_ | refine blk_alloc ?_ _)); exact BK147.out) k_ hn_)), Or.elim hk_ (fun hs_ => hs_.1.1.2.2.2) (fun hn_ => (Kd.freshB (g := gb148) (o := .cells #[.slice Ao11 x149000_1.length co11] 57 (0, 0)) (by (with_reducible repeat (first | refine blk_drewN ?_ _ | refine blk_drew ?_ | refine blk_alloc ?_ _)); exact BK148.out) k_ hn_)), Or.elim hk_ (fun hs_ => hs_.2) (fun hn_ => (Kd.freshB (g := gb161) (o := .cells #[.slice none 0 0] 57 (0, 0)) (by (with_reducible repeat (first | refine blk_drewN ?_ _ | refine blk_drew ?_ | refine blk_alloc ?_ _)); exact BK161.out) k_ hn_))⟩)) (below_size (by repeat (first | (with_reducible first | exact HB.out | apply below_alloc | apply pw_below_drewN | apply below_drew1 | refine below_set ?_ GE147.out | refine below_set ?_ GE148.out | refine below_set ?_ GE161.out) | exact HB.out))))
        have n4_ := Aside0.mk (blk_below (g := gb147) (o := .cells #[.slice none 0 0] 57 (0, 0)) (by (with_reducible repeat (first | refine blk_drewN ?_ _ | refine blk_drew ?_ | refine blk_alloc ?_ _)); exact BK147.out) hb)
        have n5_ := Aside0.mk (blk_below (g := gb148) (o := .cells #[.slice Ao11 x149000_1.length co11] 57 (0, 0)) (by (with_reducible repeat (first | refine blk_drewN ?_ _ | refine blk_drew ?_ | refine blk_alloc ?_ _)); exact BK148.out) hb)
        have n6_ := Aside0.mk (blk_below (g := gb161) (o := .cells #[.slice none 0 0] 57 (0, 0)) (by (with_reducible repeat (first | refine blk_drewN ?_ _ | refine blk_drew ?_ | refine blk_alloc ?_ _)); exact BK161.out) hb)
        have n7_ := Aside0.mk (below_step (by repeat (first | (with_reducible first | exact HB.out | apply below_alloc | apply pw_below_drewN | apply below_drew1 | refine below_set ?_ GE147.out | refine below_set ?_ GE148.out | refine below_set ?_ GE161.out) | exact HB.out)) hb)
        clear HO_6
        clear HO_149000
        clear HO155
        clear BK147
        clear BK148
        clear BK161
        clear HB
        have HO_6 := n0_
        have HO_149000 := n1_
        have HO155 := n2_
        have HO159 := n3_
        have BK147 := n4_
        have BK148 := n5_
        have BK161 := n6_
        have HB := n7_
        clear n0_ n1_ n2_ n3_ n4_ n5_ n6_ n7_
        (try clear hb)
        (try clear hb2)
        (try clear hk)
        (try clear hi)
        (try clear ho0)
        refine hK.out _ _ ⟨(blk_cell BK148.out 0).trans rfl, ((HB.out.cell (World.block_lt_of_cell? w _ hw156_0)).trans hw156_0), ((HB.out.cell (World.block_lt_of_cell? w _ hw156_1)).trans hw156_1)⟩ (fun hHeld => ?_)
        clear hK K
        refine norm_ (a' := ?_) ?_ ?_
        rotate_left
        ·
         show Act.put _ (some 37) _ = _
         simp only [Act.put, List.setIfInBounds_toArray, List.set_cons_zero, List.set_cons_succ, i64_w, i32_w]
         rfl
        refine pure_ (i := 8) (N := some 29) (v := ?_) (a' := ?_) #[true, true, true, true, true, true, true, true, true, false, false, true, false, false] rfl rfl (any_of HT_.out (by kernel_rfl)) (fun _ _ _ h => h) (Or.inl ⟨by rfl, ?_⟩) ?_ ?_
        rotate_left
        ·
         intro w'
         go_simp
         with_reducible rfl
        rotate_left
        ·
         simp only [Act.put, List.setIfInBounds_toArray, List.set_cons_zero, List.set_cons_succ, i64_w, i32_w]
         rfl
        refine pure_ (i := 9) (N := some 38) (v := ?_) (a' := ?_) #[true, true, true, true, true, true, true, true, true, true, false, true, false, false] rfl rfl (any_of HT_.out (by kernel_rfl)) (fun _ _ _ h => h) (Or.inl ⟨by rfl, ?_⟩) ?_ ?_
        rotate_left
        ·
         intro w'
         go_simp
         with_reducible rfl
        rotate_left
        ·
         simp only [Act.put, List.setIfInBounds_toArray, List.set_cons_zero, List.set_cons_succ, i64_w, i32_w]
         rfl
        refine pure_ (i := 10) (N := some 39) (v := ?_) (a' := ?_) #[true, true, true, true, true, true, true, true, true, true, true, true, false, false] rfl rfl (any_of HT_.out (by kernel_rfl)) (fun _ _ _ h => h) (Or.inl ⟨by rfl, ?_⟩) ?_ ?_
        rotate_left
        ·
         intro w'
         go_simp
         with_reducible rfl
        rotate_left
        ·
         simp only [Act.put, List.setIfInBounds_toArray, List.set_cons_zero, List.set_cons_succ, i64_w, i32_w]
         rfl
        exact norm_ (by simp only [putAll, Act.put, List.setIfInBounds_toArray, List.set_cons_zero, List.set_cons_succ]) (hCont (v158, gb161) _ ⟨hHeld, (by (with_reducible repeat (first | apply Kd.R_alloc | apply Kd.R_drewN | apply Kd.R_drew)); exact HO155.out), (by (with_reducible repeat (first | apply Kd.N_alloc | apply Kd.N_drewN | apply Kd.N_drew)); exact Kd.N_mono HO159.out (fun _ hk => ⟨hk.1, ⟨hk.2.2.1, ⟨hk.2.1, ⟨hk.2.2.2.1, ⟨hk.2.2.2.2.1, hk.2.2.2.2.2⟩⟩⟩⟩⟩)), (by (with_reducible repeat (first | apply Kd.N_alloc | apply Kd.N_drewN | apply Kd.N_drew)); exact Kd.N_mono HO_149000.out (fun _ hk => ⟨hk.1.1.1.1, ⟨hk.1.1.2, ⟨hk.2, ⟨hk.1.1.1.2.1, ⟨hk.1.1.1.2.2.1, ⟨hk.1.1.1.2.2.2, hk.1.2⟩⟩⟩⟩⟩⟩)), (by (with_reducible repeat (first | apply Kd.R_alloc | apply Kd.R_drewN | apply Kd.R_drew)); exact HO_6.out), (by (with_reducible repeat (first | refine blk_drewN ?_ _ | refine blk_drew ?_ | refine blk_alloc ?_ _)); exact BK147.out), (by (with_reducible repeat (first | refine blk_drewN ?_ _ | refine blk_drew ?_ | refine blk_alloc ?_ _)); exact BK148.out), (by (with_reducible repeat (first | refine blk_drewN ?_ _ | refine blk_drew ?_ | refine blk_alloc ?_ _)); exact BK161.out), GW161.out, GE161.out, NB147_161.out, NB161_147.out, NB148_161.out, NB161_148.out, (by repeat (first | (with_reducible first | exact HB.out | apply below_alloc | apply pw_below_drewN | apply below_drew1 | refine below_set ?_ GE147.out | refine below_set ?_ GE148.out | refine below_set ?_ GE161.out) | exact HB.out))⟩)
      rintro ⟨v158, gb161⟩ w16 ⟨hS_, h0_, h1_, h2_, h3_, h4_, h5_, h6_, h7_, h8_, h9_, h10_, h11_, h12_, h13_⟩
      have n0_ : Aside0 (Kd.R k37 37 w16 w.heap.size (fun k_ => (w.heap.size ≤ k_)) (.slice Ao12 y153.length co12) y153) := ⟨h0_⟩
      have n1_ : Aside0 (Kd.N k112 112 w16 w.heap.size (fun k_ => (w.heap.size ≤ k_) ∧ some k_ ≠ (.slice Ao12 y153.length co12 : Value).ownBlock ∧ some k_ ≠ (u6 : Value).ownBlock ∧ k_ ≠ gb147 ∧ k_ ≠ gb148 ∧ k_ ≠ gb161) v158 t157) := ⟨h1_⟩
      have n2_ : Aside0 (Kd.N k112 112 w16 w.heap.size (fun k_ => (w.heap.size ≤ k_) ∧ some k_ ≠ (.slice Ao12 y153.length co12 : Value).ownBlock ∧ some k_ ≠ (v158 : Value).ownBlock ∧ some k_ ≠ (u6 : Value).ownBlock ∧ k_ ≠ gb147 ∧ k_ ≠ gb148 ∧ k_ ≠ gb161) (.slice Ao11 x149000_1.length co11) x149000_1) := ⟨h2_⟩
      have n3_ : Aside0 (Kd.R k109 109 w16 w.heap.size (fun k_ => (w.heap.size ≤ k_)) u6 x6_1) := ⟨h3_⟩
      have n4_ : Aside0 (w16.heap[gb147]? = some (.cells #[.slice none 0 0] 57 (0, 0))) := ⟨h4_⟩
      have n5_ : Aside0 (w16.heap[gb148]? = some (.cells #[.slice Ao11 x149000_1.length co11] 57 (0, 0))) := ⟨h5_⟩
      have n6_ : Aside0 (w16.heap[gb161]? = some (.cells #[.slice none 0 0] 57 (0, 0))) := ⟨h6_⟩
      have n7_ : Aside0 (w.heap.size ≤ gb161) := ⟨h7_⟩
      have n8_ : Aside0 (w.heap.size ≤ gb161) := ⟨h8_⟩
      have n9_ : Aside0 (gb147 ≠ gb161) := ⟨h9_⟩
      have n10_ : Aside0 (gb161 ≠ gb147) := ⟨h10_⟩
      have n11_ : Aside0 (gb148 ≠ gb161) := ⟨h11_⟩
      have n12_ : Aside0 (gb161 ≠ gb148) := ⟨h12_⟩
      have n13_ : Aside0 (Below w.heap.size w w16) := ⟨h13_⟩
      clear HO_6
      clear HO_149000
      clear HO155
      clear BK147
      clear BK148
      clear HB
      clear h0_ h1_ h2_ h3_ h4_ h5_ h6_ h7_ h8_ h9_ h10_ h11_ h12_ h13_
      have HO155 := n0_
      have HO159 := n1_
      have HO_149000 := n2_
      have HO_6 := n3_
      have BK147 := n4_
      have BK148 := n5_
      have BK161 := n6_
      have GW161 := n7_
      have GE161 := n8_
      have NB147_161 := n9_
      have NB161_147 := n10_
      have NB148_161 := n11_
      have NB161_148 := n12_
      have HB := n13_
      clear n0_ n1_ n2_ n3_ n4_ n5_ n6_ n7_ n8_ n9_ n10_ n11_ n12_ n13_
      have hHeld : w16.cell? ⟨gb148, 0, none⟩ = some (.slice Ao11 x149000_1.length co11) ∧ w16.cell? (ad152.add ((x8_1).toNat * 2)) = some (.int .i64 ((rd_T78 l0 x8_1).f0)) ∧ w16.cell? ⟨(ad152.add ((x8_1).toNat * 2)).block, (ad152.add ((x8_1).toNat * 2)).off + 1, none⟩ = some (.slice A156_1 ((rd_T78 l0 x8_1).f1).length c156_1) := hS_
      obtain ⟨Ao17, co17, eo17⟩ := Kd.N_slice HO159.out
      (first | subst eo17 | (injection eo17 with f1_ f2_ f3_; have f4_ := f1_.symm; have f5_ := f3_.symm; clear f1_ f2_ f3_; subst f4_; subst f5_))
      refine norm_ (a' := ?_) ?_ ?_
      rotate_left
      ·
       simp only [putAll, Act.put, List.setIfInBounds_toArray, List.set_cons_zero, List.set_cons_succ]
       rfl
      refine one_ (i := 12) (N := none) #[true, true, true, true, true, true, true, true, true, true, true, true, true, false] rfl rfl (one_of HT_.out (by kernel_rfl)) (by decide) (fun K hK => ?_)
      have hs18 : w16.cell? ⟨gb161, 0, none⟩ = some (.slice none 0 0) := (blk_cell BK161.out 0).trans rfl
      have hfs18 := blk_frozen BK161.out 0
      have hns18_0 := NB147_161.out
      have hns18_1 := NB148_161.out
      have hms18_0 := NB161_147.out
      have hms18_1 := NB161_148.out
      refine skip_ (w1 := ?_) (by rfl) rfl ?_ ?_
      rotate_left
      ·
       go_simp
       rfl
      refine hK.out _ _ ⟨((cell_far (p := ⟨gb161, _, none⟩) NB148_161.out _).trans (hHeld.1)), ((cell_far (p := ⟨gb161, _, none⟩) (by first | exact Nat.ne_of_lt (Nat.lt_of_lt_of_le (by have := World.block_lt_of_cell? _ _ hw156_0; first | rwa [add_block] at this | exact this) GW161.out) | (rw [add_block]; exact Nat.ne_of_lt (Nat.lt_of_lt_of_le (by have := World.block_lt_of_cell? _ _ hw156_0; first | rwa [add_block] at this | exact this) GW161.out)) | (show (Addr.add _ _).block ≠ _; rw [add_block]; exact Nat.ne_of_lt (Nat.lt_of_lt_of_le (by have := World.block_lt_of_cell? _ _ hw156_0; first | rwa [add_block] at this | exact this) GW161.out)) | (dsimp only; exact Nat.ne_of_lt (Nat.lt_of_lt_of_le (by have := World.block_lt_of_cell? _ _ hw156_0; first | rwa [add_block] at this | exact this) GW161.out))) _).trans (hHeld.2.1)), ((cell_far (p := ⟨gb161, _, none⟩) (by first | exact Nat.ne_of_lt (Nat.lt_of_lt_of_le (by have := World.block_lt_of_cell? _ _ hw156_1; first | rwa [add_block] at this | exact this) GW161.out) | (rw [add_block]; exact Nat.ne_of_lt (Nat.lt_of_lt_of_le (by have := World.block_lt_of_cell? _ _ hw156_1; first | rwa [add_block] at this | exact this) GW161.out)) | (show (Addr.add _ _).block ≠ _; rw [add_block]; exact Nat.ne_of_lt (Nat.lt_of_lt_of_le (by have := World.block_lt_of_cell? _ _ hw156_1; first | rwa [add_block] at this | exact this) GW161.out)) | (dsimp only; exact Nat.ne_of_lt (Nat.lt_of_lt_of_le (by have := World.block_lt_of_cell? _ _ hw156_1; first | rwa [add_block] at this | exact this) GW161.out))) _).trans (hHeld.2.2))⟩ (fun hHeld => ?_)
      clear hK K
      refine pure_ (i := 13) (N := some 11) (v := ?_) (a' := ?_) #[true, true, true, true, true, true, true, true, true, true, true, true, true, true] rfl rfl (any_of HT_.out (by kernel_rfl)) (fun _ _ _ h => h) (Or.inl ⟨by rfl, ?_⟩) ?_ ?_
      rotate_left
      ·
       intro w'
       go_simp
       with_reducible rfl
      rotate_left
      ·
       simp only [Act.put, List.setIfInBounds_toArray, List.set_cons_zero, List.set_cons_succ, i64_w, i32_w]
       rfl
      refine done_ (done_of HT_.out (by kernel_rfl)) ?_
      try go_wp2
      go_loopg [12] k1 (fun kq v12 w' => ∃ (x9_2 : List (S37)) (x12_2 : Int), v12 = .int .i64 x12_2 ∧ Aside0 (rundlelaw24_lay.l1 kq l0 x6_1 x7_1 x8_1 x9_2 t160 x12_2 x149000_1 t157 = some (r1, r2, r3)) ∧ Aside0 (kq ≤ k1) ∧ Aside0 (Kd.R k109 109 w' w.heap.size (fun k_ => (w.heap.size ≤ k_)) u6 x6_1) ∧ Aside0 (Kd.R k37 37 w' w.heap.size (fun k_ => (w.heap.size ≤ k_)) (.slice Ao12 y153.length co12) x9_2) ∧ Aside0 (Kd.N k112 112 w' w.heap.size (fun k_ => (w.heap.size ≤ k_) ∧ some k_ ≠ (u6 : Value).ownBlock ∧ some k_ ≠ ((.slice Ao12 y153.length co12) : Value).ownBlock ∧ some k_ ≠ ((.slice Ao17 t157.length co17) : Value).ownBlock ∧ k_ ≠ gb147 ∧ k_ ≠ gb148 ∧ k_ ≠ gb161) (.slice Ao11 x149000_1.length co11) x149000_1) ∧ Aside0 (Kd.N k112 112 w' w.heap.size (fun k_ => (w.heap.size ≤ k_) ∧ some k_ ≠ (u6 : Value).ownBlock ∧ some k_ ≠ ((.slice Ao12 y153.length co12) : Value).ownBlock ∧ k_ ≠ gb147 ∧ k_ ≠ gb148 ∧ k_ ≠ gb161) (.slice Ao17 t157.length co17) t157) ∧ Aside0 (w'.heap[gb147]? = some (.cells #[(.slice none 0 0)] 57 (0, 0))) ∧ Aside0 (w'.heap[gb148]? = some (.cells #[(.slice Ao11 x149000_1.length co11)] 57 (0, 0))) ∧ Aside0 (w'.heap[gb161]? = some (.cells #[(.slice Ao17 t157.length co17)] 57 (0, 0))) ∧ Aside0 (Below w.heap.size w w'))
      case atStart => exact ⟨(y153), (0), (by first | rfl | (simp; done) | (simp [*]; done)), H', ⟨Nat.le_refl _⟩, ⟨by (with_reducible repeat (first | apply Kd.R_alloc | apply Kd.R_drewN | apply Kd.R_drew)); exact Kd.R_mono (Kd.R_far (p := ⟨gb161, 0, none⟩) (Kd.R_types HO_6.out BK161.out (by decide)) (fun _ hk => hk.2) (.slice Ao17 t157.length co17)) (fun _ hk => hk.1)⟩, ⟨by (with_reducible repeat (first | apply Kd.R_alloc | apply Kd.R_drewN | apply Kd.R_drew)); exact Kd.R_mono (Kd.R_far (p := ⟨gb161, 0, none⟩) (Kd.R_types HO155.out BK161.out (by decide)) (fun _ hk => hk.2) (.slice Ao17 t157.length co17)) (fun _ hk => hk.1)⟩, ⟨by (with_reducible repeat (first | apply Kd.N_alloc | apply Kd.N_drewN | apply Kd.N_drew)); exact Kd.N_mono (Kd.N_far (p := ⟨gb161, 0, none⟩) (Kd.N_mono HO_149000.out (fun k_ hk => (⟨hk, hk.2.2.2.2.2.2⟩ : _ ∧ k_ ≠ gb161))) (fun _ hk => hk.2) (.slice Ao17 t157.length co17)) (fun _ hk => ⟨hk.1.1, ⟨hk.1.2.2.2.1, ⟨hk.1.2.1, ⟨hk.1.2.2.1, ⟨hk.1.2.2.2.2.1, ⟨hk.1.2.2.2.2.2.1, hk.1.2.2.2.2.2.2⟩⟩⟩⟩⟩⟩)⟩, ⟨by (with_reducible repeat (first | apply Kd.N_alloc | apply Kd.N_drewN | apply Kd.N_drew)); exact Kd.N_mono (Kd.N_far (p := ⟨gb161, 0, none⟩) (Kd.N_mono HO159.out (fun k_ hk => (⟨hk, hk.2.2.2.2.2⟩ : _ ∧ k_ ≠ gb161))) (fun _ hk => hk.2) (.slice Ao17 t157.length co17)) (fun _ hk => ⟨hk.1.1, ⟨hk.1.2.2.1, ⟨hk.1.2.1, ⟨hk.1.2.2.2.1, ⟨hk.1.2.2.2.2.1, hk.1.2.2.2.2.2⟩⟩⟩⟩⟩)⟩, ⟨by (with_reducible repeat (first | refine blk_drewN ?_ _ | refine blk_drew ?_ | refine blk_alloc ?_ _)); refine blk_far ?_ NB147_161.out _; (with_reducible repeat (first | refine blk_drewN ?_ _ | refine blk_drew ?_ | refine blk_alloc ?_ _)); exact BK147.out⟩, ⟨by (with_reducible repeat (first | refine blk_drewN ?_ _ | refine blk_drew ?_ | refine blk_alloc ?_ _)); refine blk_far ?_ NB148_161.out _; (with_reducible repeat (first | refine blk_drewN ?_ _ | refine blk_drew ?_ | refine blk_alloc ?_ _)); exact BK148.out⟩, ⟨by (with_reducible repeat (first | refine blk_drewN ?_ _ | refine blk_drew ?_ | refine blk_alloc ?_ _)); refine blk_put (cs := #[.slice none 0 0]) ?_ 0 _ rfl; (with_reducible repeat (first | refine blk_drewN ?_ _ | refine blk_drew ?_ | refine blk_alloc ?_ _)); exact BK161.out⟩, ⟨by repeat (first | (with_reducible first | exact HB.out | apply below_alloc | apply pw_below_drewN | apply below_drew1 | refine below_set ?_ GE147.out | refine below_set ?_ GE148.out | refine below_set ?_ GE161.out) | exact HB.out)⟩⟩
      case round =>
       clear H'
       try clear c1
       try clear p1
       try clear q1
       try clear hx1
       try clear c2
       try clear p2
       try clear c3
       try clear c4
       try clear c4b0
       try clear c5
       try clear c5b0
       try clear c6
       try clear c15
       try clear p15
       try clear q15
       try clear hx15
       try clear hx152_0
       try clear hx152_1
       try clear hx156_0
       try clear hx156_1
       try clear p152
       try clear p156
       try clear p2
       try clear q152
       try clear q156
       obtain ⟨x9_2, x12_2, rfl, HA, HK2, HO_6, HO_9, HO_149000, HO_162000, BK147, BK148, BK161, HB⟩ := hrel
       have hl9_2 := (Kd.R_reads' HO_9.out).1
       rw [hl9_2] at HO_9
       (try simp only [hl9_2])
       (try simp only [hl9_2] at BK147)
       (try simp only [hl9_2] at BK148)
       (try simp only [hl9_2] at BK161)
       (try simp only [hl9_2] at HO_6)
       (try simp only [hl9_2] at HO_149000)
       (try simp only [hl9_2] at HO_162000)
       cases gk with
       | zero => exact absurd HA.out (by simp [rundlelaw24_lay.l1])
       | succ k2 =>
        have H := HA.out
        clear HA
        simp only [rundlelaw24_lay.l1] at H
        by_cases c19 : x12_2 < (x9_2.length : Int)
        ·
         rw [if_pos c19] at H
         have c19b0 : decide (x12_2 < (x9_2.length : Int)) = true := decide_eq_true c19
         clear c19
         by_cases c20 : 0 ≤ x12_2
         ·
          rw [if_pos c20] at H
          have c20b0 : decide (0 ≤ x12_2) = true := decide_eq_true c20
          clear c20
          obtain ⟨y162, hy162⟩ : ∃ y_ : List (S37), y_ = (x9_2.set (x12_2 : Int).toNat (⟨(⟨#[]⟩ : ByteArray), (⟨#[]⟩ : ByteArray), false⟩ : S37)) := ⟨_, rfl⟩
          replace H : (rundlelaw24_lay.l1 k2 l0 x6_1 x7_1 x8_1 y162 t160 (wrap64 (x12_2 + 1)) x149000_1 t157) = some (r1, r2, r3) := by first | (rw [hy162]; with_reducible exact H) | (have H2_ := (Option.bind_some _ _).symm.trans H; rw [hy162]; with_reducible exact H2_) | (have H2_ := (Option.bind_some _ _).symm.trans H; with_reducible exact H2_) | with_reducible exact H | (rw [hy162]; exact H) | exact H
          have Ny162 := Aside0.mk hy162
          clear hy162
          have H' := Aside0.mk H
          clear H
          have p21 : 0 ≤ (x12_2 : Int) := of_decide_eq_true (by first | (with_reducible assumption) | assumption)
          have q21 : (x12_2 : Int) < ((x9_2.length : Int) : Int) := of_decide_eq_true (by first | (with_reducible assumption) | assumption)
          obtain ⟨go21, co21, eo21, gb21, gl21, cl21, HG21⟩ := Kd.R_form HO_9.out (by omega)
          (first | cases eo21 | (injection eo21 with ea_ en_ ec_; (first | subst ea_ | (injection ea_ with ea_; subst ea_)); subst ec_; clear en_))
          have GB21 := Aside0.mk gb21
          have GG21 := Aside0.mk HG21
          clear gb21 gl21 HG21
          obtain ⟨ce21, hcl21, hM21, hcc21, hfr21⟩ := Kd.R_elem HO_9.out z37 (x12_2 : Int) p21 q21
          obtain rfl := k37_openM hM21
          have hx21_0 : wr.cell? ⟨go21, (x12_2 : Int).toNat * 3, none⟩ = some (.string ((rd_T37 x9_2 x12_2).f0)) := hcc21 0 _ rfl
          have hx21_1 : wr.cell? ⟨go21, (x12_2 : Int).toNat * 3 + 1, none⟩ = some (.string ((rd_T37 x9_2 x12_2).f1)) := hcc21 1 _ rfl
          have hx21_2 : wr.cell? ⟨go21, (x12_2 : Int).toNat * 3 + 2, none⟩ = some (.bool ((rd_T37 x9_2 x12_2).f2)) := hcc21 2 _ rfl
          have hf21_0 : wr.frozen? ⟨go21, (x12_2 : Int).toNat * 3, none⟩ = false := hfr21 0
          have hf21_1 : wr.frozen? ⟨go21, (x12_2 : Int).toNat * 3 + 1, none⟩ = false := hfr21 1
          have hf21_2 : wr.frozen? ⟨go21, (x12_2 : Int).toNat * 3 + 2, none⟩ = false := hfr21 2
          clear hcl21 hcc21 hfr21 hM21
          replace p21 := eq_true p21
          replace q21 := eq_true q21
          have HX22 := Aside0.mk (show Kd.R k37 37 wr w.heap.size (fun k_ => (w.heap.size ≤ k_)) (.slice (some ⟨go21, 0, none⟩) x9_2.length co12) x9_2 from (by (with_reducible repeat (first | apply Kd.R_alloc | apply Kd.R_drewN | apply Kd.R_drew)); exact HO_9.out))
          obtain ⟨ce22, hcl22, hM22, hcc22, hfr22⟩ := Kd.R_elem HX22.out z37 (x12_2 : Int) (of_decide_eq_true (by first | (with_reducible assumption) | assumption)) (by have h_ : (x12_2 : Int) < ((x9_2.length : Int) : Int) := of_decide_eq_true (by first | (with_reducible assumption) | assumption); first | exact h_ | (have e_ := (Kd.R_reads' HO_9.out).1; omega) | simpa using h_)
          obtain rfl := k37_openM hM22
          have HP22 := Kd.R_seg HX22.out (x12_2 : Int) (of_decide_eq_true (by first | (with_reducible assumption) | assumption)) (by have h_ : (x12_2 : Int) < ((x9_2.length : Int) : Int) := of_decide_eq_true (by first | (with_reducible assumption) | assumption); first | exact h_ | (have e_ := (Kd.R_reads' HO_9.out).1; omega) | simpa using h_) (seg := [.string (⟨#[]⟩ : ByteArray), .string (⟨#[]⟩ : ByteArray), .bool false]) (j := 0) hcl22 hcc22 (show 3 ≤ 3 from by decide) (x' := (⟨(⟨#[]⟩ : ByteArray), (⟨#[]⟩ : ByteArray), false⟩ : S37)) (k37_mkM _ _ _ (⟨(⟨#[]⟩ : ByteArray), (⟨#[]⟩ : ByteArray), false⟩ : S37) ) (fun _ hk => hk)
          have hx22_0 := hcc22 0 _ rfl
          (try simp only [show (k37).sz = 3 from rfl, Nat.mul_one, Nat.add_zero] at hx22_0)
          have hf22_0 := hfr22 0
          (try simp only [show (k37).sz = 3 from rfl, Nat.mul_one, Nat.add_zero] at hf22_0)
          have hx22_1 := hcc22 1 _ rfl
          (try simp only [show (k37).sz = 3 from rfl, Nat.mul_one, Nat.add_zero] at hx22_1)
          have hf22_1 := hfr22 1
          (try simp only [show (k37).sz = 3 from rfl, Nat.mul_one, Nat.add_zero] at hf22_1)
          have hx22_2 := hcc22 2 _ rfl
          (try simp only [show (k37).sz = 3 from rfl, Nat.mul_one, Nat.add_zero] at hx22_2)
          have hf22_2 := hfr22 2
          (try simp only [show (k37).sz = 3 from rfl, Nat.mul_one, Nat.add_zero] at hf22_2)
          clear hcl22 hcc22 hfr22 hM22
          go_wp2_with (first | ((with_reducible refine gate_store (t := 37) (p := 49) rfl ?_); refine store_event (t := 37) (p := 49) (v := ?vo_w23) (w1 := (((wr.setCell ⟨go21, (x12_2 : Int).toNat * 3, none⟩ (.string (⟨#[]⟩ : ByteArray))).setCell ⟨go21, (x12_2 : Int).toNat * 3 + 1, none⟩ (.string (⟨#[]⟩ : ByteArray))).setCell ⟨go21, (x12_2 : Int).toNat * 3 + 2, none⟩ (.bool false))) ?hg ?ho ?hn ?hr ?_; (case ho => rfl); (case hg => rfl); (case hn => rfl); (case hr => first | (go_simp; done) | (go_simp; rfl)); intro w23 hw; have hg : wr.grownBy w23 (some go21) := (by rw [hw]; exact HP22.2); have hp_ : Kd.R k37 37 w23 w.heap.size (fun k_ => (w.heap.size ≤ k_)) (.slice (some ⟨go21, 0, none⟩) x9_2.length co12) y162 := (by rw [hw, Ny162.out]; exact HP22.1); clear HP22; have n0_ := Aside0.mk (Kd.R_over' (v := (.slice (some ⟨go21, 0, none⟩) x9_2.length co12)) (by (with_reducible repeat (first | apply Kd.R_alloc | apply Kd.R_drewN | apply Kd.R_drew)); exact HO_6.out) (Kd.R_typed HO_9.out) (by decide) hg); have n1_ := Aside0.mk (hp_); have n2_ := Aside0.mk (Kd.N_afterv (v := (.slice (some ⟨go21, 0, none⟩) x9_2.length co12)) (v1 := (.slice (some ⟨go21, 0, none⟩) x9_2.length co12)) (ok := (fun k_ => (w.heap.size ≤ k_) ∧ some k_ ≠ (u6 : Value).ownBlock ∧ some k_ ≠ (.slice Ao17 t157.length co17 : Value).ownBlock ∧ k_ ≠ gb147 ∧ k_ ≠ gb148 ∧ k_ ≠ gb161)) (by (with_reducible repeat (first | apply Kd.N_alloc | apply Kd.N_drewN | apply Kd.N_drew)); exact Kd.N_mono HO_149000.out (fun _ hk => ⟨⟨hk.1, ⟨hk.2.1, ⟨hk.2.2.2.1, ⟨hk.2.2.2.2.1, ⟨hk.2.2.2.2.2.1, hk.2.2.2.2.2.2⟩⟩⟩⟩⟩, hk.2.2.1⟩)) hg (.inl rfl)); have n3_ := Aside0.mk (Kd.N_afterv (v := (.slice (some ⟨go21, 0, none⟩) x9_2.length co12)) (v1 := (.slice (some ⟨go21, 0, none⟩) x9_2.length co12)) (ok := (fun k_ => (w.heap.size ≤ k_) ∧ some k_ ≠ (u6 : Value).ownBlock ∧ k_ ≠ gb147 ∧ k_ ≠ gb148 ∧ k_ ≠ gb161)) (by (with_reducible repeat (first | apply Kd.N_alloc | apply Kd.N_drewN | apply Kd.N_drew)); exact Kd.N_mono HO_162000.out (fun _ hk => ⟨⟨hk.1, ⟨hk.2.1, ⟨hk.2.2.2.1, ⟨hk.2.2.2.2.1, hk.2.2.2.2.2⟩⟩⟩⟩, hk.2.2.1⟩)) hg (.inl rfl)); have n4_ := Aside0.mk (blk_grown (g := gb147) (o := .cells #[.slice none 0 0] 57 (0, 0)) (by (with_reducible repeat (first | refine blk_drewN ?_ _ | refine blk_drew ?_ | refine blk_alloc ?_ _)); exact BK147.out) hg (Kd.R_ne HO_9.out BK147.out (by decide))); have n5_ := Aside0.mk (blk_grown (g := gb148) (o := .cells #[.slice Ao11 x149000_1.length co11] 57 (0, 0)) (by (with_reducible repeat (first | refine blk_drewN ?_ _ | refine blk_drew ?_ | refine blk_alloc ?_ _)); exact BK148.out) hg (Kd.R_ne HO_9.out BK148.out (by decide))); have n6_ := Aside0.mk (blk_grown (g := gb161) (o := .cells #[.slice Ao17 t157.length co17] 57 (0, 0)) (by (with_reducible repeat (first | refine blk_drewN ?_ _ | refine blk_drew ?_ | refine blk_alloc ?_ _)); exact BK161.out) hg (Kd.R_ne HO_9.out BK161.out (by decide))); have n7_ := Aside0.mk ((by rw [hw]; exact below_set (below_set (below_set (HB.out) GB21.out) GB21.out) GB21.out : Below w.heap.size w w23)); clear HO_6; clear HO_9; clear HO_149000; clear HO_162000; clear BK147; clear BK148; clear BK161; clear HB; have HO_6 := n0_; have HO_9 := n1_; have HO_149000 := n2_; have HO_162000 := n3_; have BK147 := n4_; have BK148 := n5_; have BK161 := n6_; have HB := n7_; clear n0_ n1_ n2_ n3_ n4_ n5_ n6_ n7_; clear hg hw hp_))
          (try simp only [← hl9_2])
          go_roundg k2
          case measure => have := HK1.out; have := HK2.out; omega
          case rel => exact ⟨(y162), (wrap64 (x12_2 + 1)), (by first | rfl | (simp; done) | (simp [*]; done)), H', ⟨by have := HK1.out; have := HK2.out; omega⟩, ⟨by (try simp only [hl9_2]); (with_reducible repeat (first | apply Kd.R_alloc | apply Kd.R_drewN | apply Kd.R_drew)); exact HO_6.out⟩, ⟨by (try simp only [hl9_2]); (with_reducible repeat (first | apply Kd.R_alloc | apply Kd.R_drewN | apply Kd.R_drew)); exact HO_9.out⟩, ⟨by (try simp only [hl9_2]); (with_reducible repeat (first | apply Kd.N_alloc | apply Kd.N_drewN | apply Kd.N_drew)); exact Kd.N_mono HO_149000.out (fun _ hk => ⟨hk.1.1, ⟨hk.1.2.1, ⟨hk.2, ⟨hk.1.2.2.1, ⟨hk.1.2.2.2.1, ⟨hk.1.2.2.2.2.1, hk.1.2.2.2.2.2⟩⟩⟩⟩⟩⟩)⟩, ⟨by (try simp only [hl9_2]); (with_reducible repeat (first | apply Kd.N_alloc | apply Kd.N_drewN | apply Kd.N_drew)); exact Kd.N_mono HO_162000.out (fun _ hk => ⟨hk.1.1, ⟨hk.1.2.1, ⟨hk.2, ⟨hk.1.2.2.1, ⟨hk.1.2.2.2.1, hk.1.2.2.2.2⟩⟩⟩⟩⟩)⟩, ⟨by (try simp only [hl9_2]); (with_reducible repeat (first | refine blk_drewN ?_ _ | refine blk_drew ?_ | refine blk_alloc ?_ _)); exact BK147.out⟩, ⟨by (try simp only [hl9_2]); (with_reducible repeat (first | refine blk_drewN ?_ _ | refine blk_drew ?_ | refine blk_alloc ?_ _)); exact BK148.out⟩, ⟨by (try simp only [hl9_2]); (with_reducible repeat (first | refine blk_drewN ?_ _ | refine blk_drew ?_ | refine blk_alloc ?_ _)); exact BK161.out⟩, ⟨by repeat (first | (with_reducible first | exact HB.out | apply below_alloc | apply pw_below_drewN | apply below_drew1 | refine below_set ?_ GE147.out | refine below_set ?_ GE148.out | refine below_set ?_ GE161.out) | exact HB.out)⟩⟩
         ·
          rw [if_neg c20] at H
          exact absurd H (by simp)
        ·
         rw [if_neg c19] at H
         have c19b0 : decide (x12_2 < (x9_2.length : Int)) = false := decide_eq_false c19
         clear c19
         by_cases c24 : 0 ≤ x8_1
         ·
          rw [if_pos c24] at H
          have c24b0 : decide (0 ≤ x8_1) = true := decide_eq_true c24
          clear c24
          by_cases c25 : x8_1 < (l0.length : Int)
          ·
           rw [if_pos c25] at H
           have c25b0 : decide (x8_1 < (l0.length : Int)) = true := decide_eq_true c25
           clear c25
           replace H := Option.bind_eq_some_iff.mp H
           obtain ⟨t164, A260, H⟩ := H
           replace H : (if ((rd_T78 l0 x8_1).f0) ≤ x7_1 then (rundlelaw24_lay.j2 k2 l0 x6_1 x7_1 x8_1 t160 10 x149000_1 t157) else (rundlelaw24_lay.j2 k2 l0 x6_1 x7_1 x8_1 t160 t164 x149000_1 t157)) = some (r1, r2, r3) := H
           have A26 := Aside0.mk A260
           clear A260
           have HC27 := Aside0.mk H
           clear H
           have p163 : 0 ≤ (x8_1 : Int) := of_decide_eq_true (by first | (with_reducible assumption) | assumption)
           have q163 : x8_1 < (l0.length : Int) := of_decide_eq_true (by first | (with_reducible assumption) | assumption)
           obtain ⟨ad163, A163_1, c163_1, e163, hx163_0, hx163_1, hl163_1, hi163_1⟩ := at_T78 HR0.out x8_1 p163 q163
           obtain rfl : ad152 = ad163 := (by injection e163)
           replace hx163_0 := (HB.out.cell (World.block_lt_of_cell? w _ hx163_0)).trans hx163_0
           replace hx163_1 := (HB.out.cell (World.block_lt_of_cell? w _ hx163_1)).trans hx163_1
           have HR163_1 := Aside0.mk hi163_1
           have HC163_1 := Aside0.mk hl163_1
           clear hi163_1 hl163_1
           replace p163 := eq_true p163
           replace q163 := eq_true q163
           go_upto_if 62 with (first | ((with_reducible refine gate_callee (f := 15) rfl ?_); refine goesL_ (some 55) rfl rfl Try.func15 (by kernel_rfl) rfl #[.slice A163_1 ((rd_T78 l0 x8_1).f1).length c163_1] rfl (by (try simp only [List.map_toArray, List.map_cons, List.map_nil]); first | done | rfl | (simp only [List.length_drop, List.length_take]; rfl)) ?_; (with_reducible refine (batch_Check.calls k2 _ _ ((rd_T78 l0 x8_1).f1) t164 _ ?side1 ?side2 A26.out).mono ?_); (case side1 => repeat (first | exact (Kd.C_below HR163_1.out HB.out) | (with_reducible refine Kd.C_alloc ?_ _) | (with_reducible refine Kd.C_drewN ?_ _) | (with_reducible refine Kd.C_drew ?_))); (case side2 => exact HC163_1.out); rintro e w28 ⟨rfl, hb⟩; refine ⟨_, rfl, ?_⟩; have n0_ := Aside0.mk (Kd.R_below (by (with_reducible repeat (first | apply Kd.R_alloc | apply Kd.R_drewN | apply Kd.R_drew)); exact HO_6.out) hb); have n1_ := Aside0.mk (Kd.R_below (by (with_reducible repeat (first | apply Kd.R_alloc | apply Kd.R_drewN | apply Kd.R_drew)); exact HO_9.out) hb); have n2_ := Aside0.mk (Kd.N_below (by (with_reducible repeat (first | apply Kd.N_alloc | apply Kd.N_drewN | apply Kd.N_drew)); exact HO_149000.out) hb); have n3_ := Aside0.mk (Kd.N_below (by (with_reducible repeat (first | apply Kd.N_alloc | apply Kd.N_drewN | apply Kd.N_drew)); exact HO_162000.out) hb); have n4_ := Aside0.mk (blk_below (g := gb147) (o := .cells #[.slice none 0 0] 57 (0, 0)) (by (with_reducible repeat (first | refine blk_drewN ?_ _ | refine blk_drew ?_ | refine blk_alloc ?_ _)); exact BK147.out) hb); have n5_ := Aside0.mk (blk_below (g := gb148) (o := .cells #[.slice Ao11 x149000_1.length co11] 57 (0, 0)) (by (with_reducible repeat (first | refine blk_drewN ?_ _ | refine blk_drew ?_ | refine blk_alloc ?_ _)); exact BK148.out) hb); have n6_ := Aside0.mk (blk_below (g := gb161) (o := .cells #[.slice Ao17 t157.length co17] 57 (0, 0)) (by (with_reducible repeat (first | refine blk_drewN ?_ _ | refine blk_drew ?_ | refine blk_alloc ?_ _)); exact BK161.out) hb); have n7_ := Aside0.mk (below_step (by repeat (first | (with_reducible first | exact HB.out | apply below_alloc | apply pw_below_drewN | apply below_drew1 | refine below_set ?_ GE147.out | refine below_set ?_ GE148.out | refine below_set ?_ GE161.out) | exact HB.out)) hb); clear HO_6; clear HO_9; clear HO_149000; clear HO_162000; clear BK147; clear BK148; clear BK161; clear HB; have HO_6 := n0_; have HO_9 := n1_; have HO_149000 := n2_; have HO_162000 := n3_; have BK147 := n4_; have BK148 := n5_; have BK161 := n6_; have HB := n7_; clear n0_ n1_ n2_ n3_ n4_ n5_ n6_ n7_; (try clear hb); (try clear hb2); (try clear hk); (try clear hi); have p165 : 0 ≤ (x8_1 : Int) := of_decide_eq_true (by first | (with_reducible assumption) | assumption); have q165 : x8_1 < (l0.length : Int) := of_decide_eq_true (by first | (with_reducible assumption) | assumption); obtain ⟨ad165, A165_1, c165_1, e165, hx165_0, hx165_1, hl165_1, hi165_1⟩ := at_T78 HR0.out x8_1 p165 q165; obtain rfl : ad152 = ad165 := (by injection e165); replace hx165_0 := (HB.out.cell (World.block_lt_of_cell? w _ hx165_0)).trans hx165_0; replace hx165_1 := (HB.out.cell (World.block_lt_of_cell? w _ hx165_1)).trans hx165_1; have HR165_1 := Aside0.mk hi165_1; have HC165_1 := Aside0.mk hl165_1; clear hi165_1 hl165_1; replace p165 := eq_true p165; replace q165 := eq_true q165))
           (try simp only [Act.put, List.setIfInBounds_toArray, List.set_cons_zero, List.set_cons_succ])
           go_cut [13] (fun v13 wc => ∃ (kq : Nat) (x13_26 : Int), v13 = .int .i64 x13_26 ∧ Aside0 (rundlelaw24_lay.j2 kq l0 x6_1 x7_1 x8_1 t160 x13_26 x149000_1 t157 = some (r1, r2, r3)) ∧ Aside0 (kq ≤ k2) ∧ Aside0 (Kd.R k109 109 wc w.heap.size (fun k_ => (w.heap.size ≤ k_)) u6 x6_1) ∧ Aside0 (Kd.N k112 112 wc w.heap.size (fun k_ => (w.heap.size ≤ k_) ∧ some k_ ≠ (u6 : Value).ownBlock ∧ some k_ ≠ ((.slice Ao17 t157.length co17) : Value).ownBlock ∧ k_ ≠ gb147 ∧ k_ ≠ gb148 ∧ k_ ≠ gb161) (.slice Ao11 x149000_1.length co11) x149000_1) ∧ Aside0 (Kd.N k112 112 wc w.heap.size (fun k_ => (w.heap.size ≤ k_) ∧ some k_ ≠ (u6 : Value).ownBlock ∧ k_ ≠ gb147 ∧ k_ ≠ gb148 ∧ k_ ≠ gb161) (.slice Ao17 t157.length co17) t157) ∧ Aside0 (wc.heap[gb147]? = some (.cells #[(.slice none 0 0)] 57 (0, 0))) ∧ Aside0 (wc.heap[gb148]? = some (.cells #[(.slice Ao11 x149000_1.length co11)] 57 (0, 0))) ∧ Aside0 (wc.heap[gb161]? = some (.cells #[(.slice Ao17 t157.length co17)] 57 (0, 0))) ∧ Aside0 (Below w.heap.size w wc))
           case first =>
            have H := HC27.out
            clear HC27
            by_cases c29 : ((rd_T78 l0 x8_1).f0) ≤ x7_1
            ·
             rw [if_pos c29] at H
             have c29b0 : decide (((rd_T78 l0 x8_1).f0) ≤ x7_1) = true := decide_eq_true c29
             clear c29
             (first | rw [c29b0] | (simp only [i64_w, i32_w]; rw [c29b0]) | skip)
             have H' := Aside0.mk H
             clear H
             go_wp2
             go_meet
             case rel => exact ⟨_, (10), (by first | rfl | (simp; done) | (simp [*]; done)), H', ⟨by have := HK1.out; have := HK2.out; first | omega | exact Nat.le_refl _⟩, ⟨by (try simp only [hl9_2]); (with_reducible repeat (first | apply Kd.R_alloc | apply Kd.R_drewN | apply Kd.R_drew)); exact HO_6.out⟩, ⟨by (try simp only [hl9_2]); (with_reducible repeat (first | apply Kd.N_alloc | apply Kd.N_drewN | apply Kd.N_drew)); exact Kd.N_mono HO_149000.out (fun _ hk => ⟨hk.1, ⟨hk.2.1, ⟨hk.2.2.2.1, ⟨hk.2.2.2.2.1, ⟨hk.2.2.2.2.2.1, hk.2.2.2.2.2.2⟩⟩⟩⟩⟩)⟩, ⟨by (try simp only [hl9_2]); (with_reducible repeat (first | apply Kd.N_alloc | apply Kd.N_drewN | apply Kd.N_drew)); exact Kd.N_mono HO_162000.out (fun _ hk => ⟨hk.1, ⟨hk.2.1, ⟨hk.2.2.2.1, ⟨hk.2.2.2.2.1, hk.2.2.2.2.2⟩⟩⟩⟩)⟩, ⟨by (try simp only [hl9_2]); (with_reducible repeat (first | refine blk_drewN ?_ _ | refine blk_drew ?_ | refine blk_alloc ?_ _)); exact BK147.out⟩, ⟨by (try simp only [hl9_2]); (with_reducible repeat (first | refine blk_drewN ?_ _ | refine blk_drew ?_ | refine blk_alloc ?_ _)); exact BK148.out⟩, ⟨by (try simp only [hl9_2]); (with_reducible repeat (first | refine blk_drewN ?_ _ | refine blk_drew ?_ | refine blk_alloc ?_ _)); exact BK161.out⟩, ⟨by repeat (first | (with_reducible first | exact HB.out | apply below_alloc | apply pw_below_drewN | apply below_drew1 | refine below_set ?_ GE147.out | refine below_set ?_ GE148.out | refine below_set ?_ GE161.out) | exact HB.out)⟩⟩
            ·
             rw [if_neg c29] at H
             have c29b0 : decide (((rd_T78 l0 x8_1).f0) ≤ x7_1) = false := decide_eq_false c29
             clear c29
             (first | rw [c29b0] | (simp only [i64_w, i32_w]; rw [c29b0]) | skip)
             have H' := Aside0.mk H
             clear H
             go_wp2
             go_meet
             case rel => exact ⟨_, (t164), (by first | rfl | (simp; done) | (simp [*]; done)), H', ⟨by have := HK1.out; have := HK2.out; first | omega | exact Nat.le_refl _⟩, ⟨by (try simp only [hl9_2]); (with_reducible repeat (first | apply Kd.R_alloc | apply Kd.R_drewN | apply Kd.R_drew)); exact HO_6.out⟩, ⟨by (try simp only [hl9_2]); (with_reducible repeat (first | apply Kd.N_alloc | apply Kd.N_drewN | apply Kd.N_drew)); exact Kd.N_mono HO_149000.out (fun _ hk => ⟨hk.1, ⟨hk.2.1, ⟨hk.2.2.2.1, ⟨hk.2.2.2.2.1, ⟨hk.2.2.2.2.2.1, hk.2.2.2.2.2.2⟩⟩⟩⟩⟩)⟩, ⟨by (try simp only [hl9_2]); (with_reducible repeat (first | apply Kd.N_alloc | apply Kd.N_drewN | apply Kd.N_drew)); exact Kd.N_mono HO_162000.out (fun _ hk => ⟨hk.1, ⟨hk.2.1, ⟨hk.2.2.2.1, ⟨hk.2.2.2.2.1, hk.2.2.2.2.2⟩⟩⟩⟩)⟩, ⟨by (try simp only [hl9_2]); (with_reducible repeat (first | refine blk_drewN ?_ _ | refine blk_drew ?_ | refine blk_alloc ?_ _)); exact BK147.out⟩, ⟨by (try simp only [hl9_2]); (with_reducible repeat (first | refine blk_drewN ?_ _ | refine blk_drew ?_ | refine blk_alloc ?_ _)); exact BK148.out⟩, ⟨by (try simp only [hl9_2]); (with_reducible repeat (first | refine blk_drewN ?_ _ | refine blk_drew ?_ | refine blk_alloc ?_ _)); exact BK161.out⟩, ⟨by repeat (first | (with_reducible first | exact HB.out | apply below_alloc | apply pw_below_drewN | apply below_drew1 | refine below_set ?_ GE147.out | refine below_set ?_ GE148.out | refine below_set ?_ GE161.out) | exact HB.out)⟩⟩
           case rest =>
            clear HC27
            try clear c1
            try clear p1
            try clear q1
            try clear hx1
            try clear c2
            try clear p2
            try clear q2
            try clear hx2
            try clear hf2
            try clear c3
            try clear c4
            try clear c4b0
            try clear c5
            try clear c5b0
            try clear c6
            try clear p6
            try clear c15
            try clear p15
            try clear q15
            try clear hx15
            try clear c16
            try clear p16
            try clear q16
            try clear hx16
            try clear c19
            try clear c19b0
            try clear c20
            try clear c20b0
            try clear c21
            try clear p21
            try clear q21
            try clear hx21
            try clear hf21
            try clear c22
            try clear hx22
            try clear hf22
            try clear c24
            try clear c24b0
            try clear c25
            try clear c25b0
            try clear c28
            try clear c29
            try clear c29b0
            try clear hx152_0
            try clear hx152_1
            try clear hx156_0
            try clear hx156_1
            try clear hx163_0
            try clear hx163_1
            try clear hx165_0
            try clear hx165_1
            try clear hx21_0
            try clear hx21_1
            try clear hx21_2
            try clear hx22_0
            try clear hx22_1
            try clear hx22_2
            try clear p1
            try clear p15
            try clear p152
            try clear p156
            try clear p163
            try clear p165
            try clear p2
            try clear p21
            try clear q1
            try clear q15
            try clear q152
            try clear q156
            try clear q163
            try clear q165
            try clear q21
            obtain ⟨kq, x13_26, rfl, HA, HJ26, HO_6, HO_149000, HO_162000, BK147, BK148, BK161, HB⟩ := hcut
            cases kq with
            | zero => exact absurd HA.out (by simp [rundlelaw24_lay.j2])
            | succ kj26 =>
             have H := HA.out
             clear HA
             simp only [rundlelaw24_lay.j2] at H
             have HC30 := Aside0.mk H
             clear H
             go_upto_region 16 with (fail)
             go_cut [71] (fun v71 wc => ∃ (kq : Nat) (x71_29 : Bool), v71 = .bool x71_29 ∧ Aside0 (rundlelaw24_lay.j3 kq l0 x6_1 x7_1 x8_1 t160 x71_29 x149000_1 t157 = some (r1, r2, r3)) ∧ Aside0 (kq ≤ kj26) ∧ Aside0 (Kd.R k109 109 wc w.heap.size (fun k_ => (w.heap.size ≤ k_)) u6 x6_1) ∧ Aside0 (Kd.N k112 112 wc w.heap.size (fun k_ => (w.heap.size ≤ k_) ∧ some k_ ≠ (u6 : Value).ownBlock ∧ some k_ ≠ ((.slice Ao17 t157.length co17) : Value).ownBlock ∧ k_ ≠ gb147 ∧ k_ ≠ gb148 ∧ k_ ≠ gb161) (.slice Ao11 x149000_1.length co11) x149000_1) ∧ Aside0 (Kd.N k112 112 wc w.heap.size (fun k_ => (w.heap.size ≤ k_) ∧ some k_ ≠ (u6 : Value).ownBlock ∧ k_ ≠ gb147 ∧ k_ ≠ gb148 ∧ k_ ≠ gb161) (.slice Ao17 t157.length co17) t157) ∧ Aside0 (wc.heap[gb147]? = some (.cells #[(.slice none 0 0)] 57 (0, 0))) ∧ Aside0 (wc.heap[gb148]? = some (.cells #[(.slice Ao11 x149000_1.length co11)] 57 (0, 0))) ∧ Aside0 (wc.heap[gb161]? = some (.cells #[(.slice Ao17 t157.length co17)] 57 (0, 0))) ∧ Aside0 (Below w.heap.size w wc))
             case first =>
              have H := HC30.out
              clear HC30
              by_cases c31 : t160 = x13_26
              ·
               rw [if_pos c31] at H
               have c31b0 : (t160 == x13_26) = true := beq_iff_eq.mpr c31
               have c31b1 : (t160 != x13_26) = false := bne_eq_false_iff_eq.mpr c31
               clear c31
               (first | rw [c31b0] | (simp only [i64_w, i32_w]; rw [c31b0]) | skip)
               replace H := Option.bind_eq_some_iff.mp H
               obtain ⟨t166, A320, H⟩ := H
               replace H : (rundlelaw24_lay.j3 kj26 l0 x6_1 x7_1 x8_1 t160 (t166 != x7_1) x149000_1 t157) = some (r1, r2, r3) := H
               have A32 := Aside0.mk A320
               clear A320
               have H' := Aside0.mk H
               clear H
               have hnb33 := NB148_147.out
               have hnc33 := NB147_148.out
               have hnb34 := NB148_161.out
               have hnc34 := NB161_148.out
               have hcz35_0 : wc.cell? ⟨gb148, 0, none⟩ = some (.slice Ao11 x149000_1.length co11) := (blk_cell BK148.out 0).trans rfl
               have hfz35_0 := blk_frozen BK148.out 0
               go_wp2_with (first | (go_at_call 36; (with_reducible refine (model_Last.calls _ _ x149000_1 t166 _ ?side1 ?side2 A32.out).mono ?_); (case side1 => repeat (first | exact (Kd.N_reads' HO_149000.out).2.2 | (with_reducible refine Kd.C_alloc ?_ _) | (with_reducible refine Kd.C_drewN ?_ _) | (with_reducible refine Kd.C_drew ?_))); (case side2 => exact (Kd.N_reads' HO_149000.out).2.1); rintro e w36 ⟨rfl, hb⟩; have n0_ := Aside0.mk (Kd.R_below (by (with_reducible repeat (first | apply Kd.R_alloc | apply Kd.R_drewN | apply Kd.R_drew)); exact HO_6.out) hb); have n1_ := Aside0.mk (Kd.N_below (by (with_reducible repeat (first | apply Kd.N_alloc | apply Kd.N_drewN | apply Kd.N_drew)); exact HO_149000.out) hb); have n2_ := Aside0.mk (Kd.N_below (by (with_reducible repeat (first | apply Kd.N_alloc | apply Kd.N_drewN | apply Kd.N_drew)); exact HO_162000.out) hb); have n3_ := Aside0.mk (blk_below (g := gb147) (o := .cells #[.slice none 0 0] 57 (0, 0)) (by (with_reducible repeat (first | refine blk_drewN ?_ _ | refine blk_drew ?_ | refine blk_alloc ?_ _)); exact BK147.out) hb); have n4_ := Aside0.mk (blk_below (g := gb148) (o := .cells #[.slice Ao11 x149000_1.length co11] 57 (0, 0)) (by (with_reducible repeat (first | refine blk_drewN ?_ _ | refine blk_drew ?_ | refine blk_alloc ?_ _)); exact BK148.out) hb); have n5_ := Aside0.mk (blk_below (g := gb161) (o := .cells #[.slice Ao17 t157.length co17] 57 (0, 0)) (by (with_reducible repeat (first | refine blk_drewN ?_ _ | refine blk_drew ?_ | refine blk_alloc ?_ _)); exact BK161.out) hb); have n6_ := Aside0.mk (below_step (by repeat (first | (with_reducible first | exact HB.out | apply below_alloc | apply pw_below_drewN | apply below_drew1 | refine below_set ?_ GE147.out | refine below_set ?_ GE148.out | refine below_set ?_ GE161.out) | exact HB.out)) hb); clear HO_6; clear HO_149000; clear HO_162000; clear BK147; clear BK148; clear BK161; clear HB; have HO_6 := n0_; have HO_149000 := n1_; have HO_162000 := n2_; have BK147 := n3_; have BK148 := n4_; have BK161 := n5_; have HB := n6_; clear n0_ n1_ n2_ n3_ n4_ n5_ n6_; (try clear hb); (try clear hb2); (try clear hk); (try clear hi)))
               go_meet
               case rel => exact ⟨_, ((t166 != x7_1)), (by first | rfl | (simp; done) | (simp [*]; done)), H', ⟨by have := HK1.out; have := HK2.out; have := HJ26.out; first | omega | exact Nat.le_refl _⟩, ⟨by (try simp only [hl9_2]); (with_reducible repeat (first | apply Kd.R_alloc | apply Kd.R_drewN | apply Kd.R_drew)); exact HO_6.out⟩, ⟨by (try simp only [hl9_2]); (with_reducible repeat (first | apply Kd.N_alloc | apply Kd.N_drewN | apply Kd.N_drew)); exact HO_149000.out⟩, ⟨by (try simp only [hl9_2]); (with_reducible repeat (first | apply Kd.N_alloc | apply Kd.N_drewN | apply Kd.N_drew)); exact HO_162000.out⟩, ⟨by (try simp only [hl9_2]); (with_reducible repeat (first | refine blk_drewN ?_ _ | refine blk_drew ?_ | refine blk_alloc ?_ _)); exact BK147.out⟩, ⟨by (try simp only [hl9_2]); (with_reducible repeat (first | refine blk_drewN ?_ _ | refine blk_drew ?_ | refine blk_alloc ?_ _)); exact BK148.out⟩, ⟨by (try simp only [hl9_2]); (with_reducible repeat (first | refine blk_drewN ?_ _ | refine blk_drew ?_ | refine blk_alloc ?_ _)); exact BK161.out⟩, ⟨by repeat (first | (with_reducible first | exact HB.out | apply below_alloc | apply pw_below_drewN | apply below_drew1 | refine below_set ?_ GE147.out | refine below_set ?_ GE148.out | refine below_set ?_ GE161.out) | exact HB.out)⟩⟩
              ·
               rw [if_neg c31] at H
               have c31b0 : (t160 == x13_26) = false := beq_eq_false_iff_ne.mpr c31
               have c31b1 : (t160 != x13_26) = true := bne_iff_ne.mpr c31
               (first | rw [c31b0] | (simp only [i64_w, i32_w]; rw [c31b0]) | skip)
               have H' := Aside0.mk H
               clear H
               go_wp2
               go_meet
               case rel => exact ⟨_, (true), (by first | rfl | (simp; done) | (simp [*]; done)), H', ⟨by have := HK1.out; have := HK2.out; have := HJ26.out; first | omega | exact Nat.le_refl _⟩, ⟨by (try simp only [hl9_2]); (with_reducible repeat (first | apply Kd.R_alloc | apply Kd.R_drewN | apply Kd.R_drew)); exact HO_6.out⟩, ⟨by (try simp only [hl9_2]); (with_reducible repeat (first | apply Kd.N_alloc | apply Kd.N_drewN | apply Kd.N_drew)); exact HO_149000.out⟩, ⟨by (try simp only [hl9_2]); (with_reducible repeat (first | apply Kd.N_alloc | apply Kd.N_drewN | apply Kd.N_drew)); exact HO_162000.out⟩, ⟨by (try simp only [hl9_2]); (with_reducible repeat (first | refine blk_drewN ?_ _ | refine blk_drew ?_ | refine blk_alloc ?_ _)); exact BK147.out⟩, ⟨by (try simp only [hl9_2]); (with_reducible repeat (first | refine blk_drewN ?_ _ | refine blk_drew ?_ | refine blk_alloc ?_ _)); exact BK148.out⟩, ⟨by (try simp only [hl9_2]); (with_reducible repeat (first | refine blk_drewN ?_ _ | refine blk_drew ?_ | refine blk_alloc ?_ _)); exact BK161.out⟩, ⟨by repeat (first | (with_reducible first | exact HB.out | apply below_alloc | apply pw_below_drewN | apply below_drew1 | refine below_set ?_ GE147.out | refine below_set ?_ GE148.out | refine below_set ?_ GE161.out) | exact HB.out)⟩⟩
             case rest =>
              clear HC30
              try clear c1
              try clear p1
              try clear q1
              try clear hx1
              try clear c2
              try clear p2
              try clear q2
              try clear hx2
              try clear hf2
              try clear c3
              try clear c4
              try clear c4b0
              try clear c5
              try clear c5b0
              try clear c6
              try clear p6
              try clear c15
              try clear p15
              try clear q15
              try clear hx15
              try clear c16
              try clear p16
              try clear q16
              try clear hx16
              try clear c19
              try clear c19b0
              try clear c20
              try clear c20b0
              try clear c21
              try clear p21
              try clear q21
              try clear hx21
              try clear hf21
              try clear c22
              try clear hx22
              try clear hf22
              try clear c24
              try clear c24b0
              try clear c25
              try clear c25b0
              try clear c28
              try clear c29
              try clear c29b0
              try clear c31
              try clear c31b0
              try clear c31b1
              try clear c33
              try clear c34
              try clear hcz35_0
              try clear hfz35_0
              try clear hx152_0
              try clear hx152_1
              try clear hx156_0
              try clear hx156_1
              try clear hx163_0
              try clear hx163_1
              try clear hx165_0
              try clear hx165_1
              try clear hx21_0
              try clear hx21_1
              try clear hx21_2
              try clear hx22_0
              try clear hx22_1
              try clear hx22_2
              try clear p1
              try clear p15
              try clear p152
              try clear p156
              try clear p16
              try clear p163
              try clear p165
              try clear p2
              try clear p21
              try clear p6
              try clear q1
              try clear q15
              try clear q152
              try clear q156
              try clear q16
              try clear q163
              try clear q165
              try clear q2
              try clear q21
              obtain ⟨kq, x71_29, rfl, HA, HJ29, HO_6, HO_149000, HO_162000, BK147, BK148, BK161, HB⟩ := hcut
              cases kq with
              | zero => exact absurd HA.out (by simp [rundlelaw24_lay.j3])
              | succ kj29 =>
               have H := HA.out
               clear HA
               simp only [rundlelaw24_lay.j3] at H
               by_cases c37 : x71_29 = true
               ·
                subst c37
                have H1 : (some (x149000_1, x6_1, false)) = some (r1, r2, r3) := by rw [if_pos rfl] at H; exact H
                clear H
                have H := H1
                clear H1
                simp only [Option.some.injEq, Prod.mk.injEq] at H
                obtain ⟨rfl, rfl, rfl⟩ := H
                have hnb38 := NB148_147.out
                have hnc38 := NB147_148.out
                have hnb39 := NB148_161.out
                have hnc39 := NB161_148.out
                have hcz40_0 : wc.cell? ⟨gb148, 0, none⟩ = some (.slice Ao11 x149000_1.length co11) := (blk_cell BK148.out 0).trans rfl
                have hfz40_0 := blk_frozen BK148.out 0
                have hnb41 := NB147_161.out
                have hnc41 := NB161_147.out
                have hcz42_0 : wc.cell? ⟨gb147, 0, none⟩ = some (.slice none 0 0) := (blk_cell BK147.out 0).trans rfl
                have hfz42_0 := blk_frozen BK147.out 0
                go_wp2
                refine bodyPost_ret (results_ctt rfl _ _ gb147 57 #[.slice Ao11 x149000_1.length co11] (0, 0) _ rfl (by (with_reducible repeat (first | refine blk_drewN ?_ _ | refine blk_drew ?_ | refine blk_alloc ?_ _)); refine blk_put (cs := #[.slice none 0 0]) ?_ 0 _ rfl; (with_reducible repeat (first | refine blk_drewN ?_ _ | refine blk_drew ?_ | refine blk_alloc ?_ _)); exact BK147.out) Try.underlying57 rfl (by kernel_rfl)) rfl ?_
                exact ⟨_, _, by first | rfl | (simp [errW_none, errW_some] <;> rfl) | (simp [*, errW_none, errW_some] <;> rfl), by (with_reducible repeat (first | apply Kd.N_alloc | apply Kd.N_drewN | apply Kd.N_drew)); exact Kd.N_mono (Kd.N_far (p := ⟨gb147, 0, none⟩) (Kd.N_mono HO_149000.out (fun k_ hk => (⟨hk, hk.2.2.2.1⟩ : _ ∧ k_ ≠ gb147))) (fun _ hk => hk.2) (.slice Ao11 x149000_1.length co11)) (fun _ hk => ⟨hk.1.1, hk.1.2.1⟩), by (with_reducible repeat (first | apply Kd.R_alloc | apply Kd.R_drewN | apply Kd.R_drew)); exact Kd.R_mono (Kd.R_far (p := ⟨gb147, 0, none⟩) (Kd.R_types HO_6.out BK147.out (by decide)) (fun _ hk => hk.2) (.slice Ao11 x149000_1.length co11)) (fun _ hk => hk.1), by repeat (first | (with_reducible first | exact HB.out | apply below_alloc | apply pw_below_drewN | apply below_drew1 | refine below_set ?_ GE147.out | refine below_set ?_ GE148.out | refine below_set ?_ GE161.out) | exact HB.out)⟩
               ·
                replace c37 := Bool.eq_false_iff.mpr c37
                subst c37
                have H1 : (if t160 = 0 then (if 0 ≤ x8_1 then (if x8_1 < (l0.length : Int) then (rundlelaw24_lay.l2 kj29 l0 x6_1 ((rd_T78 l0 x8_1).f0) x8_1 ([] : List (S104)) 0 t157) else (none)) else (none)) else (if (t157.length : Int) = 0 then (rundlelaw24_lay.l0 kj29 l0 x6_1 x7_1 (wrap64 (x8_1 + 1)) x149000_1) else (some (x149000_1, x6_1, false)))) = some (r1, r2, r3) := by rw [if_neg (show ¬ (false = true) by decide)] at H; exact H
                clear H
                have H := H1
                clear H1
                by_cases c43 : t160 = 0
                ·
                 rw [if_pos c43] at H
                 have c43b0 : (t160 == 0) = true := beq_iff_eq.mpr c43
                 have c43b1 : (t160 != 0) = false := bne_eq_false_iff_eq.mpr c43
                 clear c43
                 by_cases c44 : 0 ≤ x8_1
                 ·
                  rw [if_pos c44] at H
                  have c44b0 : decide (0 ≤ x8_1) = true := decide_eq_true c44
                  clear c44
                  by_cases c45 : x8_1 < (l0.length : Int)
                  ·
                   rw [if_pos c45] at H
                   have c45b0 : decide (x8_1 < (l0.length : Int)) = true := decide_eq_true c45
                   clear c45
                   have H' := Aside0.mk H
                   clear H
                   try go_wp2
                   have n0_ := Aside0.mk (Kd.R_drew HO_6.out)
                   have n1_ := Aside0.mk (Kd.N_drew HO_149000.out)
                   have n2_ := Aside0.mk (Kd.N_drew HO_162000.out)
                   have n3_ := Aside0.mk (blk_drew BK147.out)
                   have n4_ := Aside0.mk (blk_drew BK148.out)
                   have n5_ := Aside0.mk (blk_drew BK161.out)
                   have n6_ := Aside0.mk (below_drew1 HB.out)
                   clear HO_6
                   clear HO_149000
                   clear HO_162000
                   clear BK147
                   clear BK148
                   clear BK161
                   clear HB
                   have HO_6 := n0_
                   have HO_149000 := n1_
                   have HO_162000 := n2_
                   have BK147 := n3_
                   have BK148 := n4_
                   have BK161 := n5_
                   have HB := n6_
                   clear n0_ n1_ n2_ n3_ n4_ n5_ n6_
                   have p167 : 0 ≤ (x8_1 : Int) := of_decide_eq_true (by first | (with_reducible assumption) | assumption)
                   have q167 : x8_1 < (l0.length : Int) := of_decide_eq_true (by first | (with_reducible assumption) | assumption)
                   obtain ⟨ad167, A167_1, c167_1, e167, hx167_0, hx167_1, hl167_1, hi167_1⟩ := at_T78 HR0.out x8_1 p167 q167
                   have hw167_1 := hx167_1
                   have hw167_0 := hx167_0
                   obtain rfl : ad152 = ad167 := (by injection e167)
                   replace hx167_0 := (HB.out.cell (World.block_lt_of_cell? w _ hx167_0)).trans hx167_0
                   replace hx167_1 := (HB.out.cell (World.block_lt_of_cell? w _ hx167_1)).trans hx167_1
                   have HR167_1 := Aside0.mk hi167_1
                   have HC167_1 := Aside0.mk hl167_1
                   clear hi167_1 hl167_1
                   replace p167 := eq_true p167
                   replace q167 := eq_true q167
                   refine start_ (n := 8) (S := fun w' => w'.cell? ⟨gb161, 0, none⟩ = some (.slice Ao17 t157.length co17) ∧ w'.cell? (ad152.add ((x8_1).toNat * 2)) = some (.int .i64 ((rd_T78 l0 x8_1).f0)) ∧ w'.cell? ⟨(ad152.add ((x8_1).toNat * 2)).block, (ad152.add ((x8_1).toNat * 2)).off + 1, none⟩ = some (.slice A167_1 ((rd_T78 l0 x8_1).f1).length c167_1)) (ds := []) #[false, false, false, false, false, false, false, false] (by kernel_rfl) rfl rfl ⟨(blk_cell BK161.out 0).trans rfl, ((HB.out.cell (World.block_lt_of_cell? w _ hw167_0)).trans hw167_0), ((HB.out.cell (World.block_lt_of_cell? w _ hw167_1)).trans hw167_1)⟩ (fun hHeld => ?_); refine with_tabW rundlelaw24_lay.tab21 rundlelaw24_lay.bits21 (fun HT_ HW_ => ?_)
                   generalize wc.drew = w46 at HO_6 HO_149000 HO_162000 BK147 BK148 BK161 HB HR167_1 hx167_0 hx167_1 hHeld ⊢
                   refine pure_ (i := 1) (N := some 83) (v := ?_) (a' := ?_) #[false, true, false, false, false, false, false, false] rfl rfl (any_of HT_.out (by kernel_rfl)) (fun _ _ _ h => h) (Or.inl ⟨by rfl, ?_⟩) ?_ ?_
                   rotate_left
                   ·
                    intro w'
                    go_simp
                    with_reducible rfl
                   rotate_left
                   ·
                    simp only [Act.put, List.setIfInBounds_toArray, List.set_cons_zero, List.set_cons_succ, i64_w, i32_w]
                    rfl
                   refine pure_ (i := 2) (N := some 84) (v := ?_) (a' := ?_) #[false, true, true, false, false, false, false, false] rfl rfl (any_of HT_.out (by kernel_rfl)) (fun _ _ _ h => h) (Or.inl ⟨by rfl, ?_⟩) ?_ ?_
                   rotate_left
                   ·
                    intro w'
                    go_simp
                    with_reducible rfl
                   rotate_left
                   ·
                    simp only [Act.put, List.setIfInBounds_toArray, List.set_cons_zero, List.set_cons_succ, i64_w, i32_w]
                    rfl
                   refine pure_ (i := 3) (N := some 85) (v := ?_) (a' := ?_) #[false, true, true, true, false, false, false, false] rfl rfl (any_of HT_.out (by kernel_rfl)) (fun _ _ _ h => h) (Or.inl ⟨by rfl, ?_⟩) ?_ ?_
                   rotate_left
                   ·
                    intro w'
                    go_simp
                    with_reducible rfl
                   rotate_left
                   ·
                    simp only [Act.put, List.setIfInBounds_toArray, List.set_cons_zero, List.set_cons_succ, i64_w, i32_w]
                    rfl
                   refine pure_ (i := 4) (N := some 86) (v := ?_) (a' := ?_) #[false, true, true, true, true, false, false, false] rfl rfl (any_of HT_.out (by kernel_rfl)) (fun _ _ _ h => h) (Or.inl ⟨by rfl, ?_⟩) ?_ ?_
                   rotate_left
                   ·
                    intro w'
                    go_simp
                    with_reducible rfl
                   rotate_left
                   ·
                    simp only [Act.put, List.setIfInBounds_toArray, List.set_cons_zero, List.set_cons_succ, i64_w, i32_w]
                    rfl
                   refine take_ (i := 0) (N := some 82) (v := ?_) (a' := ?_) #[true, true, true, true, true, false, false, false] rfl rfl (take_ofW HT_.out HW_.out (by kernel_rfl)) (fun _ _ _ h => h) (Or.inl ⟨by rfl, ?_⟩) hHeld ?_ ?_
                   rotate_left
                   ·
                    rintro w' ⟨s0, s1, s2⟩
                    go_simp
                    with_reducible rfl
                   rotate_left
                   ·
                    simp only [Act.put, List.setIfInBounds_toArray, List.set_cons_zero, List.set_cons_succ, i64_w, i32_w]
                    rfl
                   refine take_ (i := 5) (N := some 87) (v := ?_) (a' := ?_) #[true, true, true, true, true, true, false, false] rfl rfl (take_ofW HT_.out HW_.out (by kernel_rfl)) (fun _ _ _ h => h) (Or.inl ⟨by rfl, ?_⟩) hHeld ?_ ?_
                   rotate_left
                   ·
                    rintro w' ⟨s0, s1, s2⟩
                    go_simp
                    with_reducible rfl
                   rotate_left
                   ·
                    simp only [Act.put, List.setIfInBounds_toArray, List.set_cons_zero, List.set_cons_succ, i64_w, i32_w]
                    rfl
                   refine one_ (i := 6) (N := none) #[true, true, true, true, true, true, true, false] rfl rfl (one_of HT_.out (by kernel_rfl)) (by decide) (fun K hK => ?_)
                   have hs47 : w46.cell? ⟨gb148, 0, none⟩ = some (.slice Ao11 x149000_1.length co11) := (blk_cell BK148.out 0).trans rfl
                   have hfs47 := blk_frozen BK148.out 0
                   have hns47_0 := NB147_148.out
                   have hns47_2 := NB161_148.out
                   have hms47_0 := NB148_147.out
                   have hms47_2 := NB148_161.out
                   refine skip_ (w1 := ?_) (by rfl) rfl ?_ ?_
                   rotate_left
                   ·
                    go_simp
                    rfl
                   refine hK.out _ _ ⟨((cell_far (p := ⟨gb148, _, none⟩) NB161_148.out _).trans (hHeld.1)), ((cell_far (p := ⟨gb148, _, none⟩) (by first | exact Nat.ne_of_lt (Nat.lt_of_lt_of_le (by have := World.block_lt_of_cell? _ _ hw167_0; first | rwa [add_block] at this | exact this) GW148.out) | (rw [add_block]; exact Nat.ne_of_lt (Nat.lt_of_lt_of_le (by have := World.block_lt_of_cell? _ _ hw167_0; first | rwa [add_block] at this | exact this) GW148.out)) | (show (Addr.add _ _).block ≠ _; rw [add_block]; exact Nat.ne_of_lt (Nat.lt_of_lt_of_le (by have := World.block_lt_of_cell? _ _ hw167_0; first | rwa [add_block] at this | exact this) GW148.out)) | (dsimp only; exact Nat.ne_of_lt (Nat.lt_of_lt_of_le (by have := World.block_lt_of_cell? _ _ hw167_0; first | rwa [add_block] at this | exact this) GW148.out))) _).trans (hHeld.2.1)), ((cell_far (p := ⟨gb148, _, none⟩) (by first | exact Nat.ne_of_lt (Nat.lt_of_lt_of_le (by have := World.block_lt_of_cell? _ _ hw167_1; first | rwa [add_block] at this | exact this) GW148.out) | (rw [add_block]; exact Nat.ne_of_lt (Nat.lt_of_lt_of_le (by have := World.block_lt_of_cell? _ _ hw167_1; first | rwa [add_block] at this | exact this) GW148.out)) | (show (Addr.add _ _).block ≠ _; rw [add_block]; exact Nat.ne_of_lt (Nat.lt_of_lt_of_le (by have := World.block_lt_of_cell? _ _ hw167_1; first | rwa [add_block] at this | exact this) GW148.out)) | (dsimp only; exact Nat.ne_of_lt (Nat.lt_of_lt_of_le (by have := World.block_lt_of_cell? _ _ hw167_1; first | rwa [add_block] at this | exact this) GW148.out))) _).trans (hHeld.2.2))⟩ (fun hHeld => ?_)
                   clear hK K
                   refine pure_ (i := 7) (N := some 7) (v := ?_) (a' := ?_) #[true, true, true, true, true, true, true, true] rfl rfl (any_of HT_.out (by kernel_rfl)) (fun _ _ _ h => h) (Or.inl ⟨by rfl, ?_⟩) ?_ ?_
                   rotate_left
                   ·
                    intro w'
                    go_simp
                    with_reducible rfl
                   rotate_left
                   ·
                    simp only [Act.put, List.setIfInBounds_toArray, List.set_cons_zero, List.set_cons_succ, i64_w, i32_w]
                    rfl
                   refine done_ (done_of HT_.out (by kernel_rfl)) ?_
                   try go_wp2
                   go_loopg [14, 15] kj29 (fun kq v14 v15 w' => ∃ (x14_5 : List (S104)) (x15_5 : Int), v15 = .int .i64 x15_5 ∧ Aside0 (rundlelaw24_lay.l2 kq l0 x6_1 ((rd_T78 l0 x8_1).f0) x8_1 x14_5 x15_5 t157 = some (r1, r2, r3)) ∧ Aside0 (kq ≤ kj29) ∧ Aside0 (Kd.R k109 109 w' w.heap.size (fun k_ => (w.heap.size ≤ k_)) u6 x6_1) ∧ Aside0 (Kd.R k104 104 w' w.heap.size (fun k_ => (w.heap.size ≤ k_)) v14 x14_5) ∧ Aside0 (Kd.N k112 112 w' w.heap.size (fun k_ => (w.heap.size ≤ k_) ∧ some k_ ≠ (u6 : Value).ownBlock ∧ some k_ ≠ (v14 : Value).ownBlock ∧ k_ ≠ gb147 ∧ k_ ≠ gb148 ∧ k_ ≠ gb161) (.slice Ao17 t157.length co17) t157) ∧ Aside0 (Kd.N k112 112 w' w.heap.size (fun k_ => (w.heap.size ≤ k_) ∧ some k_ ≠ (u6 : Value).ownBlock ∧ some k_ ≠ (v14 : Value).ownBlock ∧ k_ ≠ gb147 ∧ k_ ≠ gb148 ∧ k_ ≠ gb161) (.slice Ao17 t157.length co17) t157) ∧ Aside0 (w'.heap[gb147]? = some (.cells #[(.slice none 0 0)] 57 (0, 0))) ∧ Aside0 (w'.heap[gb148]? = some (.cells #[(.slice Ao17 t157.length co17)] 57 (0, 0))) ∧ Aside0 (w'.heap[gb161]? = some (.cells #[(.slice Ao17 t157.length co17)] 57 (0, 0))) ∧ Aside0 (Below w.heap.size w w'))
                   case atStart => exact ⟨(([] : List (S104))), (0), (by first | rfl | (simp; done) | (simp [*]; done)), H', ⟨Nat.le_refl _⟩, ⟨by (try simp only [hl9_2]); (with_reducible repeat (first | apply Kd.R_alloc | apply Kd.R_drewN | apply Kd.R_drew)); exact Kd.R_mono (Kd.R_far (p := ⟨gb148, 0, none⟩) (Kd.R_types HO_6.out BK148.out (by decide)) (fun _ hk => hk.2) (.slice Ao17 t157.length co17)) (fun _ hk => hk.1)⟩, ⟨by (try simp only [hl9_2]); first | exact Kd.R_nil _ _ _ _ _ | exact Kd.N_nil _ _ _ _ _ | exact Kd.V_nil _ _ _ _ _ | exact Kd.Q_nil _ _ _ _ _ | exact Kd.S_nil _ _ _ _ _⟩, ⟨by (try simp only [hl9_2]); (with_reducible repeat (first | apply Kd.N_alloc | apply Kd.N_drewN | apply Kd.N_drew)); exact Kd.N_mono (Kd.N_far (p := ⟨gb148, 0, none⟩) (Kd.N_mono HO_162000.out (fun k_ hk => (⟨hk, hk.2.2.2.1⟩ : _ ∧ k_ ≠ gb148))) (fun _ hk => hk.2) (.slice Ao17 t157.length co17)) (fun _ hk => ⟨hk.1.1, ⟨hk.1.2.1, ⟨(by simp [Value.ownBlock]), ⟨hk.1.2.2.1, ⟨hk.1.2.2.2.1, hk.1.2.2.2.2⟩⟩⟩⟩⟩)⟩, ⟨by (try simp only [hl9_2]); (with_reducible repeat (first | apply Kd.N_alloc | apply Kd.N_drewN | apply Kd.N_drew)); exact Kd.N_mono (Kd.N_far (p := ⟨gb148, 0, none⟩) (Kd.N_mono HO_162000.out (fun k_ hk => (⟨hk, hk.2.2.2.1⟩ : _ ∧ k_ ≠ gb148))) (fun _ hk => hk.2) (.slice Ao17 t157.length co17)) (fun _ hk => ⟨hk.1.1, ⟨hk.1.2.1, ⟨(by simp [Value.ownBlock]), ⟨hk.1.2.2.1, ⟨hk.1.2.2.2.1, hk.1.2.2.2.2⟩⟩⟩⟩⟩)⟩, ⟨by (try simp only [hl9_2]); (with_reducible repeat (first | refine blk_drewN ?_ _ | refine blk_drew ?_ | refine blk_alloc ?_ _)); refine blk_far ?_ NB147_148.out _; (with_reducible repeat (first | refine blk_drewN ?_ _ | refine blk_drew ?_ | refine blk_alloc ?_ _)); exact BK147.out⟩, ⟨by (try simp only [hl9_2]); (with_reducible repeat (first | refine blk_drewN ?_ _ | refine blk_drew ?_ | refine blk_alloc ?_ _)); refine blk_put (cs := #[.slice Ao11 x149000_1.length co11]) ?_ 0 _ rfl; (with_reducible repeat (first | refine blk_drewN ?_ _ | refine blk_drew ?_ | refine blk_alloc ?_ _)); exact BK148.out⟩, ⟨by (try simp only [hl9_2]); (with_reducible repeat (first | refine blk_drewN ?_ _ | refine blk_drew ?_ | refine blk_alloc ?_ _)); refine blk_far ?_ NB161_148.out _; (with_reducible repeat (first | refine blk_drewN ?_ _ | refine blk_drew ?_ | refine blk_alloc ?_ _)); exact BK161.out⟩, ⟨by repeat (first | (with_reducible first | exact HB.out | apply below_alloc | apply pw_below_drewN | apply below_drew1 | refine below_set ?_ GE147.out | refine below_set ?_ GE148.out | refine below_set ?_ GE161.out) | exact HB.out)⟩⟩
                   case round =>
                    clear H'
                    try clear c1
                    try clear p1
                    try clear q1
                    try clear hx1
                    try clear c2
                    try clear p2
                    try clear q2
                    try clear hx2
                    try clear hf2
                    try clear c3
                    try clear c4
                    try clear c4b0
                    try clear c5
                    try clear c5b0
                    try clear c6
                    try clear p6
                    try clear c15
                    try clear p15
                    try clear q15
                    try clear hx15
                    try clear c16
                    try clear p16
                    try clear q16
                    try clear hx16
                    try clear c19
                    try clear c19b0
                    try clear c20
                    try clear c20b0
                    try clear c21
                    try clear p21
                    try clear q21
                    try clear hx21
                    try clear hf21
                    try clear c22
                    try clear hx22
                    try clear hf22
                    try clear c24
                    try clear c24b0
                    try clear c25
                    try clear c25b0
                    try clear c28
                    try clear c29
                    try clear c29b0
                    try clear c31
                    try clear c31b0
                    try clear c31b1
                    try clear c33
                    try clear c34
                    try clear c37
                    try clear c38
                    try clear c39
                    try clear c41
                    try clear c43
                    try clear c43b0
                    try clear c43b1
                    try clear c44
                    try clear c44b0
                    try clear c45
                    try clear c45b0
                    try clear hcz35_0
                    try clear hcz40_0
                    try clear hcz42_0
                    try clear hfz35_0
                    try clear hfz40_0
                    try clear hfz42_0
                    try clear hx152_0
                    try clear hx152_1
                    try clear hx156_0
                    try clear hx156_1
                    try clear hx163_0
                    try clear hx163_1
                    try clear hx165_0
                    try clear hx165_1
                    try clear hx167_0
                    try clear hx167_1
                    try clear hx21_0
                    try clear hx21_1
                    try clear hx21_2
                    try clear hx22_0
                    try clear hx22_1
                    try clear hx22_2
                    try clear p1
                    try clear p15
                    try clear p152
                    try clear p156
                    try clear p16
                    try clear p163
                    try clear p165
                    try clear p167
                    try clear p2
                    try clear p21
                    try clear p6
                    try clear q1
                    try clear q15
                    try clear q152
                    try clear q156
                    try clear q16
                    try clear q163
                    try clear q165
                    try clear q167
                    try clear q2
                    try clear q21
                    obtain ⟨x14_5, x15_5, rfl, HA, HK5, HO_6, HO_14, HO_149000, HO_162000, BK147, BK148, BK161, HB⟩ := hrel
                    cases gk with
                    | zero => exact absurd HA.out (by simp [rundlelaw24_lay.l2])
                    | succ k5 =>
                     have H := HA.out
                     clear HA
                     simp only [rundlelaw24_lay.l2] at H
                     by_cases c48 : 0 ≤ x8_1
                     ·
                      rw [if_pos c48] at H
                      have c48b0 : decide (0 ≤ x8_1) = true := decide_eq_true c48
                      clear c48
                      by_cases c49 : x8_1 < (l0.length : Int)
                      ·
                       rw [if_pos c49] at H
                       have c49b0 : decide (x8_1 < (l0.length : Int)) = true := decide_eq_true c49
                       clear c49
                       by_cases c50 : x15_5 < (((rd_T78 l0 x8_1).f1).length : Int)
                       ·
                        rw [if_pos c50] at H
                        have c50b0 : decide (x15_5 < (((rd_T78 l0 x8_1).f1).length : Int)) = true := decide_eq_true c50
                        clear c50
                        by_cases c51 : 0 ≤ x15_5
                        ·
                         rw [if_pos c51] at H
                         have c51b0 : decide (0 ≤ x15_5) = true := decide_eq_true c51
                         clear c51
                         by_cases c52 : x14_5.length < 3518437208883
                         ·
                          rw [if_pos c52] at H
                          have LMc52 := Aside0.mk c52
                          clear c52
                          obtain ⟨y175, hy175⟩ : ∃ y_ : List (S104), y_ = (x14_5 ++ [(⟨(rd_T37 ((rd_T78 l0 x8_1).f1) x15_5).f0, (rd_T37 ((rd_T78 l0 x8_1).f1) x15_5).f1, (rd_T37 ((rd_T78 l0 x8_1).f1) x15_5).f2⟩ : S104)]) := ⟨_, rfl⟩
                          replace H : (rundlelaw24_lay.l2 k5 l0 x6_1 ((rd_T78 l0 x8_1).f0) x8_1 y175 (wrap64 (x15_5 + 1)) t157) = some (r1, r2, r3) := by first | (rw [hy175]; with_reducible exact H) | (have H2_ := (Option.bind_some _ _).symm.trans H; rw [hy175]; with_reducible exact H2_) | (have H2_ := (Option.bind_some _ _).symm.trans H; with_reducible exact H2_) | with_reducible exact H | (rw [hy175]; exact H) | exact H
                          have Ny175 := Aside0.mk hy175
                          clear hy175
                          have H' := Aside0.mk H
                          clear H
                          have p168 : 0 ≤ (x8_1 : Int) := of_decide_eq_true (by first | (with_reducible assumption) | assumption)
                          have q168 : x8_1 < (l0.length : Int) := of_decide_eq_true (by first | (with_reducible assumption) | assumption)
                          obtain ⟨ad168, A168_1, c168_1, e168, hx168_0, hx168_1, hl168_1, hi168_1⟩ := at_T78 HR0.out x8_1 p168 q168
                          obtain rfl : ad152 = ad168 := (by injection e168)
                          replace hx168_0 := (HB.out.cell (World.block_lt_of_cell? w _ hx168_0)).trans hx168_0
                          replace hx168_1 := (HB.out.cell (World.block_lt_of_cell? w _ hx168_1)).trans hx168_1
                          have HR168_1 := Aside0.mk hi168_1
                          have HC168_1 := Aside0.mk hl168_1
                          clear hi168_1 hl168_1
                          replace p168 := eq_true p168
                          replace q168 := eq_true q168
                          try go_wp2
                          have n0_ := Aside0.mk (Kd.R_drew HO_6.out)
                          have n1_ := Aside0.mk (Kd.R_drew HO_14.out)
                          have n2_ := Aside0.mk (Kd.N_drew HO_149000.out)
                          have n3_ := Aside0.mk (Kd.N_drew HO_162000.out)
                          have n4_ := Aside0.mk (blk_drew BK147.out)
                          have n5_ := Aside0.mk (blk_drew BK148.out)
                          have n6_ := Aside0.mk (blk_drew BK161.out)
                          have n7_ := Aside0.mk (below_drew1 HB.out)
                          clear HO_6
                          clear HO_14
                          clear HO_149000
                          clear HO_162000
                          clear BK147
                          clear BK148
                          clear BK161
                          clear HB
                          have HO_6 := n0_
                          have HO_14 := n1_
                          have HO_149000 := n2_
                          have HO_162000 := n3_
                          have BK147 := n4_
                          have BK148 := n5_
                          have BK161 := n6_
                          have HB := n7_
                          clear n0_ n1_ n2_ n3_ n4_ n5_ n6_ n7_
                          have p169 : 0 ≤ (x8_1 : Int) := of_decide_eq_true (by first | (with_reducible assumption) | assumption)
                          have q169 : x8_1 < (l0.length : Int) := of_decide_eq_true (by first | (with_reducible assumption) | assumption)
                          obtain ⟨ad169, A169_1, c169_1, e169, hx169_0, hx169_1, hl169_1, hi169_1⟩ := at_T78 HR0.out x8_1 p169 q169
                          have hw169_1 := hx169_1
                          have hw169_0 := hx169_0
                          obtain rfl : ad152 = ad169 := (by injection e169)
                          replace hx169_0 := (HB.out.cell (World.block_lt_of_cell? w _ hx169_0)).trans hx169_0
                          replace hx169_1 := (HB.out.cell (World.block_lt_of_cell? w _ hx169_1)).trans hx169_1
                          have HR169_1 := Aside0.mk hi169_1
                          have HC169_1 := Aside0.mk hl169_1
                          clear hi169_1 hl169_1
                          replace p169 := eq_true p169
                          replace q169 := eq_true q169
                          have p170 : 0 ≤ (x15_5 : Int) := of_decide_eq_true (by first | (with_reducible assumption) | assumption)
                          have q170 : x15_5 < (((rd_T78 l0 x8_1).f1).length : Int) := of_decide_eq_true (by first | (with_reducible assumption) | assumption)
                          obtain ⟨ad170, e170, hx170_0, hx170_1, hx170_2⟩ := at_T37 HR169_1.out x15_5 p170 q170
                          have hw170_2 := hx170_2
                          have hw170_1 := hx170_1
                          have hw170_0 := hx170_0
                          cases e170
                          replace hx170_0 := (HB.out.cell (World.block_lt_of_cell? w _ hx170_0)).trans hx170_0
                          replace hx170_1 := (HB.out.cell (World.block_lt_of_cell? w _ hx170_1)).trans hx170_1
                          replace hx170_2 := (HB.out.cell (World.block_lt_of_cell? w _ hx170_2)).trans hx170_2
                          replace p170 := eq_true p170
                          replace q170 := eq_true q170
                          have p171 : 0 ≤ (x8_1 : Int) := of_decide_eq_true (by first | (with_reducible assumption) | assumption)
                          have q171 : x8_1 < (l0.length : Int) := of_decide_eq_true (by first | (with_reducible assumption) | assumption)
                          obtain ⟨ad171, A171_1, c171_1, e171, hx171_0, hx171_1, hl171_1, hi171_1⟩ := at_T78 HR0.out x8_1 p171 q171
                          have hw171_1 := hx171_1
                          have hw171_0 := hx171_0
                          obtain rfl : ad152 = ad171 := (by injection e171)
                          replace hx171_0 := (HB.out.cell (World.block_lt_of_cell? w _ hx171_0)).trans hx171_0
                          replace hx171_1 := (HB.out.cell (World.block_lt_of_cell? w _ hx171_1)).trans hx171_1
                          have HR171_1 := Aside0.mk hi171_1
                          have HC171_1 := Aside0.mk hl171_1
                          clear hi171_1 hl171_1
                          replace p171 := eq_true p171
                          replace q171 := eq_true q171
                          have ea_ := Option.some.inj (hx169_1.symm.trans hx171_1)
                          injection ea_ with ea_ en_ ec_
                          subst ea_
                          subst ec_
                          clear en_
                          have p172 : 0 ≤ (x15_5 : Int) := of_decide_eq_true (by first | (with_reducible assumption) | assumption)
                          have q172 : x15_5 < (((rd_T78 l0 x8_1).f1).length : Int) := of_decide_eq_true (by first | (with_reducible assumption) | assumption)
                          obtain ⟨ad172, e172, hx172_0, hx172_1, hx172_2⟩ := at_T37 HR171_1.out x15_5 p172 q172
                          have hw172_2 := hx172_2
                          have hw172_1 := hx172_1
                          have hw172_0 := hx172_0
                          cases e172
                          replace hx172_0 := (HB.out.cell (World.block_lt_of_cell? w _ hx172_0)).trans hx172_0
                          replace hx172_1 := (HB.out.cell (World.block_lt_of_cell? w _ hx172_1)).trans hx172_1
                          replace hx172_2 := (HB.out.cell (World.block_lt_of_cell? w _ hx172_2)).trans hx172_2
                          replace p172 := eq_true p172
                          replace q172 := eq_true q172
                          have p173 : 0 ≤ (x8_1 : Int) := of_decide_eq_true (by first | (with_reducible assumption) | assumption)
                          have q173 : x8_1 < (l0.length : Int) := of_decide_eq_true (by first | (with_reducible assumption) | assumption)
                          obtain ⟨ad173, A173_1, c173_1, e173, hx173_0, hx173_1, hl173_1, hi173_1⟩ := at_T78 HR0.out x8_1 p173 q173
                          have hw173_1 := hx173_1
                          have hw173_0 := hx173_0
                          obtain rfl : ad152 = ad173 := (by injection e173)
                          replace hx173_0 := (HB.out.cell (World.block_lt_of_cell? w _ hx173_0)).trans hx173_0
                          replace hx173_1 := (HB.out.cell (World.block_lt_of_cell? w _ hx173_1)).trans hx173_1
                          have HR173_1 := Aside0.mk hi173_1
                          have HC173_1 := Aside0.mk hl173_1
                          clear hi173_1 hl173_1
                          replace p173 := eq_true p173
                          replace q173 := eq_true q173
                          have ea_ := Option.some.inj (hx169_1.symm.trans hx173_1)
                          injection ea_ with ea_ en_ ec_
                          subst ea_
                          subst ec_
                          clear en_
                          have p174 : 0 ≤ (x15_5 : Int) := of_decide_eq_true (by first | (with_reducible assumption) | assumption)
                          have q174 : x15_5 < (((rd_T78 l0 x8_1).f1).length : Int) := of_decide_eq_true (by first | (with_reducible assumption) | assumption)
                          obtain ⟨ad174, e174, hx174_0, hx174_1, hx174_2⟩ := at_T37 HR173_1.out x15_5 p174 q174
                          have hw174_2 := hx174_2
                          have hw174_1 := hx174_1
                          have hw174_0 := hx174_0
                          cases e174
                          replace hx174_0 := (HB.out.cell (World.block_lt_of_cell? w _ hx174_0)).trans hx174_0
                          replace hx174_1 := (HB.out.cell (World.block_lt_of_cell? w _ hx174_1)).trans hx174_1
                          replace hx174_2 := (HB.out.cell (World.block_lt_of_cell? w _ hx174_2)).trans hx174_2
                          replace p174 := eq_true p174
                          replace q174 := eq_true q174
                          refine start_ (n := 32) (S := fun w' => w'.cell? (ad152.add ((x8_1).toNat * 2)) = some (.int .i64 ((rd_T78 l0 x8_1).f0)) ∧ w'.cell? ⟨(ad152.add ((x8_1).toNat * 2)).block, (ad152.add ((x8_1).toNat * 2)).off + 1, none⟩ = some (.slice (some ad170) ((rd_T78 l0 x8_1).f1).length c169_1) ∧ w'.cell? (ad170.add ((x15_5).toNat * 3)) = some (.string ((rd_T37 ((rd_T78 l0 x8_1).f1) x15_5).f0)) ∧ w'.cell? ⟨(ad170.add ((x15_5).toNat * 3)).block, (ad170.add ((x15_5).toNat * 3)).off + 1, none⟩ = some (.string ((rd_T37 ((rd_T78 l0 x8_1).f1) x15_5).f1)) ∧ w'.cell? ⟨(ad170.add ((x15_5).toNat * 3)).block, (ad170.add ((x15_5).toNat * 3)).off + 2, none⟩ = some (.bool ((rd_T37 ((rd_T78 l0 x8_1).f1) x15_5).f2)) ∧ w'.cell? (ad152.add ((x8_1).toNat * 2)) = some (.int .i64 ((rd_T78 l0 x8_1).f0)) ∧ w'.cell? ⟨(ad152.add ((x8_1).toNat * 2)).block, (ad152.add ((x8_1).toNat * 2)).off + 1, none⟩ = some (.slice (some ad170) ((rd_T78 l0 x8_1).f1).length c169_1) ∧ w'.cell? (ad170.add ((x15_5).toNat * 3)) = some (.string ((rd_T37 ((rd_T78 l0 x8_1).f1) x15_5).f0)) ∧ w'.cell? ⟨(ad170.add ((x15_5).toNat * 3)).block, (ad170.add ((x15_5).toNat * 3)).off + 1, none⟩ = some (.string ((rd_T37 ((rd_T78 l0 x8_1).f1) x15_5).f1)) ∧ w'.cell? ⟨(ad170.add ((x15_5).toNat * 3)).block, (ad170.add ((x15_5).toNat * 3)).off + 2, none⟩ = some (.bool ((rd_T37 ((rd_T78 l0 x8_1).f1) x15_5).f2)) ∧ w'.cell? (ad152.add ((x8_1).toNat * 2)) = some (.int .i64 ((rd_T78 l0 x8_1).f0)) ∧ w'.cell? ⟨(ad152.add ((x8_1).toNat * 2)).block, (ad152.add ((x8_1).toNat * 2)).off + 1, none⟩ = some (.slice (some ad170) ((rd_T78 l0 x8_1).f1).length c169_1) ∧ w'.cell? (ad170.add ((x15_5).toNat * 3)) = some (.string ((rd_T37 ((rd_T78 l0 x8_1).f1) x15_5).f0)) ∧ w'.cell? ⟨(ad170.add ((x15_5).toNat * 3)).block, (ad170.add ((x15_5).toNat * 3)).off + 1, none⟩ = some (.string ((rd_T37 ((rd_T78 l0 x8_1).f1) x15_5).f1)) ∧ w'.cell? ⟨(ad170.add ((x15_5).toNat * 3)).block, (ad170.add ((x15_5).toNat * 3)).off + 2, none⟩ = some (.bool ((rd_T37 ((rd_T78 l0 x8_1).f1) x15_5).f2))) (ds := []) #[false, false, false, false, false, false, false, false, false, false, false, false, false, false, false, false, false, false, false, false, false, false, false, false, false, false, false, false, false, false, false, false] (by kernel_rfl) rfl rfl ⟨((HB.out.cell (World.block_lt_of_cell? w _ hw169_0)).trans hw169_0), ((HB.out.cell (World.block_lt_of_cell? w _ hw169_1)).trans hw169_1), ((HB.out.cell (World.block_lt_of_cell? w _ hw170_0)).trans hw170_0), ((HB.out.cell (World.block_lt_of_cell? w _ hw170_1)).trans hw170_1), ((HB.out.cell (World.block_lt_of_cell? w _ hw170_2)).trans hw170_2), ((HB.out.cell (World.block_lt_of_cell? w _ hw171_0)).trans hw171_0), ((HB.out.cell (World.block_lt_of_cell? w _ hw171_1)).trans hw171_1), ((HB.out.cell (World.block_lt_of_cell? w _ hw172_0)).trans hw172_0), ((HB.out.cell (World.block_lt_of_cell? w _ hw172_1)).trans hw172_1), ((HB.out.cell (World.block_lt_of_cell? w _ hw172_2)).trans hw172_2), ((HB.out.cell (World.block_lt_of_cell? w _ hw173_0)).trans hw173_0), ((HB.out.cell (World.block_lt_of_cell? w _ hw173_1)).trans hw173_1), ((HB.out.cell (World.block_lt_of_cell? w _ hw174_0)).trans hw174_0), ((HB.out.cell (World.block_lt_of_cell? w _ hw174_1)).trans hw174_1), ((HB.out.cell (World.block_lt_of_cell? w _ hw174_2)).trans hw174_2)⟩ (fun hHeld => ?_); refine with_tabW rundlelaw24_lay.tab26 rundlelaw24_lay.bits26 (fun HT_ HW_ => ?_)
                          generalize wr.drew = w53 at HO_6 HO_14 HO_149000 HO_162000 BK147 BK148 BK161 HB HR169_1 HR171_1 HR173_1 hx169_0 hx169_1 hx170_0 hx170_1 hx170_2 hx171_0 hx171_1 hx172_0 hx172_1 hx172_2 hx173_0 hx173_1 hx174_0 hx174_1 hx174_2 hHeld ⊢
                          refine pure_ (i := 0) (N := some 98) (v := ?_) (a' := ?_) #[true, false, false, false, false, false, false, false, false, false, false, false, false, false, false, false, false, false, false, false, false, false, false, false, false, false, false, false, false, false, false, false] rfl rfl (any_of HT_.out (by kernel_rfl)) (fun _ _ _ h => h) (Or.inl ⟨by rfl, ?_⟩) ?_ ?_
                          rotate_left
                          ·
                           intro w'
                           go_simp
                           with_reducible rfl
                          rotate_left
                          ·
                           simp only [Act.put, List.setIfInBounds_toArray, List.set_cons_zero, List.set_cons_succ, i64_w, i32_w]
                           rfl
                          refine pure_ (i := 1) (N := some 99) (v := ?_) (a' := ?_) #[true, true, false, false, false, false, false, false, false, false, false, false, false, false, false, false, false, false, false, false, false, false, false, false, false, false, false, false, false, false, false, false] rfl rfl (any_of HT_.out (by kernel_rfl)) (fun _ _ _ h => h) (Or.inl ⟨by rfl, ?_⟩) ?_ ?_
                          rotate_left
                          ·
                           intro w'
                           go_simp
                           with_reducible rfl
                          rotate_left
                          ·
                           simp only [Act.put, List.setIfInBounds_toArray, List.set_cons_zero, List.set_cons_succ, i64_w, i32_w]
                           rfl
                          refine pure_ (i := 2) (N := some 100) (v := ?_) (a' := ?_) #[true, true, true, false, false, false, false, false, false, false, false, false, false, false, false, false, false, false, false, false, false, false, false, false, false, false, false, false, false, false, false, false] rfl rfl (any_of HT_.out (by kernel_rfl)) (fun _ _ _ h => h) (Or.inl ⟨by rfl, ?_⟩) ?_ ?_
                          rotate_left
                          ·
                           intro w'
                           go_simp
                           with_reducible rfl
                          rotate_left
                          ·
                           simp only [Act.put, List.setIfInBounds_toArray, List.set_cons_zero, List.set_cons_succ, i64_w, i32_w]
                           rfl
                          refine pure_ (i := 3) (N := some 101) (v := ?_) (a' := ?_) #[true, true, true, true, false, false, false, false, false, false, false, false, false, false, false, false, false, false, false, false, false, false, false, false, false, false, false, false, false, false, false, false] rfl rfl (any_of HT_.out (by kernel_rfl)) (fun _ _ _ h => h) (Or.inl ⟨by rfl, ?_⟩) ?_ ?_
                          rotate_left
                          ·
                           intro w'
                           go_simp
                           with_reducible rfl
                          rotate_left
                          ·
                           simp only [Act.put, List.setIfInBounds_toArray, List.set_cons_zero, List.set_cons_succ, i64_w, i32_w]
                           rfl
                          refine pure_ (i := 4) (N := some 102) (v := ?_) (a' := ?_) #[true, true, true, true, true, false, false, false, false, false, false, false, false, false, false, false, false, false, false, false, false, false, false, false, false, false, false, false, false, false, false, false] rfl rfl (any_of HT_.out (by kernel_rfl)) (fun _ _ _ h => h) (Or.inl ⟨by rfl, ?_⟩) ?_ ?_
                          rotate_left
                          ·
                           intro w'
                           go_simp
                           with_reducible rfl
                          rotate_left
                          ·
                           simp only [Act.put, List.setIfInBounds_toArray, List.set_cons_zero, List.set_cons_succ, i64_w, i32_w]
                           rfl
                          refine pure_ (i := 6) (N := some 104) (v := ?_) (a' := ?_) #[true, true, true, true, true, false, true, false, false, false, false, false, false, false, false, false, false, false, false, false, false, false, false, false, false, false, false, false, false, false, false, false] rfl rfl (any_of HT_.out (by kernel_rfl)) (fun _ _ _ h => h) (Or.inl ⟨by rfl, ?_⟩) ?_ ?_
                          rotate_left
                          ·
                           intro w'
                           go_simp
                           with_reducible rfl
                          rotate_left
                          ·
                           simp only [Act.put, List.setIfInBounds_toArray, List.set_cons_zero, List.set_cons_succ, i64_w, i32_w]
                           rfl
                          refine pure_ (i := 10) (N := some 108) (v := ?_) (a' := ?_) #[true, true, true, true, true, false, true, false, false, false, true, false, false, false, false, false, false, false, false, false, false, false, false, false, false, false, false, false, false, false, false, false] rfl rfl (any_of HT_.out (by kernel_rfl)) (fun _ _ _ h => h) (Or.inl ⟨by rfl, ?_⟩) ?_ ?_
                          rotate_left
                          ·
                           intro w'
                           go_simp
                           with_reducible rfl
                          rotate_left
                          ·
                           simp only [Act.put, List.setIfInBounds_toArray, List.set_cons_zero, List.set_cons_succ, i64_w, i32_w]
                           rfl
                          refine pure_ (i := 11) (N := some 109) (v := ?_) (a' := ?_) #[true, true, true, true, true, false, true, false, false, false, true, true, false, false, false, false, false, false, false, false, false, false, false, false, false, false, false, false, false, false, false, false] rfl rfl (any_of HT_.out (by kernel_rfl)) (fun _ _ _ h => h) (Or.inl ⟨by rfl, ?_⟩) ?_ ?_
                          rotate_left
                          ·
                           intro w'
                           go_simp
                           with_reducible rfl
                          rotate_left
                          ·
                           simp only [Act.put, List.setIfInBounds_toArray, List.set_cons_zero, List.set_cons_succ, i64_w, i32_w]
                           rfl
                          refine pure_ (i := 12) (N := some 110) (v := ?_) (a' := ?_) #[true, true, true, true, true, false, true, false, false, false, true, true, true, false, false, false, false, false, false, false, false, false, false, false, false, false, false, false, false, false, false, false] rfl rfl (any_of HT_.out (by kernel_rfl)) (fun _ _ _ h => h) (Or.inl ⟨by rfl, ?_⟩) ?_ ?_
                          rotate_left
                          ·
                           intro w'
                           go_simp
                           with_reducible rfl
                          rotate_left
                          ·
                           simp only [Act.put, List.setIfInBounds_toArray, List.set_cons_zero, List.set_cons_succ, i64_w, i32_w]
                           rfl
                          refine pure_ (i := 13) (N := some 111) (v := ?_) (a' := ?_) #[true, true, true, true, true, false, true, false, false, false, true, true, true, true, false, false, false, false, false, false, false, false, false, false, false, false, false, false, false, false, false, false] rfl rfl (any_of HT_.out (by kernel_rfl)) (fun _ _ _ h => h) (Or.inl ⟨by rfl, ?_⟩) ?_ ?_
                          rotate_left
                          ·
                           intro w'
                           go_simp
                           with_reducible rfl
                          rotate_left
                          ·
                           simp only [Act.put, List.setIfInBounds_toArray, List.set_cons_zero, List.set_cons_succ, i64_w, i32_w]
                           rfl
                          refine pure_ (i := 15) (N := some 113) (v := ?_) (a' := ?_) #[true, true, true, true, true, false, true, false, false, false, true, true, true, true, false, true, false, false, false, false, false, false, false, false, false, false, false, false, false, false, false, false] rfl rfl (any_of HT_.out (by kernel_rfl)) (fun _ _ _ h => h) (Or.inl ⟨by rfl, ?_⟩) ?_ ?_
                          rotate_left
                          ·
                           intro w'
                           go_simp
                           with_reducible rfl
                          rotate_left
                          ·
                           simp only [Act.put, List.setIfInBounds_toArray, List.set_cons_zero, List.set_cons_succ, i64_w, i32_w]
                           rfl
                          refine pure_ (i := 19) (N := some 117) (v := ?_) (a' := ?_) #[true, true, true, true, true, false, true, false, false, false, true, true, true, true, false, true, false, false, false, true, false, false, false, false, false, false, false, false, false, false, false, false] rfl rfl (any_of HT_.out (by kernel_rfl)) (fun _ _ _ h => h) (Or.inl ⟨by rfl, ?_⟩) ?_ ?_
                          rotate_left
                          ·
                           intro w'
                           go_simp
                           with_reducible rfl
                          rotate_left
                          ·
                           simp only [Act.put, List.setIfInBounds_toArray, List.set_cons_zero, List.set_cons_succ, i64_w, i32_w]
                           rfl
                          refine pure_ (i := 20) (N := some 118) (v := ?_) (a' := ?_) #[true, true, true, true, true, false, true, false, false, false, true, true, true, true, false, true, false, false, false, true, true, false, false, false, false, false, false, false, false, false, false, false] rfl rfl (any_of HT_.out (by kernel_rfl)) (fun _ _ _ h => h) (Or.inl ⟨by rfl, ?_⟩) ?_ ?_
                          rotate_left
                          ·
                           intro w'
                           go_simp
                           with_reducible rfl
                          rotate_left
                          ·
                           simp only [Act.put, List.setIfInBounds_toArray, List.set_cons_zero, List.set_cons_succ, i64_w, i32_w]
                           rfl
                          refine pure_ (i := 21) (N := some 119) (v := ?_) (a' := ?_) #[true, true, true, true, true, false, true, false, false, false, true, true, true, true, false, true, false, false, false, true, true, true, false, false, false, false, false, false, false, false, false, false] rfl rfl (any_of HT_.out (by kernel_rfl)) (fun _ _ _ h => h) (Or.inl ⟨by rfl, ?_⟩) ?_ ?_
                          rotate_left
                          ·
                           intro w'
                           go_simp
                           with_reducible rfl
                          rotate_left
                          ·
                           simp only [Act.put, List.setIfInBounds_toArray, List.set_cons_zero, List.set_cons_succ, i64_w, i32_w]
                           rfl
                          refine pure_ (i := 22) (N := some 120) (v := ?_) (a' := ?_) #[true, true, true, true, true, false, true, false, false, false, true, true, true, true, false, true, false, false, false, true, true, true, true, false, false, false, false, false, false, false, false, false] rfl rfl (any_of HT_.out (by kernel_rfl)) (fun _ _ _ h => h) (Or.inl ⟨by rfl, ?_⟩) ?_ ?_
                          rotate_left
                          ·
                           intro w'
                           go_simp
                           with_reducible rfl
                          rotate_left
                          ·
                           simp only [Act.put, List.setIfInBounds_toArray, List.set_cons_zero, List.set_cons_succ, i64_w, i32_w]
                           rfl
                          refine pure_ (i := 24) (N := some 122) (v := ?_) (a' := ?_) #[true, true, true, true, true, false, true, false, false, false, true, true, true, true, false, true, false, false, false, true, true, true, true, false, true, false, false, false, false, false, false, false] rfl rfl (any_of HT_.out (by kernel_rfl)) (fun _ _ _ h => h) (Or.inl ⟨by rfl, ?_⟩) ?_ ?_
                          rotate_left
                          ·
                           intro w'
                           go_simp
                           with_reducible rfl
                          rotate_left
                          ·
                           simp only [Act.put, List.setIfInBounds_toArray, List.set_cons_zero, List.set_cons_succ, i64_w, i32_w]
                           rfl
                          refine take_ (i := 5) (N := some 103) (v := ?_) (a' := ?_) #[true, true, true, true, true, true, true, false, false, false, true, true, true, true, false, true, false, false, false, true, true, true, true, false, true, false, false, false, false, false, false, false] rfl rfl (take_ofW HT_.out HW_.out (by kernel_rfl)) (fun _ _ _ h => h) (Or.inl ⟨by rfl, ?_⟩) hHeld ?_ ?_
                          rotate_left
                          ·
                           rintro w' ⟨s0, s1, s2, s3, s4, s5, s6, s7, s8, s9, s10, s11, s12, s13, s14⟩
                           go_simp
                           with_reducible rfl
                          rotate_left
                          ·
                           simp only [Act.put, List.setIfInBounds_toArray, List.set_cons_zero, List.set_cons_succ, i64_w, i32_w]
                           rfl
                          refine pure_ (i := 7) (N := some 105) (v := ?_) (a' := ?_) #[true, true, true, true, true, true, true, true, false, false, true, true, true, true, false, true, false, false, false, true, true, true, true, false, true, false, false, false, false, false, false, false] rfl rfl (any_of HT_.out (by kernel_rfl)) (fun _ _ _ h => h) (Or.inl ⟨by rfl, ?_⟩) ?_ ?_
                          rotate_left
                          ·
                           intro w'
                           go_simp
                           with_reducible rfl
                          rotate_left
                          ·
                           simp only [Act.put, List.setIfInBounds_toArray, List.set_cons_zero, List.set_cons_succ, i64_w, i32_w]
                           rfl
                          refine pure_ (i := 8) (N := some 106) (v := ?_) (a' := ?_) #[true, true, true, true, true, true, true, true, true, false, true, true, true, true, false, true, false, false, false, true, true, true, true, false, true, false, false, false, false, false, false, false] rfl rfl (any_of HT_.out (by kernel_rfl)) (fun _ _ _ h => h) (Or.inl ⟨by rfl, ?_⟩) ?_ ?_
                          rotate_left
                          ·
                           intro w'
                           go_simp
                           with_reducible rfl
                          rotate_left
                          ·
                           simp only [Act.put, List.setIfInBounds_toArray, List.set_cons_zero, List.set_cons_succ, i64_w, i32_w]
                           rfl
                          refine take_ (i := 9) (N := some 107) (v := ?_) (a' := ?_) #[true, true, true, true, true, true, true, true, true, true, true, true, true, true, false, true, false, false, false, true, true, true, true, false, true, false, false, false, false, false, false, false] rfl rfl (take_ofW HT_.out HW_.out (by kernel_rfl)) (fun _ _ _ h => h) (Or.inl ⟨by rfl, ?_⟩) hHeld ?_ ?_
                          rotate_left
                          ·
                           rintro w' ⟨s0, s1, s2, s3, s4, s5, s6, s7, s8, s9, s10, s11, s12, s13, s14⟩
                           go_simp
                           with_reducible rfl
                          rotate_left
                          ·
                           simp only [Act.put, List.setIfInBounds_toArray, List.set_cons_zero, List.set_cons_succ, i64_w, i32_w]
                           rfl
                          refine take_ (i := 14) (N := some 112) (v := ?_) (a' := ?_) #[true, true, true, true, true, true, true, true, true, true, true, true, true, true, true, true, false, false, false, true, true, true, true, false, true, false, false, false, false, false, false, false] rfl rfl (take_ofW HT_.out HW_.out (by kernel_rfl)) (fun _ _ _ h => h) (Or.inl ⟨by rfl, ?_⟩) hHeld ?_ ?_
                          rotate_left
                          ·
                           rintro w' ⟨s0, s1, s2, s3, s4, s5, s6, s7, s8, s9, s10, s11, s12, s13, s14⟩
                           go_simp
                           with_reducible rfl
                          rotate_left
                          ·
                           simp only [Act.put, List.setIfInBounds_toArray, List.set_cons_zero, List.set_cons_succ, i64_w, i32_w]
                           rfl
                          refine pure_ (i := 16) (N := some 114) (v := ?_) (a' := ?_) #[true, true, true, true, true, true, true, true, true, true, true, true, true, true, true, true, true, false, false, true, true, true, true, false, true, false, false, false, false, false, false, false] rfl rfl (any_of HT_.out (by kernel_rfl)) (fun _ _ _ h => h) (Or.inl ⟨by rfl, ?_⟩) ?_ ?_
                          rotate_left
                          ·
                           intro w'
                           go_simp
                           with_reducible rfl
                          rotate_left
                          ·
                           simp only [Act.put, List.setIfInBounds_toArray, List.set_cons_zero, List.set_cons_succ, i64_w, i32_w]
                           rfl
                          refine pure_ (i := 17) (N := some 115) (v := ?_) (a' := ?_) #[true, true, true, true, true, true, true, true, true, true, true, true, true, true, true, true, true, true, false, true, true, true, true, false, true, false, false, false, false, false, false, false] rfl rfl (any_of HT_.out (by kernel_rfl)) (fun _ _ _ h => h) (Or.inl ⟨by rfl, ?_⟩) ?_ ?_
                          rotate_left
                          ·
                           intro w'
                           go_simp
                           with_reducible rfl
                          rotate_left
                          ·
                           simp only [Act.put, List.setIfInBounds_toArray, List.set_cons_zero, List.set_cons_succ, i64_w, i32_w]
                           rfl
                          refine take_ (i := 18) (N := some 116) (v := ?_) (a' := ?_) #[true, true, true, true, true, true, true, true, true, true, true, true, true, true, true, true, true, true, true, true, true, true, true, false, true, false, false, false, false, false, false, false] rfl rfl (take_ofW HT_.out HW_.out (by kernel_rfl)) (fun _ _ _ h => h) (Or.inl ⟨by rfl, ?_⟩) hHeld ?_ ?_
                          rotate_left
                          ·
                           rintro w' ⟨s0, s1, s2, s3, s4, s5, s6, s7, s8, s9, s10, s11, s12, s13, s14⟩
                           go_simp
                           with_reducible rfl
                          rotate_left
                          ·
                           simp only [Act.put, List.setIfInBounds_toArray, List.set_cons_zero, List.set_cons_succ, i64_w, i32_w]
                           rfl
                          refine take_ (i := 23) (N := some 121) (v := ?_) (a' := ?_) #[true, true, true, true, true, true, true, true, true, true, true, true, true, true, true, true, true, true, true, true, true, true, true, true, true, false, false, false, false, false, false, false] rfl rfl (take_ofW HT_.out HW_.out (by kernel_rfl)) (fun _ _ _ h => h) (Or.inl ⟨by rfl, ?_⟩) hHeld ?_ ?_
                          rotate_left
                          ·
                           rintro w' ⟨s0, s1, s2, s3, s4, s5, s6, s7, s8, s9, s10, s11, s12, s13, s14⟩
                           go_simp
                           with_reducible rfl
                          rotate_left
                          ·
                           simp only [Act.put, List.setIfInBounds_toArray, List.set_cons_zero, List.set_cons_succ, i64_w, i32_w]
                           rfl
                          refine pure_ (i := 25) (N := some 123) (v := ?_) (a' := ?_) #[true, true, true, true, true, true, true, true, true, true, true, true, true, true, true, true, true, true, true, true, true, true, true, true, true, true, false, false, false, false, false, false] rfl rfl (any_of HT_.out (by kernel_rfl)) (fun _ _ _ h => h) (Or.inl ⟨by rfl, ?_⟩) ?_ ?_
                          rotate_left
                          ·
                           intro w'
                           go_simp
                           with_reducible rfl
                          rotate_left
                          ·
                           simp only [Act.put, List.setIfInBounds_toArray, List.set_cons_zero, List.set_cons_succ, i64_w, i32_w]
                           rfl
                          refine pure_ (i := 26) (N := some 124) (v := ?_) (a' := ?_) #[true, true, true, true, true, true, true, true, true, true, true, true, true, true, true, true, true, true, true, true, true, true, true, true, true, true, true, false, false, false, false, false] rfl rfl (any_of HT_.out (by kernel_rfl)) (fun _ _ _ h => h) (Or.inl ⟨by rfl, ?_⟩) ?_ ?_
                          rotate_left
                          ·
                           intro w'
                           go_simp
                           with_reducible rfl
                          rotate_left
                          ·
                           simp only [Act.put, List.setIfInBounds_toArray, List.set_cons_zero, List.set_cons_succ, i64_w, i32_w]
                           rfl
                          refine take_ (i := 27) (N := some 125) (v := ?_) (a' := ?_) #[true, true, true, true, true, true, true, true, true, true, true, true, true, true, true, true, true, true, true, true, true, true, true, true, true, true, true, true, false, false, false, false] rfl rfl (take_ofW HT_.out HW_.out (by kernel_rfl)) (fun _ _ _ h => h) (Or.inl ⟨by rfl, ?_⟩) hHeld ?_ ?_
                          rotate_left
                          ·
                           rintro w' ⟨s0, s1, s2, s3, s4, s5, s6, s7, s8, s9, s10, s11, s12, s13, s14⟩
                           go_simp
                           with_reducible rfl
                          rotate_left
                          ·
                           simp only [Act.put, List.setIfInBounds_toArray, List.set_cons_zero, List.set_cons_succ, i64_w, i32_w]
                           rfl
                          refine pure_ (i := 28) (N := some 126) (v := ?_) (a' := ?_) #[true, true, true, true, true, true, true, true, true, true, true, true, true, true, true, true, true, true, true, true, true, true, true, true, true, true, true, true, true, false, false, false] rfl rfl (any_of HT_.out (by kernel_rfl)) (fun _ _ _ h => h) (Or.inl ⟨by rfl, ?_⟩) ?_ ?_
                          rotate_left
                          ·
                           intro w'
                           go_simp
                           with_reducible rfl
                          rotate_left
                          ·
                           simp only [Act.put, List.setIfInBounds_toArray, List.set_cons_zero, List.set_cons_succ, i64_w, i32_w]
                           rfl
                          refine one_ (i := 29) (N := some 127) #[true, true, true, true, true, true, true, true, true, true, true, true, true, true, true, true, true, true, true, true, true, true, true, true, true, true, true, true, true, true, false, false] rfl rfl (one_of HT_.out (by kernel_rfl)) (by decide) (fun K hK => ?_)
                          refine value_ (w1 := ?_) (v := ?_) (by rfl) rfl ?_ ?_
                          rotate_left 2
                          ·
                           go_simp
                           constructor
                           ·
                            rfl
                           ·
                            rfl
                          refine hK.out _ _ ⟨(World.cell?_alloc_lt _ _ _ (World.block_lt_of_cell? _ _ (((HB.out.cell (World.block_lt_of_cell? w _ hw169_0)).trans hw169_0)))).trans (((HB.out.cell (World.block_lt_of_cell? w _ hw169_0)).trans hw169_0)), (World.cell?_alloc_lt _ _ _ (World.block_lt_of_cell? _ _ (((HB.out.cell (World.block_lt_of_cell? w _ hw169_1)).trans hw169_1)))).trans (((HB.out.cell (World.block_lt_of_cell? w _ hw169_1)).trans hw169_1)), (World.cell?_alloc_lt _ _ _ (World.block_lt_of_cell? _ _ (((HB.out.cell (World.block_lt_of_cell? w _ hw170_0)).trans hw170_0)))).trans (((HB.out.cell (World.block_lt_of_cell? w _ hw170_0)).trans hw170_0)), (World.cell?_alloc_lt _ _ _ (World.block_lt_of_cell? _ _ (((HB.out.cell (World.block_lt_of_cell? w _ hw170_1)).trans hw170_1)))).trans (((HB.out.cell (World.block_lt_of_cell? w _ hw170_1)).trans hw170_1)), (World.cell?_alloc_lt _ _ _ (World.block_lt_of_cell? _ _ (((HB.out.cell (World.block_lt_of_cell? w _ hw170_2)).trans hw170_2)))).trans (((HB.out.cell (World.block_lt_of_cell? w _ hw170_2)).trans hw170_2)), (World.cell?_alloc_lt _ _ _ (World.block_lt_of_cell? _ _ (((HB.out.cell (World.block_lt_of_cell? w _ hw171_0)).trans hw171_0)))).trans (((HB.out.cell (World.block_lt_of_cell? w _ hw171_0)).trans hw171_0)), (World.cell?_alloc_lt _ _ _ (World.block_lt_of_cell? _ _ (((HB.out.cell (World.block_lt_of_cell? w _ hw171_1)).trans hw171_1)))).trans (((HB.out.cell (World.block_lt_of_cell? w _ hw171_1)).trans hw171_1)), (World.cell?_alloc_lt _ _ _ (World.block_lt_of_cell? _ _ (((HB.out.cell (World.block_lt_of_cell? w _ hw172_0)).trans hw172_0)))).trans (((HB.out.cell (World.block_lt_of_cell? w _ hw172_0)).trans hw172_0)), (World.cell?_alloc_lt _ _ _ (World.block_lt_of_cell? _ _ (((HB.out.cell (World.block_lt_of_cell? w _ hw172_1)).trans hw172_1)))).trans (((HB.out.cell (World.block_lt_of_cell? w _ hw172_1)).trans hw172_1)), (World.cell?_alloc_lt _ _ _ (World.block_lt_of_cell? _ _ (((HB.out.cell (World.block_lt_of_cell? w _ hw172_2)).trans hw172_2)))).trans (((HB.out.cell (World.block_lt_of_cell? w _ hw172_2)).trans hw172_2)), (World.cell?_alloc_lt _ _ _ (World.block_lt_of_cell? _ _ (((HB.out.cell (World.block_lt_of_cell? w _ hw173_0)).trans hw173_0)))).trans (((HB.out.cell (World.block_lt_of_cell? w _ hw173_0)).trans hw173_0)), (World.cell?_alloc_lt _ _ _ (World.block_lt_of_cell? _ _ (((HB.out.cell (World.block_lt_of_cell? w _ hw173_1)).trans hw173_1)))).trans (((HB.out.cell (World.block_lt_of_cell? w _ hw173_1)).trans hw173_1)), (World.cell?_alloc_lt _ _ _ (World.block_lt_of_cell? _ _ (((HB.out.cell (World.block_lt_of_cell? w _ hw174_0)).trans hw174_0)))).trans (((HB.out.cell (World.block_lt_of_cell? w _ hw174_0)).trans hw174_0)), (World.cell?_alloc_lt _ _ _ (World.block_lt_of_cell? _ _ (((HB.out.cell (World.block_lt_of_cell? w _ hw174_1)).trans hw174_1)))).trans (((HB.out.cell (World.block_lt_of_cell? w _ hw174_1)).trans hw174_1)), (World.cell?_alloc_lt _ _ _ (World.block_lt_of_cell? _ _ (((HB.out.cell (World.block_lt_of_cell? w _ hw174_2)).trans hw174_2)))).trans (((HB.out.cell (World.block_lt_of_cell? w _ hw174_2)).trans hw174_2))⟩ (fun hHeld => ?_)
                          clear hK K
                          refine norm_ (a' := ?_) ?_ ?_
                          rotate_left
                          ·
                           show Act.put _ (some 127) _ = _
                           simp only [Act.put, List.setIfInBounds_toArray, List.set_cons_zero, List.set_cons_succ, i64_w, i32_w]
                           rfl
                          refine one_ (i := 30) (N := some 128) #[true, true, true, true, true, true, true, true, true, true, true, true, true, true, true, true, true, true, true, true, true, true, true, true, true, true, true, true, true, true, true, false] rfl rfl (one_of HT_.out (by kernel_rfl)) (by decide) (fun K hK => ?_)
                          refine Kd.R_append_step k104 (w0 := w) w.heap.size (by rfl) (.tmp 98) (.tmp 127) 103 104 (.agg #[(.string ⟨#[]⟩), (.string ⟨#[]⟩), (.bool false)]) 40 rfl Try.underlying103 info104 rfl (by decide) (by omega) u14 x14_5 (⟨(rd_T37 ((rd_T78 l0 x8_1).f1) x15_5).f0, (rd_T37 ((rd_T78 l0 x8_1).f1) x15_5).f1, (rd_T37 ((rd_T78 l0 x8_1).f1) x15_5).f2⟩ : S104) [.string ((rd_T37 ((rd_T78 l0 x8_1).f1) x15_5).f0), .string ((rd_T37 ((rd_T78 l0 x8_1).f1) x15_5).f1), .bool ((rd_T37 ((rd_T78 l0 x8_1).f1) x15_5).f2)] (fun k_ => (w.heap.size ≤ k_)) (fun _ => False) rfl rfl ?aP (fun _ hk => hk.elim) ?aF ?aO ?aB ?aS ?aL ?_
                          (case aP => exact k104_mkM _ _ _ (⟨(rd_T37 ((rd_T78 l0 x8_1).f1) x15_5).f0, (rd_T37 ((rd_T78 l0 x8_1).f1) x15_5).f1, (rd_T37 ((rd_T78 l0 x8_1).f1) x15_5).f2⟩ : S104))
                          (case aB => exact (by repeat (first | (with_reducible first | exact HB.out | apply below_alloc | apply pw_below_drewN | apply below_drew1 | refine below_set ?_ GE147.out | refine below_set ?_ GE148.out | refine below_set ?_ GE161.out) | exact HB.out)))
                          (case aF => exact (fun k_ hk => (Nat.le_trans (below_size (by repeat (first | (with_reducible first | exact HB.out | apply below_alloc | apply pw_below_drewN | apply below_drew1 | refine below_set ?_ GE147.out | refine below_set ?_ GE148.out | refine below_set ?_ GE161.out) | exact HB.out))) hk)))
                          (case aO => exact (by (with_reducible repeat (first | apply Kd.R_alloc | apply Kd.R_drewN | apply Kd.R_drew)); exact HO_14.out))
                          (case aS => exact (below_size (by repeat (first | (with_reducible first | exact HB.out | apply below_alloc | apply pw_below_drewN | apply below_drew1 | refine below_set ?_ GE147.out | refine below_set ?_ GE148.out | refine below_set ?_ GE161.out) | exact HB.out))))
                          (case aL => have := LMc52.out; omega)
                          intro v176 w54 ho hb hg hat
                          rw [← Ny175.out] at ho
                          have n0_ := Aside0.mk (Kd.R_over' (by (with_reducible repeat (first | apply Kd.R_alloc | apply Kd.R_drewN | apply Kd.R_drew)); exact HO_6.out) (Kd.R_typed (by (with_reducible repeat (first | apply Kd.R_alloc | apply Kd.R_drewN | apply Kd.R_drew)); exact HO_14.out)) (by decide) hg)
                          have n1_ := Aside0.mk (Kd.N_afterv (ok := (fun k_ => (w.heap.size ≤ k_) ∧ some k_ ≠ (u6 : Value).ownBlock ∧ k_ ≠ gb147 ∧ k_ ≠ gb148 ∧ k_ ≠ gb161)) (by (with_reducible repeat (first | apply Kd.N_alloc | apply Kd.N_drewN | apply Kd.N_drew)); exact Kd.N_mono HO_149000.out (fun _ hk => ⟨⟨hk.1, ⟨hk.2.1, ⟨hk.2.2.2.1, ⟨hk.2.2.2.2.1, hk.2.2.2.2.2⟩⟩⟩⟩, hk.2.2.1⟩)) hg hat)
                          have n2_ := Aside0.mk (Kd.N_afterv (ok := (fun k_ => (w.heap.size ≤ k_) ∧ some k_ ≠ (u6 : Value).ownBlock ∧ k_ ≠ gb147 ∧ k_ ≠ gb148 ∧ k_ ≠ gb161)) (by (with_reducible repeat (first | apply Kd.N_alloc | apply Kd.N_drewN | apply Kd.N_drew)); exact Kd.N_mono HO_162000.out (fun _ hk => ⟨⟨hk.1, ⟨hk.2.1, ⟨hk.2.2.2.1, ⟨hk.2.2.2.2.1, hk.2.2.2.2.2⟩⟩⟩⟩, hk.2.2.1⟩)) hg hat)
                          have n3_ := Aside0.mk (blk_grown (g := gb147) (o := .cells #[.slice none 0 0] 57 (0, 0)) (by (with_reducible repeat (first | refine blk_drewN ?_ _ | refine blk_drew ?_ | refine blk_alloc ?_ _)); exact BK147.out) hg (Kd.R_ne HO_14.out BK147.out (by decide)))
                          have n4_ := Aside0.mk (blk_grown (g := gb148) (o := .cells #[.slice Ao17 t157.length co17] 57 (0, 0)) (by (with_reducible repeat (first | refine blk_drewN ?_ _ | refine blk_drew ?_ | refine blk_alloc ?_ _)); exact BK148.out) hg (Kd.R_ne HO_14.out BK148.out (by decide)))
                          have n5_ := Aside0.mk (blk_grown (g := gb161) (o := .cells #[.slice Ao17 t157.length co17] 57 (0, 0)) (by (with_reducible repeat (first | refine blk_drewN ?_ _ | refine blk_drew ?_ | refine blk_alloc ?_ _)); exact BK161.out) hg (Kd.R_ne HO_14.out BK161.out (by decide)))
                          have n6_ := Aside0.mk (hb)
                          have n7_ := Aside0.mk (ho)
                          clear HO_6
                          clear HO_149000
                          clear HO_162000
                          clear BK147
                          clear BK148
                          clear BK161
                          clear HB
                          clear HO_14
                          have HO_6 := n0_
                          have HO_149000 := n1_
                          have HO_162000 := n2_
                          have BK147 := n3_
                          have BK148 := n4_
                          have BK161 := n5_
                          have HB := n6_
                          have HO177 := n7_
                          clear n0_ n1_ n2_ n3_ n4_ n5_ n6_ n7_
                          clear ho hb hg hat
                          refine hK.out _ _ ⟨((HB.out.cell (World.block_lt_of_cell? w _ hw169_0)).trans hw169_0), ((HB.out.cell (World.block_lt_of_cell? w _ hw169_1)).trans hw169_1), ((HB.out.cell (World.block_lt_of_cell? w _ hw170_0)).trans hw170_0), ((HB.out.cell (World.block_lt_of_cell? w _ hw170_1)).trans hw170_1), ((HB.out.cell (World.block_lt_of_cell? w _ hw170_2)).trans hw170_2), ((HB.out.cell (World.block_lt_of_cell? w _ hw171_0)).trans hw171_0), ((HB.out.cell (World.block_lt_of_cell? w _ hw171_1)).trans hw171_1), ((HB.out.cell (World.block_lt_of_cell? w _ hw172_0)).trans hw172_0), ((HB.out.cell (World.block_lt_of_cell? w _ hw172_1)).trans hw172_1), ((HB.out.cell (World.block_lt_of_cell? w _ hw172_2)).trans hw172_2), ((HB.out.cell (World.block_lt_of_cell? w _ hw173_0)).trans hw173_0), ((HB.out.cell (World.block_lt_of_cell? w _ hw173_1)).trans hw173_1), ((HB.out.cell (World.block_lt_of_cell? w _ hw174_0)).trans hw174_0), ((HB.out.cell (World.block_lt_of_cell? w _ hw174_1)).trans hw174_1), ((HB.out.cell (World.block_lt_of_cell? w _ hw174_2)).trans hw174_2)⟩ (fun hHeld => ?_)
                          clear hK K
                          refine norm_ (a' := ?_) ?_ ?_
                          rotate_left
                          ·
                           show Act.put _ (some 128) _ = _
                           simp only [Act.put, List.setIfInBounds_toArray, List.set_cons_zero, List.set_cons_succ, i64_w, i32_w]
                           rfl
                          refine pure_ (i := 31) (N := some 14) (v := ?_) (a' := ?_) #[true, true, true, true, true, true, true, true, true, true, true, true, true, true, true, true, true, true, true, true, true, true, true, true, true, true, true, true, true, true, true, true] rfl rfl (any_of HT_.out (by kernel_rfl)) (fun _ _ _ h => h) (Or.inl ⟨by rfl, ?_⟩) ?_ ?_
                          rotate_left
                          ·
                           intro w'
                           go_simp
                           with_reducible rfl
                          rotate_left
                          ·
                           simp only [Act.put, List.setIfInBounds_toArray, List.set_cons_zero, List.set_cons_succ, i64_w, i32_w]
                           rfl
                          refine done_ (done_of HT_.out (by kernel_rfl)) ?_
                          try go_wp2
                          go_roundg k5
                          case measure => have := HK1.out; have := HK2.out; have := HJ26.out; have := HJ29.out; have := HK5.out; omega
                          case rel => exact ⟨(y175), (wrap64 (x15_5 + 1)), (by first | rfl | (simp; done) | (simp [*]; done)), H', ⟨by have := HK1.out; have := HK2.out; have := HJ26.out; have := HJ29.out; have := HK5.out; omega⟩, ⟨by (try simp only [hl9_2]); (with_reducible repeat (first | apply Kd.R_alloc | apply Kd.R_drewN | apply Kd.R_drew)); exact HO_6.out⟩, ⟨by (try simp only [hl9_2]); (with_reducible repeat (first | apply Kd.R_alloc | apply Kd.R_drewN | apply Kd.R_drew)); exact HO177.out⟩, ⟨by (try simp only [hl9_2]); (with_reducible repeat (first | apply Kd.N_alloc | apply Kd.N_drewN | apply Kd.N_drew)); exact Kd.N_mono HO_149000.out (fun _ hk => ⟨hk.1.1, ⟨hk.1.2.1, ⟨hk.2, ⟨hk.1.2.2.1, ⟨hk.1.2.2.2.1, hk.1.2.2.2.2⟩⟩⟩⟩⟩)⟩, ⟨by (try simp only [hl9_2]); (with_reducible repeat (first | apply Kd.N_alloc | apply Kd.N_drewN | apply Kd.N_drew)); exact Kd.N_mono HO_162000.out (fun _ hk => ⟨hk.1.1, ⟨hk.1.2.1, ⟨hk.2, ⟨hk.1.2.2.1, ⟨hk.1.2.2.2.1, hk.1.2.2.2.2⟩⟩⟩⟩⟩)⟩, ⟨by (try simp only [hl9_2]); (with_reducible repeat (first | refine blk_drewN ?_ _ | refine blk_drew ?_ | refine blk_alloc ?_ _)); exact BK147.out⟩, ⟨by (try simp only [hl9_2]); (with_reducible repeat (first | refine blk_drewN ?_ _ | refine blk_drew ?_ | refine blk_alloc ?_ _)); exact BK148.out⟩, ⟨by (try simp only [hl9_2]); (with_reducible repeat (first | refine blk_drewN ?_ _ | refine blk_drew ?_ | refine blk_alloc ?_ _)); exact BK161.out⟩, ⟨by repeat (first | (with_reducible first | exact HB.out | apply below_alloc | apply pw_below_drewN | apply below_drew1 | refine below_set ?_ GE147.out | refine below_set ?_ GE148.out | refine below_set ?_ GE161.out) | exact HB.out)⟩⟩
                         ·
                          rw [if_neg c52] at H
                          exact absurd H (by simp)
                        ·
                         rw [if_neg c51] at H
                         exact absurd H (by simp)
                       ·
                        rw [if_neg c50] at H
                        have c50b0 : decide (x15_5 < (((rd_T78 l0 x8_1).f1).length : Int)) = false := decide_eq_false c50
                        clear c50
                        replace H := Option.bind_eq_some_iff.mp H
                        obtain ⟨t178, A550, H⟩ := H
                        replace H : (rundlelaw24_lay.l0 k5 l0 t178 ((rd_T78 l0 x8_1).f0) (wrap64 (x8_1 + 1)) t157) = some (r1, r2, r3) := H
                        have A55 := Aside0.mk A550
                        clear A550
                        have H' := Aside0.mk H
                        clear H
                        have p168 : 0 ≤ (x8_1 : Int) := of_decide_eq_true (by first | (with_reducible assumption) | assumption)
                        have q168 : x8_1 < (l0.length : Int) := of_decide_eq_true (by first | (with_reducible assumption) | assumption)
                        obtain ⟨ad168, A168_1, c168_1, e168, hx168_0, hx168_1, hl168_1, hi168_1⟩ := at_T78 HR0.out x8_1 p168 q168
                        obtain rfl : ad152 = ad168 := (by injection e168)
                        replace hx168_0 := (HB.out.cell (World.block_lt_of_cell? w _ hx168_0)).trans hx168_0
                        replace hx168_1 := (HB.out.cell (World.block_lt_of_cell? w _ hx168_1)).trans hx168_1
                        have HR168_1 := Aside0.mk hi168_1
                        have HC168_1 := Aside0.mk hl168_1
                        clear hi168_1 hl168_1
                        replace p168 := eq_true p168
                        replace q168 := eq_true q168
                        obtain ⟨Ao56, co56, eo56⟩ := Kd.R_slice HO_6.out
                        subst eo56
                        obtain ⟨Ao57, co57, eo57⟩ := Kd.R_slice HO_14.out
                        subst eo57
                        go_wp2_with (first | ((with_reducible refine gate_callee (f := 49) rfl ?_); refine goesL_ (some 132) rfl rfl Try.func49 (by kernel_rfl) rfl #[.slice Ao56 x6_1.length co56, .int .i64 ((rd_T78 l0 x8_1).f0), .slice Ao57 x14_5.length co57] rfl (by (try simp only [List.map_toArray, List.map_cons, List.map_nil]); first | done | rfl | (simp only [List.length_drop, List.length_take]; rfl)) ?_; (with_reducible refine (rundleref24_Add.calls k5 _ _ x6_1 ((rd_T78 l0 x8_1).f0) _ _ x14_5 t178 _ ?side1 ?side2 ?side3 ?side4 A55.out).mono ?_); (case side1 => repeat (first | exact (Kd.R_reads' HO_6.out).2.2 | (with_reducible refine Kd.C_alloc ?_ _) | (with_reducible refine Kd.C_drewN ?_ _) | (with_reducible refine Kd.C_drew ?_))); (case side2 => exact (Kd.R_reads' HO_6.out).2.1); (case side3 => repeat (first | exact (Kd.R_reads' HO_14.out).2.2 | (with_reducible refine Kd.C_alloc ?_ _) | (with_reducible refine Kd.C_drewN ?_ _) | (with_reducible refine Kd.C_drew ?_))); (case side4 => exact (Kd.R_reads' HO_14.out).2.1); rintro e w58 ⟨v179, rfl, ho0, hb⟩; refine ⟨_, rfl, ?_⟩; have n0_ := Aside0.mk (Kd.R_elder' (by (with_reducible repeat (first | apply Kd.R_alloc | apply Kd.R_drewN | apply Kd.R_drew)); exact HO_6.out) (Kd.R_base ho0) hb); have n1_ := Aside0.mk (Kd.R_below (by (with_reducible repeat (first | apply Kd.R_alloc | apply Kd.R_drewN | apply Kd.R_drew)); exact HO_14.out) hb); have n2_ := Aside0.mk (Kd.N_elder' (by (with_reducible repeat (first | apply Kd.N_alloc | apply Kd.N_drewN | apply Kd.N_drew)); exact HO_149000.out) (Kd.R_base ho0) hb); have n3_ := Aside0.mk (Kd.N_elder' (by (with_reducible repeat (first | apply Kd.N_alloc | apply Kd.N_drewN | apply Kd.N_drew)); exact HO_162000.out) (Kd.R_base ho0) hb); have n4_ := Aside0.mk (Kd.R_lower (Kd.R_new' (Kd.R_newM (M := fun k_ => (w.heap.size ≤ k_)) ho0 (below_size (by repeat (first | (with_reducible first | exact HB.out | apply below_alloc | apply pw_below_drewN | apply below_drew1 | refine below_set ?_ GE147.out | refine below_set ?_ GE148.out | refine below_set ?_ GE161.out) | exact HB.out))) (fun k_ h_ => h_)) (Kd.R_lt (by (with_reducible repeat (first | apply Kd.R_alloc | apply Kd.R_drewN | apply Kd.R_drew)); exact HO_6.out))) (below_size (by repeat (first | (with_reducible first | exact HB.out | apply below_alloc | apply pw_below_drewN | apply below_drew1 | refine below_set ?_ GE147.out | refine below_set ?_ GE148.out | refine below_set ?_ GE161.out) | exact HB.out)))); have n5_ := Aside0.mk (blk_below (g := gb147) (o := .cells #[.slice none 0 0] 57 (0, 0)) (by (with_reducible repeat (first | refine blk_drewN ?_ _ | refine blk_drew ?_ | refine blk_alloc ?_ _)); exact BK147.out) hb); have n6_ := Aside0.mk (blk_below (g := gb148) (o := .cells #[.slice Ao17 t157.length co17] 57 (0, 0)) (by (with_reducible repeat (first | refine blk_drewN ?_ _ | refine blk_drew ?_ | refine blk_alloc ?_ _)); exact BK148.out) hb); have n7_ := Aside0.mk (blk_below (g := gb161) (o := .cells #[.slice Ao17 t157.length co17] 57 (0, 0)) (by (with_reducible repeat (first | refine blk_drewN ?_ _ | refine blk_drew ?_ | refine blk_alloc ?_ _)); exact BK161.out) hb); have n8_ := Aside0.mk (below_step (by repeat (first | (with_reducible first | exact HB.out | apply below_alloc | apply pw_below_drewN | apply below_drew1 | refine below_set ?_ GE147.out | refine below_set ?_ GE148.out | refine below_set ?_ GE161.out) | exact HB.out)) hb); clear HO_6; clear HO_14; clear HO_149000; clear HO_162000; clear BK147; clear BK148; clear BK161; clear HB; have HO_6 := n0_; have HO_14 := n1_; have HO_149000 := n2_; have HO_162000 := n3_; have HO180 := n4_; have BK147 := n5_; have BK148 := n6_; have BK161 := n7_; have HB := n8_; clear n0_ n1_ n2_ n3_ n4_ n5_ n6_ n7_ n8_; (try clear hb); (try clear hb2); (try clear hk); (try clear hi); (try clear ho0)))
                        (try simp only [← hl9_2])
                        go_roundg k5
                        case measure => have := HK1.out; have := HK2.out; have := HJ26.out; have := HJ29.out; have := HK5.out; omega
                        case rel => exact ⟨(t178), (((rd_T78 l0 x8_1).f0)), (wrap64 (x8_1 + 1)), (t157), (.slice Ao17 t157.length co17), (by first | rfl | (simp; done) | (simp [*]; done)), (by first | rfl | (simp; done) | (simp [*]; done)), H', ⟨by have := HK1.out; have := HK2.out; have := HJ26.out; have := HJ29.out; have := HK5.out; omega⟩, ⟨by (try simp only [hl9_2]); (with_reducible repeat (first | apply Kd.R_alloc | apply Kd.R_drewN | apply Kd.R_drew)); exact Kd.R_mono HO180.out (fun _ hk => hk.1.1)⟩, ⟨by (try simp only [hl9_2]); (with_reducible repeat (first | apply Kd.N_alloc | apply Kd.N_drewN | apply Kd.N_drew)); exact Kd.N_mono HO_149000.out (fun _ hk => ⟨hk.1.1, ⟨hk.2, ⟨hk.1.2.2.2.1, hk.1.2.2.2.2.1⟩⟩⟩)⟩, ⟨by (try simp only [hl9_2]); (with_reducible repeat (first | refine blk_drewN ?_ _ | refine blk_drew ?_ | refine blk_alloc ?_ _)); exact BK147.out⟩, ⟨by (try simp only [hl9_2]); (with_reducible repeat (first | refine blk_drewN ?_ _ | refine blk_drew ?_ | refine blk_alloc ?_ _)); exact BK148.out⟩, ⟨by repeat (first | (with_reducible first | exact HB.out | apply below_alloc | apply pw_below_drewN | apply below_drew1 | refine below_set ?_ GE147.out | refine below_set ?_ GE148.out | refine below_set ?_ GE161.out) | exact HB.out)⟩⟩
                      ·
                       rw [if_neg c49] at H
                       exact absurd H (by simp)
                     ·
                      rw [if_neg c48] at H
                      exact absurd H (by simp)
                  ·
                   rw [if_neg c45] at H
                   exact absurd H (by simp)
                 ·
                  rw [if_neg c44] at H
                  exact absurd H (by simp)
                ·
                 rw [if_neg c43] at H
                 have c43b0 : (t160 == 0) = false := beq_eq_false_iff_ne.mpr c43
                 have c43b1 : (t160 != 0) = true := bne_iff_ne.mpr c43
                 by_cases c59 : (t157.length : Int) = 0
                 ·
                  rw [if_pos c59] at H
                  have c59b0 : ((t157.length : Int) == 0) = true := beq_iff_eq.mpr c59
                  have c59b1 : ((t157.length : Int) != 0) = false := bne_eq_false_iff_eq.mpr c59
                  clear c59
                  have H' := Aside0.mk H
                  clear H
                  have hnb60 := NB161_147.out
                  have hnc60 := NB147_161.out
                  have hnb61 := NB161_148.out
                  have hnc61 := NB148_161.out
                  have hcz62_0 : wc.cell? ⟨gb161, 0, none⟩ = some (.slice Ao17 t157.length co17) := (blk_cell BK161.out 0).trans rfl
                  have hfz62_0 := blk_frozen BK161.out 0
                  go_wp2
                  (try simp only [← hl9_2])
                  go_roundg kj29
                  case measure => have := HK1.out; have := HK2.out; have := HJ26.out; have := HJ29.out; omega
                  case rel => exact ⟨(x6_1), (x7_1), (wrap64 (x8_1 + 1)), (x149000_1), (.slice Ao11 x149000_1.length co11), (by first | rfl | (simp; done) | (simp [*]; done)), (by first | rfl | (simp; done) | (simp [*]; done)), H', ⟨by have := HK1.out; have := HK2.out; have := HJ26.out; have := HJ29.out; omega⟩, ⟨by (try simp only [hl9_2]); (with_reducible repeat (first | apply Kd.R_alloc | apply Kd.R_drewN | apply Kd.R_drew)); exact HO_6.out⟩, ⟨by (try simp only [hl9_2]); (with_reducible repeat (first | apply Kd.N_alloc | apply Kd.N_drewN | apply Kd.N_drew)); exact Kd.N_mono HO_149000.out (fun _ hk => ⟨hk.1, ⟨hk.2.1, ⟨hk.2.2.2.1, hk.2.2.2.2.1⟩⟩⟩)⟩, ⟨by (try simp only [hl9_2]); (with_reducible repeat (first | refine blk_drewN ?_ _ | refine blk_drew ?_ | refine blk_alloc ?_ _)); exact BK147.out⟩, ⟨by (try simp only [hl9_2]); (with_reducible repeat (first | refine blk_drewN ?_ _ | refine blk_drew ?_ | refine blk_alloc ?_ _)); exact BK148.out⟩, ⟨by repeat (first | (with_reducible first | exact HB.out | apply below_alloc | apply pw_below_drewN | apply below_drew1 | refine below_set ?_ GE147.out | refine below_set ?_ GE148.out | refine below_set ?_ GE161.out) | exact HB.out)⟩⟩
                 ·
                  rw [if_neg c59] at H
                  have c59b0 : ((t157.length : Int) == 0) = false := beq_eq_false_iff_ne.mpr c59
                  have c59b1 : ((t157.length : Int) != 0) = true := bne_iff_ne.mpr c59
                  have c59b2 : ¬ (t157 = []) := fun h_ => c59 (by rw [h_]; rfl)
                  simp only [Option.some.injEq, Prod.mk.injEq] at H
                  obtain ⟨rfl, rfl, rfl⟩ := H
                  have hnb63 := NB161_147.out
                  have hnc63 := NB147_161.out
                  have hnb64 := NB161_148.out
                  have hnc64 := NB148_161.out
                  have hcz65_0 : wc.cell? ⟨gb161, 0, none⟩ = some (.slice Ao17 t157.length co17) := (blk_cell BK161.out 0).trans rfl
                  have hfz65_0 := blk_frozen BK161.out 0
                  have hnb66 := NB148_147.out
                  have hnc66 := NB147_148.out
                  have hcz67_0 : wc.cell? ⟨gb148, 0, none⟩ = some (.slice Ao11 x149000_1.length co11) := (blk_cell BK148.out 0).trans rfl
                  have hfz67_0 := blk_frozen BK148.out 0
                  have hcz68_0 : wc.cell? ⟨gb147, 0, none⟩ = some (.slice none 0 0) := (blk_cell BK147.out 0).trans rfl
                  have hfz68_0 := blk_frozen BK147.out 0
                  go_wp2
                  refine bodyPost_ret (results_ctt rfl _ _ gb147 57 #[.slice Ao11 x149000_1.length co11] (0, 0) _ rfl (by (with_reducible repeat (first | refine blk_drewN ?_ _ | refine blk_drew ?_ | refine blk_alloc ?_ _)); refine blk_put (cs := #[.slice none 0 0]) ?_ 0 _ rfl; (with_reducible repeat (first | refine blk_drewN ?_ _ | refine blk_drew ?_ | refine blk_alloc ?_ _)); exact BK147.out) Try.underlying57 rfl (by kernel_rfl)) rfl ?_
                  exact ⟨_, _, by first | rfl | (simp [errW_none, errW_some] <;> rfl) | (simp [*, errW_none, errW_some] <;> rfl), by (with_reducible repeat (first | apply Kd.N_alloc | apply Kd.N_drewN | apply Kd.N_drew)); exact Kd.N_mono (Kd.N_far (p := ⟨gb147, 0, none⟩) (Kd.N_mono HO_149000.out (fun k_ hk => (⟨hk, hk.2.2.2.1⟩ : _ ∧ k_ ≠ gb147))) (fun _ hk => hk.2) (.slice Ao11 x149000_1.length co11)) (fun _ hk => ⟨hk.1.1, hk.1.2.1⟩), by (with_reducible repeat (first | apply Kd.R_alloc | apply Kd.R_drewN | apply Kd.R_drew)); exact Kd.R_mono (Kd.R_far (p := ⟨gb147, 0, none⟩) (Kd.R_types HO_6.out BK147.out (by decide)) (fun _ hk => hk.2) (.slice Ao11 x149000_1.length co11)) (fun _ hk => hk.1), by repeat (first | (with_reducible first | exact HB.out | apply below_alloc | apply pw_below_drewN | apply below_drew1 | refine below_set ?_ GE147.out | refine below_set ?_ GE148.out | refine below_set ?_ GE161.out) | exact HB.out)⟩
          ·
           rw [if_neg c25] at H
           exact absurd H (by simp)
         ·
          rw [if_neg c24] at H
          exact absurd H (by simp)
     ·
      rw [if_neg c6] at H
      exact absurd H (by simp)
    ·
     rw [if_neg c5] at H
     exact absurd H (by simp)
   ·
    rw [if_neg c4] at H
    have c4b0 : decide (x8_1 < (l0.length : Int)) = false := decide_eq_false c4
    clear c4
    simp only [Option.some.injEq, Prod.mk.injEq] at H
    obtain ⟨rfl, rfl, rfl⟩ := H
    have hnb69 := NB148_147.out
    have hnc69 := NB147_148.out
    have hcz70_0 : wr.cell? ⟨gb148, 0, none⟩ = some (u149000) := (blk_cell BK148.out 0).trans rfl
    have hfz70_0 := blk_frozen BK148.out 0
    obtain ⟨Ao71, co71, eo71⟩ := Kd.N_slice HO_149000.out
    subst eo71
    have hcz72_0 : wr.cell? ⟨gb147, 0, none⟩ = some (.slice none 0 0) := (blk_cell BK147.out 0).trans rfl
    have hfz72_0 := blk_frozen BK147.out 0
    go_wp2
    refine bodyPost_ret (results_ctt rfl _ _ gb147 57 #[.slice Ao71 x149000_1.length co71] (0, 0) _ rfl (by (with_reducible repeat (first | refine blk_drewN ?_ _ | refine blk_drew ?_ | refine blk_alloc ?_ _)); refine blk_put (cs := #[.slice none 0 0]) ?_ 0 _ rfl; (with_reducible repeat (first | refine blk_drewN ?_ _ | refine blk_drew ?_ | refine blk_alloc ?_ _)); exact BK147.out) Try.underlying57 rfl (by kernel_rfl)) rfl ?_
    exact ⟨_, _, by first | rfl | (simp [errW_none, errW_some] <;> rfl) | (simp [*, errW_none, errW_some] <;> rfl), by (with_reducible repeat (first | apply Kd.N_alloc | apply Kd.N_drewN | apply Kd.N_drew)); exact Kd.N_mono (Kd.N_far (p := ⟨gb147, 0, none⟩) (Kd.N_mono HO_149000.out (fun k_ hk => (⟨hk, hk.2.2.1⟩ : _ ∧ k_ ≠ gb147))) (fun _ hk => hk.2) (.slice Ao71 x149000_1.length co71)) (fun _ hk => ⟨hk.1.1, hk.1.2.1⟩), by (with_reducible repeat (first | apply Kd.R_alloc | apply Kd.R_drewN | apply Kd.R_drew)); exact Kd.R_mono (Kd.R_far (p := ⟨gb147, 0, none⟩) (Kd.R_types HO_6.out BK147.out (by decide)) (fun _ hk => hk.2) (.slice Ao71 x149000_1.length co71)) (fun _ hk => hk.1), by repeat (first | (with_reducible first | exact HB.out | apply below_alloc | apply pw_below_drewN | apply below_drew1 | refine below_set ?_ GE147.out | refine below_set ?_ GE148.out) | exact HB.out)⟩

end Go.Proofs.Ytgnnhomipfjanaa.PM
