/- Functions with the same answers as the Go functions named, and that the Go code comes to just these; written by a program of this work, out of the kit's print. -/
import Derived.Test.YtgnnhomipfjanaaPAx0
import Derived.Test.YtgnnhomipfjanaaPAx4
import Derived.Test.YtgnnhomipfjanaaRefSorted
import Derived.Test.YtgnnhomipfjanaaSorted
namespace Go.Proofs.Ytgnnhomipfjanaa.PA
open Go.RowKit Go.Proofs.YtgnnhomipfjanaaW.PrintWords Go.Proofs.YtgnnhomipfjanaaW.PrintLast Go.Proofs.YtgnnhomipfjanaaW.PrintMore
attribute [local go_sem] max2_int min2_int max_two min_two max_three min_three max_four min_four   -- for this text's walks alone
set_option linter.unusedVariables false
set_option linter.unusedSimpArgs false

/-! ### batch_Parts: function 21 -/
mutual
def batch_Parts.l0 : Nat → List (List (S37)) → List (S37) → List (S44) → Int → Int → Option ((List (List (S37))))
  | 0, _, _, _, _, _ => none
  | k + 1, x5, x6, x12, x13, x14 => if x14 < x13 then (if 0 ≤ x14 then (if x14 < (x12.length : Int) then (batch_Parts.l1 k x5 x6 x12 x13 x14 ((rd_T44 x12 x14).f0) ((rd_T44 x12 x14).f1) ((rd_T44 x12 x14).f2)) else (none)) else (none)) else (some x5)
def batch_Parts.l1 : Nat → List (List (S37)) → List (S37) → List (S44) → Int → Int → ByteArray → ByteArray → Bool → Option ((List (List (S37))))
  | 0, _, _, _, _, _, _, _, _ => none
  | k + 1, x5, x6, x12, x13, x14, x174000, x174001, x174002 => if (x6.length : Int) > 0 then (if 0 < (x6.length : Int) then (if (Op.bytesLess (((rd_T37 x6 0).f0).toList) x174000.toList) = true then (if 1 ≤ (x6.length : Int) then (batch_Parts.l1 k x5 (x6.drop (1 : Int).toNat) x12 x13 x14 x174000 x174001 x174002) else (none)) else ((batch_Within.f k x6 x174000 x174001 x174002).bind fun t178 => (if x5.length < 5864062014805 then (if 0 ≤ (t178.length : Int) then (if (t178.length : Int) ≤ (x6.length : Int) then (batch_Parts.l0 k (x5 ++ [t178]) (x6.drop ((t178.length : Int) : Int).toNat) x12 x13 (wrap64 (x14 + 1))) else (none)) else (none)) else (none)))) else (none)) else ((batch_Within.f k x6 x174000 x174001 x174002).bind fun t187 => (if x5.length < 5864062014805 then (if 0 ≤ (t187.length : Int) then (if (t187.length : Int) ≤ (x6.length : Int) then (batch_Parts.l0 k (x5 ++ [t187]) (x6.drop ((t187.length : Int) : Int).toNat) x12 x13 (wrap64 (x14 + 1))) else (none)) else (none)) else (none)))
end
def batch_Parts.f (k : Nat) (l0 : List (S37)) (l1 : List (S44)) : Option ((List (List (S37)))) := (batch_Sorted.f l0).bind fun t169 => (batch_Parts.l0 k ([] : List (List (S37))) t169 l1 (l1.length : Int) 0)
theorem batch_Parts.mono_l : ∀ k, (∀ y0 y1 y2 y3 y4, LeO (batch_Parts.l0 k y0 y1 y2 y3 y4) (batch_Parts.l0 (k + 1) y0 y1 y2 y3 y4)) ∧ (∀ y0 y1 y2 y3 y4 y5 y6 y7, LeO (batch_Parts.l1 k y0 y1 y2 y3 y4 y5 y6 y7) (batch_Parts.l1 (k + 1) y0 y1 y2 y3 y4 y5 y6 y7))
  | 0 => ⟨fun _ _ _ _ _ r h => by simp [batch_Parts.l0] at h, fun _ _ _ _ _ _ _ _ r h => by simp [batch_Parts.l1] at h⟩
  | k + 1 => by
    obtain ⟨ih0, ih1⟩ := batch_Parts.mono_l k
    refine ⟨?_, ?_⟩
    · intro y0 y1 y2 y3 y4
      unfold batch_Parts.l0
      repeat' first
      | (with_reducible exact ih0 _ _ _ _ _)
      | (with_reducible exact ih1 _ _ _ _ _ _ _ _)
      | (with_reducible exact batch_Within.mono _ _ _ _ _)
      | (with_reducible exact LeO.refl _)
      | (with_reducible exact LeO.none _)
      | (with_reducible refine LeO.ite ?_ ?_)
      | (with_reducible refine LeO.bind ?_ (fun _ => ?_))
      | exact ih0 _ _ _ _ _
      | exact ih1 _ _ _ _ _ _ _ _
      | exact batch_Within.mono _ _ _ _ _
      | exact LeO.none _
      | refine LeO.ite ?_ ?_
      | refine LeO.bind ?_ (fun _ => ?_)
    · intro y0 y1 y2 y3 y4 y5 y6 y7
      unfold batch_Parts.l1
      repeat' first
      | (with_reducible exact ih0 _ _ _ _ _)
      | (with_reducible exact ih1 _ _ _ _ _ _ _ _)
      | (with_reducible exact batch_Within.mono _ _ _ _ _)
      | (with_reducible exact LeO.refl _)
      | (with_reducible exact LeO.none _)
      | (with_reducible refine LeO.ite ?_ ?_)
      | (with_reducible refine LeO.bind ?_ (fun _ => ?_))
      | exact ih0 _ _ _ _ _
      | exact ih1 _ _ _ _ _ _ _ _
      | exact batch_Within.mono _ _ _ _ _
      | exact LeO.none _
      | refine LeO.ite ?_ ?_
      | refine LeO.bind ?_ (fun _ => ?_)
theorem batch_Parts.mono : ∀ a0 a1 k, LeO (batch_Parts.f k a0 a1) (batch_Parts.f (k + 1) a0 a1) := by
  intro a0 a1 k
  obtain ⟨ih0, ih1⟩ := batch_Parts.mono_l k
  unfold batch_Parts.f
  repeat' first
      | (with_reducible exact ih0 _ _ _ _ _)
      | (with_reducible exact ih1 _ _ _ _ _ _ _ _)
      | (with_reducible exact batch_Within.mono _ _ _ _ _)
      | (with_reducible exact LeO.refl _)
      | (with_reducible exact LeO.none _)
      | (with_reducible refine LeO.ite ?_ ?_)
      | (with_reducible refine LeO.bind ?_ (fun _ => ?_))
      | exact ih0 _ _ _ _ _
      | exact ih1 _ _ _ _ _ _ _ _
      | exact batch_Within.mono _ _ _ _ _
      | exact LeO.none _
      | refine LeO.ite ?_ ?_
      | refine LeO.bind ?_ (fun _ => ?_)
set_option maxHeartbeats 8000000 in
set_option maxRecDepth 100000 in
theorem batch_Parts.calls (k : Nat) (A0 : Option Addr) (c0 : Nat) (l0 : List (S37)) (A1 : Option Addr) (c1 : Nat) (l1 : List (S44)) (r : List (List (S37))) (w : World) (hr0 : Kd.C k37 w A0 l0.length l0) (hc0 : l0.length ≤ c0) (hr1 : Kd.C k44 w A1 l1.length l1) (hc1 : l1.length ≤ c1) (h : batch_Parts.f k l0 l1 = some r) :
    Calls Try.prog 21 #[.slice A0 l0.length c0, .slice A1 l1.length c1] w fun e w' => ∃ v0_ : Value, e = .returned (v0_) ∧ Kd.S (Kd.slice 37 k37) 25 w' w.heap.size (fun _ => True) v0_ r ∧ Below w.heap.size w w' := by
  have hu44 := Try.underlying44
  have HR0 := Aside0.mk hr0
  have HC0 := Aside0.mk hc0
  clear hr0 hc0
  have HR1 := Aside0.mk hr1
  have HC1 := Aside0.mk hc1
  clear hr1 hc1
  have HB := Aside0.mk (Below.refl w.heap.size w)
  have H : ((batch_Sorted.f l0).bind fun t169 => (batch_Parts.l0 k ([] : List (List (S37))) t169 l1 (l1.length : Int) 0)) = some r := h
  clear h
  replace H := Option.bind_eq_some_iff.mp H
  obtain ⟨t169, A30, H⟩ := H
  replace H : (batch_Parts.l0 k ([] : List (List (S37))) t169 l1 (l1.length : Int) 0) = some r := H
  have A3 := Aside0.mk A30
  clear A30
  have H' := Aside0.mk H
  clear H
  go_enter Try.func21, Try.ntmps21
  go_wp2_with (first | (go_at_call 18; (with_reducible refine (batch_Sorted.calls _ _ l0 t169 _ ?side1 ?side2 A3.out).mono ?_); (case side1 => repeat (first | exact HR0.out | (with_reducible refine Kd.C_alloc ?_ _) | (with_reducible refine Kd.C_drewN ?_ _) | (with_reducible refine Kd.C_drew ?_))); (case side2 => exact HC0.out); rintro e w4 ⟨v170, rfl, ho0, hb⟩; have n0_ := Aside0.mk (Kd.R_lower ho0 (below_size (by repeat (first | (with_reducible first | exact HB.out | apply below_alloc | apply pw_below_drewN | apply below_drew1) | exact HB.out)))); have n1_ := Aside0.mk (below_step (by repeat (first | (with_reducible first | exact HB.out | apply below_alloc | apply pw_below_drewN | apply below_drew1) | exact HB.out)) hb); clear HB; have HO171 := n0_; have HB := n1_; clear n0_ n1_; (try clear hb); (try clear hb2); (try clear hk); (try clear hi); (try clear ho0)))
  repeat (go_quiet (first | (go_at_call 18; (with_reducible refine (batch_Sorted.calls _ _ l0 t169 _ ?side1 ?side2 A3.out).mono ?_); (case side1 => repeat (first | exact HR0.out | (with_reducible refine Kd.C_alloc ?_ _) | (with_reducible refine Kd.C_drewN ?_ _) | (with_reducible refine Kd.C_drew ?_))); (case side2 => exact HC0.out); rintro e w4 ⟨v170, rfl, ho0, hb⟩; have n0_ := Aside0.mk (Kd.R_lower ho0 (below_size (by repeat (first | (with_reducible first | exact HB.out | apply below_alloc | apply pw_below_drewN | apply below_drew1) | exact HB.out)))); have n1_ := Aside0.mk (below_step (by repeat (first | (with_reducible first | exact HB.out | apply below_alloc | apply pw_below_drewN | apply below_drew1) | exact HB.out)) hb); clear HB; have HO171 := n0_; have HB := n1_; clear n0_ n1_; (try clear hb); (try clear hb2); (try clear hk); (try clear hi); (try clear ho0))); try go_wp2_with (first | (go_at_call 18; (with_reducible refine (batch_Sorted.calls _ _ l0 t169 _ ?side1 ?side2 A3.out).mono ?_); (case side1 => repeat (first | exact HR0.out | (with_reducible refine Kd.C_alloc ?_ _) | (with_reducible refine Kd.C_drewN ?_ _) | (with_reducible refine Kd.C_drew ?_))); (case side2 => exact HC0.out); rintro e w4 ⟨v170, rfl, ho0, hb⟩; have n0_ := Aside0.mk (Kd.R_lower ho0 (below_size (by repeat (first | (with_reducible first | exact HB.out | apply below_alloc | apply pw_below_drewN | apply below_drew1) | exact HB.out)))); have n1_ := Aside0.mk (below_step (by repeat (first | (with_reducible first | exact HB.out | apply below_alloc | apply pw_below_drewN | apply below_drew1) | exact HB.out)) hb); clear HB; have HO171 := n0_; have HB := n1_; clear n0_ n1_; (try clear hb); (try clear hb2); (try clear hk); (try clear hi); (try clear ho0))))
  go_loopg [5, 6, 14] k (fun kq v5 v6 v14 w' => ∃ (x5_1 : List (List (S37))) (x6_1 : List (S37)) (x14_1 : Int), v14 = .int .i64 x14_1 ∧ Aside0 (batch_Parts.l0 kq x5_1 x6_1 l1 (l1.length : Int) x14_1 = some r) ∧ Aside0 (kq ≤ k) ∧ Aside0 (Kd.S (Kd.slice 37 k37) 25 w' w.heap.size (fun k_ => some k_ ≠ (v6 : Value).ownBlock) v5 x5_1) ∧ Aside0 (Kd.Q k37 37 w' w.heap.size (fun _ => True) v6 x6_1) ∧ Aside0 (Below w.heap.size w w'))
  case atStart => exact ⟨(([] : List (List (S37)))), (t169), (0), (by first | rfl | (simp; done) | (simp [*]; done)), H', ⟨Nat.le_refl _⟩, ⟨by first | exact Kd.S_nil _ _ _ _ _ | exact Kd.N_nil _ _ _ _ _ | exact Kd.V_nil _ _ _ _ _ | exact Kd.Q_nil _ _ _ _ _ | exact Kd.R_nil _ _ _ _ _⟩, ⟨Kd.Q_of_R (by (with_reducible repeat (first | apply Kd.R_alloc | apply Kd.R_drewN | apply Kd.R_drew)); exact HO171.out)⟩, ⟨by repeat (first | (with_reducible first | exact HB.out | apply below_alloc | apply pw_below_drewN | apply below_drew1) | exact HB.out)⟩⟩
  case round =>
    clear H'
    try clear c1
    try clear c2
    try clear p2
    obtain ⟨x5_1, x6_1, x14_1, rfl, HA, HK1, HO_5, HO_6, HB⟩ := hrel
    cases gk with
    | zero => exact absurd HA.out (by simp [batch_Parts.l0])
    | succ k1 =>
      have H := HA.out
      clear HA
      simp only [batch_Parts.l0] at H
      by_cases c5 : x14_1 < (l1.length : Int)
      · rw [if_pos c5] at H
        have c5b0 : decide (x14_1 < (l1.length : Int)) = true := decide_eq_true c5
        clear c5
        by_cases c6 : 0 ≤ x14_1
        · rw [if_pos c6] at H
          have c6b0 : decide (0 ≤ x14_1) = true := decide_eq_true c6
          clear c6
          by_cases c7 : x14_1 < (l1.length : Int)
          · rw [if_pos c7] at H
            have c7b0 : decide (x14_1 < (l1.length : Int)) = true := decide_eq_true c7
            clear c7
            have H' := Aside0.mk H
            clear H
            have p172 : 0 ≤ (x14_1 : Int) := of_decide_eq_true (by first | (with_reducible assumption) | assumption)
            have q172 : x14_1 < (l1.length : Int) := of_decide_eq_true (by first | (with_reducible assumption) | assumption)
            obtain ⟨ad172, e172, hx172_0, hx172_1, hx172_2⟩ := at_T44 HR1.out x14_1 p172 q172
            cases e172
            replace hx172_0 := (HB.out.cell (World.block_lt_of_cell? w _ hx172_0)).trans hx172_0
            replace hx172_1 := (HB.out.cell (World.block_lt_of_cell? w _ hx172_1)).trans hx172_1
            replace hx172_2 := (HB.out.cell (World.block_lt_of_cell? w _ hx172_2)).trans hx172_2
            replace p172 := eq_true p172
            replace q172 := eq_true q172
            go_wp2_with (first | ((with_reducible refine gate_dst (N := 8) rfl ?_); refine box_event ?hg (N := 8) ?hd (cs := #[.string (⟨#[]⟩ : ByteArray), .string (⟨#[]⟩ : ByteArray), .bool false]) (t := 44) ?hr ?_; (case hd => rfl); (case hg => rfl); (case hr => first | (go_simp; done) | (go_simp; rfl)); intro gb173 hg w8 hbox hb; have n0_ := Aside0.mk (Kd.S_below (by (with_reducible repeat (first | apply Kd.S_alloc | apply Kd.S_drewN | apply Kd.S_drew)); exact HO_5.out) hb); have n1_ := Aside0.mk (Kd.Q_below (by (with_reducible repeat (first | apply Kd.Q_alloc | apply Kd.Q_drewN | apply Kd.Q_drew)); exact HO_6.out) hb); have n2_ := Aside0.mk (below_step (by repeat (first | (with_reducible first | exact HB.out | apply below_alloc | apply pw_below_drewN | apply below_drew1) | exact HB.out)) hb); have n3_ := Aside0.mk (hbox); have n4_ := Aside0.mk ((by rw [hg]; exact (below_size (by repeat (first | (with_reducible first | exact HB.out | apply below_alloc | apply pw_below_drewN | apply below_drew1) | exact HB.out))) : w.heap.size ≤ gb173)); have n5_ := Aside0.mk ((by rw [hg]; exact (below_size (by repeat (first | (with_reducible first | exact HB.out | apply below_alloc | apply pw_below_drewN | apply below_drew1) | exact HB.out))) : w.heap.size ≤ gb173)); clear HO_5; clear HO_6; clear HB; have HO_5 := n0_; have HO_6 := n1_; have HB := n2_; have BK173 := n3_; have GW173 := n4_; have GE173 := n5_; clear n0_ n1_ n2_ n3_ n4_ n5_; clear hb hbox hg; have hcz9_0 : w8.cell? ⟨gb173, 0, none⟩ = some (.string (⟨#[]⟩ : ByteArray)) := (blk_cell BK173.out 0).trans rfl; have hcz9_1 : w8.cell? ⟨gb173, 1, none⟩ = some (.string (⟨#[]⟩ : ByteArray)) := (blk_cell BK173.out 1).trans rfl; have hcz9_2 : w8.cell? ⟨gb173, 2, none⟩ = some (.bool false) := (blk_cell BK173.out 2).trans rfl; have hfz9_0 := blk_frozen BK173.out 0; have hfz9_1 := blk_frozen BK173.out 1; have hfz9_2 := blk_frozen BK173.out 2))
            repeat (go_quiet (first | ((with_reducible refine gate_dst (N := 8) rfl ?_); refine box_event ?hg (N := 8) ?hd (cs := #[.string (⟨#[]⟩ : ByteArray), .string (⟨#[]⟩ : ByteArray), .bool false]) (t := 44) ?hr ?_; (case hd => rfl); (case hg => rfl); (case hr => first | (go_simp; done) | (go_simp; rfl)); intro gb173 hg w8 hbox hb; have n0_ := Aside0.mk (Kd.S_below (by (with_reducible repeat (first | apply Kd.S_alloc | apply Kd.S_drewN | apply Kd.S_drew)); exact HO_5.out) hb); have n1_ := Aside0.mk (Kd.Q_below (by (with_reducible repeat (first | apply Kd.Q_alloc | apply Kd.Q_drewN | apply Kd.Q_drew)); exact HO_6.out) hb); have n2_ := Aside0.mk (below_step (by repeat (first | (with_reducible first | exact HB.out | apply below_alloc | apply pw_below_drewN | apply below_drew1) | exact HB.out)) hb); have n3_ := Aside0.mk (hbox); have n4_ := Aside0.mk ((by rw [hg]; exact (below_size (by repeat (first | (with_reducible first | exact HB.out | apply below_alloc | apply pw_below_drewN | apply below_drew1) | exact HB.out))) : w.heap.size ≤ gb173)); have n5_ := Aside0.mk ((by rw [hg]; exact (below_size (by repeat (first | (with_reducible first | exact HB.out | apply below_alloc | apply pw_below_drewN | apply below_drew1) | exact HB.out))) : w.heap.size ≤ gb173)); clear HO_5; clear HO_6; clear HB; have HO_5 := n0_; have HO_6 := n1_; have HB := n2_; have BK173 := n3_; have GW173 := n4_; have GE173 := n5_; clear n0_ n1_ n2_ n3_ n4_ n5_; clear hb hbox hg; have hcz9_0 : w8.cell? ⟨gb173, 0, none⟩ = some (.string (⟨#[]⟩ : ByteArray)) := (blk_cell BK173.out 0).trans rfl; have hcz9_1 : w8.cell? ⟨gb173, 1, none⟩ = some (.string (⟨#[]⟩ : ByteArray)) := (blk_cell BK173.out 1).trans rfl; have hcz9_2 : w8.cell? ⟨gb173, 2, none⟩ = some (.bool false) := (blk_cell BK173.out 2).trans rfl; have hfz9_0 := blk_frozen BK173.out 0; have hfz9_1 := blk_frozen BK173.out 1; have hfz9_2 := blk_frozen BK173.out 2)); try go_wp2_with (first | ((with_reducible refine gate_dst (N := 8) rfl ?_); refine box_event ?hg (N := 8) ?hd (cs := #[.string (⟨#[]⟩ : ByteArray), .string (⟨#[]⟩ : ByteArray), .bool false]) (t := 44) ?hr ?_; (case hd => rfl); (case hg => rfl); (case hr => first | (go_simp; done) | (go_simp; rfl)); intro gb173 hg w8 hbox hb; have n0_ := Aside0.mk (Kd.S_below (by (with_reducible repeat (first | apply Kd.S_alloc | apply Kd.S_drewN | apply Kd.S_drew)); exact HO_5.out) hb); have n1_ := Aside0.mk (Kd.Q_below (by (with_reducible repeat (first | apply Kd.Q_alloc | apply Kd.Q_drewN | apply Kd.Q_drew)); exact HO_6.out) hb); have n2_ := Aside0.mk (below_step (by repeat (first | (with_reducible first | exact HB.out | apply below_alloc | apply pw_below_drewN | apply below_drew1) | exact HB.out)) hb); have n3_ := Aside0.mk (hbox); have n4_ := Aside0.mk ((by rw [hg]; exact (below_size (by repeat (first | (with_reducible first | exact HB.out | apply below_alloc | apply pw_below_drewN | apply below_drew1) | exact HB.out))) : w.heap.size ≤ gb173)); have n5_ := Aside0.mk ((by rw [hg]; exact (below_size (by repeat (first | (with_reducible first | exact HB.out | apply below_alloc | apply pw_below_drewN | apply below_drew1) | exact HB.out))) : w.heap.size ≤ gb173)); clear HO_5; clear HO_6; clear HB; have HO_5 := n0_; have HO_6 := n1_; have HB := n2_; have BK173 := n3_; have GW173 := n4_; have GE173 := n5_; clear n0_ n1_ n2_ n3_ n4_ n5_; clear hb hbox hg; have hcz9_0 : w8.cell? ⟨gb173, 0, none⟩ = some (.string (⟨#[]⟩ : ByteArray)) := (blk_cell BK173.out 0).trans rfl; have hcz9_1 : w8.cell? ⟨gb173, 1, none⟩ = some (.string (⟨#[]⟩ : ByteArray)) := (blk_cell BK173.out 1).trans rfl; have hcz9_2 : w8.cell? ⟨gb173, 2, none⟩ = some (.bool false) := (blk_cell BK173.out 2).trans rfl; have hfz9_0 := blk_frozen BK173.out 0; have hfz9_1 := blk_frozen BK173.out 1; have hfz9_2 := blk_frozen BK173.out 2)))
            go_loopg [6] k1 (fun kq v6 w' => ∃ (x6_2 : List (S37)), Aside0 (batch_Parts.l1 kq x5_1 x6_2 l1 (l1.length : Int) x14_1 ((rd_T44 l1 x14_1).f0) ((rd_T44 l1 x14_1).f1) ((rd_T44 l1 x14_1).f2) = some r) ∧ Aside0 (kq ≤ k1) ∧ Aside0 (Kd.S (Kd.slice 37 k37) 25 w' w.heap.size (fun k_ => some k_ ≠ (v6 : Value).ownBlock) u5 x5_1) ∧ Aside0 (Kd.Q k37 37 w' w.heap.size (fun _ => True) v6 x6_2) ∧ Aside0 (w'.heap[gb173]? = some (.cells #[.string ((rd_T44 l1 x14_1).f0), .string ((rd_T44 l1 x14_1).f1), .bool ((rd_T44 l1 x14_1).f2)] 44 (0, 0))) ∧ Aside0 (Below w.heap.size w w'))
            case atStart => exact ⟨(x6_1), H', ⟨Nat.le_refl _⟩, ⟨by (with_reducible repeat (first | apply Kd.S_alloc | apply Kd.S_drewN | apply Kd.S_drew)); exact Kd.S_mono (Kd.S_far (p := ⟨gb173, 2, none⟩) (Kd.S_far (p := ⟨gb173, 1, none⟩) (Kd.S_far (p := ⟨gb173, 0, none⟩) (Kd.S_types HO_5.out BK173.out (by decide)) (fun _ hk => hk.2) (.string ((rd_T44 l1 x14_1).f0))) (fun _ hk => hk.2) (.string ((rd_T44 l1 x14_1).f1))) (fun _ hk => hk.2) (.bool ((rd_T44 l1 x14_1).f2))) (fun _ hk => hk.1)⟩, ⟨by (with_reducible repeat (first | apply Kd.Q_alloc | apply Kd.Q_drewN | apply Kd.Q_drew)); exact Kd.Q_mono (Kd.Q_far (p := ⟨gb173, 2, none⟩) (Kd.Q_far (p := ⟨gb173, 1, none⟩) (Kd.Q_far (p := ⟨gb173, 0, none⟩) (Kd.Q_types HO_6.out BK173.out (by decide)) (fun _ hk => hk.2) (.string ((rd_T44 l1 x14_1).f0))) (fun _ hk => hk.2) (.string ((rd_T44 l1 x14_1).f1))) (fun _ hk => hk.2) (.bool ((rd_T44 l1 x14_1).f2))) (fun _ hk => trivial)⟩, ⟨by (with_reducible repeat (first | refine blk_drewN ?_ _ | refine blk_drew ?_ | refine blk_alloc ?_ _)); refine blk_put (cs := #[.string ((rd_T44 l1 x14_1).f0), .string ((rd_T44 l1 x14_1).f1), .bool false]) ?_ 2 _ rfl; (with_reducible repeat (first | refine blk_drewN ?_ _ | refine blk_drew ?_ | refine blk_alloc ?_ _)); refine blk_put (cs := #[.string ((rd_T44 l1 x14_1).f0), .string (⟨#[]⟩ : ByteArray), .bool false]) ?_ 1 _ rfl; (with_reducible repeat (first | refine blk_drewN ?_ _ | refine blk_drew ?_ | refine blk_alloc ?_ _)); refine blk_put (cs := #[.string (⟨#[]⟩ : ByteArray), .string (⟨#[]⟩ : ByteArray), .bool false]) ?_ 0 _ rfl; (with_reducible repeat (first | refine blk_drewN ?_ _ | refine blk_drew ?_ | refine blk_alloc ?_ _)); exact BK173.out⟩, ⟨by repeat (first | (with_reducible first | exact HB.out | apply below_alloc | apply pw_below_drewN | apply below_drew1 | refine below_set ?_ GE173.out) | exact HB.out)⟩⟩
            case round =>
              clear H'
              try clear c1
              try clear p1
              try clear q1
              try clear hx1
              try clear c2
              try clear p2
              try clear c5
              try clear c5b0
              try clear c6
              try clear c6b0
              try clear c7
              try clear c7b0
              try clear hcz9_0
              try clear hcz9_1
              try clear hcz9_2
              try clear hfz9_0
              try clear hfz9_1
              try clear hfz9_2
              try clear hx172_0
              try clear hx172_1
              try clear hx172_2
              try clear p172
              try clear p2
              try clear q172
              obtain ⟨x6_2, HA, HK2, HO_5, HO_6, BK173, HB⟩ := hrel
              cases gk with
              | zero => exact absurd HA.out (by simp [batch_Parts.l1])
              | succ k2 =>
                have H := HA.out
                clear HA
                simp only [batch_Parts.l1] at H
                by_cases c10 : (x6_2.length : Int) > 0
                · rw [if_pos c10] at H
                  have c10b0 : decide (0 < (x6_2.length : Int)) = true := decide_eq_true c10
                  have c10b1 : decide (0 < x6_2.length) = true := decide_eq_true (by omega)
                  clear c10
                  by_cases c11 : 0 < (x6_2.length : Int)
                  · rw [if_pos c11] at H
                    have c11b0 : decide (0 < (x6_2.length : Int)) = true := decide_eq_true c11
                    have c11b1 : decide (0 < x6_2.length) = true := decide_eq_true (by omega)
                    clear c11
                    by_cases c12 : (Op.bytesLess (((rd_T37 x6_2 0).f0).toList) ((rd_T44 l1 x14_1).f0).toList) = true
                    · rw [if_pos c12] at H
                      have c12b0 : (Op.bytesLess (((rd_T37 x6_2 0).f0).toList) ((rd_T44 l1 x14_1).f0).toList) = true := c12
                      clear c12
                      by_cases c13 : 1 ≤ (x6_2.length : Int)
                      · rw [if_pos c13] at H
                        have c13b0 := eq_true c13
                        have c13b1 : decide (1 ≤ (x6_2.length : Int)) = true := decide_eq_true c13
                        clear c13
                        obtain ⟨y175, hy175⟩ : ∃ y_ : List (S37), y_ = (x6_2.drop (1 : Int).toNat) := ⟨_, rfl⟩
                        replace H : (batch_Parts.l1 k2 x5_1 y175 l1 (l1.length : Int) x14_1 ((rd_T44 l1 x14_1).f0) ((rd_T44 l1 x14_1).f1) ((rd_T44 l1 x14_1).f2)) = some r := by first | (rw [hy175]; with_reducible exact H) | (have H2_ := (Option.bind_some _ _).symm.trans H; rw [hy175]; with_reducible exact H2_) | (have H2_ := (Option.bind_some _ _).symm.trans H; with_reducible exact H2_) | with_reducible exact H | (rw [hy175]; exact H) | exact H
                        have Ny175 := Aside0.mk hy175
                        clear hy175
                        have H' := Aside0.mk H
                        clear H
                        obtain ⟨Ao14, co14, eo14, _⟩ := Kd.Q_slice HO_6.out
                        subst eo14
                        have p174 : 0 ≤ (0 : Int) := (by omega)
                        have q174 : 0 < (x6_2.length : Int) := of_decide_eq_true (by first | (with_reducible assumption) | assumption)
                        obtain ⟨ad174, e174, hx174_0, hx174_1, hx174_2⟩ := at_T37 (Kd.Q_reads' HO_6.out).2.2 0 p174 q174
                        cases e174
                        have qi174 : (0 < x6_2.length) = True := eq_true (by omega)
                        (try rw [show ((0 : Int)).toNat = 0 from rfl] at hx174_0)
                        (try rw [show 0 * 3 = 0 from rfl] at hx174_0)
                        (try rw [Addr.add_zero'] at hx174_0)
                        (try rw [show ((0 : Int)).toNat = 0 from rfl] at hx174_1)
                        (try rw [show 0 * 3 = 0 from rfl] at hx174_1)
                        (try rw [Addr.add_zero'] at hx174_1)
                        (try rw [show ((0 : Int)).toNat = 0 from rfl] at hx174_2)
                        (try rw [show 0 * 3 = 0 from rfl] at hx174_2)
                        (try rw [Addr.add_zero'] at hx174_2)
                        replace p174 := eq_true p174
                        replace q174 := eq_true q174
                        have hcz15_0 : wr.cell? ⟨gb173, 0, none⟩ = some (.string ((rd_T44 l1 x14_1).f0)) := (blk_cell BK173.out 0).trans rfl
                        have hcz15_1 : wr.cell? ⟨gb173, 1, none⟩ = some (.string ((rd_T44 l1 x14_1).f1)) := (blk_cell BK173.out 1).trans rfl
                        have hcz15_2 : wr.cell? ⟨gb173, 2, none⟩ = some (.bool ((rd_T44 l1 x14_1).f2)) := (blk_cell BK173.out 2).trans rfl
                        have hfz15_0 := blk_frozen BK173.out 0
                        have hfz15_1 := blk_frozen BK173.out 1
                        have hfz15_2 := blk_frozen BK173.out 2
                        have q16 : (1 : Int) ≤ ((x6_2.length : Int) : Int) := of_decide_eq_true (by first | (with_reducible assumption) | assumption)
                        obtain ⟨i016, hi016, _, hsz16, _⟩ := info_parts info37
                        have hcut16 := cut_from (P := Try.prog) 25 37 .i64 Try.underlying25 hi016 3 hsz16 (some ad174) x6_2.length co14 1 (by omega) q16
                        have hr16 := Kd.Q_drop (k := (1 : Int).toNat) HO_6.out (by omega)
                        obtain ⟨A16, hA16⟩ : ∃ A1, A1 = (if co14 = (1 : Int).toNat then (some ad174) else ((some ad174) : Option Addr).map (·.add ((1 : Int).toNat * 3))) := ⟨_, rfl⟩
                        obtain ⟨c16, hc16⟩ : ∃ c1, c1 = co14 - (1 : Int).toNat := ⟨_, rfl⟩
                        have hy16 : y175.length = x6_2.length - (1 : Int).toNat := (by rw [Ny175.out, List.length_drop])
                        rw [← Ny175.out] at hr16
                        rw [← hy16, ← hA16, ← hc16] at hcut16
                        replace hr16 : Kd.Q k37 37 wr w.heap.size (fun _ => True) (.slice A16 y175.length c16) y175 := (by rw [hA16, hc16, hy16]; exact hr16)
                        have HE16 : Aside0 ((Value.slice A16 y175.length c16).ownBlock = (.slice (some ad174) x6_2.length co14 : Value).ownBlock) := ⟨by rw [hA16]; split <;> (cases ((some ad174) : Option Addr) <;> first | rfl | simp [Value.ownBlock, add_block])⟩
                        clear hy16 hi016 hsz16 HO_6 hA16 hc16
                        have HO177 := Aside0.mk hr16
                        clear hr16
                        replace q16 := eq_true q16
                        have n_ := Aside0.mk (Kd.S_mono (ok' := fun k_ => some k_ ≠ (.slice A16 y175.length c16 : Value).ownBlock) HO_5.out (fun k_ hk => (by rw [HE16.out]; exact hk)))
                        clear HO_5
                        have HO_5 := n_
                        clear n_
                        go_wp2
                        repeat (go_quiet (fail); try go_wp2)
                        go_roundg k2
                        case measure => have := HK1.out; have := HK2.out; omega
                        case rel => exact ⟨(y175), H', ⟨by have := HK1.out; have := HK2.out; omega⟩, ⟨by (with_reducible repeat (first | apply Kd.S_alloc | apply Kd.S_drewN | apply Kd.S_drew)); exact HO_5.out⟩, ⟨by (with_reducible repeat (first | apply Kd.Q_alloc | apply Kd.Q_drewN | apply Kd.Q_drew)); exact HO177.out⟩, ⟨by (with_reducible repeat (first | refine blk_drewN ?_ _ | refine blk_drew ?_ | refine blk_alloc ?_ _)); exact BK173.out⟩, ⟨by repeat (first | (with_reducible first | exact HB.out | apply below_alloc | apply pw_below_drewN | apply below_drew1 | refine below_set ?_ GE173.out) | exact HB.out)⟩⟩
                      · rw [if_neg c13] at H
                        exact absurd H (by simp)
                    · rw [if_neg c12] at H
                      have c12b0 : (Op.bytesLess (((rd_T37 x6_2 0).f0).toList) ((rd_T44 l1 x14_1).f0).toList) = false := by simpa using c12
                      clear c12
                      replace H := Option.bind_eq_some_iff.mp H
                      obtain ⟨t178, A170, H⟩ := H
                      replace H : (if x5_1.length < 5864062014805 then (if 0 ≤ (t178.length : Int) then (if (t178.length : Int) ≤ (x6_2.length : Int) then (batch_Parts.l0 k2 (x5_1 ++ [t178]) (x6_2.drop ((t178.length : Int) : Int).toNat) l1 (l1.length : Int) (wrap64 (x14_1 + 1))) else (none)) else (none)) else (none)) = some r := H
                      have A17 := Aside0.mk A170
                      clear A170
                      by_cases c18 : x5_1.length < 5864062014805
                      · rw [if_pos c18] at H
                        have LMc18 := Aside0.mk c18
                        clear c18
                        obtain ⟨y181, hy181⟩ : ∃ y_ : List (List (S37)), y_ = (x5_1 ++ [t178]) := ⟨_, rfl⟩
                        replace H : (if 0 ≤ (t178.length : Int) then (if (t178.length : Int) ≤ (x6_2.length : Int) then (batch_Parts.l0 k2 y181 (x6_2.drop ((t178.length : Int) : Int).toNat) l1 (l1.length : Int) (wrap64 (x14_1 + 1))) else (none)) else (none)) = some r := by first | (rw [hy181]; with_reducible exact H) | (have H2_ := (Option.bind_some _ _).symm.trans H; rw [hy181]; with_reducible exact H2_) | (have H2_ := (Option.bind_some _ _).symm.trans H; with_reducible exact H2_) | with_reducible exact H | (rw [hy181]; exact H) | exact H
                        have Ny181 := Aside0.mk hy181
                        clear hy181
                        by_cases c19 : 0 ≤ (t178.length : Int)
                        · rw [if_pos c19] at H
                          have c19b0 := eq_true c19
                          have c19b1 : decide (0 ≤ (t178.length : Int)) = true := decide_eq_true c19
                          clear c19
                          by_cases c20 : (t178.length : Int) ≤ (x6_2.length : Int)
                          · rw [if_pos c20] at H
                            have c20b0 := eq_true c20
                            have c20b1 : decide ((t178.length : Int) ≤ (x6_2.length : Int)) = true := decide_eq_true c20
                            clear c20
                            obtain ⟨y184, hy184⟩ : ∃ y_ : List (S37), y_ = (x6_2.drop ((t178.length : Int) : Int).toNat) := ⟨_, rfl⟩
                            replace H : (batch_Parts.l0 k2 y181 y184 l1 (l1.length : Int) (wrap64 (x14_1 + 1))) = some r := by first | (rw [hy184]; with_reducible exact H) | (have H2_ := (Option.bind_some _ _).symm.trans H; rw [hy184]; with_reducible exact H2_) | (have H2_ := (Option.bind_some _ _).symm.trans H; with_reducible exact H2_) | with_reducible exact H | (rw [hy184]; exact H) | exact H
                            have Ny184 := Aside0.mk hy184
                            clear hy184
                            have H' := Aside0.mk H
                            clear H
                            obtain ⟨Ao21, co21, eo21, _⟩ := Kd.Q_slice HO_6.out
                            subst eo21
                            have p174 : 0 ≤ (0 : Int) := (by omega)
                            have q174 : 0 < (x6_2.length : Int) := of_decide_eq_true (by first | (with_reducible assumption) | assumption)
                            obtain ⟨ad174, e174, hx174_0, hx174_1, hx174_2⟩ := at_T37 (Kd.Q_reads' HO_6.out).2.2 0 p174 q174
                            cases e174
                            have qi174 : (0 < x6_2.length) = True := eq_true (by omega)
                            (try rw [show ((0 : Int)).toNat = 0 from rfl] at hx174_0)
                            (try rw [show 0 * 3 = 0 from rfl] at hx174_0)
                            (try rw [Addr.add_zero'] at hx174_0)
                            (try rw [show ((0 : Int)).toNat = 0 from rfl] at hx174_1)
                            (try rw [show 0 * 3 = 0 from rfl] at hx174_1)
                            (try rw [Addr.add_zero'] at hx174_1)
                            (try rw [show ((0 : Int)).toNat = 0 from rfl] at hx174_2)
                            (try rw [show 0 * 3 = 0 from rfl] at hx174_2)
                            (try rw [Addr.add_zero'] at hx174_2)
                            replace p174 := eq_true p174
                            replace q174 := eq_true q174
                            have hcz22_0 : wr.cell? ⟨gb173, 0, none⟩ = some (.string ((rd_T44 l1 x14_1).f0)) := (blk_cell BK173.out 0).trans rfl
                            have hcz22_1 : wr.cell? ⟨gb173, 1, none⟩ = some (.string ((rd_T44 l1 x14_1).f1)) := (blk_cell BK173.out 1).trans rfl
                            have hcz22_2 : wr.cell? ⟨gb173, 2, none⟩ = some (.bool ((rd_T44 l1 x14_1).f2)) := (blk_cell BK173.out 2).trans rfl
                            have hfz22_0 := blk_frozen BK173.out 0
                            have hfz22_1 := blk_frozen BK173.out 1
                            have hfz22_2 := blk_frozen BK173.out 2
                            go_wp2_with (first | (go_at_call 24; (with_reducible refine (batch_Within.calls k2 _ _ x6_2 ((rd_T44 l1 x14_1).f0) ((rd_T44 l1 x14_1).f1) ((rd_T44 l1 x14_1).f2) t178 _ ?side1 ?side2 A17.out).mono ?_); (case side1 => repeat (first | exact (Kd.Q_reads' HO_6.out).2.2 | (with_reducible refine Kd.C_alloc ?_ _) | (with_reducible refine Kd.C_drewN ?_ _) | (with_reducible refine Kd.C_drew ?_))); (case side2 => exact (Kd.Q_reads' HO_6.out).2.1); rintro e w23 ⟨v179, rfl, ho0, hb⟩; have n0_ := Aside0.mk (Kd.S_elder' (by (with_reducible repeat (first | apply Kd.S_alloc | apply Kd.S_drewN | apply Kd.S_drew)); exact HO_5.out) (Kd.R_base ho0) hb); have n1_ := Aside0.mk (Kd.Q_elder' (by (with_reducible repeat (first | apply Kd.Q_alloc | apply Kd.Q_drewN | apply Kd.Q_drew)); exact HO_6.out) (Kd.R_base ho0) hb); have n2_ := Aside0.mk (Kd.R_lower (Kd.R_new' ho0 (Kd.Q_lt (by (with_reducible repeat (first | apply Kd.Q_alloc | apply Kd.Q_drewN | apply Kd.Q_drew)); exact HO_6.out))) (below_size (by repeat (first | (with_reducible first | exact HB.out | apply below_alloc | apply pw_below_drewN | apply below_drew1 | refine below_set ?_ GE173.out) | exact HB.out)))); have n3_ := Aside0.mk (blk_below (g := gb173) (o := .cells #[.string ((rd_T44 l1 x14_1).f0), .string ((rd_T44 l1 x14_1).f1), .bool ((rd_T44 l1 x14_1).f2)] 44 (0, 0)) (by (with_reducible repeat (first | refine blk_drewN ?_ _ | refine blk_drew ?_ | refine blk_alloc ?_ _)); exact BK173.out) hb); have n4_ := Aside0.mk (below_step (by repeat (first | (with_reducible first | exact HB.out | apply below_alloc | apply pw_below_drewN | apply below_drew1 | refine below_set ?_ GE173.out) | exact HB.out)) hb); clear HO_5; clear HO_6; clear BK173; clear HB; have HO_5 := n0_; have HO_6 := n1_; have HO180 := n2_; have BK173 := n3_; have HB := n4_; clear n0_ n1_ n2_ n3_ n4_; (try clear hb); (try clear hb2); (try clear hk); (try clear hi); (try clear ho0); obtain ⟨Ao25, co25, eo25⟩ := Kd.R_slice HO180.out; subst eo25) | ((with_reducible refine gate_builtin (b := .append) (xs := #[.tmp 35, .tmp 37]) rfl ?_); at_builtin; refine Kd.S_append (Kd.slice 37 k37) (w0 := w) w.heap.size rfl (.tmp 35) (.tmp 37) 42 25 (.slice none 0 0) 24 rfl Try.underlying42 info25 rfl (by decide) (by omega) u5 x5_1 t178 [.slice Ao25 t178.length co25] (fun k_ => some k_ ≠ (.slice (some ad174) x6_2.length co21 : Value).ownBlock) (fun k_ => some k_ = (.slice Ao25 t178.length co25 : Value).ownBlock) rfl rfl ?aP (fun k_ hk_ => ((Kd.R_mono (ok' := fun k_ => ((fun k_ => some k_ ≠ (.slice (some ad174) x6_2.length co21 : Value).ownBlock)) k_ ∧ some k_ ≠ (u5 : Value).ownBlock) (Kd.R_apart' (HO180.out) (Kd.S_typed HO_5.out) (by decide)) (fun k_ hk => ⟨hk.1.2, hk.2⟩))).1 k_ hk_.symm) ?aF ?aO ?aB ?aS ?aL ?_; (case aP => exact Kd.M_row (Kd.R_mono (Kd.R_tight rfl (Kd.R_mono (ok' := fun k_ => ((fun k_ => some k_ ≠ (.slice (some ad174) x6_2.length co21 : Value).ownBlock)) k_ ∧ some k_ ≠ (u5 : Value).ownBlock) (Kd.R_apart' (HO180.out) (Kd.S_typed HO_5.out) (by decide)) (fun k_ hk => ⟨hk.1.2, hk.2⟩))) (fun _ h_ => h_))); (case aB => exact (by repeat (first | (with_reducible first | exact HB.out | apply below_alloc | apply pw_below_drewN | apply below_drew1 | refine below_set ?_ GE173.out) | exact HB.out))); (case aF => exact (fun k_ hk => Kd.fresh' (Kd.Q_lt (by (with_reducible repeat (first | apply Kd.Q_alloc | apply Kd.Q_drewN | apply Kd.Q_drew)); exact HO_6.out)) k_ hk)); (case aO => exact (by (with_reducible repeat (first | apply Kd.S_alloc | apply Kd.S_drewN | apply Kd.S_drew)); exact Kd.S_mono HO_5.out (fun k_ hk => ⟨hk.1, fun e_ => hk.2 e_⟩))); (case aS => exact (below_size (by repeat (first | (with_reducible first | exact HB.out | apply below_alloc | apply pw_below_drewN | apply below_drew1 | refine below_set ?_ GE173.out) | exact HB.out)))); (case aL => have := LMc18.out; omega); intro v182 w24 ho hb hg hat; rw [← Ny181.out] at ho; have n0_ := Aside0.mk (Kd.Q_over' (by (with_reducible repeat (first | apply Kd.Q_alloc | apply Kd.Q_drewN | apply Kd.Q_drew)); exact HO_6.out) (Kd.S_typed (by (with_reducible repeat (first | apply Kd.S_alloc | apply Kd.S_drewN | apply Kd.S_drew)); exact HO_5.out)) (by decide) hg); have n1_ := Aside0.mk (blk_grown (g := gb173) (o := .cells #[.string ((rd_T44 l1 x14_1).f0), .string ((rd_T44 l1 x14_1).f1), .bool ((rd_T44 l1 x14_1).f2)] 44 (0, 0)) (by (with_reducible repeat (first | refine blk_drewN ?_ _ | refine blk_drew ?_ | refine blk_alloc ?_ _)); exact BK173.out) hg (Kd.S_ne HO_5.out BK173.out (by decide))); have n2_ := Aside0.mk (hb); have n3_ := Aside0.mk (ho); clear HO_6; clear BK173; clear HB; clear HO_5; clear HO180; have HO_6 := n0_; have BK173 := n1_; have HB := n2_; have HO183 := n3_; clear n0_ n1_ n2_ n3_; clear ho hb hg hat; have n_ := Aside0.mk (Kd.Q_mono (ok' := (fun _ => True)) HO_6.out (fun k_ hk => trivial)); clear HO_6; have HO_6 := n_; clear n_; have q26 : ((t178.length : Int) : Int) ≤ ((x6_2.length : Int) : Int) := of_decide_eq_true (by first | (with_reducible assumption) | assumption); obtain ⟨i026, hi026, _, hsz26, _⟩ := info_parts info37; have hcut26 := cut_from (P := Try.prog) 25 37 .i64 Try.underlying25 hi026 3 hsz26 (some ad174) x6_2.length co21 (t178.length : Int) (of_decide_eq_true (by first | (with_reducible assumption) | assumption)) q26; have hr26 := Kd.Q_drop (k := ((t178.length : Int) : Int).toNat) HO_6.out (by omega); obtain ⟨A26, hA26⟩ : ∃ A1, A1 = (if co21 = ((t178.length : Int) : Int).toNat then (some ad174) else ((some ad174) : Option Addr).map (·.add (((t178.length : Int) : Int).toNat * 3))) := ⟨_, rfl⟩; obtain ⟨c26, hc26⟩ : ∃ c1, c1 = co21 - ((t178.length : Int) : Int).toNat := ⟨_, rfl⟩; have hy26 : y184.length = x6_2.length - ((t178.length : Int) : Int).toNat := (by rw [Ny184.out, List.length_drop]); rw [← Ny184.out] at hr26; rw [← hy26, ← hA26, ← hc26] at hcut26; replace hr26 : Kd.Q k37 37 w24 w.heap.size (fun _ => True) (.slice A26 y184.length c26) y184 := (by rw [hA26, hc26, hy26]; exact hr26); have HE26 : Aside0 ((Value.slice A26 y184.length c26).ownBlock = (.slice (some ad174) x6_2.length co21 : Value).ownBlock) := ⟨by rw [hA26]; split <;> (cases ((some ad174) : Option Addr) <;> first | rfl | simp [Value.ownBlock, add_block])⟩; clear hy26 hi026 hsz26 HO_6 hA26 hc26; have HO186 := Aside0.mk hr26; clear hr26; replace q26 := eq_true q26; have n_ := Aside0.mk (Kd.S_mono (ok' := fun k_ => some k_ ≠ (.slice A26 y184.length c26 : Value).ownBlock) HO183.out (fun k_ hk => (by rw [HE26.out]; exact hk))); clear HO183; have HO183 := n_; clear n_))
                            repeat (go_quiet (first | (go_at_call 24; (with_reducible refine (batch_Within.calls k2 _ _ x6_2 ((rd_T44 l1 x14_1).f0) ((rd_T44 l1 x14_1).f1) ((rd_T44 l1 x14_1).f2) t178 _ ?side1 ?side2 A17.out).mono ?_); (case side1 => repeat (first | exact (Kd.Q_reads' HO_6.out).2.2 | (with_reducible refine Kd.C_alloc ?_ _) | (with_reducible refine Kd.C_drewN ?_ _) | (with_reducible refine Kd.C_drew ?_))); (case side2 => exact (Kd.Q_reads' HO_6.out).2.1); rintro e w23 ⟨v179, rfl, ho0, hb⟩; have n0_ := Aside0.mk (Kd.S_elder' (by (with_reducible repeat (first | apply Kd.S_alloc | apply Kd.S_drewN | apply Kd.S_drew)); exact HO_5.out) (Kd.R_base ho0) hb); have n1_ := Aside0.mk (Kd.Q_elder' (by (with_reducible repeat (first | apply Kd.Q_alloc | apply Kd.Q_drewN | apply Kd.Q_drew)); exact HO_6.out) (Kd.R_base ho0) hb); have n2_ := Aside0.mk (Kd.R_lower (Kd.R_new' ho0 (Kd.Q_lt (by (with_reducible repeat (first | apply Kd.Q_alloc | apply Kd.Q_drewN | apply Kd.Q_drew)); exact HO_6.out))) (below_size (by repeat (first | (with_reducible first | exact HB.out | apply below_alloc | apply pw_below_drewN | apply below_drew1 | refine below_set ?_ GE173.out) | exact HB.out)))); have n3_ := Aside0.mk (blk_below (g := gb173) (o := .cells #[.string ((rd_T44 l1 x14_1).f0), .string ((rd_T44 l1 x14_1).f1), .bool ((rd_T44 l1 x14_1).f2)] 44 (0, 0)) (by (with_reducible repeat (first | refine blk_drewN ?_ _ | refine blk_drew ?_ | refine blk_alloc ?_ _)); exact BK173.out) hb); have n4_ := Aside0.mk (below_step (by repeat (first | (with_reducible first | exact HB.out | apply below_alloc | apply pw_below_drewN | apply below_drew1 | refine below_set ?_ GE173.out) | exact HB.out)) hb); clear HO_5; clear HO_6; clear BK173; clear HB; have HO_5 := n0_; have HO_6 := n1_; have HO180 := n2_; have BK173 := n3_; have HB := n4_; clear n0_ n1_ n2_ n3_ n4_; (try clear hb); (try clear hb2); (try clear hk); (try clear hi); (try clear ho0); obtain ⟨Ao25, co25, eo25⟩ := Kd.R_slice HO180.out; subst eo25) | ((with_reducible refine gate_builtin (b := .append) (xs := #[.tmp 35, .tmp 37]) rfl ?_); at_builtin; refine Kd.S_append (Kd.slice 37 k37) (w0 := w) w.heap.size rfl (.tmp 35) (.tmp 37) 42 25 (.slice none 0 0) 24 rfl Try.underlying42 info25 rfl (by decide) (by omega) u5 x5_1 t178 [.slice Ao25 t178.length co25] (fun k_ => some k_ ≠ (.slice (some ad174) x6_2.length co21 : Value).ownBlock) (fun k_ => some k_ = (.slice Ao25 t178.length co25 : Value).ownBlock) rfl rfl ?aP (fun k_ hk_ => ((Kd.R_mono (ok' := fun k_ => ((fun k_ => some k_ ≠ (.slice (some ad174) x6_2.length co21 : Value).ownBlock)) k_ ∧ some k_ ≠ (u5 : Value).ownBlock) (Kd.R_apart' (HO180.out) (Kd.S_typed HO_5.out) (by decide)) (fun k_ hk => ⟨hk.1.2, hk.2⟩))).1 k_ hk_.symm) ?aF ?aO ?aB ?aS ?aL ?_; (case aP => exact Kd.M_row (Kd.R_mono (Kd.R_tight rfl (Kd.R_mono (ok' := fun k_ => ((fun k_ => some k_ ≠ (.slice (some ad174) x6_2.length co21 : Value).ownBlock)) k_ ∧ some k_ ≠ (u5 : Value).ownBlock) (Kd.R_apart' (HO180.out) (Kd.S_typed HO_5.out) (by decide)) (fun k_ hk => ⟨hk.1.2, hk.2⟩))) (fun _ h_ => h_))); (case aB => exact (by repeat (first | (with_reducible first | exact HB.out | apply below_alloc | apply pw_below_drewN | apply below_drew1 | refine below_set ?_ GE173.out) | exact HB.out))); (case aF => exact (fun k_ hk => Kd.fresh' (Kd.Q_lt (by (with_reducible repeat (first | apply Kd.Q_alloc | apply Kd.Q_drewN | apply Kd.Q_drew)); exact HO_6.out)) k_ hk)); (case aO => exact (by (with_reducible repeat (first | apply Kd.S_alloc | apply Kd.S_drewN | apply Kd.S_drew)); exact Kd.S_mono HO_5.out (fun k_ hk => ⟨hk.1, fun e_ => hk.2 e_⟩))); (case aS => exact (below_size (by repeat (first | (with_reducible first | exact HB.out | apply below_alloc | apply pw_below_drewN | apply below_drew1 | refine below_set ?_ GE173.out) | exact HB.out)))); (case aL => have := LMc18.out; omega); intro v182 w24 ho hb hg hat; rw [← Ny181.out] at ho; have n0_ := Aside0.mk (Kd.Q_over' (by (with_reducible repeat (first | apply Kd.Q_alloc | apply Kd.Q_drewN | apply Kd.Q_drew)); exact HO_6.out) (Kd.S_typed (by (with_reducible repeat (first | apply Kd.S_alloc | apply Kd.S_drewN | apply Kd.S_drew)); exact HO_5.out)) (by decide) hg); have n1_ := Aside0.mk (blk_grown (g := gb173) (o := .cells #[.string ((rd_T44 l1 x14_1).f0), .string ((rd_T44 l1 x14_1).f1), .bool ((rd_T44 l1 x14_1).f2)] 44 (0, 0)) (by (with_reducible repeat (first | refine blk_drewN ?_ _ | refine blk_drew ?_ | refine blk_alloc ?_ _)); exact BK173.out) hg (Kd.S_ne HO_5.out BK173.out (by decide))); have n2_ := Aside0.mk (hb); have n3_ := Aside0.mk (ho); clear HO_6; clear BK173; clear HB; clear HO_5; clear HO180; have HO_6 := n0_; have BK173 := n1_; have HB := n2_; have HO183 := n3_; clear n0_ n1_ n2_ n3_; clear ho hb hg hat; have n_ := Aside0.mk (Kd.Q_mono (ok' := (fun _ => True)) HO_6.out (fun k_ hk => trivial)); clear HO_6; have HO_6 := n_; clear n_; have q26 : ((t178.length : Int) : Int) ≤ ((x6_2.length : Int) : Int) := of_decide_eq_true (by first | (with_reducible assumption) | assumption); obtain ⟨i026, hi026, _, hsz26, _⟩ := info_parts info37; have hcut26 := cut_from (P := Try.prog) 25 37 .i64 Try.underlying25 hi026 3 hsz26 (some ad174) x6_2.length co21 (t178.length : Int) (of_decide_eq_true (by first | (with_reducible assumption) | assumption)) q26; have hr26 := Kd.Q_drop (k := ((t178.length : Int) : Int).toNat) HO_6.out (by omega); obtain ⟨A26, hA26⟩ : ∃ A1, A1 = (if co21 = ((t178.length : Int) : Int).toNat then (some ad174) else ((some ad174) : Option Addr).map (·.add (((t178.length : Int) : Int).toNat * 3))) := ⟨_, rfl⟩; obtain ⟨c26, hc26⟩ : ∃ c1, c1 = co21 - ((t178.length : Int) : Int).toNat := ⟨_, rfl⟩; have hy26 : y184.length = x6_2.length - ((t178.length : Int) : Int).toNat := (by rw [Ny184.out, List.length_drop]); rw [← Ny184.out] at hr26; rw [← hy26, ← hA26, ← hc26] at hcut26; replace hr26 : Kd.Q k37 37 w24 w.heap.size (fun _ => True) (.slice A26 y184.length c26) y184 := (by rw [hA26, hc26, hy26]; exact hr26); have HE26 : Aside0 ((Value.slice A26 y184.length c26).ownBlock = (.slice (some ad174) x6_2.length co21 : Value).ownBlock) := ⟨by rw [hA26]; split <;> (cases ((some ad174) : Option Addr) <;> first | rfl | simp [Value.ownBlock, add_block])⟩; clear hy26 hi026 hsz26 HO_6 hA26 hc26; have HO186 := Aside0.mk hr26; clear hr26; replace q26 := eq_true q26; have n_ := Aside0.mk (Kd.S_mono (ok' := fun k_ => some k_ ≠ (.slice A26 y184.length c26 : Value).ownBlock) HO183.out (fun k_ hk => (by rw [HE26.out]; exact hk))); clear HO183; have HO183 := n_; clear n_)); try go_wp2_with (first | (go_at_call 24; (with_reducible refine (batch_Within.calls k2 _ _ x6_2 ((rd_T44 l1 x14_1).f0) ((rd_T44 l1 x14_1).f1) ((rd_T44 l1 x14_1).f2) t178 _ ?side1 ?side2 A17.out).mono ?_); (case side1 => repeat (first | exact (Kd.Q_reads' HO_6.out).2.2 | (with_reducible refine Kd.C_alloc ?_ _) | (with_reducible refine Kd.C_drewN ?_ _) | (with_reducible refine Kd.C_drew ?_))); (case side2 => exact (Kd.Q_reads' HO_6.out).2.1); rintro e w23 ⟨v179, rfl, ho0, hb⟩; have n0_ := Aside0.mk (Kd.S_elder' (by (with_reducible repeat (first | apply Kd.S_alloc | apply Kd.S_drewN | apply Kd.S_drew)); exact HO_5.out) (Kd.R_base ho0) hb); have n1_ := Aside0.mk (Kd.Q_elder' (by (with_reducible repeat (first | apply Kd.Q_alloc | apply Kd.Q_drewN | apply Kd.Q_drew)); exact HO_6.out) (Kd.R_base ho0) hb); have n2_ := Aside0.mk (Kd.R_lower (Kd.R_new' ho0 (Kd.Q_lt (by (with_reducible repeat (first | apply Kd.Q_alloc | apply Kd.Q_drewN | apply Kd.Q_drew)); exact HO_6.out))) (below_size (by repeat (first | (with_reducible first | exact HB.out | apply below_alloc | apply pw_below_drewN | apply below_drew1 | refine below_set ?_ GE173.out) | exact HB.out)))); have n3_ := Aside0.mk (blk_below (g := gb173) (o := .cells #[.string ((rd_T44 l1 x14_1).f0), .string ((rd_T44 l1 x14_1).f1), .bool ((rd_T44 l1 x14_1).f2)] 44 (0, 0)) (by (with_reducible repeat (first | refine blk_drewN ?_ _ | refine blk_drew ?_ | refine blk_alloc ?_ _)); exact BK173.out) hb); have n4_ := Aside0.mk (below_step (by repeat (first | (with_reducible first | exact HB.out | apply below_alloc | apply pw_below_drewN | apply below_drew1 | refine below_set ?_ GE173.out) | exact HB.out)) hb); clear HO_5; clear HO_6; clear BK173; clear HB; have HO_5 := n0_; have HO_6 := n1_; have HO180 := n2_; have BK173 := n3_; have HB := n4_; clear n0_ n1_ n2_ n3_ n4_; (try clear hb); (try clear hb2); (try clear hk); (try clear hi); (try clear ho0); obtain ⟨Ao25, co25, eo25⟩ := Kd.R_slice HO180.out; subst eo25) | ((with_reducible refine gate_builtin (b := .append) (xs := #[.tmp 35, .tmp 37]) rfl ?_); at_builtin; refine Kd.S_append (Kd.slice 37 k37) (w0 := w) w.heap.size rfl (.tmp 35) (.tmp 37) 42 25 (.slice none 0 0) 24 rfl Try.underlying42 info25 rfl (by decide) (by omega) u5 x5_1 t178 [.slice Ao25 t178.length co25] (fun k_ => some k_ ≠ (.slice (some ad174) x6_2.length co21 : Value).ownBlock) (fun k_ => some k_ = (.slice Ao25 t178.length co25 : Value).ownBlock) rfl rfl ?aP (fun k_ hk_ => ((Kd.R_mono (ok' := fun k_ => ((fun k_ => some k_ ≠ (.slice (some ad174) x6_2.length co21 : Value).ownBlock)) k_ ∧ some k_ ≠ (u5 : Value).ownBlock) (Kd.R_apart' (HO180.out) (Kd.S_typed HO_5.out) (by decide)) (fun k_ hk => ⟨hk.1.2, hk.2⟩))).1 k_ hk_.symm) ?aF ?aO ?aB ?aS ?aL ?_; (case aP => exact Kd.M_row (Kd.R_mono (Kd.R_tight rfl (Kd.R_mono (ok' := fun k_ => ((fun k_ => some k_ ≠ (.slice (some ad174) x6_2.length co21 : Value).ownBlock)) k_ ∧ some k_ ≠ (u5 : Value).ownBlock) (Kd.R_apart' (HO180.out) (Kd.S_typed HO_5.out) (by decide)) (fun k_ hk => ⟨hk.1.2, hk.2⟩))) (fun _ h_ => h_))); (case aB => exact (by repeat (first | (with_reducible first | exact HB.out | apply below_alloc | apply pw_below_drewN | apply below_drew1 | refine below_set ?_ GE173.out) | exact HB.out))); (case aF => exact (fun k_ hk => Kd.fresh' (Kd.Q_lt (by (with_reducible repeat (first | apply Kd.Q_alloc | apply Kd.Q_drewN | apply Kd.Q_drew)); exact HO_6.out)) k_ hk)); (case aO => exact (by (with_reducible repeat (first | apply Kd.S_alloc | apply Kd.S_drewN | apply Kd.S_drew)); exact Kd.S_mono HO_5.out (fun k_ hk => ⟨hk.1, fun e_ => hk.2 e_⟩))); (case aS => exact (below_size (by repeat (first | (with_reducible first | exact HB.out | apply below_alloc | apply pw_below_drewN | apply below_drew1 | refine below_set ?_ GE173.out) | exact HB.out)))); (case aL => have := LMc18.out; omega); intro v182 w24 ho hb hg hat; rw [← Ny181.out] at ho; have n0_ := Aside0.mk (Kd.Q_over' (by (with_reducible repeat (first | apply Kd.Q_alloc | apply Kd.Q_drewN | apply Kd.Q_drew)); exact HO_6.out) (Kd.S_typed (by (with_reducible repeat (first | apply Kd.S_alloc | apply Kd.S_drewN | apply Kd.S_drew)); exact HO_5.out)) (by decide) hg); have n1_ := Aside0.mk (blk_grown (g := gb173) (o := .cells #[.string ((rd_T44 l1 x14_1).f0), .string ((rd_T44 l1 x14_1).f1), .bool ((rd_T44 l1 x14_1).f2)] 44 (0, 0)) (by (with_reducible repeat (first | refine blk_drewN ?_ _ | refine blk_drew ?_ | refine blk_alloc ?_ _)); exact BK173.out) hg (Kd.S_ne HO_5.out BK173.out (by decide))); have n2_ := Aside0.mk (hb); have n3_ := Aside0.mk (ho); clear HO_6; clear BK173; clear HB; clear HO_5; clear HO180; have HO_6 := n0_; have BK173 := n1_; have HB := n2_; have HO183 := n3_; clear n0_ n1_ n2_ n3_; clear ho hb hg hat; have n_ := Aside0.mk (Kd.Q_mono (ok' := (fun _ => True)) HO_6.out (fun k_ hk => trivial)); clear HO_6; have HO_6 := n_; clear n_; have q26 : ((t178.length : Int) : Int) ≤ ((x6_2.length : Int) : Int) := of_decide_eq_true (by first | (with_reducible assumption) | assumption); obtain ⟨i026, hi026, _, hsz26, _⟩ := info_parts info37; have hcut26 := cut_from (P := Try.prog) 25 37 .i64 Try.underlying25 hi026 3 hsz26 (some ad174) x6_2.length co21 (t178.length : Int) (of_decide_eq_true (by first | (with_reducible assumption) | assumption)) q26; have hr26 := Kd.Q_drop (k := ((t178.length : Int) : Int).toNat) HO_6.out (by omega); obtain ⟨A26, hA26⟩ : ∃ A1, A1 = (if co21 = ((t178.length : Int) : Int).toNat then (some ad174) else ((some ad174) : Option Addr).map (·.add (((t178.length : Int) : Int).toNat * 3))) := ⟨_, rfl⟩; obtain ⟨c26, hc26⟩ : ∃ c1, c1 = co21 - ((t178.length : Int) : Int).toNat := ⟨_, rfl⟩; have hy26 : y184.length = x6_2.length - ((t178.length : Int) : Int).toNat := (by rw [Ny184.out, List.length_drop]); rw [← Ny184.out] at hr26; rw [← hy26, ← hA26, ← hc26] at hcut26; replace hr26 : Kd.Q k37 37 w24 w.heap.size (fun _ => True) (.slice A26 y184.length c26) y184 := (by rw [hA26, hc26, hy26]; exact hr26); have HE26 : Aside0 ((Value.slice A26 y184.length c26).ownBlock = (.slice (some ad174) x6_2.length co21 : Value).ownBlock) := ⟨by rw [hA26]; split <;> (cases ((some ad174) : Option Addr) <;> first | rfl | simp [Value.ownBlock, add_block])⟩; clear hy26 hi026 hsz26 HO_6 hA26 hc26; have HO186 := Aside0.mk hr26; clear hr26; replace q26 := eq_true q26; have n_ := Aside0.mk (Kd.S_mono (ok' := fun k_ => some k_ ≠ (.slice A26 y184.length c26 : Value).ownBlock) HO183.out (fun k_ hk => (by rw [HE26.out]; exact hk))); clear HO183; have HO183 := n_; clear n_)))
                            go_roundg k2
                            case measure => have := HK1.out; have := HK2.out; omega
                            case rel => exact ⟨(y181), (y184), (wrap64 (x14_1 + 1)), (by first | rfl | (simp; done) | (simp [*]; done)), H', ⟨by have := HK1.out; have := HK2.out; omega⟩, ⟨by (with_reducible repeat (first | apply Kd.S_alloc | apply Kd.S_drewN | apply Kd.S_drew)); exact HO183.out⟩, ⟨by (with_reducible repeat (first | apply Kd.Q_alloc | apply Kd.Q_drewN | apply Kd.Q_drew)); exact HO186.out⟩, ⟨by repeat (first | (with_reducible first | exact HB.out | apply below_alloc | apply pw_below_drewN | apply below_drew1 | refine below_set ?_ GE173.out) | exact HB.out)⟩⟩
                          · rw [if_neg c20] at H
                            exact absurd H (by simp)
                        · rw [if_neg c19] at H
                          exact absurd H (by simp)
                      · rw [if_neg c18] at H
                        exact absurd H (by simp)
                  · rw [if_neg c11] at H
                    exact absurd H (by simp)
                · rw [if_neg c10] at H
                  have c10b0 : decide (0 < (x6_2.length : Int)) = false := decide_eq_false c10
                  have c10b1 : decide (0 < x6_2.length) = false := decide_eq_false (by omega)
                  clear c10
                  replace H := Option.bind_eq_some_iff.mp H
                  obtain ⟨t187, A270, H⟩ := H
                  replace H : (if x5_1.length < 5864062014805 then (if 0 ≤ (t187.length : Int) then (if (t187.length : Int) ≤ (x6_2.length : Int) then (batch_Parts.l0 k2 (x5_1 ++ [t187]) (x6_2.drop ((t187.length : Int) : Int).toNat) l1 (l1.length : Int) (wrap64 (x14_1 + 1))) else (none)) else (none)) else (none)) = some r := H
                  have A27 := Aside0.mk A270
                  clear A270
                  by_cases c28 : x5_1.length < 5864062014805
                  · rw [if_pos c28] at H
                    have LMc28 := Aside0.mk c28
                    clear c28
                    obtain ⟨y190, hy190⟩ : ∃ y_ : List (List (S37)), y_ = (x5_1 ++ [t187]) := ⟨_, rfl⟩
                    replace H : (if 0 ≤ (t187.length : Int) then (if (t187.length : Int) ≤ (x6_2.length : Int) then (batch_Parts.l0 k2 y190 (x6_2.drop ((t187.length : Int) : Int).toNat) l1 (l1.length : Int) (wrap64 (x14_1 + 1))) else (none)) else (none)) = some r := by first | (rw [hy190]; with_reducible exact H) | (have H2_ := (Option.bind_some _ _).symm.trans H; rw [hy190]; with_reducible exact H2_) | (have H2_ := (Option.bind_some _ _).symm.trans H; with_reducible exact H2_) | with_reducible exact H | (rw [hy190]; exact H) | exact H
                    have Ny190 := Aside0.mk hy190
                    clear hy190
                    by_cases c29 : 0 ≤ (t187.length : Int)
                    · rw [if_pos c29] at H
                      have c29b0 := eq_true c29
                      have c29b1 : decide (0 ≤ (t187.length : Int)) = true := decide_eq_true c29
                      clear c29
                      by_cases c30 : (t187.length : Int) ≤ (x6_2.length : Int)
                      · rw [if_pos c30] at H
                        have c30b0 := eq_true c30
                        have c30b1 : decide ((t187.length : Int) ≤ (x6_2.length : Int)) = true := decide_eq_true c30
                        clear c30
                        obtain ⟨y193, hy193⟩ : ∃ y_ : List (S37), y_ = (x6_2.drop ((t187.length : Int) : Int).toNat) := ⟨_, rfl⟩
                        replace H : (batch_Parts.l0 k2 y190 y193 l1 (l1.length : Int) (wrap64 (x14_1 + 1))) = some r := by first | (rw [hy193]; with_reducible exact H) | (have H2_ := (Option.bind_some _ _).symm.trans H; rw [hy193]; with_reducible exact H2_) | (have H2_ := (Option.bind_some _ _).symm.trans H; with_reducible exact H2_) | with_reducible exact H | (rw [hy193]; exact H) | exact H
                        have Ny193 := Aside0.mk hy193
                        clear hy193
                        have H' := Aside0.mk H
                        clear H
                        obtain ⟨Ao31, co31, eo31, _⟩ := Kd.Q_slice HO_6.out
                        subst eo31
                        have hcz32_0 : wr.cell? ⟨gb173, 0, none⟩ = some (.string ((rd_T44 l1 x14_1).f0)) := (blk_cell BK173.out 0).trans rfl
                        have hcz32_1 : wr.cell? ⟨gb173, 1, none⟩ = some (.string ((rd_T44 l1 x14_1).f1)) := (blk_cell BK173.out 1).trans rfl
                        have hcz32_2 : wr.cell? ⟨gb173, 2, none⟩ = some (.bool ((rd_T44 l1 x14_1).f2)) := (blk_cell BK173.out 2).trans rfl
                        have hfz32_0 := blk_frozen BK173.out 0
                        have hfz32_1 := blk_frozen BK173.out 1
                        have hfz32_2 := blk_frozen BK173.out 2
                        go_wp2_with (first | (go_at_call 24; (with_reducible refine (batch_Within.calls k2 _ _ x6_2 ((rd_T44 l1 x14_1).f0) ((rd_T44 l1 x14_1).f1) ((rd_T44 l1 x14_1).f2) t187 _ ?side1 ?side2 A27.out).mono ?_); (case side1 => repeat (first | exact (Kd.Q_reads' HO_6.out).2.2 | (with_reducible refine Kd.C_alloc ?_ _) | (with_reducible refine Kd.C_drewN ?_ _) | (with_reducible refine Kd.C_drew ?_))); (case side2 => exact (Kd.Q_reads' HO_6.out).2.1); rintro e w33 ⟨v188, rfl, ho0, hb⟩; have n0_ := Aside0.mk (Kd.S_elder' (by (with_reducible repeat (first | apply Kd.S_alloc | apply Kd.S_drewN | apply Kd.S_drew)); exact HO_5.out) (Kd.R_base ho0) hb); have n1_ := Aside0.mk (Kd.Q_elder' (by (with_reducible repeat (first | apply Kd.Q_alloc | apply Kd.Q_drewN | apply Kd.Q_drew)); exact HO_6.out) (Kd.R_base ho0) hb); have n2_ := Aside0.mk (Kd.R_lower (Kd.R_new' ho0 (Kd.Q_lt (by (with_reducible repeat (first | apply Kd.Q_alloc | apply Kd.Q_drewN | apply Kd.Q_drew)); exact HO_6.out))) (below_size (by repeat (first | (with_reducible first | exact HB.out | apply below_alloc | apply pw_below_drewN | apply below_drew1 | refine below_set ?_ GE173.out) | exact HB.out)))); have n3_ := Aside0.mk (blk_below (g := gb173) (o := .cells #[.string ((rd_T44 l1 x14_1).f0), .string ((rd_T44 l1 x14_1).f1), .bool ((rd_T44 l1 x14_1).f2)] 44 (0, 0)) (by (with_reducible repeat (first | refine blk_drewN ?_ _ | refine blk_drew ?_ | refine blk_alloc ?_ _)); exact BK173.out) hb); have n4_ := Aside0.mk (below_step (by repeat (first | (with_reducible first | exact HB.out | apply below_alloc | apply pw_below_drewN | apply below_drew1 | refine below_set ?_ GE173.out) | exact HB.out)) hb); clear HO_5; clear HO_6; clear BK173; clear HB; have HO_5 := n0_; have HO_6 := n1_; have HO189 := n2_; have BK173 := n3_; have HB := n4_; clear n0_ n1_ n2_ n3_ n4_; (try clear hb); (try clear hb2); (try clear hk); (try clear hi); (try clear ho0); obtain ⟨Ao35, co35, eo35⟩ := Kd.R_slice HO189.out; subst eo35) | ((with_reducible refine gate_builtin (b := .append) (xs := #[.tmp 35, .tmp 37]) rfl ?_); at_builtin; refine Kd.S_append (Kd.slice 37 k37) (w0 := w) w.heap.size rfl (.tmp 35) (.tmp 37) 42 25 (.slice none 0 0) 24 rfl Try.underlying42 info25 rfl (by decide) (by omega) u5 x5_1 t187 [.slice Ao35 t187.length co35] (fun k_ => some k_ ≠ (.slice Ao31 x6_2.length co31 : Value).ownBlock) (fun k_ => some k_ = (.slice Ao35 t187.length co35 : Value).ownBlock) rfl rfl ?aP (fun k_ hk_ => ((Kd.R_mono (ok' := fun k_ => ((fun k_ => some k_ ≠ (.slice Ao31 x6_2.length co31 : Value).ownBlock)) k_ ∧ some k_ ≠ (u5 : Value).ownBlock) (Kd.R_apart' (HO189.out) (Kd.S_typed HO_5.out) (by decide)) (fun k_ hk => ⟨hk.1.2, hk.2⟩))).1 k_ hk_.symm) ?aF ?aO ?aB ?aS ?aL ?_; (case aP => exact Kd.M_row (Kd.R_mono (Kd.R_tight rfl (Kd.R_mono (ok' := fun k_ => ((fun k_ => some k_ ≠ (.slice Ao31 x6_2.length co31 : Value).ownBlock)) k_ ∧ some k_ ≠ (u5 : Value).ownBlock) (Kd.R_apart' (HO189.out) (Kd.S_typed HO_5.out) (by decide)) (fun k_ hk => ⟨hk.1.2, hk.2⟩))) (fun _ h_ => h_))); (case aB => exact (by repeat (first | (with_reducible first | exact HB.out | apply below_alloc | apply pw_below_drewN | apply below_drew1 | refine below_set ?_ GE173.out) | exact HB.out))); (case aF => exact (fun k_ hk => Kd.fresh' (Kd.Q_lt (by (with_reducible repeat (first | apply Kd.Q_alloc | apply Kd.Q_drewN | apply Kd.Q_drew)); exact HO_6.out)) k_ hk)); (case aO => exact (by (with_reducible repeat (first | apply Kd.S_alloc | apply Kd.S_drewN | apply Kd.S_drew)); exact Kd.S_mono HO_5.out (fun k_ hk => ⟨hk.1, fun e_ => hk.2 e_⟩))); (case aS => exact (below_size (by repeat (first | (with_reducible first | exact HB.out | apply below_alloc | apply pw_below_drewN | apply below_drew1 | refine below_set ?_ GE173.out) | exact HB.out)))); (case aL => have := LMc28.out; omega); intro v191 w34 ho hb hg hat; rw [← Ny190.out] at ho; have n0_ := Aside0.mk (Kd.Q_over' (by (with_reducible repeat (first | apply Kd.Q_alloc | apply Kd.Q_drewN | apply Kd.Q_drew)); exact HO_6.out) (Kd.S_typed (by (with_reducible repeat (first | apply Kd.S_alloc | apply Kd.S_drewN | apply Kd.S_drew)); exact HO_5.out)) (by decide) hg); have n1_ := Aside0.mk (blk_grown (g := gb173) (o := .cells #[.string ((rd_T44 l1 x14_1).f0), .string ((rd_T44 l1 x14_1).f1), .bool ((rd_T44 l1 x14_1).f2)] 44 (0, 0)) (by (with_reducible repeat (first | refine blk_drewN ?_ _ | refine blk_drew ?_ | refine blk_alloc ?_ _)); exact BK173.out) hg (Kd.S_ne HO_5.out BK173.out (by decide))); have n2_ := Aside0.mk (hb); have n3_ := Aside0.mk (ho); clear HO_6; clear BK173; clear HB; clear HO_5; clear HO189; have HO_6 := n0_; have BK173 := n1_; have HB := n2_; have HO192 := n3_; clear n0_ n1_ n2_ n3_; clear ho hb hg hat; have n_ := Aside0.mk (Kd.Q_mono (ok' := (fun _ => True)) HO_6.out (fun k_ hk => trivial)); clear HO_6; have HO_6 := n_; clear n_; have q36 : ((t187.length : Int) : Int) ≤ ((x6_2.length : Int) : Int) := of_decide_eq_true (by first | (with_reducible assumption) | assumption); obtain ⟨i036, hi036, _, hsz36, _⟩ := info_parts info37; have hcut36 := cut_from (P := Try.prog) 25 37 .i64 Try.underlying25 hi036 3 hsz36 Ao31 x6_2.length co31 (t187.length : Int) (of_decide_eq_true (by first | (with_reducible assumption) | assumption)) q36; have hr36 := Kd.Q_drop (k := ((t187.length : Int) : Int).toNat) HO_6.out (by omega); obtain ⟨A36, hA36⟩ : ∃ A1, A1 = (if co31 = ((t187.length : Int) : Int).toNat then Ao31 else (Ao31 : Option Addr).map (·.add (((t187.length : Int) : Int).toNat * 3))) := ⟨_, rfl⟩; obtain ⟨c36, hc36⟩ : ∃ c1, c1 = co31 - ((t187.length : Int) : Int).toNat := ⟨_, rfl⟩; have hy36 : y193.length = x6_2.length - ((t187.length : Int) : Int).toNat := (by rw [Ny193.out, List.length_drop]); rw [← Ny193.out] at hr36; rw [← hy36, ← hA36, ← hc36] at hcut36; replace hr36 : Kd.Q k37 37 w34 w.heap.size (fun _ => True) (.slice A36 y193.length c36) y193 := (by rw [hA36, hc36, hy36]; exact hr36); have HE36 : Aside0 ((Value.slice A36 y193.length c36).ownBlock = (.slice Ao31 x6_2.length co31 : Value).ownBlock) := ⟨by rw [hA36]; split <;> (cases (Ao31 : Option Addr) <;> first | rfl | simp [Value.ownBlock, add_block])⟩; clear hy36 hi036 hsz36 HO_6 hA36 hc36; have HO195 := Aside0.mk hr36; clear hr36; replace q36 := eq_true q36; have n_ := Aside0.mk (Kd.S_mono (ok' := fun k_ => some k_ ≠ (.slice A36 y193.length c36 : Value).ownBlock) HO192.out (fun k_ hk => (by rw [HE36.out]; exact hk))); clear HO192; have HO192 := n_; clear n_))
                        repeat (go_quiet (first | (go_at_call 24; (with_reducible refine (batch_Within.calls k2 _ _ x6_2 ((rd_T44 l1 x14_1).f0) ((rd_T44 l1 x14_1).f1) ((rd_T44 l1 x14_1).f2) t187 _ ?side1 ?side2 A27.out).mono ?_); (case side1 => repeat (first | exact (Kd.Q_reads' HO_6.out).2.2 | (with_reducible refine Kd.C_alloc ?_ _) | (with_reducible refine Kd.C_drewN ?_ _) | (with_reducible refine Kd.C_drew ?_))); (case side2 => exact (Kd.Q_reads' HO_6.out).2.1); rintro e w33 ⟨v188, rfl, ho0, hb⟩; have n0_ := Aside0.mk (Kd.S_elder' (by (with_reducible repeat (first | apply Kd.S_alloc | apply Kd.S_drewN | apply Kd.S_drew)); exact HO_5.out) (Kd.R_base ho0) hb); have n1_ := Aside0.mk (Kd.Q_elder' (by (with_reducible repeat (first | apply Kd.Q_alloc | apply Kd.Q_drewN | apply Kd.Q_drew)); exact HO_6.out) (Kd.R_base ho0) hb); have n2_ := Aside0.mk (Kd.R_lower (Kd.R_new' ho0 (Kd.Q_lt (by (with_reducible repeat (first | apply Kd.Q_alloc | apply Kd.Q_drewN | apply Kd.Q_drew)); exact HO_6.out))) (below_size (by repeat (first | (with_reducible first | exact HB.out | apply below_alloc | apply pw_below_drewN | apply below_drew1 | refine below_set ?_ GE173.out) | exact HB.out)))); have n3_ := Aside0.mk (blk_below (g := gb173) (o := .cells #[.string ((rd_T44 l1 x14_1).f0), .string ((rd_T44 l1 x14_1).f1), .bool ((rd_T44 l1 x14_1).f2)] 44 (0, 0)) (by (with_reducible repeat (first | refine blk_drewN ?_ _ | refine blk_drew ?_ | refine blk_alloc ?_ _)); exact BK173.out) hb); have n4_ := Aside0.mk (below_step (by repeat (first | (with_reducible first | exact HB.out | apply below_alloc | apply pw_below_drewN | apply below_drew1 | refine below_set ?_ GE173.out) | exact HB.out)) hb); clear HO_5; clear HO_6; clear BK173; clear HB; have HO_5 := n0_; have HO_6 := n1_; have HO189 := n2_; have BK173 := n3_; have HB := n4_; clear n0_ n1_ n2_ n3_ n4_; (try clear hb); (try clear hb2); (try clear hk); (try clear hi); (try clear ho0); obtain ⟨Ao35, co35, eo35⟩ := Kd.R_slice HO189.out; subst eo35) | ((with_reducible refine gate_builtin (b := .append) (xs := #[.tmp 35, .tmp 37]) rfl ?_); at_builtin; refine Kd.S_append (Kd.slice 37 k37) (w0 := w) w.heap.size rfl (.tmp 35) (.tmp 37) 42 25 (.slice none 0 0) 24 rfl Try.underlying42 info25 rfl (by decide) (by omega) u5 x5_1 t187 [.slice Ao35 t187.length co35] (fun k_ => some k_ ≠ (.slice Ao31 x6_2.length co31 : Value).ownBlock) (fun k_ => some k_ = (.slice Ao35 t187.length co35 : Value).ownBlock) rfl rfl ?aP (fun k_ hk_ => ((Kd.R_mono (ok' := fun k_ => ((fun k_ => some k_ ≠ (.slice Ao31 x6_2.length co31 : Value).ownBlock)) k_ ∧ some k_ ≠ (u5 : Value).ownBlock) (Kd.R_apart' (HO189.out) (Kd.S_typed HO_5.out) (by decide)) (fun k_ hk => ⟨hk.1.2, hk.2⟩))).1 k_ hk_.symm) ?aF ?aO ?aB ?aS ?aL ?_; (case aP => exact Kd.M_row (Kd.R_mono (Kd.R_tight rfl (Kd.R_mono (ok' := fun k_ => ((fun k_ => some k_ ≠ (.slice Ao31 x6_2.length co31 : Value).ownBlock)) k_ ∧ some k_ ≠ (u5 : Value).ownBlock) (Kd.R_apart' (HO189.out) (Kd.S_typed HO_5.out) (by decide)) (fun k_ hk => ⟨hk.1.2, hk.2⟩))) (fun _ h_ => h_))); (case aB => exact (by repeat (first | (with_reducible first | exact HB.out | apply below_alloc | apply pw_below_drewN | apply below_drew1 | refine below_set ?_ GE173.out) | exact HB.out))); (case aF => exact (fun k_ hk => Kd.fresh' (Kd.Q_lt (by (with_reducible repeat (first | apply Kd.Q_alloc | apply Kd.Q_drewN | apply Kd.Q_drew)); exact HO_6.out)) k_ hk)); (case aO => exact (by (with_reducible repeat (first | apply Kd.S_alloc | apply Kd.S_drewN | apply Kd.S_drew)); exact Kd.S_mono HO_5.out (fun k_ hk => ⟨hk.1, fun e_ => hk.2 e_⟩))); (case aS => exact (below_size (by repeat (first | (with_reducible first | exact HB.out | apply below_alloc | apply pw_below_drewN | apply below_drew1 | refine below_set ?_ GE173.out) | exact HB.out)))); (case aL => have := LMc28.out; omega); intro v191 w34 ho hb hg hat; rw [← Ny190.out] at ho; have n0_ := Aside0.mk (Kd.Q_over' (by (with_reducible repeat (first | apply Kd.Q_alloc | apply Kd.Q_drewN | apply Kd.Q_drew)); exact HO_6.out) (Kd.S_typed (by (with_reducible repeat (first | apply Kd.S_alloc | apply Kd.S_drewN | apply Kd.S_drew)); exact HO_5.out)) (by decide) hg); have n1_ := Aside0.mk (blk_grown (g := gb173) (o := .cells #[.string ((rd_T44 l1 x14_1).f0), .string ((rd_T44 l1 x14_1).f1), .bool ((rd_T44 l1 x14_1).f2)] 44 (0, 0)) (by (with_reducible repeat (first | refine blk_drewN ?_ _ | refine blk_drew ?_ | refine blk_alloc ?_ _)); exact BK173.out) hg (Kd.S_ne HO_5.out BK173.out (by decide))); have n2_ := Aside0.mk (hb); have n3_ := Aside0.mk (ho); clear HO_6; clear BK173; clear HB; clear HO_5; clear HO189; have HO_6 := n0_; have BK173 := n1_; have HB := n2_; have HO192 := n3_; clear n0_ n1_ n2_ n3_; clear ho hb hg hat; have n_ := Aside0.mk (Kd.Q_mono (ok' := (fun _ => True)) HO_6.out (fun k_ hk => trivial)); clear HO_6; have HO_6 := n_; clear n_; have q36 : ((t187.length : Int) : Int) ≤ ((x6_2.length : Int) : Int) := of_decide_eq_true (by first | (with_reducible assumption) | assumption); obtain ⟨i036, hi036, _, hsz36, _⟩ := info_parts info37; have hcut36 := cut_from (P := Try.prog) 25 37 .i64 Try.underlying25 hi036 3 hsz36 Ao31 x6_2.length co31 (t187.length : Int) (of_decide_eq_true (by first | (with_reducible assumption) | assumption)) q36; have hr36 := Kd.Q_drop (k := ((t187.length : Int) : Int).toNat) HO_6.out (by omega); obtain ⟨A36, hA36⟩ : ∃ A1, A1 = (if co31 = ((t187.length : Int) : Int).toNat then Ao31 else (Ao31 : Option Addr).map (·.add (((t187.length : Int) : Int).toNat * 3))) := ⟨_, rfl⟩; obtain ⟨c36, hc36⟩ : ∃ c1, c1 = co31 - ((t187.length : Int) : Int).toNat := ⟨_, rfl⟩; have hy36 : y193.length = x6_2.length - ((t187.length : Int) : Int).toNat := (by rw [Ny193.out, List.length_drop]); rw [← Ny193.out] at hr36; rw [← hy36, ← hA36, ← hc36] at hcut36; replace hr36 : Kd.Q k37 37 w34 w.heap.size (fun _ => True) (.slice A36 y193.length c36) y193 := (by rw [hA36, hc36, hy36]; exact hr36); have HE36 : Aside0 ((Value.slice A36 y193.length c36).ownBlock = (.slice Ao31 x6_2.length co31 : Value).ownBlock) := ⟨by rw [hA36]; split <;> (cases (Ao31 : Option Addr) <;> first | rfl | simp [Value.ownBlock, add_block])⟩; clear hy36 hi036 hsz36 HO_6 hA36 hc36; have HO195 := Aside0.mk hr36; clear hr36; replace q36 := eq_true q36; have n_ := Aside0.mk (Kd.S_mono (ok' := fun k_ => some k_ ≠ (.slice A36 y193.length c36 : Value).ownBlock) HO192.out (fun k_ hk => (by rw [HE36.out]; exact hk))); clear HO192; have HO192 := n_; clear n_)); try go_wp2_with (first | (go_at_call 24; (with_reducible refine (batch_Within.calls k2 _ _ x6_2 ((rd_T44 l1 x14_1).f0) ((rd_T44 l1 x14_1).f1) ((rd_T44 l1 x14_1).f2) t187 _ ?side1 ?side2 A27.out).mono ?_); (case side1 => repeat (first | exact (Kd.Q_reads' HO_6.out).2.2 | (with_reducible refine Kd.C_alloc ?_ _) | (with_reducible refine Kd.C_drewN ?_ _) | (with_reducible refine Kd.C_drew ?_))); (case side2 => exact (Kd.Q_reads' HO_6.out).2.1); rintro e w33 ⟨v188, rfl, ho0, hb⟩; have n0_ := Aside0.mk (Kd.S_elder' (by (with_reducible repeat (first | apply Kd.S_alloc | apply Kd.S_drewN | apply Kd.S_drew)); exact HO_5.out) (Kd.R_base ho0) hb); have n1_ := Aside0.mk (Kd.Q_elder' (by (with_reducible repeat (first | apply Kd.Q_alloc | apply Kd.Q_drewN | apply Kd.Q_drew)); exact HO_6.out) (Kd.R_base ho0) hb); have n2_ := Aside0.mk (Kd.R_lower (Kd.R_new' ho0 (Kd.Q_lt (by (with_reducible repeat (first | apply Kd.Q_alloc | apply Kd.Q_drewN | apply Kd.Q_drew)); exact HO_6.out))) (below_size (by repeat (first | (with_reducible first | exact HB.out | apply below_alloc | apply pw_below_drewN | apply below_drew1 | refine below_set ?_ GE173.out) | exact HB.out)))); have n3_ := Aside0.mk (blk_below (g := gb173) (o := .cells #[.string ((rd_T44 l1 x14_1).f0), .string ((rd_T44 l1 x14_1).f1), .bool ((rd_T44 l1 x14_1).f2)] 44 (0, 0)) (by (with_reducible repeat (first | refine blk_drewN ?_ _ | refine blk_drew ?_ | refine blk_alloc ?_ _)); exact BK173.out) hb); have n4_ := Aside0.mk (below_step (by repeat (first | (with_reducible first | exact HB.out | apply below_alloc | apply pw_below_drewN | apply below_drew1 | refine below_set ?_ GE173.out) | exact HB.out)) hb); clear HO_5; clear HO_6; clear BK173; clear HB; have HO_5 := n0_; have HO_6 := n1_; have HO189 := n2_; have BK173 := n3_; have HB := n4_; clear n0_ n1_ n2_ n3_ n4_; (try clear hb); (try clear hb2); (try clear hk); (try clear hi); (try clear ho0); obtain ⟨Ao35, co35, eo35⟩ := Kd.R_slice HO189.out; subst eo35) | ((with_reducible refine gate_builtin (b := .append) (xs := #[.tmp 35, .tmp 37]) rfl ?_); at_builtin; refine Kd.S_append (Kd.slice 37 k37) (w0 := w) w.heap.size rfl (.tmp 35) (.tmp 37) 42 25 (.slice none 0 0) 24 rfl Try.underlying42 info25 rfl (by decide) (by omega) u5 x5_1 t187 [.slice Ao35 t187.length co35] (fun k_ => some k_ ≠ (.slice Ao31 x6_2.length co31 : Value).ownBlock) (fun k_ => some k_ = (.slice Ao35 t187.length co35 : Value).ownBlock) rfl rfl ?aP (fun k_ hk_ => ((Kd.R_mono (ok' := fun k_ => ((fun k_ => some k_ ≠ (.slice Ao31 x6_2.length co31 : Value).ownBlock)) k_ ∧ some k_ ≠ (u5 : Value).ownBlock) (Kd.R_apart' (HO189.out) (Kd.S_typed HO_5.out) (by decide)) (fun k_ hk => ⟨hk.1.2, hk.2⟩))).1 k_ hk_.symm) ?aF ?aO ?aB ?aS ?aL ?_; (case aP => exact Kd.M_row (Kd.R_mono (Kd.R_tight rfl (Kd.R_mono (ok' := fun k_ => ((fun k_ => some k_ ≠ (.slice Ao31 x6_2.length co31 : Value).ownBlock)) k_ ∧ some k_ ≠ (u5 : Value).ownBlock) (Kd.R_apart' (HO189.out) (Kd.S_typed HO_5.out) (by decide)) (fun k_ hk => ⟨hk.1.2, hk.2⟩))) (fun _ h_ => h_))); (case aB => exact (by repeat (first | (with_reducible first | exact HB.out | apply below_alloc | apply pw_below_drewN | apply below_drew1 | refine below_set ?_ GE173.out) | exact HB.out))); (case aF => exact (fun k_ hk => Kd.fresh' (Kd.Q_lt (by (with_reducible repeat (first | apply Kd.Q_alloc | apply Kd.Q_drewN | apply Kd.Q_drew)); exact HO_6.out)) k_ hk)); (case aO => exact (by (with_reducible repeat (first | apply Kd.S_alloc | apply Kd.S_drewN | apply Kd.S_drew)); exact Kd.S_mono HO_5.out (fun k_ hk => ⟨hk.1, fun e_ => hk.2 e_⟩))); (case aS => exact (below_size (by repeat (first | (with_reducible first | exact HB.out | apply below_alloc | apply pw_below_drewN | apply below_drew1 | refine below_set ?_ GE173.out) | exact HB.out)))); (case aL => have := LMc28.out; omega); intro v191 w34 ho hb hg hat; rw [← Ny190.out] at ho; have n0_ := Aside0.mk (Kd.Q_over' (by (with_reducible repeat (first | apply Kd.Q_alloc | apply Kd.Q_drewN | apply Kd.Q_drew)); exact HO_6.out) (Kd.S_typed (by (with_reducible repeat (first | apply Kd.S_alloc | apply Kd.S_drewN | apply Kd.S_drew)); exact HO_5.out)) (by decide) hg); have n1_ := Aside0.mk (blk_grown (g := gb173) (o := .cells #[.string ((rd_T44 l1 x14_1).f0), .string ((rd_T44 l1 x14_1).f1), .bool ((rd_T44 l1 x14_1).f2)] 44 (0, 0)) (by (with_reducible repeat (first | refine blk_drewN ?_ _ | refine blk_drew ?_ | refine blk_alloc ?_ _)); exact BK173.out) hg (Kd.S_ne HO_5.out BK173.out (by decide))); have n2_ := Aside0.mk (hb); have n3_ := Aside0.mk (ho); clear HO_6; clear BK173; clear HB; clear HO_5; clear HO189; have HO_6 := n0_; have BK173 := n1_; have HB := n2_; have HO192 := n3_; clear n0_ n1_ n2_ n3_; clear ho hb hg hat; have n_ := Aside0.mk (Kd.Q_mono (ok' := (fun _ => True)) HO_6.out (fun k_ hk => trivial)); clear HO_6; have HO_6 := n_; clear n_; have q36 : ((t187.length : Int) : Int) ≤ ((x6_2.length : Int) : Int) := of_decide_eq_true (by first | (with_reducible assumption) | assumption); obtain ⟨i036, hi036, _, hsz36, _⟩ := info_parts info37; have hcut36 := cut_from (P := Try.prog) 25 37 .i64 Try.underlying25 hi036 3 hsz36 Ao31 x6_2.length co31 (t187.length : Int) (of_decide_eq_true (by first | (with_reducible assumption) | assumption)) q36; have hr36 := Kd.Q_drop (k := ((t187.length : Int) : Int).toNat) HO_6.out (by omega); obtain ⟨A36, hA36⟩ : ∃ A1, A1 = (if co31 = ((t187.length : Int) : Int).toNat then Ao31 else (Ao31 : Option Addr).map (·.add (((t187.length : Int) : Int).toNat * 3))) := ⟨_, rfl⟩; obtain ⟨c36, hc36⟩ : ∃ c1, c1 = co31 - ((t187.length : Int) : Int).toNat := ⟨_, rfl⟩; have hy36 : y193.length = x6_2.length - ((t187.length : Int) : Int).toNat := (by rw [Ny193.out, List.length_drop]); rw [← Ny193.out] at hr36; rw [← hy36, ← hA36, ← hc36] at hcut36; replace hr36 : Kd.Q k37 37 w34 w.heap.size (fun _ => True) (.slice A36 y193.length c36) y193 := (by rw [hA36, hc36, hy36]; exact hr36); have HE36 : Aside0 ((Value.slice A36 y193.length c36).ownBlock = (.slice Ao31 x6_2.length co31 : Value).ownBlock) := ⟨by rw [hA36]; split <;> (cases (Ao31 : Option Addr) <;> first | rfl | simp [Value.ownBlock, add_block])⟩; clear hy36 hi036 hsz36 HO_6 hA36 hc36; have HO195 := Aside0.mk hr36; clear hr36; replace q36 := eq_true q36; have n_ := Aside0.mk (Kd.S_mono (ok' := fun k_ => some k_ ≠ (.slice A36 y193.length c36 : Value).ownBlock) HO192.out (fun k_ hk => (by rw [HE36.out]; exact hk))); clear HO192; have HO192 := n_; clear n_)))
                        go_roundg k2
                        case measure => have := HK1.out; have := HK2.out; omega
                        case rel => exact ⟨(y190), (y193), (wrap64 (x14_1 + 1)), (by first | rfl | (simp; done) | (simp [*]; done)), H', ⟨by have := HK1.out; have := HK2.out; omega⟩, ⟨by (with_reducible repeat (first | apply Kd.S_alloc | apply Kd.S_drewN | apply Kd.S_drew)); exact HO192.out⟩, ⟨by (with_reducible repeat (first | apply Kd.Q_alloc | apply Kd.Q_drewN | apply Kd.Q_drew)); exact HO195.out⟩, ⟨by repeat (first | (with_reducible first | exact HB.out | apply below_alloc | apply pw_below_drewN | apply below_drew1 | refine below_set ?_ GE173.out) | exact HB.out)⟩⟩
                      · rw [if_neg c30] at H
                        exact absurd H (by simp)
                    · rw [if_neg c29] at H
                      exact absurd H (by simp)
                  · rw [if_neg c28] at H
                    exact absurd H (by simp)
          · rw [if_neg c7] at H
            exact absurd H (by simp)
        · rw [if_neg c6] at H
          exact absurd H (by simp)
      · rw [if_neg c5] at H
        have c5b0 : decide (x14_1 < (l1.length : Int)) = false := decide_eq_false c5
        clear c5
        obtain rfl := Option.some.inj H
        go_wp2
        repeat (go_quiet (fail); try go_wp2)
        go_ret
        exact ⟨_, by first | rfl | (simp [errW_none, errW_some] <;> rfl) | (simp [*, errW_none, errW_some] <;> rfl), by (with_reducible repeat (first | apply Kd.S_alloc | apply Kd.S_drewN | apply Kd.S_drew)); exact Kd.S_mono HO_5.out (fun _ hk => trivial), by repeat (first | (with_reducible first | exact HB.out | apply below_alloc | apply pw_below_drewN | apply below_drew1) | exact HB.out)⟩

/-! ### rundlelaw04_Of: function 22 -/
def rundlelaw04_Of.f (a0_0 : ByteArray) (a0_1 : ByteArray) (a0_2 : Bool) : Option (ByteArray × ByteArray × Bool) := some (a0_0, a0_1, a0_2)
set_option maxHeartbeats 8000000 in
set_option maxRecDepth 100000 in
theorem rundlelaw04_Of.calls (a0_0 : ByteArray) (a0_1 : ByteArray) (a0_2 : Bool) (r1 : ByteArray) (r2 : ByteArray) (r3 : Bool) (w : World) (h : rundlelaw04_Of.f a0_0 a0_1 a0_2 = some (r1, r2, r3)) :
    Calls Try.prog 22 #[.agg #[.string a0_0, .string a0_1, .bool a0_2]] w fun e w' => e = .returned (.agg #[.string r1, .string r2, .bool r3]) ∧ Below w.heap.size w w' := by
  have hu40 := Try.underlying40
  have hu44 := Try.underlying44
  have HB := Aside0.mk (Below.refl w.heap.size w)
  have H : (some (a0_0, a0_1, a0_2)) = some (r1, r2, r3) := h
  clear h
  simp only [Option.some.injEq, Prod.mk.injEq] at H
  obtain ⟨rfl, rfl, rfl⟩ := H
  go_enter Try.func22, Try.ntmps22
  go_wp2_with (first | ((with_reducible refine gate_dst (N := 1) rfl ?_); refine box_event ?hg (N := 1) ?hd (cs := #[.string a0_0, .string a0_1, .bool a0_2]) (t := 40) ?hr ?_; (case hd => rfl); (case hg => rfl); (case hr => first | (go_simp; done) | (go_simp; rfl)); intro gb196 hg w2 hbox hb; have n0_ := Aside0.mk (below_step (by repeat (first | (with_reducible first | exact HB.out | apply below_alloc | apply pw_below_drewN | apply below_drew1) | exact HB.out)) hb); have n1_ := Aside0.mk (hbox); have n2_ := Aside0.mk ((by rw [hg]; exact (below_size (by repeat (first | (with_reducible first | exact HB.out | apply below_alloc | apply pw_below_drewN | apply below_drew1) | exact HB.out))) : w.heap.size ≤ gb196)); have n3_ := Aside0.mk ((by rw [hg]; exact (below_size (by repeat (first | (with_reducible first | exact HB.out | apply below_alloc | apply pw_below_drewN | apply below_drew1) | exact HB.out))) : w.heap.size ≤ gb196)); clear HB; have HB := n0_; have BK196 := n1_; have GW196 := n2_; have GE196 := n3_; clear n0_ n1_ n2_ n3_; clear hb hbox hg) | ((with_reducible refine gate_dst (N := 2) rfl ?_); refine box_event ?hg (N := 2) ?hd (cs := #[.string (⟨#[]⟩ : ByteArray), .string (⟨#[]⟩ : ByteArray), .bool false]) (t := 44) ?hr ?_; (case hd => rfl); (case hg => rfl); (case hr => first | (go_simp; done) | (go_simp; rfl)); intro gb197 hg w3 hbox hb; have n0_ := Aside0.mk (blk_below (g := gb196) (o := .cells #[.string a0_0, .string a0_1, .bool a0_2] 40 (0, 0)) (by (with_reducible repeat (first | refine blk_drewN ?_ _ | refine blk_drew ?_ | refine blk_alloc ?_ _)); exact BK196.out) hb); have n1_ := Aside0.mk (below_step (by repeat (first | (with_reducible first | exact HB.out | apply below_alloc | apply pw_below_drewN | apply below_drew1 | refine below_set ?_ GE196.out) | exact HB.out)) hb); have n2_ := Aside0.mk (hbox); have n3_ := Aside0.mk ((by rw [hg]; exact (below_size (by repeat (first | (with_reducible first | exact HB.out | apply below_alloc | apply pw_below_drewN | apply below_drew1 | refine below_set ?_ GE196.out) | exact HB.out))) : w.heap.size ≤ gb197)); have n4_ := Aside0.mk ((by rw [hg]; exact (below_size (by repeat (first | (with_reducible first | exact HB.out | apply below_alloc | apply pw_below_drewN | apply below_drew1 | refine below_set ?_ GE196.out) | exact HB.out))) : w.heap.size ≤ gb197)); have n5_ := Aside0.mk ((by rw [hg]; exact Nat.ne_of_lt (blk_lt (g := gb196) (o := .cells #[.string a0_0, .string a0_1, .bool a0_2] 40 (0, 0)) (by (with_reducible repeat (first | refine blk_drewN ?_ _ | refine blk_drew ?_ | refine blk_alloc ?_ _)); exact BK196.out)) : gb196 ≠ gb197)); have n6_ := Aside0.mk ((by rw [hg]; exact Nat.ne_of_gt (blk_lt (g := gb196) (o := .cells #[.string a0_0, .string a0_1, .bool a0_2] 40 (0, 0)) (by (with_reducible repeat (first | refine blk_drewN ?_ _ | refine blk_drew ?_ | refine blk_alloc ?_ _)); exact BK196.out)) : gb197 ≠ gb196)); clear BK196; clear HB; have BK196 := n0_; have HB := n1_; have BK197 := n2_; have GW197 := n3_; have GE197 := n4_; have NB196_197 := n5_; have NB197_196 := n6_; clear n0_ n1_ n2_ n3_ n4_ n5_ n6_; clear hb hbox hg; have hnb4 := NB196_197.out; have hnc4 := NB197_196.out; have hcz5_0 : w3.cell? ⟨gb196, 0, none⟩ = some (.string a0_0) := (blk_cell BK196.out 0).trans rfl; have hcz5_1 : w3.cell? ⟨gb196, 1, none⟩ = some (.string a0_1) := (blk_cell BK196.out 1).trans rfl; have hcz5_2 : w3.cell? ⟨gb196, 2, none⟩ = some (.bool a0_2) := (blk_cell BK196.out 2).trans rfl; have hfz5_0 := blk_frozen BK196.out 0; have hfz5_1 := blk_frozen BK196.out 1; have hfz5_2 := blk_frozen BK196.out 2; have hcz6_0 : w3.cell? ⟨gb197, 0, none⟩ = some (.string (⟨#[]⟩ : ByteArray)) := (blk_cell BK197.out 0).trans rfl; have hcz6_1 : w3.cell? ⟨gb197, 1, none⟩ = some (.string (⟨#[]⟩ : ByteArray)) := (blk_cell BK197.out 1).trans rfl; have hcz6_2 : w3.cell? ⟨gb197, 2, none⟩ = some (.bool false) := (blk_cell BK197.out 2).trans rfl; have hfz6_0 := blk_frozen BK197.out 0; have hfz6_1 := blk_frozen BK197.out 1; have hfz6_2 := blk_frozen BK197.out 2))
  refine bodyPost_ret (results_cell_row rfl _ _ gb197 44 #[.string a0_0, .string a0_1, .bool a0_2] (0, 0) _ rfl (by (with_reducible repeat (first | refine blk_drewN ?_ _ | refine blk_drew ?_ | refine blk_alloc ?_ _)); refine blk_put (cs := #[.string a0_0, .string a0_1, .bool false]) ?_ 2 _ rfl; (with_reducible repeat (first | refine blk_drewN ?_ _ | refine blk_drew ?_ | refine blk_alloc ?_ _)); refine blk_put (cs := #[.string a0_0, .string (⟨#[]⟩ : ByteArray), .bool false]) ?_ 1 _ rfl; (with_reducible repeat (first | refine blk_drewN ?_ _ | refine blk_drew ?_ | refine blk_alloc ?_ _)); refine blk_put (cs := #[.string (⟨#[]⟩ : ByteArray), .string (⟨#[]⟩ : ByteArray), .bool false]) ?_ 0 _ rfl; (with_reducible repeat (first | refine blk_drewN ?_ _ | refine blk_drew ?_ | refine blk_alloc ?_ _)); exact BK197.out) Try.underlying44 rfl (by kernel_rfl)) rfl ?_
  exact ⟨by first | rfl | (simp [errW_none, errW_some] <;> rfl) | (simp [*, errW_none, errW_some] <;> rfl), by repeat (first | (with_reducible first | exact HB.out | apply below_alloc | apply pw_below_drewN | apply below_drew1 | refine below_set ?_ GE196.out | refine below_set ?_ GE197.out) | exact HB.out)⟩

/-! ### rundleref04_Has: function 48 -/
def rundleref04_Has.f (a0_0 : ByteArray) (a0_1 : ByteArray) (a0_2 : Bool) (a1 : ByteArray) : Option (Bool) := (rundleref04_Less.f a1 a0_0).bind fun t199 => (if t199 = true then (some false) else (if a0_2 = true then (some true) else ((rundleref04_Less.f a1 a0_1).bind fun t200 => (some t200))))
set_option maxHeartbeats 8000000 in
set_option maxRecDepth 100000 in
theorem rundleref04_Has.calls (a0_0 : ByteArray) (a0_1 : ByteArray) (a0_2 : Bool) (a1 : ByteArray) (r : Bool) (w : World) (h : rundleref04_Has.f a0_0 a0_1 a0_2 a1 = some r) :
    Calls Try.prog 48 #[.agg #[.string a0_0, .string a0_1, .bool a0_2], .string a1] w fun e w' => e = .returned (.bool r) ∧ Below w.heap.size w w' := by
  have hu40 := Try.underlying40
  have HB := Aside0.mk (Below.refl w.heap.size w)
  have H : ((rundleref04_Less.f a1 a0_0).bind fun t199 => (if t199 = true then (some false) else (if a0_2 = true then (some true) else ((rundleref04_Less.f a1 a0_1).bind fun t200 => (some t200))))) = some r := h
  clear h
  replace H := Option.bind_eq_some_iff.mp H
  obtain ⟨t199, A30, H⟩ := H
  replace H : (if t199 = true then (some false) else (if a0_2 = true then (some true) else ((rundleref04_Less.f a1 a0_1).bind fun t200 => (some t200)))) = some r := H
  have A3 := Aside0.mk A30
  clear A30
  by_cases c4 : t199 = true
  · subst c4
    have H1 : (some false) = some r := by rw [if_pos rfl] at H; exact H
    clear H
    have H := H1
    clear H1
    obtain rfl := Option.some.inj H
    go_enter Try.func48, Try.ntmps48
    go_wp2_with (first | ((with_reducible refine gate_dst (N := 2) rfl ?_); refine box_event ?hg (N := 2) ?hd (cs := #[.string a0_0, .string a0_1, .bool a0_2]) (t := 40) ?hr ?_; (case hd => rfl); (case hg => rfl); (case hr => first | (go_simp; done) | (go_simp; rfl)); intro gb198 hg w5 hbox hb; have n0_ := Aside0.mk (below_step (by repeat (first | (with_reducible first | exact HB.out | apply below_alloc | apply pw_below_drewN | apply below_drew1) | exact HB.out)) hb); have n1_ := Aside0.mk (hbox); have n2_ := Aside0.mk ((by rw [hg]; exact (below_size (by repeat (first | (with_reducible first | exact HB.out | apply below_alloc | apply pw_below_drewN | apply below_drew1) | exact HB.out))) : w.heap.size ≤ gb198)); have n3_ := Aside0.mk ((by rw [hg]; exact (below_size (by repeat (first | (with_reducible first | exact HB.out | apply below_alloc | apply pw_below_drewN | apply below_drew1) | exact HB.out))) : w.heap.size ≤ gb198)); clear HB; have HB := n0_; have BK198 := n1_; have GW198 := n2_; have GE198 := n3_; clear n0_ n1_ n2_ n3_; clear hb hbox hg; have hcz6_0 : w5.cell? ⟨gb198, 0, none⟩ = some (.string a0_0) := (blk_cell BK198.out 0).trans rfl; have hcz6_1 : w5.cell? ⟨gb198, 1, none⟩ = some (.string a0_1) := (blk_cell BK198.out 1).trans rfl; have hcz6_2 : w5.cell? ⟨gb198, 2, none⟩ = some (.bool a0_2) := (blk_cell BK198.out 2).trans rfl; have hfz6_0 := blk_frozen BK198.out 0; have hfz6_1 := blk_frozen BK198.out 1; have hfz6_2 := blk_frozen BK198.out 2) | ((with_reducible refine gate_callee (f := 46) rfl ?_); refine goesL_ (some 8) rfl rfl Try.func46 (by kernel_rfl) rfl #[.string a1, .string a0_0] rfl (by (try simp only [List.map_toArray, List.map_cons, List.map_nil]); first | done | rfl | (simp only [List.length_drop, List.length_take]; rfl)) ?_; (with_reducible refine (rundleref04_Less.calls a1 a0_0 true _ A3.out).mono ?_); rintro e w' ⟨rfl, ⟨nd, rfl⟩⟩; refine ⟨_, rfl, ?_⟩))
    go_ret
    exact ⟨by first | rfl | (simp [errW_none, errW_some] <;> rfl) | (simp [*, errW_none, errW_some] <;> rfl), by repeat (first | (with_reducible first | exact HB.out | apply below_alloc | apply pw_below_drewN | apply below_drew1 | refine below_set ?_ GE198.out) | exact HB.out)⟩
  · replace c4 := Bool.eq_false_iff.mpr c4
    subst c4
    have H1 : (if a0_2 = true then (some true) else ((rundleref04_Less.f a1 a0_1).bind fun t200 => (some t200))) = some r := by rw [if_neg (show ¬ (false = true) by decide)] at H; exact H
    clear H
    have H := H1
    clear H1
    by_cases c7 : a0_2 = true
    · subst c7
      have H1 : (some true) = some r := by rw [if_pos rfl] at H; exact H
      clear H
      have H := H1
      clear H1
      obtain rfl := Option.some.inj H
      go_enter Try.func48, Try.ntmps48
      go_wp2_with (first | ((with_reducible refine gate_dst (N := 2) rfl ?_); refine box_event ?hg (N := 2) ?hd (cs := #[.string a0_0, .string a0_1, .bool true]) (t := 40) ?hr ?_; (case hd => rfl); (case hg => rfl); (case hr => first | (go_simp; done) | (go_simp; rfl)); intro gb198 hg w8 hbox hb; have n0_ := Aside0.mk (below_step (by repeat (first | (with_reducible first | exact HB.out | apply below_alloc | apply pw_below_drewN | apply below_drew1) | exact HB.out)) hb); have n1_ := Aside0.mk (hbox); have n2_ := Aside0.mk ((by rw [hg]; exact (below_size (by repeat (first | (with_reducible first | exact HB.out | apply below_alloc | apply pw_below_drewN | apply below_drew1) | exact HB.out))) : w.heap.size ≤ gb198)); have n3_ := Aside0.mk ((by rw [hg]; exact (below_size (by repeat (first | (with_reducible first | exact HB.out | apply below_alloc | apply pw_below_drewN | apply below_drew1) | exact HB.out))) : w.heap.size ≤ gb198)); clear HB; have HB := n0_; have BK198 := n1_; have GW198 := n2_; have GE198 := n3_; clear n0_ n1_ n2_ n3_; clear hb hbox hg; have hcz9_0 : w8.cell? ⟨gb198, 0, none⟩ = some (.string a0_0) := (blk_cell BK198.out 0).trans rfl; have hcz9_1 : w8.cell? ⟨gb198, 1, none⟩ = some (.string a0_1) := (blk_cell BK198.out 1).trans rfl; have hcz9_2 : w8.cell? ⟨gb198, 2, none⟩ = some (.bool true) := (blk_cell BK198.out 2).trans rfl; have hfz9_0 := blk_frozen BK198.out 0; have hfz9_1 := blk_frozen BK198.out 1; have hfz9_2 := blk_frozen BK198.out 2) | ((with_reducible refine gate_callee (f := 46) rfl ?_); refine goesL_ (some 8) rfl rfl Try.func46 (by kernel_rfl) rfl #[.string a1, .string a0_0] rfl (by (try simp only [List.map_toArray, List.map_cons, List.map_nil]); first | done | rfl | (simp only [List.length_drop, List.length_take]; rfl)) ?_; (with_reducible refine (rundleref04_Less.calls a1 a0_0 false _ A3.out).mono ?_); rintro e w' ⟨rfl, ⟨nd, rfl⟩⟩; refine ⟨_, rfl, ?_⟩))
      go_ret
      exact ⟨by first | rfl | (simp [errW_none, errW_some] <;> rfl) | (simp [*, errW_none, errW_some] <;> rfl), by repeat (first | (with_reducible first | exact HB.out | apply below_alloc | apply pw_below_drewN | apply below_drew1 | refine below_set ?_ GE198.out) | exact HB.out)⟩
    · replace c7 := Bool.eq_false_iff.mpr c7
      subst c7
      have H1 : ((rundleref04_Less.f a1 a0_1).bind fun t200 => (some t200)) = some r := by rw [if_neg (show ¬ (false = true) by decide)] at H; exact H
      clear H
      have H := H1
      clear H1
      replace H := Option.bind_eq_some_iff.mp H
      obtain ⟨t200, A100, H⟩ := H
      replace H : (some t200) = some r := H
      have A10 := Aside0.mk A100
      clear A100
      obtain rfl := Option.some.inj H
      go_enter Try.func48, Try.ntmps48
      go_wp2_with (first | ((with_reducible refine gate_dst (N := 2) rfl ?_); refine box_event ?hg (N := 2) ?hd (cs := #[.string a0_0, .string a0_1, .bool false]) (t := 40) ?hr ?_; (case hd => rfl); (case hg => rfl); (case hr => first | (go_simp; done) | (go_simp; rfl)); intro gb198 hg w11 hbox hb; have n0_ := Aside0.mk (below_step (by repeat (first | (with_reducible first | exact HB.out | apply below_alloc | apply pw_below_drewN | apply below_drew1) | exact HB.out)) hb); have n1_ := Aside0.mk (hbox); have n2_ := Aside0.mk ((by rw [hg]; exact (below_size (by repeat (first | (with_reducible first | exact HB.out | apply below_alloc | apply pw_below_drewN | apply below_drew1) | exact HB.out))) : w.heap.size ≤ gb198)); have n3_ := Aside0.mk ((by rw [hg]; exact (below_size (by repeat (first | (with_reducible first | exact HB.out | apply below_alloc | apply pw_below_drewN | apply below_drew1) | exact HB.out))) : w.heap.size ≤ gb198)); clear HB; have HB := n0_; have BK198 := n1_; have GW198 := n2_; have GE198 := n3_; clear n0_ n1_ n2_ n3_; clear hb hbox hg; have hcz12_0 : w11.cell? ⟨gb198, 0, none⟩ = some (.string a0_0) := (blk_cell BK198.out 0).trans rfl; have hcz12_1 : w11.cell? ⟨gb198, 1, none⟩ = some (.string a0_1) := (blk_cell BK198.out 1).trans rfl; have hcz12_2 : w11.cell? ⟨gb198, 2, none⟩ = some (.bool false) := (blk_cell BK198.out 2).trans rfl; have hfz12_0 := blk_frozen BK198.out 0; have hfz12_1 := blk_frozen BK198.out 1; have hfz12_2 := blk_frozen BK198.out 2) | ((with_reducible refine gate_callee (f := 46) rfl ?_); refine goesL_ (some 8) rfl rfl Try.func46 (by kernel_rfl) rfl #[.string a1, .string a0_0] rfl (by (try simp only [List.map_toArray, List.map_cons, List.map_nil]); first | done | rfl | (simp only [List.length_drop, List.length_take]; rfl)) ?_; (with_reducible refine (rundleref04_Less.calls a1 a0_0 false _ A3.out).mono ?_); rintro e w' ⟨rfl, ⟨nd, rfl⟩⟩; refine ⟨_, rfl, ?_⟩) | (go_at_call 46; (with_reducible refine (rundleref04_Less.calls a1 a0_1 t200 _ A10.out).mono ?_); rintro e w' ⟨rfl, ⟨nd, rfl⟩⟩))
      go_ret
      exact ⟨by first | rfl | (simp [errW_none, errW_some] <;> rfl) | (simp [*, errW_none, errW_some] <;> rfl), by repeat (first | (with_reducible first | exact HB.out | apply below_alloc | apply pw_below_drewN | apply below_drew1 | refine below_set ?_ GE198.out) | exact HB.out)⟩

/-! ### rundleref09_Within: function 25 -/
def rundleref09_Within.l0 : Nat → List (S94) → Int → ByteArray → ByteArray → Bool → Option ((List (S94)))
  | 0, _, _, _, _, _ => none
  | k + 1, x0, x5, x202000, x202001, x202002 => if x5 < (x0.length : Int) then (if 0 ≤ x5 then ((rundleref04_Has.f x202000 x202001 x202002 ((rd_T94 x0 x5).f0)).bind fun t203 => (if t203 = true then (rundleref09_Within.l0 k x0 (wrap64 (x5 + 1)) x202000 x202001 x202002) else (if x5 ≤ (x0.length : Int) then (some (x0.take (x5 : Int).toNat)) else (none)))) else (none)) else (some x0)
def rundleref09_Within.f (k : Nat) (l0 : List (S94)) (a1_0 : ByteArray) (a1_1 : ByteArray) (a1_2 : Bool) : Option ((List (S94))) := rundleref09_Within.l0 k l0 0 a1_0 a1_1 a1_2
theorem rundleref09_Within.mono_l : ∀ k, (∀ y0 y1 y2 y3 y4, LeO (rundleref09_Within.l0 k y0 y1 y2 y3 y4) (rundleref09_Within.l0 (k + 1) y0 y1 y2 y3 y4))
  | 0 => fun _ _ _ _ _ r h => by simp [rundleref09_Within.l0] at h
  | k + 1 => by
    have ih0 := rundleref09_Within.mono_l k
    · intro y0 y1 y2 y3 y4
      unfold rundleref09_Within.l0
      repeat' first
      | (with_reducible exact ih0 _ _ _ _ _)
      | (with_reducible exact LeO.refl _)
      | (with_reducible exact LeO.none _)
      | (with_reducible refine LeO.ite ?_ ?_)
      | (with_reducible refine LeO.bind ?_ (fun _ => ?_))
      | exact ih0 _ _ _ _ _
      | exact LeO.none _
      | refine LeO.ite ?_ ?_
      | refine LeO.bind ?_ (fun _ => ?_)
theorem rundleref09_Within.mono : ∀ a0 a1 a2 a3 k, LeO (rundleref09_Within.f k a0 a1 a2 a3) (rundleref09_Within.f (k + 1) a0 a1 a2 a3) := by
  intro a0 a1 a2 a3 k
  have ih0 := rundleref09_Within.mono_l k
  unfold rundleref09_Within.f
  repeat' first
      | (with_reducible exact ih0 _ _ _ _ _)
      | (with_reducible exact LeO.refl _)
      | (with_reducible exact LeO.none _)
      | (with_reducible refine LeO.ite ?_ ?_)
      | (with_reducible refine LeO.bind ?_ (fun _ => ?_))
      | exact ih0 _ _ _ _ _
      | exact LeO.none _
      | refine LeO.ite ?_ ?_
      | refine LeO.bind ?_ (fun _ => ?_)
def rundleref09_Within.T4 : Bool × List (List Nat × List Nat) := (true, [([], []), ([], []), ([], []), ([1, 2], [1, 2]), ([3], [3]), ([4], [4]), ([0, 5], [0, 5]), ([6], [6])])
def rundleref09_Within.B4 : List Nat := [0, 0, 0, 6, 14, 30, 63, 127]
theorem rundleref09_Within.tab4 : rtab .any (opsOf Try.f25 4) = rundleref09_Within.T4 := by kernel_rfl
theorem rundleref09_Within.bits4 : waitsOk rundleref09_Within.T4.2 rundleref09_Within.B4 = true := by kernel_rfl
set_option maxHeartbeats 8000000 in
set_option maxRecDepth 100000 in
theorem rundleref09_Within.calls (k : Nat) (P0_ : Nat → Prop) (u9000_ : Value) (l0 : List (S94)) (a1_0 : ByteArray) (a1_1 : ByteArray) (a1_2 : Bool) (r : List (S94)) (w0 w : World) (hB : Below w0.heap.size w0 w) (ho0 : Kd.R k94 94 w w0.heap.size P0_ u9000_ l0) (h : rundleref09_Within.f k l0 a1_0 a1_1 a1_2 = some r) :
    Calls Try.prog 25 #[u9000_, .agg #[.string a1_0, .string a1_1, .bool a1_2]] w fun e w' => ∃ v0_ : Value, e = .returned (v0_) ∧ Kd.R k94 94 w' w0.heap.size (fun k_ => (P0_ k_ ∨ w.heap.size ≤ k_)) v0_ r ∧ Below w0.heap.size w0 w' ∧ Kept w w' (fun k_ => P0_ k_) := by
  have hu40 := Try.underlying40
  have HO0 := Aside0.mk (show Kd.R k94 94 w w0.heap.size (fun k_ => (P0_ k_ ∨ w.heap.size ≤ k_)) u9000_ l0 from Kd.R_mono ho0 (fun k_ hk => (.inl hk)))
  have HK := Aside0.mk (Kept.refl w (fun k_ => P0_ k_))
  have HW0 := Aside0.mk hB.size
  have HB := Aside0.mk hB
  clear hB
  have H : (rundleref09_Within.l0 k l0 0 a1_0 a1_1 a1_2) = some r := h
  clear h
  have H' := Aside0.mk H
  clear H
  go_enter Try.func25, Try.ntmps25
  go_wp2_with (first | ((with_reducible refine gate_dst (N := 3) rfl ?_); refine box_event ?hg (N := 3) ?hd (cs := #[.string a1_0, .string a1_1, .bool a1_2]) (t := 40) ?hr ?_; (case hd => rfl); (case hg => rfl); (case hr => first | (go_simp; done) | (go_simp; rfl)); intro gb201 hg w3 hbox hb; have n0_ := Aside0.mk (Kd.R_below (by (with_reducible repeat (first | apply Kd.R_alloc | apply Kd.R_drewN | apply Kd.R_drew)); exact HO0.out) hb); have n1_ := Aside0.mk (Kept.below (S := (fun k_ => P0_ k_)) (by repeat (first | (with_reducible first | exact HK.out | apply Kept.alloc | apply Kept.drewN | apply Kept.drew) | exact HK.out)) hb); have n2_ := Aside0.mk (below_step (by repeat (first | (with_reducible first | exact HB.out | apply below_alloc | apply pw_below_drewN | apply below_drew1) | exact HB.out)) hb); have n3_ := Aside0.mk (hbox); have n4_ := Aside0.mk ((by rw [hg]; exact (by first | exact HK.out.1 | exact (show Kept w _ (fun k_ => P0_ k_) from by repeat (first | (with_reducible first | exact HK.out | apply Kept.alloc | apply Kept.drewN | apply Kept.drew) | exact HK.out)).1) : w.heap.size ≤ gb201)); have n5_ := Aside0.mk ((by rw [hg]; exact (below_size (by repeat (first | (with_reducible first | exact HB.out | apply below_alloc | apply pw_below_drewN | apply below_drew1) | exact HB.out))) : w0.heap.size ≤ gb201)); clear HO0; clear HK; clear HB; have HO0 := n0_; have HK := n1_; have HB := n2_; have BK201 := n3_; have GW201 := n4_; have GE201 := n5_; clear n0_ n1_ n2_ n3_ n4_ n5_; clear hb hbox hg))
  go_loopg [5] k (fun kq v5 w' => ∃ (x5_1 : Int), v5 = .int .i64 x5_1 ∧ Aside0 (rundleref09_Within.l0 kq l0 x5_1 a1_0 a1_1 a1_2 = some r) ∧ Aside0 (kq ≤ k) ∧ Aside0 (Kd.R k94 94 w' w0.heap.size (fun k_ => (P0_ k_ ∨ w.heap.size ≤ k_)) u9000_ l0) ∧ Aside0 (w'.heap[gb201]? = some (.cells #[.string a1_0, .string a1_1, .bool a1_2] 40 (0, 0))) ∧ Aside0 (Kept w w' (fun k_ => P0_ k_)) ∧ Aside0 (Below w0.heap.size w0 w'))
  case atStart => exact ⟨(0), (by first | rfl | (simp; done) | (simp [*]; done)), H', ⟨Nat.le_refl _⟩, ⟨by (with_reducible repeat (first | apply Kd.R_alloc | apply Kd.R_drewN | apply Kd.R_drew)); exact HO0.out⟩, ⟨by (with_reducible repeat (first | refine blk_drewN ?_ _ | refine blk_drew ?_ | refine blk_alloc ?_ _)); exact BK201.out⟩, ⟨by repeat (first | (with_reducible first | exact HK.out | apply Kept.alloc | apply Kept.drewN | apply Kept.drew | refine Kept.setCell ?_ (.inr GW201.out) _) | exact HK.out)⟩, ⟨by repeat (first | (with_reducible first | exact HB.out | apply below_alloc | apply pw_below_drewN | apply below_drew1 | refine below_set ?_ GE201.out) | exact HB.out)⟩⟩
  case round =>
    clear H'
    try clear c2
    try clear p2
    obtain ⟨x5_1, rfl, HA, HK1, HO_0, BK201, HK, HB⟩ := hrel
    cases gk with
    | zero => exact absurd HA.out (by simp [rundleref09_Within.l0])
    | succ k1 =>
      have H := HA.out
      clear HA
      simp only [rundleref09_Within.l0] at H
      by_cases c4 : x5_1 < (l0.length : Int)
      · rw [if_pos c4] at H
        have c4b0 : decide (x5_1 < (l0.length : Int)) = true := decide_eq_true c4
        clear c4
        by_cases c5 : 0 ≤ x5_1
        · rw [if_pos c5] at H
          have c5b0 : decide (0 ≤ x5_1) = true := decide_eq_true c5
          clear c5
          replace H := Option.bind_eq_some_iff.mp H
          obtain ⟨t203, A60, H⟩ := H
          replace H : (if t203 = true then (rundleref09_Within.l0 k1 l0 (wrap64 (x5_1 + 1)) a1_0 a1_1 a1_2) else (if x5_1 ≤ (l0.length : Int) then (some (l0.take (x5_1 : Int).toNat)) else (none))) = some r := H
          have A6 := Aside0.mk A60
          clear A60
          by_cases c7 : t203 = true
          · subst c7
            have H1 : (rundleref09_Within.l0 k1 l0 (wrap64 (x5_1 + 1)) a1_0 a1_1 a1_2) = some r := by rw [if_pos rfl] at H; exact H
            clear H
            have H := H1
            clear H1
            have H' := Aside0.mk H
            clear H
            obtain ⟨Ao8, co8, eo8⟩ := Kd.R_slice HO_0.out
            subst eo8
            try go_wp2
            have n0_ := Aside0.mk (Kd.R_drew HO_0.out)
            have n1_ := Aside0.mk (blk_drew BK201.out)
            have n2_ := Aside0.mk (Kept.drew HK.out)
            have n3_ := Aside0.mk (below_drew1 HB.out)
            clear HO_0
            clear BK201
            clear HK
            clear HB
            have HO_0 := n0_
            have BK201 := n1_
            have HK := n2_
            have HB := n3_
            clear n0_ n1_ n2_ n3_
            have p202 : 0 ≤ (x5_1 : Int) := of_decide_eq_true (by first | (with_reducible assumption) | assumption)
            have q202 : x5_1 < (l0.length : Int) := of_decide_eq_true (by first | (with_reducible assumption) | assumption)
            obtain ⟨ad202, e202, hx202_0, hx202_1, hx202_2⟩ := at_T94 (Kd.R_reads' HO_0.out).2.2 x5_1 p202 q202
            cases e202
            replace p202 := eq_true p202
            replace q202 := eq_true q202
            refine start_ (n := 8) (S := fun w' => w'.cell? ⟨gb201, 0, none⟩ = some (.string a1_0) ∧ w'.cell? ⟨gb201, 1, none⟩ = some (.string a1_1) ∧ w'.cell? ⟨gb201, 2, none⟩ = some (.bool a1_2) ∧ w'.cell? (ad202.add ((x5_1).toNat * 3)) = some (.string ((rd_T94 l0 x5_1).f0)) ∧ w'.cell? ⟨(ad202.add ((x5_1).toNat * 3)).block, (ad202.add ((x5_1).toNat * 3)).off + 1, none⟩ = some (.string ((rd_T94 l0 x5_1).f1)) ∧ w'.cell? ⟨(ad202.add ((x5_1).toNat * 3)).block, (ad202.add ((x5_1).toNat * 3)).off + 2, none⟩ = some (.bool ((rd_T94 l0 x5_1).f2))) (ds := []) #[false, false, false, false, false, false, false, false] (by kernel_rfl) rfl rfl ⟨(blk_cell BK201.out 0).trans rfl, (blk_cell BK201.out 1).trans rfl, (blk_cell BK201.out 2).trans rfl, hx202_0, hx202_1, hx202_2⟩ (fun hHeld => ?_); refine with_tabW rundleref09_Within.tab4 rundleref09_Within.bits4 (fun HT_ HW_ => ?_)
            generalize wr.drew = w9 at HO_0 BK201 HK HB hx202_0 hx202_1 hx202_2 hHeld ⊢
            refine pure_ (i := 1) (N := some 13) (v := ?_) (a' := ?_) #[false, true, false, false, false, false, false, false] rfl rfl (any_of HT_.out (by kernel_rfl)) (fun _ _ _ h => h) (Or.inl ⟨by rfl, ?_⟩) ?_ ?_
            rotate_left
            · intro w'
              go_simp
              with_reducible rfl
            rotate_left
            · simp only [Act.put, List.setIfInBounds_toArray, List.set_cons_zero, List.set_cons_succ, i64_w, i32_w]
              rfl
            refine pure_ (i := 2) (N := some 14) (v := ?_) (a' := ?_) #[false, true, true, false, false, false, false, false] rfl rfl (any_of HT_.out (by kernel_rfl)) (fun _ _ _ h => h) (Or.inl ⟨by rfl, ?_⟩) ?_ ?_
            rotate_left
            · intro w'
              go_simp
              with_reducible rfl
            rotate_left
            · simp only [Act.put, List.setIfInBounds_toArray, List.set_cons_zero, List.set_cons_succ, i64_w, i32_w]
              rfl
            refine pure_ (i := 3) (N := some 15) (v := ?_) (a' := ?_) #[false, true, true, true, false, false, false, false] rfl rfl (any_of HT_.out (by kernel_rfl)) (fun _ _ _ h => h) (Or.inl ⟨by rfl, ?_⟩) ?_ ?_
            rotate_left
            · intro w'
              go_simp
              with_reducible rfl
            rotate_left
            · simp only [Act.put, List.setIfInBounds_toArray, List.set_cons_zero, List.set_cons_succ, i64_w, i32_w]
              rfl
            refine pure_ (i := 4) (N := some 16) (v := ?_) (a' := ?_) #[false, true, true, true, true, false, false, false] rfl rfl (any_of HT_.out (by kernel_rfl)) (fun _ _ _ h => h) (Or.inl ⟨by rfl, ?_⟩) ?_ ?_
            rotate_left
            · intro w'
              go_simp
              with_reducible rfl
            rotate_left
            · simp only [Act.put, List.setIfInBounds_toArray, List.set_cons_zero, List.set_cons_succ, i64_w, i32_w]
              rfl
            refine take_ (i := 0) (N := some 12) (v := ?_) (a' := ?_) #[true, true, true, true, true, false, false, false] rfl rfl (take_ofW HT_.out HW_.out (by kernel_rfl)) (fun _ _ _ h => h) (Or.inl ⟨by rfl, ?_⟩) hHeld ?_ ?_
            rotate_left
            · rintro w' ⟨s0, s1, s2, s3, s4, s5⟩
              go_simp
              with_reducible rfl
            rotate_left
            · simp only [Act.put, List.setIfInBounds_toArray, List.set_cons_zero, List.set_cons_succ, i64_w, i32_w]
              rfl
            refine take_ (i := 5) (N := some 17) (v := ?_) (a' := ?_) #[true, true, true, true, true, true, false, false] rfl rfl (take_ofW HT_.out HW_.out (by kernel_rfl)) (fun _ _ _ h => h) (Or.inl ⟨by rfl, ?_⟩) hHeld ?_ ?_
            rotate_left
            · rintro w' ⟨s0, s1, s2, s3, s4, s5⟩
              go_simp
              with_reducible rfl
            rotate_left
            · simp only [Act.put, List.setIfInBounds_toArray, List.set_cons_zero, List.set_cons_succ, i64_w, i32_w]
              rfl
            refine one_ (i := 6) (N := some 18) #[true, true, true, true, true, true, true, false] rfl rfl (one_of HT_.out (by kernel_rfl)) (by decide) (fun K hK => ?_)
            refine goes_ Try.func48 (by kernel_rfl) rfl #[.agg #[.string a1_0, .string a1_1, .bool a1_2], .string ((rd_T94 l0 x5_1).f0)] (by rfl) rfl rfl (by (try simp only [List.map_toArray, List.map_cons, List.map_nil]); first | done | rfl | (simp only [List.length_drop, List.length_take]; rfl)) ?_
            with_reducible refine (rundleref04_Has.calls a1_0 a1_1 a1_2 ((rd_T94 l0 x5_1).f0) true _ A6.out).mono ?_
            rintro e w10 ⟨rfl, hb⟩
            have HS3_ := (hb.cell (World.block_lt_of_cell? _ _ (hHeld.2.2.2.1))).trans (hHeld.2.2.2.1)
            have HS4_ := (hb.cell (World.block_lt_of_cell? _ _ (hHeld.2.2.2.2.1))).trans (hHeld.2.2.2.2.1)
            have HS5_ := (hb.cell (World.block_lt_of_cell? _ _ (hHeld.2.2.2.2.2))).trans (hHeld.2.2.2.2.2)
            refine ⟨_, rfl, ?_⟩
            have n0_ := Aside0.mk (Kd.R_below (by (with_reducible repeat (first | apply Kd.R_alloc | apply Kd.R_drewN | apply Kd.R_drew)); exact HO_0.out) hb)
            have n1_ := Aside0.mk (blk_below (g := gb201) (o := .cells #[.string a1_0, .string a1_1, .bool a1_2] 40 (0, 0)) (by (with_reducible repeat (first | refine blk_drewN ?_ _ | refine blk_drew ?_ | refine blk_alloc ?_ _)); exact BK201.out) hb)
            have n2_ := Aside0.mk (Kept.below (S := (fun k_ => P0_ k_)) (by repeat (first | (with_reducible first | exact HK.out | apply Kept.alloc | apply Kept.drewN | apply Kept.drew | refine Kept.setCell ?_ (.inr GW201.out) _) | exact HK.out)) hb)
            have n3_ := Aside0.mk (below_step (by repeat (first | (with_reducible first | exact HB.out | apply below_alloc | apply pw_below_drewN | apply below_drew1 | refine below_set ?_ GE201.out) | exact HB.out)) hb)
            clear HO_0
            clear BK201
            clear HK
            clear HB
            have HO_0 := n0_
            have BK201 := n1_
            have HK := n2_
            have HB := n3_
            clear n0_ n1_ n2_ n3_
            (try clear hb)
            (try clear hb2)
            (try clear hk)
            (try clear hi)
            refine hK.out _ _ ⟨(blk_cell BK201.out 0).trans rfl, (blk_cell BK201.out 1).trans rfl, (blk_cell BK201.out 2).trans rfl, HS3_, HS4_, HS5_⟩ (fun hHeld => ?_)
            clear hK K
            refine norm_ (a' := ?_) ?_ ?_
            rotate_left
            · show Act.put _ (some 18) _ = _
              simp only [Act.put, List.setIfInBounds_toArray, List.set_cons_zero, List.set_cons_succ, i64_w, i32_w]
              rfl
            refine pure_ (i := 7) (N := some 19) (v := ?_) (a' := ?_) #[true, true, true, true, true, true, true, true] rfl rfl (any_of HT_.out (by kernel_rfl)) (fun _ _ _ h => h) (Or.inl ⟨by rfl, ?_⟩) ?_ ?_
            rotate_left
            · intro w'
              go_simp
              with_reducible rfl
            rotate_left
            · simp only [Act.put, List.setIfInBounds_toArray, List.set_cons_zero, List.set_cons_succ, i64_w, i32_w]
              rfl
            refine done_ (done_of HT_.out (by kernel_rfl)) ?_
            try go_wp2
            go_roundg k1
            case measure => have := HK1.out; omega
            case rel => exact ⟨(wrap64 (x5_1 + 1)), (by first | rfl | (simp; done) | (simp [*]; done)), H', ⟨by have := HK1.out; omega⟩, ⟨by (with_reducible repeat (first | apply Kd.R_alloc | apply Kd.R_drewN | apply Kd.R_drew)); exact HO_0.out⟩, ⟨by (with_reducible repeat (first | refine blk_drewN ?_ _ | refine blk_drew ?_ | refine blk_alloc ?_ _)); exact BK201.out⟩, ⟨by repeat (first | (with_reducible first | exact HK.out | apply Kept.alloc | apply Kept.drewN | apply Kept.drew | refine Kept.setCell ?_ (.inr GW201.out) _) | exact HK.out)⟩, ⟨by repeat (first | (with_reducible first | exact HB.out | apply below_alloc | apply pw_below_drewN | apply below_drew1 | refine below_set ?_ GE201.out) | exact HB.out)⟩⟩
          · replace c7 := Bool.eq_false_iff.mpr c7
            subst c7
            have H1 : (if x5_1 ≤ (l0.length : Int) then (some (l0.take (x5_1 : Int).toNat)) else (none)) = some r := by rw [if_neg (show ¬ (false = true) by decide)] at H; exact H
            clear H
            have H := H1
            clear H1
            by_cases c11 : x5_1 ≤ (l0.length : Int)
            · rw [if_pos c11] at H
              have c11b0 := eq_true c11
              have c11b1 : decide (x5_1 ≤ (l0.length : Int)) = true := decide_eq_true c11
              clear c11
              obtain ⟨y204, hy204⟩ : ∃ y_ : List (S94), y_ = (l0.take (x5_1 : Int).toNat) := ⟨_, rfl⟩
              replace H : (some y204) = some r := by first | (rw [hy204]; with_reducible exact H) | (have H2_ := (Option.bind_some _ _).symm.trans H; rw [hy204]; with_reducible exact H2_) | (have H2_ := (Option.bind_some _ _).symm.trans H; with_reducible exact H2_) | with_reducible exact H | (rw [hy204]; exact H) | exact H
              have Ny204 := Aside0.mk hy204
              clear hy204
              obtain rfl := Option.some.inj H
              obtain ⟨Ao12, co12, eo12⟩ := Kd.R_slice HO_0.out
              subst eo12
              try go_wp2
              have n0_ := Aside0.mk (Kd.R_drew HO_0.out)
              have n1_ := Aside0.mk (blk_drew BK201.out)
              have n2_ := Aside0.mk (Kept.drew HK.out)
              have n3_ := Aside0.mk (below_drew1 HB.out)
              clear HO_0
              clear BK201
              clear HK
              clear HB
              have HO_0 := n0_
              have BK201 := n1_
              have HK := n2_
              have HB := n3_
              clear n0_ n1_ n2_ n3_
              have p202 : 0 ≤ (x5_1 : Int) := of_decide_eq_true (by first | (with_reducible assumption) | assumption)
              have q202 : x5_1 < (l0.length : Int) := of_decide_eq_true (by first | (with_reducible assumption) | assumption)
              obtain ⟨ad202, e202, hx202_0, hx202_1, hx202_2⟩ := at_T94 (Kd.R_reads' HO_0.out).2.2 x5_1 p202 q202
              cases e202
              replace p202 := eq_true p202
              replace q202 := eq_true q202
              refine start_ (n := 8) (S := fun w' => w'.cell? ⟨gb201, 0, none⟩ = some (.string a1_0) ∧ w'.cell? ⟨gb201, 1, none⟩ = some (.string a1_1) ∧ w'.cell? ⟨gb201, 2, none⟩ = some (.bool a1_2) ∧ w'.cell? (ad202.add ((x5_1).toNat * 3)) = some (.string ((rd_T94 l0 x5_1).f0)) ∧ w'.cell? ⟨(ad202.add ((x5_1).toNat * 3)).block, (ad202.add ((x5_1).toNat * 3)).off + 1, none⟩ = some (.string ((rd_T94 l0 x5_1).f1)) ∧ w'.cell? ⟨(ad202.add ((x5_1).toNat * 3)).block, (ad202.add ((x5_1).toNat * 3)).off + 2, none⟩ = some (.bool ((rd_T94 l0 x5_1).f2))) (ds := []) #[false, false, false, false, false, false, false, false] (by kernel_rfl) rfl rfl ⟨(blk_cell BK201.out 0).trans rfl, (blk_cell BK201.out 1).trans rfl, (blk_cell BK201.out 2).trans rfl, hx202_0, hx202_1, hx202_2⟩ (fun hHeld => ?_); refine with_tabW rundleref09_Within.tab4 rundleref09_Within.bits4 (fun HT_ HW_ => ?_)
              generalize wr.drew = w13 at HO_0 BK201 HK HB hx202_0 hx202_1 hx202_2 hHeld ⊢
              refine pure_ (i := 1) (N := some 13) (v := ?_) (a' := ?_) #[false, true, false, false, false, false, false, false] rfl rfl (any_of HT_.out (by kernel_rfl)) (fun _ _ _ h => h) (Or.inl ⟨by rfl, ?_⟩) ?_ ?_
              rotate_left
              · intro w'
                go_simp
                with_reducible rfl
              rotate_left
              · simp only [Act.put, List.setIfInBounds_toArray, List.set_cons_zero, List.set_cons_succ, i64_w, i32_w]
                rfl
              refine pure_ (i := 2) (N := some 14) (v := ?_) (a' := ?_) #[false, true, true, false, false, false, false, false] rfl rfl (any_of HT_.out (by kernel_rfl)) (fun _ _ _ h => h) (Or.inl ⟨by rfl, ?_⟩) ?_ ?_
              rotate_left
              · intro w'
                go_simp
                with_reducible rfl
              rotate_left
              · simp only [Act.put, List.setIfInBounds_toArray, List.set_cons_zero, List.set_cons_succ, i64_w, i32_w]
                rfl
              refine pure_ (i := 3) (N := some 15) (v := ?_) (a' := ?_) #[false, true, true, true, false, false, false, false] rfl rfl (any_of HT_.out (by kernel_rfl)) (fun _ _ _ h => h) (Or.inl ⟨by rfl, ?_⟩) ?_ ?_
              rotate_left
              · intro w'
                go_simp
                with_reducible rfl
              rotate_left
              · simp only [Act.put, List.setIfInBounds_toArray, List.set_cons_zero, List.set_cons_succ, i64_w, i32_w]
                rfl
              refine pure_ (i := 4) (N := some 16) (v := ?_) (a' := ?_) #[false, true, true, true, true, false, false, false] rfl rfl (any_of HT_.out (by kernel_rfl)) (fun _ _ _ h => h) (Or.inl ⟨by rfl, ?_⟩) ?_ ?_
              rotate_left
              · intro w'
                go_simp
                with_reducible rfl
              rotate_left
              · simp only [Act.put, List.setIfInBounds_toArray, List.set_cons_zero, List.set_cons_succ, i64_w, i32_w]
                rfl
              refine take_ (i := 0) (N := some 12) (v := ?_) (a' := ?_) #[true, true, true, true, true, false, false, false] rfl rfl (take_ofW HT_.out HW_.out (by kernel_rfl)) (fun _ _ _ h => h) (Or.inl ⟨by rfl, ?_⟩) hHeld ?_ ?_
              rotate_left
              · rintro w' ⟨s0, s1, s2, s3, s4, s5⟩
                go_simp
                with_reducible rfl
              rotate_left
              · simp only [Act.put, List.setIfInBounds_toArray, List.set_cons_zero, List.set_cons_succ, i64_w, i32_w]
                rfl
              refine take_ (i := 5) (N := some 17) (v := ?_) (a' := ?_) #[true, true, true, true, true, true, false, false] rfl rfl (take_ofW HT_.out HW_.out (by kernel_rfl)) (fun _ _ _ h => h) (Or.inl ⟨by rfl, ?_⟩) hHeld ?_ ?_
              rotate_left
              · rintro w' ⟨s0, s1, s2, s3, s4, s5⟩
                go_simp
                with_reducible rfl
              rotate_left
              · simp only [Act.put, List.setIfInBounds_toArray, List.set_cons_zero, List.set_cons_succ, i64_w, i32_w]
                rfl
              refine one_ (i := 6) (N := some 18) #[true, true, true, true, true, true, true, false] rfl rfl (one_of HT_.out (by kernel_rfl)) (by decide) (fun K hK => ?_)
              refine goes_ Try.func48 (by kernel_rfl) rfl #[.agg #[.string a1_0, .string a1_1, .bool a1_2], .string ((rd_T94 l0 x5_1).f0)] (by rfl) rfl rfl (by (try simp only [List.map_toArray, List.map_cons, List.map_nil]); first | done | rfl | (simp only [List.length_drop, List.length_take]; rfl)) ?_
              with_reducible refine (rundleref04_Has.calls a1_0 a1_1 a1_2 ((rd_T94 l0 x5_1).f0) false _ A6.out).mono ?_
              rintro e w14 ⟨rfl, hb⟩
              have HS3_ := (hb.cell (World.block_lt_of_cell? _ _ (hHeld.2.2.2.1))).trans (hHeld.2.2.2.1)
              have HS4_ := (hb.cell (World.block_lt_of_cell? _ _ (hHeld.2.2.2.2.1))).trans (hHeld.2.2.2.2.1)
              have HS5_ := (hb.cell (World.block_lt_of_cell? _ _ (hHeld.2.2.2.2.2))).trans (hHeld.2.2.2.2.2)
              refine ⟨_, rfl, ?_⟩
              have n0_ := Aside0.mk (Kd.R_below (by (with_reducible repeat (first | apply Kd.R_alloc | apply Kd.R_drewN | apply Kd.R_drew)); exact HO_0.out) hb)
              have n1_ := Aside0.mk (blk_below (g := gb201) (o := .cells #[.string a1_0, .string a1_1, .bool a1_2] 40 (0, 0)) (by (with_reducible repeat (first | refine blk_drewN ?_ _ | refine blk_drew ?_ | refine blk_alloc ?_ _)); exact BK201.out) hb)
              have n2_ := Aside0.mk (Kept.below (S := (fun k_ => P0_ k_)) (by repeat (first | (with_reducible first | exact HK.out | apply Kept.alloc | apply Kept.drewN | apply Kept.drew | refine Kept.setCell ?_ (.inr GW201.out) _) | exact HK.out)) hb)
              have n3_ := Aside0.mk (below_step (by repeat (first | (with_reducible first | exact HB.out | apply below_alloc | apply pw_below_drewN | apply below_drew1 | refine below_set ?_ GE201.out) | exact HB.out)) hb)
              clear HO_0
              clear BK201
              clear HK
              clear HB
              have HO_0 := n0_
              have BK201 := n1_
              have HK := n2_
              have HB := n3_
              clear n0_ n1_ n2_ n3_
              (try clear hb)
              (try clear hb2)
              (try clear hk)
              (try clear hi)
              refine hK.out _ _ ⟨(blk_cell BK201.out 0).trans rfl, (blk_cell BK201.out 1).trans rfl, (blk_cell BK201.out 2).trans rfl, HS3_, HS4_, HS5_⟩ (fun hHeld => ?_)
              clear hK K
              refine norm_ (a' := ?_) ?_ ?_
              rotate_left
              · show Act.put _ (some 18) _ = _
                simp only [Act.put, List.setIfInBounds_toArray, List.set_cons_zero, List.set_cons_succ, i64_w, i32_w]
                rfl
              refine pure_ (i := 7) (N := some 19) (v := ?_) (a' := ?_) #[true, true, true, true, true, true, true, true] rfl rfl (any_of HT_.out (by kernel_rfl)) (fun _ _ _ h => h) (Or.inl ⟨by rfl, ?_⟩) ?_ ?_
              rotate_left
              · intro w'
                go_simp
                with_reducible rfl
              rotate_left
              · simp only [Act.put, List.setIfInBounds_toArray, List.set_cons_zero, List.set_cons_succ, i64_w, i32_w]
                rfl
              refine done_ (done_of HT_.out (by kernel_rfl)) ?_
              have q15 : (x5_1 : Int) ≤ ((l0.length : Int) : Int) := of_decide_eq_true (by first | (with_reducible assumption) | assumption)
              obtain ⟨i015, hi015, _, hsz15, _⟩ := info_parts info94
              have hcut15 := cut_to (P := Try.prog) 22 94 .i64 Try.underlying22 hi015 (some ad202) l0.length co12 x5_1 (of_decide_eq_true (by first | (with_reducible assumption) | assumption)) q15 (Kd.R_reads' HO_0.out).2.1
              have hr15 := Kd.R_take (m := (x5_1 : Int).toNat) HO_0.out (by omega)
              have hy15 : y204.length = (x5_1 : Int).toNat := (by rw [Ny204.out, List.length_take]; omega)
              rw [← Ny204.out] at hr15
              rw [← hy15] at hr15 hcut15
              clear hy15 hi015 hsz15 HO_0
              have HO206 := Aside0.mk hr15
              clear hr15
              replace q15 := eq_true q15
              try go_wp2
              go_ret
              exact ⟨_, by first | rfl | (simp [errW_none, errW_some] <;> rfl) | (simp [*, errW_none, errW_some] <;> rfl), by (with_reducible repeat (first | apply Kd.R_alloc | apply Kd.R_drewN | apply Kd.R_drew)); exact HO206.out, by repeat (first | (with_reducible first | exact HB.out | apply below_alloc | apply pw_below_drewN | apply below_drew1 | refine below_set ?_ GE201.out) | exact HB.out), by repeat (first | (with_reducible first | exact HK.out | apply Kept.alloc | apply Kept.drewN | apply Kept.drew | refine Kept.setCell ?_ (.inr GW201.out) _) | exact HK.out)⟩
            · rw [if_neg c11] at H
              exact absurd H (by simp)
        · rw [if_neg c5] at H
          exact absurd H (by simp)
      · rw [if_neg c4] at H
        have c4b0 : decide (x5_1 < (l0.length : Int)) = false := decide_eq_false c4
        clear c4
        obtain rfl := Option.some.inj H
        obtain ⟨Ao16, co16, eo16⟩ := Kd.R_slice HO_0.out
        subst eo16
        go_wp2
        go_ret
        exact ⟨_, by first | rfl | (simp [errW_none, errW_some] <;> rfl) | (simp [*, errW_none, errW_some] <;> rfl), by (with_reducible repeat (first | apply Kd.R_alloc | apply Kd.R_drewN | apply Kd.R_drew)); exact HO_0.out, by repeat (first | (with_reducible first | exact HB.out | apply below_alloc | apply pw_below_drewN | apply below_drew1 | refine below_set ?_ GE201.out) | exact HB.out), by repeat (first | (with_reducible first | exact HK.out | apply Kept.alloc | apply Kept.drewN | apply Kept.drew | refine Kept.setCell ?_ (.inr GW201.out) _) | exact HK.out)⟩

-- NOT PRINTED: function 23 (rundleref09_Parts)

-- NOT PRINTED: function 5 (rundlelaw09_BatchWithin)

-- NOT PRINTED: function 6 (rundlelaw09_BatchParts)

-- NOT PRINTED: function 4 (rundlelaw09_BatchBounds)

end Go.Proofs.Ytgnnhomipfjanaa.PA
