/- Functions with the same answers as the Go functions named, and that the Go code comes to just these; written by a program of this work, out of the kit's print. -/
import Derived.Test.YtlkbeddlmbghkaaGreatDoorPRx0
import Derived.Test.YtlkbeddlmbghkaaGreatDoorPRx1
import Derived.Test.YtlkbeddlmbghkaaGreatDoorPRx4
import Derived.Test.YtlkbeddlmbghkaaGreatDoorPRx9
import Derived.Test.YtlkbeddlmbghkaaGreatDoorBox
namespace Go.Proofs.YtlkbeddlmbghkaaGreatDoor.PR
open Go.RowKit Go.Proofs.YtlkbeddlmbghkaaGreatDoorW.PrintWords Go.Proofs.YtlkbeddlmbghkaaGreatDoorW.PrintLast Go.Proofs.YtlkbeddlmbghkaaGreatDoorW.PrintMore
attribute [local go_sem] Wd.one Wd.run_store Go.Lib.run_max_strs max2_int min2_int max_two min_two max_three min_three max_four min_four   -- for this text's walks alone
set_option linter.unusedVariables false
set_option linter.unusedSimpArgs false

attribute [local go_sem high] eqA28
/-! ### rundlelaw03_Same: function 14 -/
def rundlelaw03_Same.l0 : Nat → List (S49) → List (S28) → Int → Option (Int)
  | 0, _, _, _ => none
  | k + 1, x0, x1, x5 => if x5 < (x0.length : Int) then (if 0 ≤ x5 then ((rundlelaw02_Plain.f ((rd_T49 x0 x5).f0)).bind fun bt269 => (if x5 < (x1.length : Int) then (if (!(bt269.1 == ((rd_T28 x1 x5).f0)) || (!(bt269.2.1 == ((rd_T28 x1 x5).f1)) || (!(bt269.2.2.toList == (((rd_T28 x1 x5).f2).toList))))) = true then (some 0) else (rundlelaw03_Same.l0 k x0 x1 (wrap64 (x5 + 1)))) else (none))) else (none)) else (some 1)
def rundlelaw03_Same.f (k : Nat) (l0 : List (S49)) (l1 : List (S28)) : Option (Int) := if (l0.length : Int) = (l1.length : Int) then (rundlelaw03_Same.l0 k l0 l1 0) else (some 0)
theorem rundlelaw03_Same.mono_l : ∀ k, (∀ y0 y1 y2, LeO (rundlelaw03_Same.l0 k y0 y1 y2) (rundlelaw03_Same.l0 (k + 1) y0 y1 y2))
  | 0 => fun _ _ _ r h => by simp [rundlelaw03_Same.l0] at h
  | k + 1 => by
    have ih0 := rundlelaw03_Same.mono_l k
    · intro y0 y1 y2
      unfold rundlelaw03_Same.l0
      repeat' first
      | (with_reducible exact ih0 _ _ _)
      | (with_reducible exact LeO.refl _)
      | (with_reducible exact LeO.none _)
      | (with_reducible refine LeO.ite ?_ ?_)
      | (with_reducible refine LeO.bind ?_ (fun _ => ?_))
      | exact ih0 _ _ _
      | exact LeO.none _
      | refine LeO.ite ?_ ?_
      | refine LeO.bind ?_ (fun _ => ?_)
theorem rundlelaw03_Same.mono : ∀ a0 a1 k, LeO (rundlelaw03_Same.f k a0 a1) (rundlelaw03_Same.f (k + 1) a0 a1) := by
  intro a0 a1 k
  have ih0 := rundlelaw03_Same.mono_l k
  unfold rundlelaw03_Same.f
  repeat' first
      | (with_reducible exact ih0 _ _ _)
      | (with_reducible exact LeO.refl _)
      | (with_reducible exact LeO.none _)
      | (with_reducible refine LeO.ite ?_ ?_)
      | (with_reducible refine LeO.bind ?_ (fun _ => ?_))
      | exact ih0 _ _ _
      | exact LeO.none _
      | refine LeO.ite ?_ ?_
      | refine LeO.bind ?_ (fun _ => ?_)
def rundlelaw03_Same.T6 : Bool × List (List Nat × List Nat) := (true, [([], []), ([], []), ([0, 1], [0, 1]), ([2], [2]), ([3], [3]), ([], []), ([], []), ([5, 6], [5, 6]), ([7], [7]), ([4, 8], [4, 8])])
def rundlelaw03_Same.B6 : List Nat := [0, 0, 3, 7, 15, 0, 0, 96, 224, 511]
theorem rundlelaw03_Same.tab6 : rtab .any (opsOf Tryz.f14 6) = rundlelaw03_Same.T6 := by kernel_rfl
theorem rundlelaw03_Same.bits6 : waitsOk rundlelaw03_Same.T6.2 rundlelaw03_Same.B6 = true := by kernel_rfl
set_option maxHeartbeats 8000000 in
set_option maxRecDepth 100000 in
theorem rundlelaw03_Same.calls (k : Nat) (A0 : Option Addr) (c0 : Nat) (l0 : List (S49)) (A1 : Option Addr) (c1 : Nat) (l1 : List (S28)) (r : Int) (w : World) (hr0 : Kd.C k49 w A0 l0.length l0) (hc0 : l0.length ≤ c0) (hr1 : Kd.C k28 w A1 l1.length l1) (hc1 : l1.length ≤ c1) (h : rundlelaw03_Same.f k l0 l1 = some r) :
    Calls Tryz.prog 14 #[.slice A0 l0.length c0, .slice A1 l1.length c1] w fun e w' => e = .returned (.int .i64 r) ∧ Below w.heap.size w w' := by
  have hu49 := Tryz.underlying49
  have hu28 := Tryz.underlying28
  have HR0 := Aside0.mk hr0
  have HC0 := Aside0.mk hc0
  clear hr0 hc0
  have HR1 := Aside0.mk hr1
  have HC1 := Aside0.mk hc1
  clear hr1 hc1
  have HB := Aside0.mk (Below.refl w.heap.size w)
  have H : (if (l0.length : Int) = (l1.length : Int) then (rundlelaw03_Same.l0 k l0 l1 0) else (some 0)) = some r := h
  clear h
  by_cases c3 : (l0.length : Int) = (l1.length : Int)
  · rw [if_pos c3] at H
    have c3b0 : ((l0.length : Int) == (l1.length : Int)) = true := beq_iff_eq.mpr c3
    have c3b1 : ((l0.length : Int) != (l1.length : Int)) = false := bne_eq_false_iff_eq.mpr c3
    have c3b2 : (l0.length == l1.length) = true := by first | simpa using c3 | (simp at c3 ⊢; omega)
    clear c3
    have H' := Aside0.mk H
    clear H
    go_enter Tryz.func14, Tryz.ntmps14
    go_wp2
    go_loopg [5] k (fun kq v5 w' => ∃ (x5_1 : Int), v5 = .int .i64 x5_1 ∧ Aside0 (rundlelaw03_Same.l0 kq l0 l1 x5_1 = some r) ∧ Aside0 (kq ≤ k) ∧ Aside0 (Below w.heap.size w w'))
    case atStart => exact ⟨(0), (by first | rfl | (simp; done) | (simp [*]; done)), H', ⟨Nat.le_refl _⟩, ⟨by repeat (first | (with_reducible first | exact HB.out | apply below_alloc | apply pw_below_drewN | apply below_drew1) | exact HB.out)⟩⟩
    case round =>
      clear H'
      try clear c1
      try clear p2
      try clear c3
      try clear c3b0
      try clear c3b1
      try clear c3b2
      obtain ⟨x5_1, rfl, HA, HK1, HB⟩ := hrel
      cases gk with
      | zero => exact absurd HA.out (by simp [rundlelaw03_Same.l0])
      | succ k1 =>
        have H := HA.out
        clear HA
        simp only [rundlelaw03_Same.l0] at H
        by_cases c4 : x5_1 < (l0.length : Int)
        · rw [if_pos c4] at H
          have c4b0 : decide (x5_1 < (l0.length : Int)) = true := decide_eq_true c4
          clear c4
          by_cases c5 : 0 ≤ x5_1
          · rw [if_pos c5] at H
            have c5b0 : decide (0 ≤ x5_1) = true := decide_eq_true c5
            clear c5
            replace H := Option.bind_eq_some_iff.mp H
            obtain ⟨⟨t269, t270, t271⟩, A60, H⟩ := H
            replace H : (if x5_1 < (l1.length : Int) then (if (!(t269 == ((rd_T28 l1 x5_1).f0)) || (!(t270 == ((rd_T28 l1 x5_1).f1)) || (!(t271.toList == (((rd_T28 l1 x5_1).f2).toList))))) = true then (some 0) else (rundlelaw03_Same.l0 k1 l0 l1 (wrap64 (x5_1 + 1)))) else (none)) = some r := H
            have A6 := Aside0.mk A60
            clear A60
            by_cases c7 : x5_1 < (l1.length : Int)
            · rw [if_pos c7] at H
              have c7b0 : decide (x5_1 < (l1.length : Int)) = true := decide_eq_true c7
              clear c7
              by_cases c8 : (!(t269 == ((rd_T28 l1 x5_1).f0)) || (!(t270 == ((rd_T28 l1 x5_1).f1)) || (!(t271.toList == (((rd_T28 l1 x5_1).f2).toList))))) = true
              · rw [if_pos c8] at H
                have c8b0 : (!(t269 == ((rd_T28 l1 x5_1).f0)) || (!(t270 == ((rd_T28 l1 x5_1).f1)) || (!(t271.toList == (((rd_T28 l1 x5_1).f2).toList))))) = true := c8
                clear c8
                obtain rfl := Option.some.inj H
                try go_wp2
                have n0_ := Aside0.mk (below_drew1 HB.out)
                clear HB
                have HB := n0_
                clear n0_
                have p268 : 0 ≤ (x5_1 : Int) := of_decide_eq_true (by first | (with_reducible assumption) | assumption)
                have q268 : x5_1 < (l0.length : Int) := of_decide_eq_true (by first | (with_reducible assumption) | assumption)
                obtain ⟨ad268, e268, hx268_0⟩ := at_T49 HR0.out x5_1 p268 q268
                have hw268_0 := hx268_0
                cases e268
                replace hx268_0 := (HB.out.cell (World.block_lt_of_cell? w _ hx268_0)).trans hx268_0
                replace p268 := eq_true p268
                replace q268 := eq_true q268
                have p272 : 0 ≤ (x5_1 : Int) := of_decide_eq_true (by first | (with_reducible assumption) | assumption)
                have q272 : x5_1 < (l1.length : Int) := of_decide_eq_true (by first | (with_reducible assumption) | assumption)
                obtain ⟨ad272, e272, hx272_0, hx272_1, hx272_2⟩ := at_T28 HR1.out x5_1 p272 q272
                have hw272_2 := hx272_2
                have hw272_1 := hx272_1
                have hw272_0 := hx272_0
                cases e272
                replace hx272_0 := (HB.out.cell (World.block_lt_of_cell? w _ hx272_0)).trans hx272_0
                replace hx272_1 := (HB.out.cell (World.block_lt_of_cell? w _ hx272_1)).trans hx272_1
                replace hx272_2 := (HB.out.cell (World.block_lt_of_cell? w _ hx272_2)).trans hx272_2
                replace p272 := eq_true p272
                replace q272 := eq_true q272
                refine start_ (n := 10) (S := fun w' => w'.cell? (ad268.add (x5_1).toNat) = some (Wd.v ((rd_T49 l0 x5_1).f0)) ∧ w'.cell? (ad272.add ((x5_1).toNat * 3)) = some (.int .i64 ((rd_T28 l1 x5_1).f0)) ∧ w'.cell? ⟨(ad272.add ((x5_1).toNat * 3)).block, (ad272.add ((x5_1).toNat * 3)).off + 1, none⟩ = some (.int .i64 ((rd_T28 l1 x5_1).f1)) ∧ w'.cell? ⟨(ad272.add ((x5_1).toNat * 3)).block, (ad272.add ((x5_1).toNat * 3)).off + 2, none⟩ = some (.string ((rd_T28 l1 x5_1).f2))) (ds := []) #[false, false, false, false, false, false, false, false, false, false] (by kernel_rfl) rfl rfl ⟨((HB.out.cell (World.block_lt_of_cell? w _ hw268_0)).trans hw268_0), ((HB.out.cell (World.block_lt_of_cell? w _ hw272_0)).trans hw272_0), ((HB.out.cell (World.block_lt_of_cell? w _ hw272_1)).trans hw272_1), ((HB.out.cell (World.block_lt_of_cell? w _ hw272_2)).trans hw272_2)⟩ (fun hHeld => ?_); refine with_tabW rundlelaw03_Same.tab6 rundlelaw03_Same.bits6 (fun HT_ HW_ => ?_)
                generalize wr.drew = w9 at HB hx268_0 hx272_0 hx272_1 hx272_2 hHeld ⊢
                refine pure_ (i := 0) (N := some 17) (v := ?_) (a' := ?_) #[true, false, false, false, false, false, false, false, false, false] rfl rfl (any_of HT_.out (by kernel_rfl)) (fun _ _ _ h => h) (Or.inl ⟨by rfl, ?_⟩) ?_ ?_
                rotate_left
                · intro w'
                  go_simp
                  with_reducible rfl
                rotate_left
                · simp only [Act.put, List.setIfInBounds_toArray, List.set_cons_zero, List.set_cons_succ, i64_w, i32_w]
                  rfl
                refine pure_ (i := 1) (N := some 18) (v := ?_) (a' := ?_) #[true, true, false, false, false, false, false, false, false, false] rfl rfl (any_of HT_.out (by kernel_rfl)) (fun _ _ _ h => h) (Or.inl ⟨by rfl, ?_⟩) ?_ ?_
                rotate_left
                · intro w'
                  go_simp
                  with_reducible rfl
                rotate_left
                · simp only [Act.put, List.setIfInBounds_toArray, List.set_cons_zero, List.set_cons_succ, i64_w, i32_w]
                  rfl
                refine pure_ (i := 2) (N := some 19) (v := ?_) (a' := ?_) #[true, true, true, false, false, false, false, false, false, false] rfl rfl (any_of HT_.out (by kernel_rfl)) (fun _ _ _ h => h) (Or.inl ⟨by rfl, ?_⟩) ?_ ?_
                rotate_left
                · intro w'
                  go_simp
                  with_reducible rfl
                rotate_left
                · simp only [Act.put, List.setIfInBounds_toArray, List.set_cons_zero, List.set_cons_succ, i64_w, i32_w]
                  rfl
                refine pure_ (i := 5) (N := some 22) (v := ?_) (a' := ?_) #[true, true, true, false, false, true, false, false, false, false] rfl rfl (any_of HT_.out (by kernel_rfl)) (fun _ _ _ h => h) (Or.inl ⟨by rfl, ?_⟩) ?_ ?_
                rotate_left
                · intro w'
                  go_simp
                  with_reducible rfl
                rotate_left
                · simp only [Act.put, List.setIfInBounds_toArray, List.set_cons_zero, List.set_cons_succ, i64_w, i32_w]
                  rfl
                refine pure_ (i := 6) (N := some 23) (v := ?_) (a' := ?_) #[true, true, true, false, false, true, true, false, false, false] rfl rfl (any_of HT_.out (by kernel_rfl)) (fun _ _ _ h => h) (Or.inl ⟨by rfl, ?_⟩) ?_ ?_
                rotate_left
                · intro w'
                  go_simp
                  with_reducible rfl
                rotate_left
                · simp only [Act.put, List.setIfInBounds_toArray, List.set_cons_zero, List.set_cons_succ, i64_w, i32_w]
                  rfl
                refine pure_ (i := 7) (N := some 24) (v := ?_) (a' := ?_) #[true, true, true, false, false, true, true, true, false, false] rfl rfl (any_of HT_.out (by kernel_rfl)) (fun _ _ _ h => h) (Or.inl ⟨by rfl, ?_⟩) ?_ ?_
                rotate_left
                · intro w'
                  go_simp
                  with_reducible rfl
                rotate_left
                · simp only [Act.put, List.setIfInBounds_toArray, List.set_cons_zero, List.set_cons_succ, i64_w, i32_w]
                  rfl
                refine take_ (i := 3) (N := some 20) (v := ?_) (a' := ?_) #[true, true, true, true, false, true, true, true, false, false] rfl rfl (take_ofW HT_.out HW_.out (by kernel_rfl)) (fun _ _ _ h => h) (Or.inl ⟨by rfl, ?_⟩) hHeld ?_ ?_
                rotate_left
                · rintro w' ⟨s0, s1, s2, s3⟩
                  go_simp
                  with_reducible rfl
                rotate_left
                · simp only [Act.put, List.setIfInBounds_toArray, List.set_cons_zero, List.set_cons_succ, i64_w, i32_w]
                  rfl
                refine take_ (i := 8) (N := some 25) (v := ?_) (a' := ?_) #[true, true, true, true, false, true, true, true, true, false] rfl rfl (take_ofW HT_.out HW_.out (by kernel_rfl)) (fun _ _ _ h => h) (Or.inl ⟨by rfl, ?_⟩) hHeld ?_ ?_
                rotate_left
                · rintro w' ⟨s0, s1, s2, s3⟩
                  go_simp
                  with_reducible rfl
                rotate_left
                · simp only [Act.put, List.setIfInBounds_toArray, List.set_cons_zero, List.set_cons_succ, i64_w, i32_w]
                  rfl
                refine one_ (i := 4) (N := some 21) #[true, true, true, true, true, true, true, true, true, false] rfl rfl (one_of HT_.out (by kernel_rfl)) (by decide) (fun K hK => ?_)
                refine goes_ Tryz.func41 (by kernel_rfl) rfl #[.agg #[Wd.v ((rd_T49 l0 x5_1).f0)]] (by rfl) rfl rfl (by (try simp only [List.map_toArray, List.map_cons, List.map_nil]); first | done | rfl | (simp only [List.length_drop, List.length_take]; rfl)) ?_
                with_reducible refine (rundlelaw02_Plain.calls ((rd_T49 l0 x5_1).f0) t269 t270 t271 _ A6.out).mono ?_
                rintro e w10 ⟨rfl, hb⟩
                refine ⟨_, rfl, ?_⟩
                have n0_ := Aside0.mk (below_step (by repeat (first | (with_reducible first | exact HB.out | apply below_alloc | apply pw_below_drewN | apply below_drew1) | exact HB.out)) hb)
                clear HB
                have HB := n0_
                clear n0_
                (try clear hb)
                (try clear hb2)
                (try clear hk)
                (try clear hi)
                refine hK.out _ _ ⟨((HB.out.cell (World.block_lt_of_cell? w _ hw268_0)).trans hw268_0), ((HB.out.cell (World.block_lt_of_cell? w _ hw272_0)).trans hw272_0), ((HB.out.cell (World.block_lt_of_cell? w _ hw272_1)).trans hw272_1), ((HB.out.cell (World.block_lt_of_cell? w _ hw272_2)).trans hw272_2)⟩ (fun hHeld => ?_)
                clear hK K
                refine norm_ (a' := ?_) ?_ ?_
                rotate_left
                · show Act.put _ (some 21) _ = _
                  simp only [Act.put, List.setIfInBounds_toArray, List.set_cons_zero, List.set_cons_succ, i64_w, i32_w]
                  rfl
                refine pure_ (i := 9) (N := some 26) (v := ?_) (a' := ?_) #[true, true, true, true, true, true, true, true, true, true] rfl rfl (any_of HT_.out (by kernel_rfl)) (fun _ _ _ h => h) (Or.inl ⟨by rfl, ?_⟩) ?_ ?_
                rotate_left
                · intro w'
                  go_simp
                  with_reducible rfl
                rotate_left
                · simp only [Act.put, List.setIfInBounds_toArray, List.set_cons_zero, List.set_cons_succ, i64_w, i32_w]
                  rfl
                refine done_ (done_of HT_.out (by kernel_rfl)) ?_
                try go_wp2
                go_ret
                exact ⟨by first | rfl | (simp [errW_none, errW_some] <;> rfl) | (simp [*, errW_none, errW_some] <;> rfl), by repeat (first | (with_reducible first | exact HB.out | apply below_alloc | apply pw_below_drewN | apply below_drew1) | exact HB.out)⟩
              · rw [if_neg c8] at H
                have c8b0 : (!(t269 == ((rd_T28 l1 x5_1).f0)) || (!(t270 == ((rd_T28 l1 x5_1).f1)) || (!(t271.toList == (((rd_T28 l1 x5_1).f2).toList))))) = false := by simpa using c8
                clear c8
                have H' := Aside0.mk H
                clear H
                try go_wp2
                have n0_ := Aside0.mk (below_drew1 HB.out)
                clear HB
                have HB := n0_
                clear n0_
                have p268 : 0 ≤ (x5_1 : Int) := of_decide_eq_true (by first | (with_reducible assumption) | assumption)
                have q268 : x5_1 < (l0.length : Int) := of_decide_eq_true (by first | (with_reducible assumption) | assumption)
                obtain ⟨ad268, e268, hx268_0⟩ := at_T49 HR0.out x5_1 p268 q268
                have hw268_0 := hx268_0
                cases e268
                replace hx268_0 := (HB.out.cell (World.block_lt_of_cell? w _ hx268_0)).trans hx268_0
                replace p268 := eq_true p268
                replace q268 := eq_true q268
                have p272 : 0 ≤ (x5_1 : Int) := of_decide_eq_true (by first | (with_reducible assumption) | assumption)
                have q272 : x5_1 < (l1.length : Int) := of_decide_eq_true (by first | (with_reducible assumption) | assumption)
                obtain ⟨ad272, e272, hx272_0, hx272_1, hx272_2⟩ := at_T28 HR1.out x5_1 p272 q272
                have hw272_2 := hx272_2
                have hw272_1 := hx272_1
                have hw272_0 := hx272_0
                cases e272
                replace hx272_0 := (HB.out.cell (World.block_lt_of_cell? w _ hx272_0)).trans hx272_0
                replace hx272_1 := (HB.out.cell (World.block_lt_of_cell? w _ hx272_1)).trans hx272_1
                replace hx272_2 := (HB.out.cell (World.block_lt_of_cell? w _ hx272_2)).trans hx272_2
                replace p272 := eq_true p272
                replace q272 := eq_true q272
                refine start_ (n := 10) (S := fun w' => w'.cell? (ad268.add (x5_1).toNat) = some (Wd.v ((rd_T49 l0 x5_1).f0)) ∧ w'.cell? (ad272.add ((x5_1).toNat * 3)) = some (.int .i64 ((rd_T28 l1 x5_1).f0)) ∧ w'.cell? ⟨(ad272.add ((x5_1).toNat * 3)).block, (ad272.add ((x5_1).toNat * 3)).off + 1, none⟩ = some (.int .i64 ((rd_T28 l1 x5_1).f1)) ∧ w'.cell? ⟨(ad272.add ((x5_1).toNat * 3)).block, (ad272.add ((x5_1).toNat * 3)).off + 2, none⟩ = some (.string ((rd_T28 l1 x5_1).f2))) (ds := []) #[false, false, false, false, false, false, false, false, false, false] (by kernel_rfl) rfl rfl ⟨((HB.out.cell (World.block_lt_of_cell? w _ hw268_0)).trans hw268_0), ((HB.out.cell (World.block_lt_of_cell? w _ hw272_0)).trans hw272_0), ((HB.out.cell (World.block_lt_of_cell? w _ hw272_1)).trans hw272_1), ((HB.out.cell (World.block_lt_of_cell? w _ hw272_2)).trans hw272_2)⟩ (fun hHeld => ?_); refine with_tabW rundlelaw03_Same.tab6 rundlelaw03_Same.bits6 (fun HT_ HW_ => ?_)
                generalize wr.drew = w11 at HB hx268_0 hx272_0 hx272_1 hx272_2 hHeld ⊢
                refine pure_ (i := 0) (N := some 17) (v := ?_) (a' := ?_) #[true, false, false, false, false, false, false, false, false, false] rfl rfl (any_of HT_.out (by kernel_rfl)) (fun _ _ _ h => h) (Or.inl ⟨by rfl, ?_⟩) ?_ ?_
                rotate_left
                · intro w'
                  go_simp
                  with_reducible rfl
                rotate_left
                · simp only [Act.put, List.setIfInBounds_toArray, List.set_cons_zero, List.set_cons_succ, i64_w, i32_w]
                  rfl
                refine pure_ (i := 1) (N := some 18) (v := ?_) (a' := ?_) #[true, true, false, false, false, false, false, false, false, false] rfl rfl (any_of HT_.out (by kernel_rfl)) (fun _ _ _ h => h) (Or.inl ⟨by rfl, ?_⟩) ?_ ?_
                rotate_left
                · intro w'
                  go_simp
                  with_reducible rfl
                rotate_left
                · simp only [Act.put, List.setIfInBounds_toArray, List.set_cons_zero, List.set_cons_succ, i64_w, i32_w]
                  rfl
                refine pure_ (i := 2) (N := some 19) (v := ?_) (a' := ?_) #[true, true, true, false, false, false, false, false, false, false] rfl rfl (any_of HT_.out (by kernel_rfl)) (fun _ _ _ h => h) (Or.inl ⟨by rfl, ?_⟩) ?_ ?_
                rotate_left
                · intro w'
                  go_simp
                  with_reducible rfl
                rotate_left
                · simp only [Act.put, List.setIfInBounds_toArray, List.set_cons_zero, List.set_cons_succ, i64_w, i32_w]
                  rfl
                refine pure_ (i := 5) (N := some 22) (v := ?_) (a' := ?_) #[true, true, true, false, false, true, false, false, false, false] rfl rfl (any_of HT_.out (by kernel_rfl)) (fun _ _ _ h => h) (Or.inl ⟨by rfl, ?_⟩) ?_ ?_
                rotate_left
                · intro w'
                  go_simp
                  with_reducible rfl
                rotate_left
                · simp only [Act.put, List.setIfInBounds_toArray, List.set_cons_zero, List.set_cons_succ, i64_w, i32_w]
                  rfl
                refine pure_ (i := 6) (N := some 23) (v := ?_) (a' := ?_) #[true, true, true, false, false, true, true, false, false, false] rfl rfl (any_of HT_.out (by kernel_rfl)) (fun _ _ _ h => h) (Or.inl ⟨by rfl, ?_⟩) ?_ ?_
                rotate_left
                · intro w'
                  go_simp
                  with_reducible rfl
                rotate_left
                · simp only [Act.put, List.setIfInBounds_toArray, List.set_cons_zero, List.set_cons_succ, i64_w, i32_w]
                  rfl
                refine pure_ (i := 7) (N := some 24) (v := ?_) (a' := ?_) #[true, true, true, false, false, true, true, true, false, false] rfl rfl (any_of HT_.out (by kernel_rfl)) (fun _ _ _ h => h) (Or.inl ⟨by rfl, ?_⟩) ?_ ?_
                rotate_left
                · intro w'
                  go_simp
                  with_reducible rfl
                rotate_left
                · simp only [Act.put, List.setIfInBounds_toArray, List.set_cons_zero, List.set_cons_succ, i64_w, i32_w]
                  rfl
                refine take_ (i := 3) (N := some 20) (v := ?_) (a' := ?_) #[true, true, true, true, false, true, true, true, false, false] rfl rfl (take_ofW HT_.out HW_.out (by kernel_rfl)) (fun _ _ _ h => h) (Or.inl ⟨by rfl, ?_⟩) hHeld ?_ ?_
                rotate_left
                · rintro w' ⟨s0, s1, s2, s3⟩
                  go_simp
                  with_reducible rfl
                rotate_left
                · simp only [Act.put, List.setIfInBounds_toArray, List.set_cons_zero, List.set_cons_succ, i64_w, i32_w]
                  rfl
                refine take_ (i := 8) (N := some 25) (v := ?_) (a' := ?_) #[true, true, true, true, false, true, true, true, true, false] rfl rfl (take_ofW HT_.out HW_.out (by kernel_rfl)) (fun _ _ _ h => h) (Or.inl ⟨by rfl, ?_⟩) hHeld ?_ ?_
                rotate_left
                · rintro w' ⟨s0, s1, s2, s3⟩
                  go_simp
                  with_reducible rfl
                rotate_left
                · simp only [Act.put, List.setIfInBounds_toArray, List.set_cons_zero, List.set_cons_succ, i64_w, i32_w]
                  rfl
                refine one_ (i := 4) (N := some 21) #[true, true, true, true, true, true, true, true, true, false] rfl rfl (one_of HT_.out (by kernel_rfl)) (by decide) (fun K hK => ?_)
                refine goes_ Tryz.func41 (by kernel_rfl) rfl #[.agg #[Wd.v ((rd_T49 l0 x5_1).f0)]] (by rfl) rfl rfl (by (try simp only [List.map_toArray, List.map_cons, List.map_nil]); first | done | rfl | (simp only [List.length_drop, List.length_take]; rfl)) ?_
                with_reducible refine (rundlelaw02_Plain.calls ((rd_T49 l0 x5_1).f0) t269 t270 t271 _ A6.out).mono ?_
                rintro e w12 ⟨rfl, hb⟩
                refine ⟨_, rfl, ?_⟩
                have n0_ := Aside0.mk (below_step (by repeat (first | (with_reducible first | exact HB.out | apply below_alloc | apply pw_below_drewN | apply below_drew1) | exact HB.out)) hb)
                clear HB
                have HB := n0_
                clear n0_
                (try clear hb)
                (try clear hb2)
                (try clear hk)
                (try clear hi)
                refine hK.out _ _ ⟨((HB.out.cell (World.block_lt_of_cell? w _ hw268_0)).trans hw268_0), ((HB.out.cell (World.block_lt_of_cell? w _ hw272_0)).trans hw272_0), ((HB.out.cell (World.block_lt_of_cell? w _ hw272_1)).trans hw272_1), ((HB.out.cell (World.block_lt_of_cell? w _ hw272_2)).trans hw272_2)⟩ (fun hHeld => ?_)
                clear hK K
                refine norm_ (a' := ?_) ?_ ?_
                rotate_left
                · show Act.put _ (some 21) _ = _
                  simp only [Act.put, List.setIfInBounds_toArray, List.set_cons_zero, List.set_cons_succ, i64_w, i32_w]
                  rfl
                refine pure_ (i := 9) (N := some 26) (v := ?_) (a' := ?_) #[true, true, true, true, true, true, true, true, true, true] rfl rfl (any_of HT_.out (by kernel_rfl)) (fun _ _ _ h => h) (Or.inl ⟨by rfl, ?_⟩) ?_ ?_
                rotate_left
                · intro w'
                  go_simp
                  with_reducible rfl
                rotate_left
                · simp only [Act.put, List.setIfInBounds_toArray, List.set_cons_zero, List.set_cons_succ, i64_w, i32_w]
                  rfl
                refine done_ (done_of HT_.out (by kernel_rfl)) ?_
                try go_wp2
                go_roundg k1
                case measure => have := HK1.out; omega
                case rel => exact ⟨(wrap64 (x5_1 + 1)), (by first | rfl | (simp; done) | (simp [*]; done)), H', ⟨by have := HK1.out; omega⟩, ⟨by repeat (first | (with_reducible first | exact HB.out | apply below_alloc | apply pw_below_drewN | apply below_drew1) | exact HB.out)⟩⟩
            · rw [if_neg c7] at H
              exact absurd H (by simp)
          · rw [if_neg c5] at H
            exact absurd H (by simp)
        · rw [if_neg c4] at H
          have c4b0 : decide (x5_1 < (l0.length : Int)) = false := decide_eq_false c4
          clear c4
          obtain rfl := Option.some.inj H
          go_wp2
          go_ret
          exact ⟨by first | rfl | (simp [errW_none, errW_some] <;> rfl) | (simp [*, errW_none, errW_some] <;> rfl), by repeat (first | (with_reducible first | exact HB.out | apply below_alloc | apply pw_below_drewN | apply below_drew1) | exact HB.out)⟩
  · rw [if_neg c3] at H
    have c3b0 : ((l0.length : Int) == (l1.length : Int)) = false := beq_eq_false_iff_ne.mpr c3
    have c3b1 : ((l0.length : Int) != (l1.length : Int)) = true := bne_iff_ne.mpr c3
    have c3b2 : (l0.length == l1.length) = false := by first | simpa using c3 | (simp at c3 ⊢; omega)
    obtain rfl := Option.some.inj H
    go_enter Tryz.func14, Tryz.ntmps14
    go_wp2
    go_ret
    exact ⟨by first | rfl | (simp [errW_none, errW_some] <;> rfl) | (simp [*, errW_none, errW_some] <;> rfl), by repeat (first | (with_reducible first | exact HB.out | apply below_alloc | apply pw_below_drewN | apply below_drew1) | exact HB.out)⟩

/-! ### rundlelaw03_awake: function 9 -/
def rundlelaw03_awake.f (k : Nat)  : Option (Bool) := (lex_Lines.f k (⟨#[97, 32, 34, 98, 32, 99, 34, 32, 45, 55, 32, 35, 32, 100]⟩ : ByteArray)).bind fun bt273 => ((lex_Lines.f k (⟨#[48, 55]⟩ : ByteArray)).bind fun bt278 => (if bt273.2.2 = 0 then (if (bt273.1.length : Int) = 1 then (if 0 < (bt273.1.length : Int) then (if (((rd_T39 bt273.1 0).f1).length : Int) = 3 then (if 1 < (((rd_T39 bt273.1 0).f1).length : Int) then ((box_Kind.f ((rd_T49 ((rd_T39 bt273.1 0).f1) 1).f0)).bind fun t286 => (if t286 = 3 then (if bt278.2.2 = 7 then (some (bt278.2.1 == 1)) else (some false)) else (some false))) else (none)) else (some false)) else (none)) else (some false)) else (some false)))
theorem rundlelaw03_awake.mono : ∀ k, LeO (rundlelaw03_awake.f k ) (rundlelaw03_awake.f (k + 1) ) := by
  intro  k
  unfold rundlelaw03_awake.f
  repeat' first
      | (with_reducible exact lex_Lines.mono _ _)
      | (with_reducible exact LeO.refl _)
      | (with_reducible exact LeO.none _)
      | (with_reducible refine LeO.ite ?_ ?_)
      | (with_reducible refine LeO.bind ?_ (fun _ => ?_))
      | exact lex_Lines.mono _ _
      | exact LeO.none _
      | refine LeO.ite ?_ ?_
      | refine LeO.bind ?_ (fun _ => ?_)
set_option maxHeartbeats 8000000 in
set_option maxRecDepth 100000 in
theorem rundlelaw03_awake.calls (k : Nat)  (r : Bool) (w : World) (h : rundlelaw03_awake.f k  = some r) :
    Calls Tryz.prog 9 #[] w fun e w' => e = .returned (.bool r) ∧ Below w.heap.size w w' := by
  have hu49 := Tryz.underlying49
  have HB := Aside0.mk (Below.refl w.heap.size w)
  have H : ((lex_Lines.f k (⟨#[97, 32, 34, 98, 32, 99, 34, 32, 45, 55, 32, 35, 32, 100]⟩ : ByteArray)).bind fun bt273 => ((lex_Lines.f k (⟨#[48, 55]⟩ : ByteArray)).bind fun bt278 => (if bt273.2.2 = 0 then (if (bt273.1.length : Int) = 1 then (if 0 < (bt273.1.length : Int) then (if (((rd_T39 bt273.1 0).f1).length : Int) = 3 then (if 1 < (((rd_T39 bt273.1 0).f1).length : Int) then ((box_Kind.f ((rd_T49 ((rd_T39 bt273.1 0).f1) 1).f0)).bind fun t286 => (if t286 = 3 then (if bt278.2.2 = 7 then (some (bt278.2.1 == 1)) else (some false)) else (some false))) else (none)) else (some false)) else (none)) else (some false)) else (some false)))) = some r := h
  clear h
  replace H := Option.bind_eq_some_iff.mp H
  obtain ⟨⟨t273, t274, t275⟩, A10, H⟩ := H
  replace H : ((lex_Lines.f k (⟨#[48, 55]⟩ : ByteArray)).bind fun bt278 => (if t275 = 0 then (if (t273.length : Int) = 1 then (if 0 < (t273.length : Int) then (if (((rd_T39 t273 0).f1).length : Int) = 3 then (if 1 < (((rd_T39 t273 0).f1).length : Int) then ((box_Kind.f ((rd_T49 ((rd_T39 t273 0).f1) 1).f0)).bind fun t286 => (if t286 = 3 then (if bt278.2.2 = 7 then (some (bt278.2.1 == 1)) else (some false)) else (some false))) else (none)) else (some false)) else (none)) else (some false)) else (some false))) = some r := H
  have A1 := Aside0.mk A10
  clear A10
  replace H := Option.bind_eq_some_iff.mp H
  obtain ⟨⟨t278, t279, t280⟩, A20, H⟩ := H
  replace H : (if t275 = 0 then (if (t273.length : Int) = 1 then (if 0 < (t273.length : Int) then (if (((rd_T39 t273 0).f1).length : Int) = 3 then (if 1 < (((rd_T39 t273 0).f1).length : Int) then ((box_Kind.f ((rd_T49 ((rd_T39 t273 0).f1) 1).f0)).bind fun t286 => (if t286 = 3 then (if t280 = 7 then (some (t279 == 1)) else (some false)) else (some false))) else (none)) else (some false)) else (none)) else (some false)) else (some false)) = some r := H
  have A2 := Aside0.mk A20
  clear A20
  by_cases c3 : t275 = 0
  · rw [if_pos c3] at H
    have c3b0 : (t275 == 0) = true := beq_iff_eq.mpr c3
    have c3b1 : (t275 != 0) = false := bne_eq_false_iff_eq.mpr c3
    clear c3
    by_cases c4 : (t273.length : Int) = 1
    · rw [if_pos c4] at H
      have c4b0 : ((t273.length : Int) == 1) = true := beq_iff_eq.mpr c4
      have c4b1 : ((t273.length : Int) != 1) = false := bne_eq_false_iff_eq.mpr c4
      clear c4
      by_cases c5 : 0 < (t273.length : Int)
      · rw [if_pos c5] at H
        have c5b0 : decide (0 < (t273.length : Int)) = true := decide_eq_true c5
        have c5b1 : decide (0 < t273.length) = true := decide_eq_true (by omega)
        clear c5
        by_cases c6 : (((rd_T39 t273 0).f1).length : Int) = 3
        · rw [if_pos c6] at H
          have c6b0 : ((((rd_T39 t273 0).f1).length : Int) == 3) = true := beq_iff_eq.mpr c6
          have c6b1 : ((((rd_T39 t273 0).f1).length : Int) != 3) = false := bne_eq_false_iff_eq.mpr c6
          clear c6
          by_cases c7 : 1 < (((rd_T39 t273 0).f1).length : Int)
          · rw [if_pos c7] at H
            have c7b0 : decide (1 < (((rd_T39 t273 0).f1).length : Int)) = true := decide_eq_true c7
            have c7b1 : decide (1 < ((rd_T39 t273 0).f1).length) = true := decide_eq_true (by omega)
            clear c7
            replace H := Option.bind_eq_some_iff.mp H
            obtain ⟨t286, A80, H⟩ := H
            replace H : (if t286 = 3 then (if t280 = 7 then (some (t279 == 1)) else (some false)) else (some false)) = some r := H
            have A8 := Aside0.mk A80
            clear A80
            by_cases c9 : t286 = 3
            · rw [if_pos c9] at H
              have c9b0 : (t286 == 3) = true := beq_iff_eq.mpr c9
              have c9b1 : (t286 != 3) = false := bne_eq_false_iff_eq.mpr c9
              clear c9
              by_cases c10 : t280 = 7
              · rw [if_pos c10] at H
                have c10b0 : (t280 == 7) = true := beq_iff_eq.mpr c10
                have c10b1 : (t280 != 7) = false := bne_eq_false_iff_eq.mpr c10
                clear c10
                obtain rfl := Option.some.inj H
                go_enter Tryz.func9, Tryz.ntmps9
                go_wp2_with (first | ((with_reducible refine gate_callee (f := 13) rfl ?_); refine goesL_ (some 8) rfl rfl Tryz.func13 (by kernel_rfl) rfl #[.string (⟨#[97, 32, 34, 98, 32, 99, 34, 32, 45, 55, 32, 35, 32, 100]⟩ : ByteArray)] rfl (by (try simp only [List.map_toArray, List.map_cons, List.map_nil]); first | done | rfl | (simp only [List.length_drop, List.length_take]; rfl)) ?_; (with_reducible refine (lex_Lines.calls k (⟨#[97, 32, 34, 98, 32, 99, 34, 32, 45, 55, 32, 35, 32, 100]⟩ : ByteArray) t273 t274 t275 _ A1.out).mono ?_); rintro e w11 ⟨v276, rfl, ho0, hb⟩; refine ⟨_, rfl, ?_⟩; have n0_ := Aside0.mk (Kd.S_lower ho0 (below_size (by repeat (first | (with_reducible first | exact HB.out | apply below_alloc | apply pw_below_drewN | apply below_drew1) | exact HB.out)))); have n1_ := Aside0.mk (below_step (by repeat (first | (with_reducible first | exact HB.out | apply below_alloc | apply pw_below_drewN | apply below_drew1) | exact HB.out)) hb); clear HB; have HO277 := n0_; have HB := n1_; clear n0_ n1_; (try clear hb); (try clear hb2); (try clear hk); (try clear hi); (try clear ho0)) | ((with_reducible refine gate_callee (f := 13) rfl ?_); refine goesL_ (some 13) rfl rfl Tryz.func13 (by kernel_rfl) rfl #[.string (⟨#[48, 55]⟩ : ByteArray)] rfl (by (try simp only [List.map_toArray, List.map_cons, List.map_nil]); first | done | rfl | (simp only [List.length_drop, List.length_take]; rfl)) ?_; (with_reducible refine (lex_Lines.calls k (⟨#[48, 55]⟩ : ByteArray) t278 t279 t280 _ A2.out).mono ?_); rintro e w12 ⟨v281, rfl, ho0, hb⟩; refine ⟨_, rfl, ?_⟩; have n0_ := Aside0.mk (Kd.S_elder' (by (with_reducible repeat (first | apply Kd.S_alloc | apply Kd.S_drewN | apply Kd.S_drew)); exact HO277.out) (Kd.S_base ho0) hb); have n1_ := Aside0.mk (Kd.S_lower (Kd.S_new' ho0 (Kd.S_lt (by (with_reducible repeat (first | apply Kd.S_alloc | apply Kd.S_drewN | apply Kd.S_drew)); exact HO277.out))) (below_size (by repeat (first | (with_reducible first | exact HB.out | apply below_alloc | apply pw_below_drewN | apply below_drew1) | exact HB.out)))); have n2_ := Aside0.mk (below_step (by repeat (first | (with_reducible first | exact HB.out | apply below_alloc | apply pw_below_drewN | apply below_drew1) | exact HB.out)) hb); clear HO277; clear HB; have HO277 := n0_; have HO282 := n1_; have HB := n2_; clear n0_ n1_ n2_; (try clear hb); (try clear hb2); (try clear hk); (try clear hi); (try clear ho0); obtain ⟨Ao13, co13, eo13⟩ := Kd.S_slice HO277.out; subst eo13; have p283 : 0 ≤ (0 : Int) := (by omega); have q283 : 0 < (t273.length : Int) := of_decide_eq_true (by first | (with_reducible assumption) | assumption); obtain ⟨ad283, A283_1, c283_1, e283, hx283_0, hx283_1, hl283_1, hi283_1⟩ := at_T39 (Kd.S_reads' HO277.out).2.2 0 p283 q283; cases e283; obtain ⟨ce283, hce283, hMe283, hcc283⟩ := Kd.S_get HO277.out z39 0 p283 (by first | exact q283 | exact of_decide_eq_true (by first | (with_reducible assumption) | assumption) | (have e_ := (Kd.S_reads' HO277.out).1; omega)); obtain ⟨ve283_1, rfl, ge283_1⟩ := k39_openM hMe283; have hv283_1 := hcc283 1 _ rfl; rw [add_field _ _ 1 (by omega)] at hv283_1; replace hv283_1 := Option.some.inj (hv283_1.symm.trans hx283_1); rw [hv283_1] at ge283_1; have HL283_1 := Aside0.mk (show Kd.R k49 49 _ _ _ _ ((rd_T39 t273 0).f1) from ge283_1); clear hv283_1 ge283_1; clear hcc283 hce283; have qi283 : (0 < t273.length) = True := eq_true (by omega); (try rw [show ((0 : Int)).toNat = 0 from rfl] at hx283_0); (try rw [show 0 * 2 = 0 from rfl] at hx283_0); (try rw [Addr.add_zero'] at hx283_0); (try rw [show ((0 : Int)).toNat = 0 from rfl] at hx283_1); (try rw [show 0 * 2 = 0 from rfl] at hx283_1); (try rw [Addr.add_zero'] at hx283_1); have HR283_1 := Aside0.mk hi283_1; have HC283_1 := Aside0.mk hl283_1; clear hi283_1 hl283_1; replace p283 := eq_true p283; replace q283 := eq_true q283; have p284 : 0 ≤ (0 : Int) := (by omega); have q284 : 0 < (t273.length : Int) := of_decide_eq_true (by first | (with_reducible assumption) | assumption); obtain ⟨ad284, A284_1, c284_1, e284, hx284_0, hx284_1, hl284_1, hi284_1⟩ := at_T39 (Kd.S_reads' HO277.out).2.2 0 p284 q284; obtain rfl : ad283 = ad284 := (by injection e284); obtain ⟨ce284, hce284, hMe284, hcc284⟩ := Kd.S_get HO277.out z39 0 p284 (by first | exact q284 | exact of_decide_eq_true (by first | (with_reducible assumption) | assumption) | (have e_ := (Kd.S_reads' HO277.out).1; omega)); obtain ⟨ve284_1, rfl, ge284_1⟩ := k39_openM hMe284; have hv284_1 := hcc284 1 _ rfl; rw [add_field _ _ 1 (by omega)] at hv284_1; replace hv284_1 := Option.some.inj (hv284_1.symm.trans hx284_1); rw [hv284_1] at ge284_1; have HL284_1 := Aside0.mk (show Kd.R k49 49 _ _ _ _ ((rd_T39 t273 0).f1) from ge284_1); clear hv284_1 ge284_1; clear hcc284 hce284; have qi284 : (0 < t273.length) = True := eq_true (by omega); (try rw [show ((0 : Int)).toNat = 0 from rfl] at hx284_0); (try rw [show 0 * 2 = 0 from rfl] at hx284_0); (try rw [Addr.add_zero'] at hx284_0); (try rw [show ((0 : Int)).toNat = 0 from rfl] at hx284_1); (try rw [show 0 * 2 = 0 from rfl] at hx284_1); (try rw [Addr.add_zero'] at hx284_1); have HR284_1 := Aside0.mk hi284_1; have HC284_1 := Aside0.mk hl284_1; clear hi284_1 hl284_1; replace p284 := eq_true p284; replace q284 := eq_true q284; have ea_ := Option.some.inj (hx283_1.symm.trans hx284_1); injection ea_ with ea_ en_ ec_; subst ea_; subst ec_; clear en_; have p285 : 0 ≤ (1 : Int) := (by omega); have q285 : 1 < (((rd_T39 t273 0).f1).length : Int) := of_decide_eq_true (by first | (with_reducible assumption) | assumption); obtain ⟨ad285, e285, hx285_0⟩ := at_T49 (by repeat (first | (with_reducible exact HR284_1.out) | (with_reducible refine Kd.C_alloc ?_ _) | (with_reducible refine Kd.C_drewN ?_ _) | (with_reducible refine Kd.C_drew ?_) | exact HR284_1.out)) 1 p285 q285; cases e285; (try simp only [show (1 : Int).toNat = 1 from rfl, Nat.reduceMul, Nat.reduceEqDiff, Go.Addr.add, ↓reduceIte] at hx285_0); have qi285 : (1 < ((rd_T39 t273 0).f1).length) = True := eq_true (by omega); (try rw [show ((1 : Int)).toNat = 1 from rfl] at hx285_0); replace p285 := eq_true p285; replace q285 := eq_true q285) | (go_at_call 32; (with_reducible refine (box_Kind.calls ((rd_T49 ((rd_T39 t273 0).f1) 1).f0) t286 _ A8.out).mono ?_); rintro e w14 ⟨rfl, hb⟩; have n0_ := Aside0.mk (Kd.S_below (by (with_reducible repeat (first | apply Kd.S_alloc | apply Kd.S_drewN | apply Kd.S_drew)); exact HO277.out) hb); have n1_ := Aside0.mk (Kd.S_below (by (with_reducible repeat (first | apply Kd.S_alloc | apply Kd.S_drewN | apply Kd.S_drew)); exact HO282.out) hb); have n2_ := Aside0.mk (Kd.R_below (by (with_reducible repeat (first | apply Kd.R_alloc | apply Kd.R_drewN | apply Kd.R_drew)); exact HL283_1.out) hb); have n3_ := Aside0.mk (Kd.R_below (by (with_reducible repeat (first | apply Kd.R_alloc | apply Kd.R_drewN | apply Kd.R_drew)); exact HL284_1.out) hb); have n4_ := Aside0.mk (Kd.C_below (by repeat (first | (with_reducible exact HR283_1.out) | (with_reducible refine Kd.C_alloc ?_ _) | (with_reducible refine Kd.C_drewN ?_ _) | (with_reducible refine Kd.C_drew ?_) | exact HR283_1.out)) hb); have n5_ := Aside0.mk (Kd.C_below (by repeat (first | (with_reducible exact HR284_1.out) | (with_reducible refine Kd.C_alloc ?_ _) | (with_reducible refine Kd.C_drewN ?_ _) | (with_reducible refine Kd.C_drew ?_) | exact HR284_1.out)) hb); have n6_ := Aside0.mk (below_step (by repeat (first | (with_reducible first | exact HB.out | apply below_alloc | apply pw_below_drewN | apply below_drew1) | exact HB.out)) hb); clear HO277; clear HO282; clear HL283_1; clear HL284_1; clear HR283_1; clear HR284_1; clear HB; have HO277 := n0_; have HO282 := n1_; have HL283_1 := n2_; have HL284_1 := n3_; have HR283_1 := n4_; have HR284_1 := n5_; have HB := n6_; clear n0_ n1_ n2_ n3_ n4_ n5_ n6_; (try clear hb); (try clear hb2); (try clear hk); (try clear hi)))
                go_ret
                exact ⟨by first | rfl | (simp [errW_none, errW_some] <;> rfl) | (simp [*, errW_none, errW_some] <;> rfl), by repeat (first | (with_reducible first | exact HB.out | apply below_alloc | apply pw_below_drewN | apply below_drew1) | exact HB.out)⟩
              · rw [if_neg c10] at H
                have c10b0 : (t280 == 7) = false := beq_eq_false_iff_ne.mpr c10
                have c10b1 : (t280 != 7) = true := bne_iff_ne.mpr c10
                obtain rfl := Option.some.inj H
                go_enter Tryz.func9, Tryz.ntmps9
                go_wp2_with (first | ((with_reducible refine gate_callee (f := 13) rfl ?_); refine goesL_ (some 8) rfl rfl Tryz.func13 (by kernel_rfl) rfl #[.string (⟨#[97, 32, 34, 98, 32, 99, 34, 32, 45, 55, 32, 35, 32, 100]⟩ : ByteArray)] rfl (by (try simp only [List.map_toArray, List.map_cons, List.map_nil]); first | done | rfl | (simp only [List.length_drop, List.length_take]; rfl)) ?_; (with_reducible refine (lex_Lines.calls k (⟨#[97, 32, 34, 98, 32, 99, 34, 32, 45, 55, 32, 35, 32, 100]⟩ : ByteArray) t273 t274 t275 _ A1.out).mono ?_); rintro e w15 ⟨v276, rfl, ho0, hb⟩; refine ⟨_, rfl, ?_⟩; have n0_ := Aside0.mk (Kd.S_lower ho0 (below_size (by repeat (first | (with_reducible first | exact HB.out | apply below_alloc | apply pw_below_drewN | apply below_drew1) | exact HB.out)))); have n1_ := Aside0.mk (below_step (by repeat (first | (with_reducible first | exact HB.out | apply below_alloc | apply pw_below_drewN | apply below_drew1) | exact HB.out)) hb); clear HB; have HO277 := n0_; have HB := n1_; clear n0_ n1_; (try clear hb); (try clear hb2); (try clear hk); (try clear hi); (try clear ho0)) | ((with_reducible refine gate_callee (f := 13) rfl ?_); refine goesL_ (some 13) rfl rfl Tryz.func13 (by kernel_rfl) rfl #[.string (⟨#[48, 55]⟩ : ByteArray)] rfl (by (try simp only [List.map_toArray, List.map_cons, List.map_nil]); first | done | rfl | (simp only [List.length_drop, List.length_take]; rfl)) ?_; (with_reducible refine (lex_Lines.calls k (⟨#[48, 55]⟩ : ByteArray) t278 t279 t280 _ A2.out).mono ?_); rintro e w16 ⟨v281, rfl, ho0, hb⟩; refine ⟨_, rfl, ?_⟩; have n0_ := Aside0.mk (Kd.S_elder' (by (with_reducible repeat (first | apply Kd.S_alloc | apply Kd.S_drewN | apply Kd.S_drew)); exact HO277.out) (Kd.S_base ho0) hb); have n1_ := Aside0.mk (Kd.S_lower (Kd.S_new' ho0 (Kd.S_lt (by (with_reducible repeat (first | apply Kd.S_alloc | apply Kd.S_drewN | apply Kd.S_drew)); exact HO277.out))) (below_size (by repeat (first | (with_reducible first | exact HB.out | apply below_alloc | apply pw_below_drewN | apply below_drew1) | exact HB.out)))); have n2_ := Aside0.mk (below_step (by repeat (first | (with_reducible first | exact HB.out | apply below_alloc | apply pw_below_drewN | apply below_drew1) | exact HB.out)) hb); clear HO277; clear HB; have HO277 := n0_; have HO282 := n1_; have HB := n2_; clear n0_ n1_ n2_; (try clear hb); (try clear hb2); (try clear hk); (try clear hi); (try clear ho0); obtain ⟨Ao17, co17, eo17⟩ := Kd.S_slice HO277.out; subst eo17; have p283 : 0 ≤ (0 : Int) := (by omega); have q283 : 0 < (t273.length : Int) := of_decide_eq_true (by first | (with_reducible assumption) | assumption); obtain ⟨ad283, A283_1, c283_1, e283, hx283_0, hx283_1, hl283_1, hi283_1⟩ := at_T39 (Kd.S_reads' HO277.out).2.2 0 p283 q283; cases e283; obtain ⟨ce283, hce283, hMe283, hcc283⟩ := Kd.S_get HO277.out z39 0 p283 (by first | exact q283 | exact of_decide_eq_true (by first | (with_reducible assumption) | assumption) | (have e_ := (Kd.S_reads' HO277.out).1; omega)); obtain ⟨ve283_1, rfl, ge283_1⟩ := k39_openM hMe283; have hv283_1 := hcc283 1 _ rfl; rw [add_field _ _ 1 (by omega)] at hv283_1; replace hv283_1 := Option.some.inj (hv283_1.symm.trans hx283_1); rw [hv283_1] at ge283_1; have HL283_1 := Aside0.mk (show Kd.R k49 49 _ _ _ _ ((rd_T39 t273 0).f1) from ge283_1); clear hv283_1 ge283_1; clear hcc283 hce283; have qi283 : (0 < t273.length) = True := eq_true (by omega); (try rw [show ((0 : Int)).toNat = 0 from rfl] at hx283_0); (try rw [show 0 * 2 = 0 from rfl] at hx283_0); (try rw [Addr.add_zero'] at hx283_0); (try rw [show ((0 : Int)).toNat = 0 from rfl] at hx283_1); (try rw [show 0 * 2 = 0 from rfl] at hx283_1); (try rw [Addr.add_zero'] at hx283_1); have HR283_1 := Aside0.mk hi283_1; have HC283_1 := Aside0.mk hl283_1; clear hi283_1 hl283_1; replace p283 := eq_true p283; replace q283 := eq_true q283; have p284 : 0 ≤ (0 : Int) := (by omega); have q284 : 0 < (t273.length : Int) := of_decide_eq_true (by first | (with_reducible assumption) | assumption); obtain ⟨ad284, A284_1, c284_1, e284, hx284_0, hx284_1, hl284_1, hi284_1⟩ := at_T39 (Kd.S_reads' HO277.out).2.2 0 p284 q284; obtain rfl : ad283 = ad284 := (by injection e284); obtain ⟨ce284, hce284, hMe284, hcc284⟩ := Kd.S_get HO277.out z39 0 p284 (by first | exact q284 | exact of_decide_eq_true (by first | (with_reducible assumption) | assumption) | (have e_ := (Kd.S_reads' HO277.out).1; omega)); obtain ⟨ve284_1, rfl, ge284_1⟩ := k39_openM hMe284; have hv284_1 := hcc284 1 _ rfl; rw [add_field _ _ 1 (by omega)] at hv284_1; replace hv284_1 := Option.some.inj (hv284_1.symm.trans hx284_1); rw [hv284_1] at ge284_1; have HL284_1 := Aside0.mk (show Kd.R k49 49 _ _ _ _ ((rd_T39 t273 0).f1) from ge284_1); clear hv284_1 ge284_1; clear hcc284 hce284; have qi284 : (0 < t273.length) = True := eq_true (by omega); (try rw [show ((0 : Int)).toNat = 0 from rfl] at hx284_0); (try rw [show 0 * 2 = 0 from rfl] at hx284_0); (try rw [Addr.add_zero'] at hx284_0); (try rw [show ((0 : Int)).toNat = 0 from rfl] at hx284_1); (try rw [show 0 * 2 = 0 from rfl] at hx284_1); (try rw [Addr.add_zero'] at hx284_1); have HR284_1 := Aside0.mk hi284_1; have HC284_1 := Aside0.mk hl284_1; clear hi284_1 hl284_1; replace p284 := eq_true p284; replace q284 := eq_true q284; have ea_ := Option.some.inj (hx283_1.symm.trans hx284_1); injection ea_ with ea_ en_ ec_; subst ea_; subst ec_; clear en_; have p285 : 0 ≤ (1 : Int) := (by omega); have q285 : 1 < (((rd_T39 t273 0).f1).length : Int) := of_decide_eq_true (by first | (with_reducible assumption) | assumption); obtain ⟨ad285, e285, hx285_0⟩ := at_T49 (by repeat (first | (with_reducible exact HR284_1.out) | (with_reducible refine Kd.C_alloc ?_ _) | (with_reducible refine Kd.C_drewN ?_ _) | (with_reducible refine Kd.C_drew ?_) | exact HR284_1.out)) 1 p285 q285; cases e285; (try simp only [show (1 : Int).toNat = 1 from rfl, Nat.reduceMul, Nat.reduceEqDiff, Go.Addr.add, ↓reduceIte] at hx285_0); have qi285 : (1 < ((rd_T39 t273 0).f1).length) = True := eq_true (by omega); (try rw [show ((1 : Int)).toNat = 1 from rfl] at hx285_0); replace p285 := eq_true p285; replace q285 := eq_true q285) | (go_at_call 32; (with_reducible refine (box_Kind.calls ((rd_T49 ((rd_T39 t273 0).f1) 1).f0) t286 _ A8.out).mono ?_); rintro e w18 ⟨rfl, hb⟩; have n0_ := Aside0.mk (Kd.S_below (by (with_reducible repeat (first | apply Kd.S_alloc | apply Kd.S_drewN | apply Kd.S_drew)); exact HO277.out) hb); have n1_ := Aside0.mk (Kd.S_below (by (with_reducible repeat (first | apply Kd.S_alloc | apply Kd.S_drewN | apply Kd.S_drew)); exact HO282.out) hb); have n2_ := Aside0.mk (Kd.R_below (by (with_reducible repeat (first | apply Kd.R_alloc | apply Kd.R_drewN | apply Kd.R_drew)); exact HL283_1.out) hb); have n3_ := Aside0.mk (Kd.R_below (by (with_reducible repeat (first | apply Kd.R_alloc | apply Kd.R_drewN | apply Kd.R_drew)); exact HL284_1.out) hb); have n4_ := Aside0.mk (Kd.C_below (by repeat (first | (with_reducible exact HR283_1.out) | (with_reducible refine Kd.C_alloc ?_ _) | (with_reducible refine Kd.C_drewN ?_ _) | (with_reducible refine Kd.C_drew ?_) | exact HR283_1.out)) hb); have n5_ := Aside0.mk (Kd.C_below (by repeat (first | (with_reducible exact HR284_1.out) | (with_reducible refine Kd.C_alloc ?_ _) | (with_reducible refine Kd.C_drewN ?_ _) | (with_reducible refine Kd.C_drew ?_) | exact HR284_1.out)) hb); have n6_ := Aside0.mk (below_step (by repeat (first | (with_reducible first | exact HB.out | apply below_alloc | apply pw_below_drewN | apply below_drew1) | exact HB.out)) hb); clear HO277; clear HO282; clear HL283_1; clear HL284_1; clear HR283_1; clear HR284_1; clear HB; have HO277 := n0_; have HO282 := n1_; have HL283_1 := n2_; have HL284_1 := n3_; have HR283_1 := n4_; have HR284_1 := n5_; have HB := n6_; clear n0_ n1_ n2_ n3_ n4_ n5_ n6_; (try clear hb); (try clear hb2); (try clear hk); (try clear hi)))
                go_ret
                exact ⟨by first | rfl | (simp [errW_none, errW_some] <;> rfl) | (simp [*, errW_none, errW_some] <;> rfl), by repeat (first | (with_reducible first | exact HB.out | apply below_alloc | apply pw_below_drewN | apply below_drew1) | exact HB.out)⟩
            · rw [if_neg c9] at H
              have c9b0 : (t286 == 3) = false := beq_eq_false_iff_ne.mpr c9
              have c9b1 : (t286 != 3) = true := bne_iff_ne.mpr c9
              obtain rfl := Option.some.inj H
              go_enter Tryz.func9, Tryz.ntmps9
              go_wp2_with (first | ((with_reducible refine gate_callee (f := 13) rfl ?_); refine goesL_ (some 8) rfl rfl Tryz.func13 (by kernel_rfl) rfl #[.string (⟨#[97, 32, 34, 98, 32, 99, 34, 32, 45, 55, 32, 35, 32, 100]⟩ : ByteArray)] rfl (by (try simp only [List.map_toArray, List.map_cons, List.map_nil]); first | done | rfl | (simp only [List.length_drop, List.length_take]; rfl)) ?_; (with_reducible refine (lex_Lines.calls k (⟨#[97, 32, 34, 98, 32, 99, 34, 32, 45, 55, 32, 35, 32, 100]⟩ : ByteArray) t273 t274 t275 _ A1.out).mono ?_); rintro e w19 ⟨v276, rfl, ho0, hb⟩; refine ⟨_, rfl, ?_⟩; have n0_ := Aside0.mk (Kd.S_lower ho0 (below_size (by repeat (first | (with_reducible first | exact HB.out | apply below_alloc | apply pw_below_drewN | apply below_drew1) | exact HB.out)))); have n1_ := Aside0.mk (below_step (by repeat (first | (with_reducible first | exact HB.out | apply below_alloc | apply pw_below_drewN | apply below_drew1) | exact HB.out)) hb); clear HB; have HO277 := n0_; have HB := n1_; clear n0_ n1_; (try clear hb); (try clear hb2); (try clear hk); (try clear hi); (try clear ho0)) | ((with_reducible refine gate_callee (f := 13) rfl ?_); refine goesL_ (some 13) rfl rfl Tryz.func13 (by kernel_rfl) rfl #[.string (⟨#[48, 55]⟩ : ByteArray)] rfl (by (try simp only [List.map_toArray, List.map_cons, List.map_nil]); first | done | rfl | (simp only [List.length_drop, List.length_take]; rfl)) ?_; (with_reducible refine (lex_Lines.calls k (⟨#[48, 55]⟩ : ByteArray) t278 t279 t280 _ A2.out).mono ?_); rintro e w20 ⟨v281, rfl, ho0, hb⟩; refine ⟨_, rfl, ?_⟩; have n0_ := Aside0.mk (Kd.S_elder' (by (with_reducible repeat (first | apply Kd.S_alloc | apply Kd.S_drewN | apply Kd.S_drew)); exact HO277.out) (Kd.S_base ho0) hb); have n1_ := Aside0.mk (Kd.S_lower (Kd.S_new' ho0 (Kd.S_lt (by (with_reducible repeat (first | apply Kd.S_alloc | apply Kd.S_drewN | apply Kd.S_drew)); exact HO277.out))) (below_size (by repeat (first | (with_reducible first | exact HB.out | apply below_alloc | apply pw_below_drewN | apply below_drew1) | exact HB.out)))); have n2_ := Aside0.mk (below_step (by repeat (first | (with_reducible first | exact HB.out | apply below_alloc | apply pw_below_drewN | apply below_drew1) | exact HB.out)) hb); clear HO277; clear HB; have HO277 := n0_; have HO282 := n1_; have HB := n2_; clear n0_ n1_ n2_; (try clear hb); (try clear hb2); (try clear hk); (try clear hi); (try clear ho0); obtain ⟨Ao21, co21, eo21⟩ := Kd.S_slice HO277.out; subst eo21; have p283 : 0 ≤ (0 : Int) := (by omega); have q283 : 0 < (t273.length : Int) := of_decide_eq_true (by first | (with_reducible assumption) | assumption); obtain ⟨ad283, A283_1, c283_1, e283, hx283_0, hx283_1, hl283_1, hi283_1⟩ := at_T39 (Kd.S_reads' HO277.out).2.2 0 p283 q283; cases e283; obtain ⟨ce283, hce283, hMe283, hcc283⟩ := Kd.S_get HO277.out z39 0 p283 (by first | exact q283 | exact of_decide_eq_true (by first | (with_reducible assumption) | assumption) | (have e_ := (Kd.S_reads' HO277.out).1; omega)); obtain ⟨ve283_1, rfl, ge283_1⟩ := k39_openM hMe283; have hv283_1 := hcc283 1 _ rfl; rw [add_field _ _ 1 (by omega)] at hv283_1; replace hv283_1 := Option.some.inj (hv283_1.symm.trans hx283_1); rw [hv283_1] at ge283_1; have HL283_1 := Aside0.mk (show Kd.R k49 49 _ _ _ _ ((rd_T39 t273 0).f1) from ge283_1); clear hv283_1 ge283_1; clear hcc283 hce283; have qi283 : (0 < t273.length) = True := eq_true (by omega); (try rw [show ((0 : Int)).toNat = 0 from rfl] at hx283_0); (try rw [show 0 * 2 = 0 from rfl] at hx283_0); (try rw [Addr.add_zero'] at hx283_0); (try rw [show ((0 : Int)).toNat = 0 from rfl] at hx283_1); (try rw [show 0 * 2 = 0 from rfl] at hx283_1); (try rw [Addr.add_zero'] at hx283_1); have HR283_1 := Aside0.mk hi283_1; have HC283_1 := Aside0.mk hl283_1; clear hi283_1 hl283_1; replace p283 := eq_true p283; replace q283 := eq_true q283; have p284 : 0 ≤ (0 : Int) := (by omega); have q284 : 0 < (t273.length : Int) := of_decide_eq_true (by first | (with_reducible assumption) | assumption); obtain ⟨ad284, A284_1, c284_1, e284, hx284_0, hx284_1, hl284_1, hi284_1⟩ := at_T39 (Kd.S_reads' HO277.out).2.2 0 p284 q284; obtain rfl : ad283 = ad284 := (by injection e284); obtain ⟨ce284, hce284, hMe284, hcc284⟩ := Kd.S_get HO277.out z39 0 p284 (by first | exact q284 | exact of_decide_eq_true (by first | (with_reducible assumption) | assumption) | (have e_ := (Kd.S_reads' HO277.out).1; omega)); obtain ⟨ve284_1, rfl, ge284_1⟩ := k39_openM hMe284; have hv284_1 := hcc284 1 _ rfl; rw [add_field _ _ 1 (by omega)] at hv284_1; replace hv284_1 := Option.some.inj (hv284_1.symm.trans hx284_1); rw [hv284_1] at ge284_1; have HL284_1 := Aside0.mk (show Kd.R k49 49 _ _ _ _ ((rd_T39 t273 0).f1) from ge284_1); clear hv284_1 ge284_1; clear hcc284 hce284; have qi284 : (0 < t273.length) = True := eq_true (by omega); (try rw [show ((0 : Int)).toNat = 0 from rfl] at hx284_0); (try rw [show 0 * 2 = 0 from rfl] at hx284_0); (try rw [Addr.add_zero'] at hx284_0); (try rw [show ((0 : Int)).toNat = 0 from rfl] at hx284_1); (try rw [show 0 * 2 = 0 from rfl] at hx284_1); (try rw [Addr.add_zero'] at hx284_1); have HR284_1 := Aside0.mk hi284_1; have HC284_1 := Aside0.mk hl284_1; clear hi284_1 hl284_1; replace p284 := eq_true p284; replace q284 := eq_true q284; have ea_ := Option.some.inj (hx283_1.symm.trans hx284_1); injection ea_ with ea_ en_ ec_; subst ea_; subst ec_; clear en_; have p285 : 0 ≤ (1 : Int) := (by omega); have q285 : 1 < (((rd_T39 t273 0).f1).length : Int) := of_decide_eq_true (by first | (with_reducible assumption) | assumption); obtain ⟨ad285, e285, hx285_0⟩ := at_T49 (by repeat (first | (with_reducible exact HR284_1.out) | (with_reducible refine Kd.C_alloc ?_ _) | (with_reducible refine Kd.C_drewN ?_ _) | (with_reducible refine Kd.C_drew ?_) | exact HR284_1.out)) 1 p285 q285; cases e285; (try simp only [show (1 : Int).toNat = 1 from rfl, Nat.reduceMul, Nat.reduceEqDiff, Go.Addr.add, ↓reduceIte] at hx285_0); have qi285 : (1 < ((rd_T39 t273 0).f1).length) = True := eq_true (by omega); (try rw [show ((1 : Int)).toNat = 1 from rfl] at hx285_0); replace p285 := eq_true p285; replace q285 := eq_true q285) | (go_at_call 32; (with_reducible refine (box_Kind.calls ((rd_T49 ((rd_T39 t273 0).f1) 1).f0) t286 _ A8.out).mono ?_); rintro e w22 ⟨rfl, hb⟩; have n0_ := Aside0.mk (Kd.S_below (by (with_reducible repeat (first | apply Kd.S_alloc | apply Kd.S_drewN | apply Kd.S_drew)); exact HO277.out) hb); have n1_ := Aside0.mk (Kd.S_below (by (with_reducible repeat (first | apply Kd.S_alloc | apply Kd.S_drewN | apply Kd.S_drew)); exact HO282.out) hb); have n2_ := Aside0.mk (Kd.R_below (by (with_reducible repeat (first | apply Kd.R_alloc | apply Kd.R_drewN | apply Kd.R_drew)); exact HL283_1.out) hb); have n3_ := Aside0.mk (Kd.R_below (by (with_reducible repeat (first | apply Kd.R_alloc | apply Kd.R_drewN | apply Kd.R_drew)); exact HL284_1.out) hb); have n4_ := Aside0.mk (Kd.C_below (by repeat (first | (with_reducible exact HR283_1.out) | (with_reducible refine Kd.C_alloc ?_ _) | (with_reducible refine Kd.C_drewN ?_ _) | (with_reducible refine Kd.C_drew ?_) | exact HR283_1.out)) hb); have n5_ := Aside0.mk (Kd.C_below (by repeat (first | (with_reducible exact HR284_1.out) | (with_reducible refine Kd.C_alloc ?_ _) | (with_reducible refine Kd.C_drewN ?_ _) | (with_reducible refine Kd.C_drew ?_) | exact HR284_1.out)) hb); have n6_ := Aside0.mk (below_step (by repeat (first | (with_reducible first | exact HB.out | apply below_alloc | apply pw_below_drewN | apply below_drew1) | exact HB.out)) hb); clear HO277; clear HO282; clear HL283_1; clear HL284_1; clear HR283_1; clear HR284_1; clear HB; have HO277 := n0_; have HO282 := n1_; have HL283_1 := n2_; have HL284_1 := n3_; have HR283_1 := n4_; have HR284_1 := n5_; have HB := n6_; clear n0_ n1_ n2_ n3_ n4_ n5_ n6_; (try clear hb); (try clear hb2); (try clear hk); (try clear hi)))
              go_ret
              exact ⟨by first | rfl | (simp [errW_none, errW_some] <;> rfl) | (simp [*, errW_none, errW_some] <;> rfl), by repeat (first | (with_reducible first | exact HB.out | apply below_alloc | apply pw_below_drewN | apply below_drew1) | exact HB.out)⟩
          · rw [if_neg c7] at H
            exact absurd H (by simp)
        · rw [if_neg c6] at H
          have c6b0 : ((((rd_T39 t273 0).f1).length : Int) == 3) = false := beq_eq_false_iff_ne.mpr c6
          have c6b1 : ((((rd_T39 t273 0).f1).length : Int) != 3) = true := bne_iff_ne.mpr c6
          obtain rfl := Option.some.inj H
          go_enter Tryz.func9, Tryz.ntmps9
          go_wp2_with (first | ((with_reducible refine gate_callee (f := 13) rfl ?_); refine goesL_ (some 8) rfl rfl Tryz.func13 (by kernel_rfl) rfl #[.string (⟨#[97, 32, 34, 98, 32, 99, 34, 32, 45, 55, 32, 35, 32, 100]⟩ : ByteArray)] rfl (by (try simp only [List.map_toArray, List.map_cons, List.map_nil]); first | done | rfl | (simp only [List.length_drop, List.length_take]; rfl)) ?_; (with_reducible refine (lex_Lines.calls k (⟨#[97, 32, 34, 98, 32, 99, 34, 32, 45, 55, 32, 35, 32, 100]⟩ : ByteArray) t273 t274 t275 _ A1.out).mono ?_); rintro e w23 ⟨v276, rfl, ho0, hb⟩; refine ⟨_, rfl, ?_⟩; have n0_ := Aside0.mk (Kd.S_lower ho0 (below_size (by repeat (first | (with_reducible first | exact HB.out | apply below_alloc | apply pw_below_drewN | apply below_drew1) | exact HB.out)))); have n1_ := Aside0.mk (below_step (by repeat (first | (with_reducible first | exact HB.out | apply below_alloc | apply pw_below_drewN | apply below_drew1) | exact HB.out)) hb); clear HB; have HO277 := n0_; have HB := n1_; clear n0_ n1_; (try clear hb); (try clear hb2); (try clear hk); (try clear hi); (try clear ho0)) | ((with_reducible refine gate_callee (f := 13) rfl ?_); refine goesL_ (some 13) rfl rfl Tryz.func13 (by kernel_rfl) rfl #[.string (⟨#[48, 55]⟩ : ByteArray)] rfl (by (try simp only [List.map_toArray, List.map_cons, List.map_nil]); first | done | rfl | (simp only [List.length_drop, List.length_take]; rfl)) ?_; (with_reducible refine (lex_Lines.calls k (⟨#[48, 55]⟩ : ByteArray) t278 t279 t280 _ A2.out).mono ?_); rintro e w24 ⟨v281, rfl, ho0, hb⟩; refine ⟨_, rfl, ?_⟩; have n0_ := Aside0.mk (Kd.S_elder' (by (with_reducible repeat (first | apply Kd.S_alloc | apply Kd.S_drewN | apply Kd.S_drew)); exact HO277.out) (Kd.S_base ho0) hb); have n1_ := Aside0.mk (Kd.S_lower (Kd.S_new' ho0 (Kd.S_lt (by (with_reducible repeat (first | apply Kd.S_alloc | apply Kd.S_drewN | apply Kd.S_drew)); exact HO277.out))) (below_size (by repeat (first | (with_reducible first | exact HB.out | apply below_alloc | apply pw_below_drewN | apply below_drew1) | exact HB.out)))); have n2_ := Aside0.mk (below_step (by repeat (first | (with_reducible first | exact HB.out | apply below_alloc | apply pw_below_drewN | apply below_drew1) | exact HB.out)) hb); clear HO277; clear HB; have HO277 := n0_; have HO282 := n1_; have HB := n2_; clear n0_ n1_ n2_; (try clear hb); (try clear hb2); (try clear hk); (try clear hi); (try clear ho0); obtain ⟨Ao25, co25, eo25⟩ := Kd.S_slice HO277.out; subst eo25; have p283 : 0 ≤ (0 : Int) := (by omega); have q283 : 0 < (t273.length : Int) := of_decide_eq_true (by first | (with_reducible assumption) | assumption); obtain ⟨ad283, A283_1, c283_1, e283, hx283_0, hx283_1, hl283_1, hi283_1⟩ := at_T39 (Kd.S_reads' HO277.out).2.2 0 p283 q283; cases e283; obtain ⟨ce283, hce283, hMe283, hcc283⟩ := Kd.S_get HO277.out z39 0 p283 (by first | exact q283 | exact of_decide_eq_true (by first | (with_reducible assumption) | assumption) | (have e_ := (Kd.S_reads' HO277.out).1; omega)); obtain ⟨ve283_1, rfl, ge283_1⟩ := k39_openM hMe283; have hv283_1 := hcc283 1 _ rfl; rw [add_field _ _ 1 (by omega)] at hv283_1; replace hv283_1 := Option.some.inj (hv283_1.symm.trans hx283_1); rw [hv283_1] at ge283_1; have HL283_1 := Aside0.mk (show Kd.R k49 49 _ _ _ _ ((rd_T39 t273 0).f1) from ge283_1); clear hv283_1 ge283_1; clear hcc283 hce283; have qi283 : (0 < t273.length) = True := eq_true (by omega); (try rw [show ((0 : Int)).toNat = 0 from rfl] at hx283_0); (try rw [show 0 * 2 = 0 from rfl] at hx283_0); (try rw [Addr.add_zero'] at hx283_0); (try rw [show ((0 : Int)).toNat = 0 from rfl] at hx283_1); (try rw [show 0 * 2 = 0 from rfl] at hx283_1); (try rw [Addr.add_zero'] at hx283_1); have HR283_1 := Aside0.mk hi283_1; have HC283_1 := Aside0.mk hl283_1; clear hi283_1 hl283_1; replace p283 := eq_true p283; replace q283 := eq_true q283))
          go_ret
          exact ⟨by first | rfl | (simp [errW_none, errW_some] <;> rfl) | (simp [*, errW_none, errW_some] <;> rfl), by repeat (first | (with_reducible first | exact HB.out | apply below_alloc | apply pw_below_drewN | apply below_drew1) | exact HB.out)⟩
      · rw [if_neg c5] at H
        exact absurd H (by simp)
    · rw [if_neg c4] at H
      have c4b0 : ((t273.length : Int) == 1) = false := beq_eq_false_iff_ne.mpr c4
      have c4b1 : ((t273.length : Int) != 1) = true := bne_iff_ne.mpr c4
      obtain rfl := Option.some.inj H
      go_enter Tryz.func9, Tryz.ntmps9
      go_wp2_with (first | ((with_reducible refine gate_callee (f := 13) rfl ?_); refine goesL_ (some 8) rfl rfl Tryz.func13 (by kernel_rfl) rfl #[.string (⟨#[97, 32, 34, 98, 32, 99, 34, 32, 45, 55, 32, 35, 32, 100]⟩ : ByteArray)] rfl (by (try simp only [List.map_toArray, List.map_cons, List.map_nil]); first | done | rfl | (simp only [List.length_drop, List.length_take]; rfl)) ?_; (with_reducible refine (lex_Lines.calls k (⟨#[97, 32, 34, 98, 32, 99, 34, 32, 45, 55, 32, 35, 32, 100]⟩ : ByteArray) t273 t274 t275 _ A1.out).mono ?_); rintro e w26 ⟨v276, rfl, ho0, hb⟩; refine ⟨_, rfl, ?_⟩; have n0_ := Aside0.mk (Kd.S_lower ho0 (below_size (by repeat (first | (with_reducible first | exact HB.out | apply below_alloc | apply pw_below_drewN | apply below_drew1) | exact HB.out)))); have n1_ := Aside0.mk (below_step (by repeat (first | (with_reducible first | exact HB.out | apply below_alloc | apply pw_below_drewN | apply below_drew1) | exact HB.out)) hb); clear HB; have HO277 := n0_; have HB := n1_; clear n0_ n1_; (try clear hb); (try clear hb2); (try clear hk); (try clear hi); (try clear ho0)) | ((with_reducible refine gate_callee (f := 13) rfl ?_); refine goesL_ (some 13) rfl rfl Tryz.func13 (by kernel_rfl) rfl #[.string (⟨#[48, 55]⟩ : ByteArray)] rfl (by (try simp only [List.map_toArray, List.map_cons, List.map_nil]); first | done | rfl | (simp only [List.length_drop, List.length_take]; rfl)) ?_; (with_reducible refine (lex_Lines.calls k (⟨#[48, 55]⟩ : ByteArray) t278 t279 t280 _ A2.out).mono ?_); rintro e w27 ⟨v281, rfl, ho0, hb⟩; refine ⟨_, rfl, ?_⟩; have n0_ := Aside0.mk (Kd.S_elder' (by (with_reducible repeat (first | apply Kd.S_alloc | apply Kd.S_drewN | apply Kd.S_drew)); exact HO277.out) (Kd.S_base ho0) hb); have n1_ := Aside0.mk (Kd.S_lower (Kd.S_new' ho0 (Kd.S_lt (by (with_reducible repeat (first | apply Kd.S_alloc | apply Kd.S_drewN | apply Kd.S_drew)); exact HO277.out))) (below_size (by repeat (first | (with_reducible first | exact HB.out | apply below_alloc | apply pw_below_drewN | apply below_drew1) | exact HB.out)))); have n2_ := Aside0.mk (below_step (by repeat (first | (with_reducible first | exact HB.out | apply below_alloc | apply pw_below_drewN | apply below_drew1) | exact HB.out)) hb); clear HO277; clear HB; have HO277 := n0_; have HO282 := n1_; have HB := n2_; clear n0_ n1_ n2_; (try clear hb); (try clear hb2); (try clear hk); (try clear hi); (try clear ho0); obtain ⟨Ao28, co28, eo28⟩ := Kd.S_slice HO277.out; subst eo28))
      go_ret
      exact ⟨by first | rfl | (simp [errW_none, errW_some] <;> rfl) | (simp [*, errW_none, errW_some] <;> rfl), by repeat (first | (with_reducible first | exact HB.out | apply below_alloc | apply pw_below_drewN | apply below_drew1) | exact HB.out)⟩
  · rw [if_neg c3] at H
    have c3b0 : (t275 == 0) = false := beq_eq_false_iff_ne.mpr c3
    have c3b1 : (t275 != 0) = true := bne_iff_ne.mpr c3
    obtain rfl := Option.some.inj H
    go_enter Tryz.func9, Tryz.ntmps9
    go_wp2_with (first | ((with_reducible refine gate_callee (f := 13) rfl ?_); refine goesL_ (some 8) rfl rfl Tryz.func13 (by kernel_rfl) rfl #[.string (⟨#[97, 32, 34, 98, 32, 99, 34, 32, 45, 55, 32, 35, 32, 100]⟩ : ByteArray)] rfl (by (try simp only [List.map_toArray, List.map_cons, List.map_nil]); first | done | rfl | (simp only [List.length_drop, List.length_take]; rfl)) ?_; (with_reducible refine (lex_Lines.calls k (⟨#[97, 32, 34, 98, 32, 99, 34, 32, 45, 55, 32, 35, 32, 100]⟩ : ByteArray) t273 t274 t275 _ A1.out).mono ?_); rintro e w29 ⟨v276, rfl, ho0, hb⟩; refine ⟨_, rfl, ?_⟩; have n0_ := Aside0.mk (Kd.S_lower ho0 (below_size (by repeat (first | (with_reducible first | exact HB.out | apply below_alloc | apply pw_below_drewN | apply below_drew1) | exact HB.out)))); have n1_ := Aside0.mk (below_step (by repeat (first | (with_reducible first | exact HB.out | apply below_alloc | apply pw_below_drewN | apply below_drew1) | exact HB.out)) hb); clear HB; have HO277 := n0_; have HB := n1_; clear n0_ n1_; (try clear hb); (try clear hb2); (try clear hk); (try clear hi); (try clear ho0)) | ((with_reducible refine gate_callee (f := 13) rfl ?_); refine goesL_ (some 13) rfl rfl Tryz.func13 (by kernel_rfl) rfl #[.string (⟨#[48, 55]⟩ : ByteArray)] rfl (by (try simp only [List.map_toArray, List.map_cons, List.map_nil]); first | done | rfl | (simp only [List.length_drop, List.length_take]; rfl)) ?_; (with_reducible refine (lex_Lines.calls k (⟨#[48, 55]⟩ : ByteArray) t278 t279 t280 _ A2.out).mono ?_); rintro e w30 ⟨v281, rfl, ho0, hb⟩; refine ⟨_, rfl, ?_⟩; have n0_ := Aside0.mk (Kd.S_elder' (by (with_reducible repeat (first | apply Kd.S_alloc | apply Kd.S_drewN | apply Kd.S_drew)); exact HO277.out) (Kd.S_base ho0) hb); have n1_ := Aside0.mk (Kd.S_lower (Kd.S_new' ho0 (Kd.S_lt (by (with_reducible repeat (first | apply Kd.S_alloc | apply Kd.S_drewN | apply Kd.S_drew)); exact HO277.out))) (below_size (by repeat (first | (with_reducible first | exact HB.out | apply below_alloc | apply pw_below_drewN | apply below_drew1) | exact HB.out)))); have n2_ := Aside0.mk (below_step (by repeat (first | (with_reducible first | exact HB.out | apply below_alloc | apply pw_below_drewN | apply below_drew1) | exact HB.out)) hb); clear HO277; clear HB; have HO277 := n0_; have HO282 := n1_; have HB := n2_; clear n0_ n1_ n2_; (try clear hb); (try clear hb2); (try clear hk); (try clear hi); (try clear ho0)))
    go_ret
    exact ⟨by first | rfl | (simp [errW_none, errW_some] <;> rfl) | (simp [*, errW_none, errW_some] <;> rfl), by repeat (first | (with_reducible first | exact HB.out | apply below_alloc | apply pw_below_drewN | apply below_drew1) | exact HB.out)⟩

/-! ### rundleref02_Plain: function 10 -/
def rundleref02_Plain.f (a0_0 : Int) (a0_1 : Int) (a0_2 : ByteArray) : Option (Int × Int × ByteArray) := if a0_0 = 1 then (some (1, a0_1, (⟨#[]⟩ : ByteArray))) else (if a0_0 = 2 then (some (a0_0, 0, a0_2)) else (if a0_0 = 3 then (some (a0_0, 0, a0_2)) else (some (0, 0, (⟨#[]⟩ : ByteArray)))))
set_option maxHeartbeats 8000000 in
set_option maxRecDepth 100000 in
theorem rundleref02_Plain.calls (a0_0 : Int) (a0_1 : Int) (a0_2 : ByteArray) (r1 : Int) (r2 : Int) (r3 : ByteArray) (w : World) (h : rundleref02_Plain.f a0_0 a0_1 a0_2 = some (r1, r2, r3)) :
    Calls Tryz.prog 10 #[.agg #[.int .i64 a0_0, .int .i64 a0_1, .string a0_2]] w fun e w' => e = .returned (.agg #[.int .i64 r1, .int .i64 r2, .string r3]) ∧ Below w.heap.size w w' := by
  have hu28 := Tryz.underlying28
  have HB := Aside0.mk (Below.refl w.heap.size w)
  have H : (if a0_0 = 1 then (some (1, a0_1, (⟨#[]⟩ : ByteArray))) else (if a0_0 = 2 then (some (a0_0, 0, a0_2)) else (if a0_0 = 3 then (some (a0_0, 0, a0_2)) else (some (0, 0, (⟨#[]⟩ : ByteArray)))))) = some (r1, r2, r3) := h
  clear h
  by_cases c2 : a0_0 = 1
  · rw [if_pos c2] at H
    have c2b0 : (a0_0 == 1) = true := beq_iff_eq.mpr c2
    have c2b1 : (a0_0 != 1) = false := bne_eq_false_iff_eq.mpr c2
    clear c2
    simp only [Option.some.injEq, Prod.mk.injEq] at H
    obtain ⟨rfl, rfl, rfl⟩ := H
    go_enter Tryz.func10, Tryz.ntmps10
    go_wp2_with (first | ((with_reducible refine gate_dst (N := 1) rfl ?_); refine box_event ?hg (N := 1) ?hd (cs := #[.int .i64 a0_0, .int .i64 a0_1, .string a0_2]) (t := 28) ?hr ?_; (case hd => rfl); (case hg => rfl); (case hr => first | (go_simp; done) | (go_simp; rfl)); intro gb287 hg w3 hbox hb; have n0_ := Aside0.mk (below_step (by repeat (first | (with_reducible first | exact HB.out | apply below_alloc | apply pw_below_drewN | apply below_drew1) | exact HB.out)) hb); have n1_ := Aside0.mk (hbox); have n2_ := Aside0.mk ((by rw [hg]; exact (below_size (by repeat (first | (with_reducible first | exact HB.out | apply below_alloc | apply pw_below_drewN | apply below_drew1) | exact HB.out))) : w.heap.size ≤ gb287)); have n3_ := Aside0.mk ((by rw [hg]; exact (below_size (by repeat (first | (with_reducible first | exact HB.out | apply below_alloc | apply pw_below_drewN | apply below_drew1) | exact HB.out))) : w.heap.size ≤ gb287)); clear HB; have HB := n0_; have BK287 := n1_; have GW287 := n2_; have GE287 := n3_; clear n0_ n1_ n2_ n3_; clear hb hbox hg) | ((with_reducible refine gate_dst (N := 2) rfl ?_); refine box_event ?hg (N := 2) ?hd (cs := #[.int .i64 0, .int .i64 0, .string (⟨#[]⟩ : ByteArray)]) (t := 28) ?hr ?_; (case hd => rfl); (case hg => rfl); (case hr => first | (go_simp; done) | (go_simp; rfl)); intro gb288 hg w4 hbox hb; have n0_ := Aside0.mk (blk_below (g := gb287) (o := .cells #[.int .i64 a0_0, .int .i64 a0_1, .string a0_2] 28 (0, 0)) (by (with_reducible repeat (first | refine blk_drewN ?_ _ | refine blk_drew ?_ | refine blk_alloc ?_ _)); exact BK287.out) hb); have n1_ := Aside0.mk (below_step (by repeat (first | (with_reducible first | exact HB.out | apply below_alloc | apply pw_below_drewN | apply below_drew1 | refine below_set ?_ GE287.out) | exact HB.out)) hb); have n2_ := Aside0.mk (hbox); have n3_ := Aside0.mk ((by rw [hg]; exact (below_size (by repeat (first | (with_reducible first | exact HB.out | apply below_alloc | apply pw_below_drewN | apply below_drew1 | refine below_set ?_ GE287.out) | exact HB.out))) : w.heap.size ≤ gb288)); have n4_ := Aside0.mk ((by rw [hg]; exact (below_size (by repeat (first | (with_reducible first | exact HB.out | apply below_alloc | apply pw_below_drewN | apply below_drew1 | refine below_set ?_ GE287.out) | exact HB.out))) : w.heap.size ≤ gb288)); have n5_ := Aside0.mk ((by rw [hg]; exact Nat.ne_of_lt (blk_lt (g := gb287) (o := .cells #[.int .i64 a0_0, .int .i64 a0_1, .string a0_2] 28 (0, 0)) (by (with_reducible repeat (first | refine blk_drewN ?_ _ | refine blk_drew ?_ | refine blk_alloc ?_ _)); exact BK287.out)) : gb287 ≠ gb288)); have n6_ := Aside0.mk ((by rw [hg]; exact Nat.ne_of_gt (blk_lt (g := gb287) (o := .cells #[.int .i64 a0_0, .int .i64 a0_1, .string a0_2] 28 (0, 0)) (by (with_reducible repeat (first | refine blk_drewN ?_ _ | refine blk_drew ?_ | refine blk_alloc ?_ _)); exact BK287.out)) : gb288 ≠ gb287)); clear BK287; clear HB; have BK287 := n0_; have HB := n1_; have BK288 := n2_; have GW288 := n3_; have GE288 := n4_; have NB287_288 := n5_; have NB288_287 := n6_; clear n0_ n1_ n2_ n3_ n4_ n5_ n6_; clear hb hbox hg; have hnb5 := NB287_288.out; have hnc5 := NB288_287.out; have hcz6_0 : w4.cell? ⟨gb287, 0, none⟩ = some (.int .i64 a0_0) := (blk_cell BK287.out 0).trans rfl; have hcz6_1 : w4.cell? ⟨gb287, 1, none⟩ = some (.int .i64 a0_1) := (blk_cell BK287.out 1).trans rfl; have hcz6_2 : w4.cell? ⟨gb287, 2, none⟩ = some (.string a0_2) := (blk_cell BK287.out 2).trans rfl; have hfz6_0 := blk_frozen BK287.out 0; have hfz6_1 := blk_frozen BK287.out 1; have hfz6_2 := blk_frozen BK287.out 2; have hcz7_0 : w4.cell? ⟨gb288, 0, none⟩ = some (.int .i64 0) := (blk_cell BK288.out 0).trans rfl; have hcz7_1 : w4.cell? ⟨gb288, 1, none⟩ = some (.int .i64 0) := (blk_cell BK288.out 1).trans rfl; have hcz7_2 : w4.cell? ⟨gb288, 2, none⟩ = some (.string (⟨#[]⟩ : ByteArray)) := (blk_cell BK288.out 2).trans rfl; have hfz7_0 := blk_frozen BK288.out 0; have hfz7_1 := blk_frozen BK288.out 1; have hfz7_2 := blk_frozen BK288.out 2))
    refine bodyPost_ret (results_cell_row rfl _ _ gb288 28 #[.int .i64 1, .int .i64 a0_1, .string (⟨#[]⟩ : ByteArray)] (0, 0) _ rfl (by (with_reducible repeat (first | refine blk_drewN ?_ _ | refine blk_drew ?_ | refine blk_alloc ?_ _)); refine blk_put (cs := #[.int .i64 1, .int .i64 a0_1, .string (⟨#[]⟩ : ByteArray)]) ?_ 2 _ rfl; (with_reducible repeat (first | refine blk_drewN ?_ _ | refine blk_drew ?_ | refine blk_alloc ?_ _)); refine blk_put (cs := #[.int .i64 1, .int .i64 0, .string (⟨#[]⟩ : ByteArray)]) ?_ 1 _ rfl; (with_reducible repeat (first | refine blk_drewN ?_ _ | refine blk_drew ?_ | refine blk_alloc ?_ _)); refine blk_put (cs := #[.int .i64 0, .int .i64 0, .string (⟨#[]⟩ : ByteArray)]) ?_ 0 _ rfl; (with_reducible repeat (first | refine blk_drewN ?_ _ | refine blk_drew ?_ | refine blk_alloc ?_ _)); exact BK288.out) Tryz.underlying28 rfl (by kernel_rfl)) rfl ?_
    exact ⟨by first | rfl | (simp [errW_none, errW_some] <;> rfl) | (simp [*, errW_none, errW_some] <;> rfl), by repeat (first | (with_reducible first | exact HB.out | apply below_alloc | apply pw_below_drewN | apply below_drew1 | refine below_set ?_ GE287.out | refine below_set ?_ GE288.out) | exact HB.out)⟩
  · rw [if_neg c2] at H
    have c2b0 : (a0_0 == 1) = false := beq_eq_false_iff_ne.mpr c2
    have c2b1 : (a0_0 != 1) = true := bne_iff_ne.mpr c2
    by_cases c8 : a0_0 = 2
    · rw [if_pos c8] at H
      have c8b0 : (a0_0 == 2) = true := beq_iff_eq.mpr c8
      have c8b1 : (a0_0 != 2) = false := bne_eq_false_iff_eq.mpr c8
      clear c8
      simp only [Option.some.injEq, Prod.mk.injEq] at H
      obtain ⟨rfl, rfl, rfl⟩ := H
      go_enter Tryz.func10, Tryz.ntmps10
      go_wp2_with (first | ((with_reducible refine gate_dst (N := 1) rfl ?_); refine box_event ?hg (N := 1) ?hd (cs := #[.int .i64 a0_0, .int .i64 a0_1, .string a0_2]) (t := 28) ?hr ?_; (case hd => rfl); (case hg => rfl); (case hr => first | (go_simp; done) | (go_simp; rfl)); intro gb287 hg w9 hbox hb; have n0_ := Aside0.mk (below_step (by repeat (first | (with_reducible first | exact HB.out | apply below_alloc | apply pw_below_drewN | apply below_drew1) | exact HB.out)) hb); have n1_ := Aside0.mk (hbox); have n2_ := Aside0.mk ((by rw [hg]; exact (below_size (by repeat (first | (with_reducible first | exact HB.out | apply below_alloc | apply pw_below_drewN | apply below_drew1) | exact HB.out))) : w.heap.size ≤ gb287)); have n3_ := Aside0.mk ((by rw [hg]; exact (below_size (by repeat (first | (with_reducible first | exact HB.out | apply below_alloc | apply pw_below_drewN | apply below_drew1) | exact HB.out))) : w.heap.size ≤ gb287)); clear HB; have HB := n0_; have BK287 := n1_; have GW287 := n2_; have GE287 := n3_; clear n0_ n1_ n2_ n3_; clear hb hbox hg) | ((with_reducible refine gate_dst (N := 2) rfl ?_); refine box_event ?hg (N := 2) ?hd (cs := #[.int .i64 0, .int .i64 0, .string (⟨#[]⟩ : ByteArray)]) (t := 28) ?hr ?_; (case hd => rfl); (case hg => rfl); (case hr => first | (go_simp; done) | (go_simp; rfl)); intro gb288 hg w10 hbox hb; have n0_ := Aside0.mk (blk_below (g := gb287) (o := .cells #[.int .i64 a0_0, .int .i64 a0_1, .string a0_2] 28 (0, 0)) (by (with_reducible repeat (first | refine blk_drewN ?_ _ | refine blk_drew ?_ | refine blk_alloc ?_ _)); exact BK287.out) hb); have n1_ := Aside0.mk (below_step (by repeat (first | (with_reducible first | exact HB.out | apply below_alloc | apply pw_below_drewN | apply below_drew1 | refine below_set ?_ GE287.out) | exact HB.out)) hb); have n2_ := Aside0.mk (hbox); have n3_ := Aside0.mk ((by rw [hg]; exact (below_size (by repeat (first | (with_reducible first | exact HB.out | apply below_alloc | apply pw_below_drewN | apply below_drew1 | refine below_set ?_ GE287.out) | exact HB.out))) : w.heap.size ≤ gb288)); have n4_ := Aside0.mk ((by rw [hg]; exact (below_size (by repeat (first | (with_reducible first | exact HB.out | apply below_alloc | apply pw_below_drewN | apply below_drew1 | refine below_set ?_ GE287.out) | exact HB.out))) : w.heap.size ≤ gb288)); have n5_ := Aside0.mk ((by rw [hg]; exact Nat.ne_of_lt (blk_lt (g := gb287) (o := .cells #[.int .i64 a0_0, .int .i64 a0_1, .string a0_2] 28 (0, 0)) (by (with_reducible repeat (first | refine blk_drewN ?_ _ | refine blk_drew ?_ | refine blk_alloc ?_ _)); exact BK287.out)) : gb287 ≠ gb288)); have n6_ := Aside0.mk ((by rw [hg]; exact Nat.ne_of_gt (blk_lt (g := gb287) (o := .cells #[.int .i64 a0_0, .int .i64 a0_1, .string a0_2] 28 (0, 0)) (by (with_reducible repeat (first | refine blk_drewN ?_ _ | refine blk_drew ?_ | refine blk_alloc ?_ _)); exact BK287.out)) : gb288 ≠ gb287)); clear BK287; clear HB; have BK287 := n0_; have HB := n1_; have BK288 := n2_; have GW288 := n3_; have GE288 := n4_; have NB287_288 := n5_; have NB288_287 := n6_; clear n0_ n1_ n2_ n3_ n4_ n5_ n6_; clear hb hbox hg; have hnb11 := NB287_288.out; have hnc11 := NB288_287.out; have hcz12_0 : w10.cell? ⟨gb287, 0, none⟩ = some (.int .i64 a0_0) := (blk_cell BK287.out 0).trans rfl; have hcz12_1 : w10.cell? ⟨gb287, 1, none⟩ = some (.int .i64 a0_1) := (blk_cell BK287.out 1).trans rfl; have hcz12_2 : w10.cell? ⟨gb287, 2, none⟩ = some (.string a0_2) := (blk_cell BK287.out 2).trans rfl; have hfz12_0 := blk_frozen BK287.out 0; have hfz12_1 := blk_frozen BK287.out 1; have hfz12_2 := blk_frozen BK287.out 2; have hcz13_0 : w10.cell? ⟨gb288, 0, none⟩ = some (.int .i64 0) := (blk_cell BK288.out 0).trans rfl; have hcz13_1 : w10.cell? ⟨gb288, 1, none⟩ = some (.int .i64 0) := (blk_cell BK288.out 1).trans rfl; have hcz13_2 : w10.cell? ⟨gb288, 2, none⟩ = some (.string (⟨#[]⟩ : ByteArray)) := (blk_cell BK288.out 2).trans rfl; have hfz13_0 := blk_frozen BK288.out 0; have hfz13_1 := blk_frozen BK288.out 1; have hfz13_2 := blk_frozen BK288.out 2))
      refine bodyPost_ret (results_cell_row rfl _ _ gb288 28 #[.int .i64 a0_0, .int .i64 0, .string a0_2] (0, 0) _ rfl (by (with_reducible repeat (first | refine blk_drewN ?_ _ | refine blk_drew ?_ | refine blk_alloc ?_ _)); refine blk_put (cs := #[.int .i64 a0_0, .int .i64 0, .string (⟨#[]⟩ : ByteArray)]) ?_ 2 _ rfl; (with_reducible repeat (first | refine blk_drewN ?_ _ | refine blk_drew ?_ | refine blk_alloc ?_ _)); refine blk_put (cs := #[.int .i64 a0_0, .int .i64 0, .string (⟨#[]⟩ : ByteArray)]) ?_ 1 _ rfl; (with_reducible repeat (first | refine blk_drewN ?_ _ | refine blk_drew ?_ | refine blk_alloc ?_ _)); refine blk_put (cs := #[.int .i64 0, .int .i64 0, .string (⟨#[]⟩ : ByteArray)]) ?_ 0 _ rfl; (with_reducible repeat (first | refine blk_drewN ?_ _ | refine blk_drew ?_ | refine blk_alloc ?_ _)); exact BK288.out) Tryz.underlying28 rfl (by kernel_rfl)) rfl ?_
      exact ⟨by first | rfl | (simp [errW_none, errW_some] <;> rfl) | (simp [*, errW_none, errW_some] <;> rfl), by repeat (first | (with_reducible first | exact HB.out | apply below_alloc | apply pw_below_drewN | apply below_drew1 | refine below_set ?_ GE287.out | refine below_set ?_ GE288.out) | exact HB.out)⟩
    · rw [if_neg c8] at H
      have c8b0 : (a0_0 == 2) = false := beq_eq_false_iff_ne.mpr c8
      have c8b1 : (a0_0 != 2) = true := bne_iff_ne.mpr c8
      by_cases c14 : a0_0 = 3
      · rw [if_pos c14] at H
        have c14b0 : (a0_0 == 3) = true := beq_iff_eq.mpr c14
        have c14b1 : (a0_0 != 3) = false := bne_eq_false_iff_eq.mpr c14
        clear c14
        simp only [Option.some.injEq, Prod.mk.injEq] at H
        obtain ⟨rfl, rfl, rfl⟩ := H
        go_enter Tryz.func10, Tryz.ntmps10
        go_wp2_with (first | ((with_reducible refine gate_dst (N := 1) rfl ?_); refine box_event ?hg (N := 1) ?hd (cs := #[.int .i64 a0_0, .int .i64 a0_1, .string a0_2]) (t := 28) ?hr ?_; (case hd => rfl); (case hg => rfl); (case hr => first | (go_simp; done) | (go_simp; rfl)); intro gb287 hg w15 hbox hb; have n0_ := Aside0.mk (below_step (by repeat (first | (with_reducible first | exact HB.out | apply below_alloc | apply pw_below_drewN | apply below_drew1) | exact HB.out)) hb); have n1_ := Aside0.mk (hbox); have n2_ := Aside0.mk ((by rw [hg]; exact (below_size (by repeat (first | (with_reducible first | exact HB.out | apply below_alloc | apply pw_below_drewN | apply below_drew1) | exact HB.out))) : w.heap.size ≤ gb287)); have n3_ := Aside0.mk ((by rw [hg]; exact (below_size (by repeat (first | (with_reducible first | exact HB.out | apply below_alloc | apply pw_below_drewN | apply below_drew1) | exact HB.out))) : w.heap.size ≤ gb287)); clear HB; have HB := n0_; have BK287 := n1_; have GW287 := n2_; have GE287 := n3_; clear n0_ n1_ n2_ n3_; clear hb hbox hg) | ((with_reducible refine gate_dst (N := 2) rfl ?_); refine box_event ?hg (N := 2) ?hd (cs := #[.int .i64 0, .int .i64 0, .string (⟨#[]⟩ : ByteArray)]) (t := 28) ?hr ?_; (case hd => rfl); (case hg => rfl); (case hr => first | (go_simp; done) | (go_simp; rfl)); intro gb288 hg w16 hbox hb; have n0_ := Aside0.mk (blk_below (g := gb287) (o := .cells #[.int .i64 a0_0, .int .i64 a0_1, .string a0_2] 28 (0, 0)) (by (with_reducible repeat (first | refine blk_drewN ?_ _ | refine blk_drew ?_ | refine blk_alloc ?_ _)); exact BK287.out) hb); have n1_ := Aside0.mk (below_step (by repeat (first | (with_reducible first | exact HB.out | apply below_alloc | apply pw_below_drewN | apply below_drew1 | refine below_set ?_ GE287.out) | exact HB.out)) hb); have n2_ := Aside0.mk (hbox); have n3_ := Aside0.mk ((by rw [hg]; exact (below_size (by repeat (first | (with_reducible first | exact HB.out | apply below_alloc | apply pw_below_drewN | apply below_drew1 | refine below_set ?_ GE287.out) | exact HB.out))) : w.heap.size ≤ gb288)); have n4_ := Aside0.mk ((by rw [hg]; exact (below_size (by repeat (first | (with_reducible first | exact HB.out | apply below_alloc | apply pw_below_drewN | apply below_drew1 | refine below_set ?_ GE287.out) | exact HB.out))) : w.heap.size ≤ gb288)); have n5_ := Aside0.mk ((by rw [hg]; exact Nat.ne_of_lt (blk_lt (g := gb287) (o := .cells #[.int .i64 a0_0, .int .i64 a0_1, .string a0_2] 28 (0, 0)) (by (with_reducible repeat (first | refine blk_drewN ?_ _ | refine blk_drew ?_ | refine blk_alloc ?_ _)); exact BK287.out)) : gb287 ≠ gb288)); have n6_ := Aside0.mk ((by rw [hg]; exact Nat.ne_of_gt (blk_lt (g := gb287) (o := .cells #[.int .i64 a0_0, .int .i64 a0_1, .string a0_2] 28 (0, 0)) (by (with_reducible repeat (first | refine blk_drewN ?_ _ | refine blk_drew ?_ | refine blk_alloc ?_ _)); exact BK287.out)) : gb288 ≠ gb287)); clear BK287; clear HB; have BK287 := n0_; have HB := n1_; have BK288 := n2_; have GW288 := n3_; have GE288 := n4_; have NB287_288 := n5_; have NB288_287 := n6_; clear n0_ n1_ n2_ n3_ n4_ n5_ n6_; clear hb hbox hg; have hnb17 := NB287_288.out; have hnc17 := NB288_287.out; have hcz18_0 : w16.cell? ⟨gb287, 0, none⟩ = some (.int .i64 a0_0) := (blk_cell BK287.out 0).trans rfl; have hcz18_1 : w16.cell? ⟨gb287, 1, none⟩ = some (.int .i64 a0_1) := (blk_cell BK287.out 1).trans rfl; have hcz18_2 : w16.cell? ⟨gb287, 2, none⟩ = some (.string a0_2) := (blk_cell BK287.out 2).trans rfl; have hfz18_0 := blk_frozen BK287.out 0; have hfz18_1 := blk_frozen BK287.out 1; have hfz18_2 := blk_frozen BK287.out 2; have hcz19_0 : w16.cell? ⟨gb288, 0, none⟩ = some (.int .i64 0) := (blk_cell BK288.out 0).trans rfl; have hcz19_1 : w16.cell? ⟨gb288, 1, none⟩ = some (.int .i64 0) := (blk_cell BK288.out 1).trans rfl; have hcz19_2 : w16.cell? ⟨gb288, 2, none⟩ = some (.string (⟨#[]⟩ : ByteArray)) := (blk_cell BK288.out 2).trans rfl; have hfz19_0 := blk_frozen BK288.out 0; have hfz19_1 := blk_frozen BK288.out 1; have hfz19_2 := blk_frozen BK288.out 2))
        refine bodyPost_ret (results_cell_row rfl _ _ gb288 28 #[.int .i64 a0_0, .int .i64 0, .string a0_2] (0, 0) _ rfl (by (with_reducible repeat (first | refine blk_drewN ?_ _ | refine blk_drew ?_ | refine blk_alloc ?_ _)); refine blk_put (cs := #[.int .i64 a0_0, .int .i64 0, .string (⟨#[]⟩ : ByteArray)]) ?_ 2 _ rfl; (with_reducible repeat (first | refine blk_drewN ?_ _ | refine blk_drew ?_ | refine blk_alloc ?_ _)); refine blk_put (cs := #[.int .i64 a0_0, .int .i64 0, .string (⟨#[]⟩ : ByteArray)]) ?_ 1 _ rfl; (with_reducible repeat (first | refine blk_drewN ?_ _ | refine blk_drew ?_ | refine blk_alloc ?_ _)); refine blk_put (cs := #[.int .i64 0, .int .i64 0, .string (⟨#[]⟩ : ByteArray)]) ?_ 0 _ rfl; (with_reducible repeat (first | refine blk_drewN ?_ _ | refine blk_drew ?_ | refine blk_alloc ?_ _)); exact BK288.out) Tryz.underlying28 rfl (by kernel_rfl)) rfl ?_
        exact ⟨by first | rfl | (simp [errW_none, errW_some] <;> rfl) | (simp [*, errW_none, errW_some] <;> rfl), by repeat (first | (with_reducible first | exact HB.out | apply below_alloc | apply pw_below_drewN | apply below_drew1 | refine below_set ?_ GE287.out | refine below_set ?_ GE288.out) | exact HB.out)⟩
      · rw [if_neg c14] at H
        have c14b0 : (a0_0 == 3) = false := beq_eq_false_iff_ne.mpr c14
        have c14b1 : (a0_0 != 3) = true := bne_iff_ne.mpr c14
        simp only [Option.some.injEq, Prod.mk.injEq] at H
        obtain ⟨rfl, rfl, rfl⟩ := H
        go_enter Tryz.func10, Tryz.ntmps10
        go_wp2_with (first | ((with_reducible refine gate_dst (N := 1) rfl ?_); refine box_event ?hg (N := 1) ?hd (cs := #[.int .i64 a0_0, .int .i64 a0_1, .string a0_2]) (t := 28) ?hr ?_; (case hd => rfl); (case hg => rfl); (case hr => first | (go_simp; done) | (go_simp; rfl)); intro gb287 hg w20 hbox hb; have n0_ := Aside0.mk (below_step (by repeat (first | (with_reducible first | exact HB.out | apply below_alloc | apply pw_below_drewN | apply below_drew1) | exact HB.out)) hb); have n1_ := Aside0.mk (hbox); have n2_ := Aside0.mk ((by rw [hg]; exact (below_size (by repeat (first | (with_reducible first | exact HB.out | apply below_alloc | apply pw_below_drewN | apply below_drew1) | exact HB.out))) : w.heap.size ≤ gb287)); have n3_ := Aside0.mk ((by rw [hg]; exact (below_size (by repeat (first | (with_reducible first | exact HB.out | apply below_alloc | apply pw_below_drewN | apply below_drew1) | exact HB.out))) : w.heap.size ≤ gb287)); clear HB; have HB := n0_; have BK287 := n1_; have GW287 := n2_; have GE287 := n3_; clear n0_ n1_ n2_ n3_; clear hb hbox hg) | ((with_reducible refine gate_dst (N := 2) rfl ?_); refine box_event ?hg (N := 2) ?hd (cs := #[.int .i64 0, .int .i64 0, .string (⟨#[]⟩ : ByteArray)]) (t := 28) ?hr ?_; (case hd => rfl); (case hg => rfl); (case hr => first | (go_simp; done) | (go_simp; rfl)); intro gb288 hg w21 hbox hb; have n0_ := Aside0.mk (blk_below (g := gb287) (o := .cells #[.int .i64 a0_0, .int .i64 a0_1, .string a0_2] 28 (0, 0)) (by (with_reducible repeat (first | refine blk_drewN ?_ _ | refine blk_drew ?_ | refine blk_alloc ?_ _)); exact BK287.out) hb); have n1_ := Aside0.mk (below_step (by repeat (first | (with_reducible first | exact HB.out | apply below_alloc | apply pw_below_drewN | apply below_drew1 | refine below_set ?_ GE287.out) | exact HB.out)) hb); have n2_ := Aside0.mk (hbox); have n3_ := Aside0.mk ((by rw [hg]; exact (below_size (by repeat (first | (with_reducible first | exact HB.out | apply below_alloc | apply pw_below_drewN | apply below_drew1 | refine below_set ?_ GE287.out) | exact HB.out))) : w.heap.size ≤ gb288)); have n4_ := Aside0.mk ((by rw [hg]; exact (below_size (by repeat (first | (with_reducible first | exact HB.out | apply below_alloc | apply pw_below_drewN | apply below_drew1 | refine below_set ?_ GE287.out) | exact HB.out))) : w.heap.size ≤ gb288)); have n5_ := Aside0.mk ((by rw [hg]; exact Nat.ne_of_lt (blk_lt (g := gb287) (o := .cells #[.int .i64 a0_0, .int .i64 a0_1, .string a0_2] 28 (0, 0)) (by (with_reducible repeat (first | refine blk_drewN ?_ _ | refine blk_drew ?_ | refine blk_alloc ?_ _)); exact BK287.out)) : gb287 ≠ gb288)); have n6_ := Aside0.mk ((by rw [hg]; exact Nat.ne_of_gt (blk_lt (g := gb287) (o := .cells #[.int .i64 a0_0, .int .i64 a0_1, .string a0_2] 28 (0, 0)) (by (with_reducible repeat (first | refine blk_drewN ?_ _ | refine blk_drew ?_ | refine blk_alloc ?_ _)); exact BK287.out)) : gb288 ≠ gb287)); clear BK287; clear HB; have BK287 := n0_; have HB := n1_; have BK288 := n2_; have GW288 := n3_; have GE288 := n4_; have NB287_288 := n5_; have NB288_287 := n6_; clear n0_ n1_ n2_ n3_ n4_ n5_ n6_; clear hb hbox hg; have hnb22 := NB287_288.out; have hnc22 := NB288_287.out; have hcz23_0 : w21.cell? ⟨gb287, 0, none⟩ = some (.int .i64 a0_0) := (blk_cell BK287.out 0).trans rfl; have hcz23_1 : w21.cell? ⟨gb287, 1, none⟩ = some (.int .i64 a0_1) := (blk_cell BK287.out 1).trans rfl; have hcz23_2 : w21.cell? ⟨gb287, 2, none⟩ = some (.string a0_2) := (blk_cell BK287.out 2).trans rfl; have hfz23_0 := blk_frozen BK287.out 0; have hfz23_1 := blk_frozen BK287.out 1; have hfz23_2 := blk_frozen BK287.out 2; have hcz24_0 : w21.cell? ⟨gb288, 0, none⟩ = some (.int .i64 0) := (blk_cell BK288.out 0).trans rfl; have hcz24_1 : w21.cell? ⟨gb288, 1, none⟩ = some (.int .i64 0) := (blk_cell BK288.out 1).trans rfl; have hcz24_2 : w21.cell? ⟨gb288, 2, none⟩ = some (.string (⟨#[]⟩ : ByteArray)) := (blk_cell BK288.out 2).trans rfl; have hfz24_0 := blk_frozen BK288.out 0; have hfz24_1 := blk_frozen BK288.out 1; have hfz24_2 := blk_frozen BK288.out 2))
        refine bodyPost_ret (results_cell_row rfl _ _ gb288 28 #[.int .i64 0, .int .i64 0, .string (⟨#[]⟩ : ByteArray)] (0, 0) _ rfl (by (with_reducible repeat (first | refine blk_drewN ?_ _ | refine blk_drew ?_ | refine blk_alloc ?_ _)); refine blk_put (cs := #[.int .i64 0, .int .i64 0, .string (⟨#[]⟩ : ByteArray)]) ?_ 2 _ rfl; (with_reducible repeat (first | refine blk_drewN ?_ _ | refine blk_drew ?_ | refine blk_alloc ?_ _)); refine blk_put (cs := #[.int .i64 0, .int .i64 0, .string (⟨#[]⟩ : ByteArray)]) ?_ 1 _ rfl; (with_reducible repeat (first | refine blk_drewN ?_ _ | refine blk_drew ?_ | refine blk_alloc ?_ _)); refine blk_put (cs := #[.int .i64 0, .int .i64 0, .string (⟨#[]⟩ : ByteArray)]) ?_ 0 _ rfl; (with_reducible repeat (first | refine blk_drewN ?_ _ | refine blk_drew ?_ | refine blk_alloc ?_ _)); exact BK288.out) Tryz.underlying28 rfl (by kernel_rfl)) rfl ?_
        exact ⟨by first | rfl | (simp [errW_none, errW_some] <;> rfl) | (simp [*, errW_none, errW_some] <;> rfl), by repeat (first | (with_reducible first | exact HB.out | apply below_alloc | apply pw_below_drewN | apply below_drew1 | refine below_set ?_ GE287.out | refine below_set ?_ GE288.out) | exact HB.out)⟩

end Go.Proofs.YtlkbeddlmbghkaaGreatDoor.PR
