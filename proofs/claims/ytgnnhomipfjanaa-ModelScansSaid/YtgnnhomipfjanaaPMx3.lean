/- Functions with the same answers as the Go functions named, and that the Go code comes to just these; written by a program of this work, out of the kit's print. -/
import Derived.Test.YtgnnhomipfjanaaPMx0
namespace Go.Proofs.Ytgnnhomipfjanaa.PM
open Go.RowKit Go.Proofs.YtgnnhomipfjanaaW.PrintWords Go.Proofs.YtgnnhomipfjanaaW.PrintLast Go.Proofs.YtgnnhomipfjanaaW.PrintMore
attribute [local go_sem] Go.Lib.run_max_strs max2_int min2_int max_two min_two max_three min_three max_four min_four   -- for this text's walks alone
set_option linter.unusedVariables false
set_option linter.unusedSimpArgs false

/-! ### rundleref24_Add: function 49 -/
def rundleref24_Add.l0 : Nat → Int → List (S104) → List (S109) → Int → Option ((List (S109)))
 | 0, _, _, _, _ => none
 | k + 1, x1, x2, x7, x8 => if x8 < (x2.length : Int) then (if 0 ≤ x8 then (if x7.length < 2932031007402 then (rundleref24_Add.l0 k x1 x2 (x7 ++ [(⟨x1, (rd_T104 x2 x8).f0, (rd_T104 x2 x8).f1, (rd_T104 x2 x8).f2⟩ : S109)]) (wrap64 (x8 + 1))) else (none)) else (none)) else (some x7)
def rundleref24_Add.f (k : Nat) (l0 : List (S109)) (a1 : Int) (l2 : List (S104)) : Option ((List (S109))) := (some (([] : List (S109)) : List (S109))).bind fun y135 => (if y135.length + l0.length < 2932031007402 then (rundleref24_Add.l0 k a1 l2 (y135 ++ l0) 0) else (none))
theorem rundleref24_Add.mono_l : ∀ k, (∀ y0 y1 y2 y3, LeO (rundleref24_Add.l0 k y0 y1 y2 y3) (rundleref24_Add.l0 (k + 1) y0 y1 y2 y3))
 | 0 => fun _ _ _ _ r h => by simp [rundleref24_Add.l0] at h
 | k + 1 => by
  have ih0 := rundleref24_Add.mono_l k
  ·
   intro y0 y1 y2 y3
   unfold rundleref24_Add.l0
   repeat' first
   | (with_reducible exact ih0 _ _ _ _)
   | (with_reducible exact LeO.refl _)
   | (with_reducible exact LeO.none _)
   | (with_reducible refine LeO.ite ?_ ?_)
   | (with_reducible refine LeO.bind ?_ (fun _ => ?_))
   | exact ih0 _ _ _ _
   | exact LeO.none _
   | refine LeO.ite ?_ ?_
   | refine LeO.bind ?_ (fun _ => ?_)
theorem rundleref24_Add.mono : ∀ a0 a1 a2 k, LeO (rundleref24_Add.f k a0 a1 a2) (rundleref24_Add.f (k + 1) a0 a1 a2) := by
 intro a0 a1 a2 k
 have ih0 := rundleref24_Add.mono_l k
 unfold rundleref24_Add.f
 repeat' first
   | (with_reducible exact ih0 _ _ _ _)
   | (with_reducible exact LeO.refl _)
   | (with_reducible exact LeO.none _)
   | (with_reducible refine LeO.ite ?_ ?_)
   | (with_reducible refine LeO.bind ?_ (fun _ => ?_))
   | exact ih0 _ _ _ _
   | exact LeO.none _
   | refine LeO.ite ?_ ?_
   | refine LeO.bind ?_ (fun _ => ?_)
def rundleref24_Add.T5 : Bool × List (List Nat × List Nat) := (true, [([], []), ([], []), ([], []), ([], []), ([2, 3], [2, 3]), ([4], [4]), ([5], [5]), ([], []), ([], []), ([7, 8], [7, 8]), ([9], [9]), ([10], [10]), ([], []), ([], []), ([12, 13], [12, 13]), ([14], [14]), ([15], [15]), ([1, 6, 11, 16], [1, 6, 11, 16]), ([17], [17]), ([0, 18], [0, 18]), ([19, 19, 0, 1, 2, 3, 4, 5, 6, 7, 8, 9, 10, 11, 12, 13, 14, 15, 16, 17, 18, 19], [0, 19])])
def rundleref24_Add.B5 : List Nat := [0, 0, 0, 0, 12, 28, 60, 0, 0, 384, 896, 1920, 0, 0, 12288, 28672, 61440, 131070, 262142, 524287, 1048575]
theorem rundleref24_Add.tab5 : rtab .any (opsOf Try.f49 5) = rundleref24_Add.T5 := by kernel_rfl
theorem rundleref24_Add.bits5 : waitsOk rundleref24_Add.T5.2 rundleref24_Add.B5 = true := by kernel_rfl
set_option maxHeartbeats 8000000 in
set_option maxRecDepth 100000 in
theorem rundleref24_Add.calls (k : Nat) (A0 : Option Addr) (c0 : Nat) (l0 : List (S109)) (a1 : Int) (A2 : Option Addr) (c2 : Nat) (l2 : List (S104)) (r : List (S109)) (w : World) (hr0 : Kd.C k109 w A0 l0.length l0) (hc0 : l0.length ≤ c0) (hr2 : Kd.C k104 w A2 l2.length l2) (hc2 : l2.length ≤ c2) (h : rundleref24_Add.f k l0 a1 l2 = some r) :
  Calls Try.prog 49 #[.slice A0 l0.length c0, .int .i64 a1, .slice A2 l2.length c2] w fun e w' => ∃ v0_ : Value, e = .returned (v0_) ∧ Kd.R k109 109 w' w.heap.size (fun _ => True) v0_ r ∧ Below w.heap.size w w' := by
 have hu109 := Try.underlying109
 have HR0 := Aside0.mk hr0
 have HC0 := Aside0.mk hc0
 clear hr0 hc0
 have HR2 := Aside0.mk hr2
 have HC2 := Aside0.mk hc2
 clear hr2 hc2
 have HB := Aside0.mk (Below.refl w.heap.size w)
 have H : ((some (([] : List (S109)) : List (S109))).bind fun y135 => (if y135.length + l0.length < 2932031007402 then (rundleref24_Add.l0 k a1 l2 (y135 ++ l0) 0) else (none))) = some r := h
 clear h
 obtain ⟨y135, hy135⟩ : ∃ y_ : List (S109), y_ = (([] : List (S109))) := ⟨_, rfl⟩
 replace H : (if y135.length + l0.length < 2932031007402 then (rundleref24_Add.l0 k a1 l2 (y135 ++ l0) 0) else (none)) = some r := by first | (rw [hy135]; with_reducible exact H) | (have H2_ := (Option.bind_some _ _).symm.trans H; rw [hy135]; with_reducible exact H2_) | (have H2_ := (Option.bind_some _ _).symm.trans H; with_reducible exact H2_) | with_reducible exact H | (rw [hy135]; exact H) | exact H
 have Ny135 := Aside0.mk hy135
 clear hy135
 by_cases c4 : y135.length + l0.length < 2932031007402
 ·
  rw [if_pos c4] at H
  have LMc4 := Aside0.mk c4
  clear c4
  obtain ⟨y138, hy138⟩ : ∃ y_ : List (S109), y_ = (y135 ++ l0) := ⟨_, rfl⟩
  replace H : (rundleref24_Add.l0 k a1 l2 y138 0) = some r := by first | (rw [hy138]; with_reducible exact H) | (have H2_ := (Option.bind_some _ _).symm.trans H; rw [hy138]; with_reducible exact H2_) | (have H2_ := (Option.bind_some _ _).symm.trans H; with_reducible exact H2_) | with_reducible exact H | (rw [hy138]; exact H) | exact H
  have Ny138 := Aside0.mk hy138
  clear hy138
  have H' := Aside0.mk H
  clear H
  go_enter Try.func49, Try.ntmps49
  go_wp2_with (first | ((with_reducible refine gate_dst (N := 9) rfl ?_); refine Kd.R_lit k109 _ 109 ?hg (N := 9) ?hd (xs := ([] : List (S109))) (inner := []) (ok := fun _ => True) (okp := fun _ => True) ?hr ?hp (fun _ hk => hk) trivial (Below.refl _ _) (Nat.le_refl _) (by simp) ?_; (case hd => rfl); (case hg => rfl); (case hr => first | (go_simp; done) | (go_simp; rfl)); (case hp => exact (Reps.none _ _)); intro v136 w5 ho6 hb hg_ hnew_; clear hg_ hnew_; (first | rw [← Ny135.out] at ho6 | (simp only [Int.reduceToNat] at ho6; rw [← Ny135.out] at ho6)); have n0_ := Aside0.mk (Kd.R_lower ho6 (below_size (by repeat (first | (with_reducible first | exact HB.out | apply below_alloc | apply pw_below_drewN | apply below_drew1) | exact HB.out)))); have n1_ := Aside0.mk (below_step (by repeat (first | (with_reducible first | exact HB.out | apply below_alloc | apply pw_below_drewN | apply below_drew1) | exact HB.out)) hb); clear HB; have HO137 := n0_; have HB := n1_; clear n0_ n1_; clear hb ho6) | ((with_reducible refine gate_builtin (b := .append) (xs := #[.tmp 9, .tmp 10]) rfl ?_); at_builtin; refine Kd.R_append_rows k109 (w0 := w) w.heap.size rfl (.tmp 9) (.tmp 10) 58 109 (.agg #[(.int .i64 0), (.string ⟨#[]⟩), (.string ⟨#[]⟩), (.bool false)]) 48 rfl Try.underlying58 info109 rfl (by decide) (by omega) v136 y135 l0 _ _ _ (fun _ => True) (fun _ => False) rfl rfl ?aO ?aR (fun _ _ h => h) (fun _ h => h.elim) ?aF ?aB ?aS ?aL ?_; (case aR => repeat (first | exact (Kd.C_below HR0.out HB.out) | (with_reducible refine Kd.C_alloc ?_ _) | (with_reducible refine Kd.C_drewN ?_ _) | (with_reducible refine Kd.C_drew ?_))); (case aB => exact (by repeat (first | (with_reducible first | exact HB.out | apply below_alloc | apply pw_below_drewN | apply below_drew1) | exact HB.out))); (case aF => exact (fun _ _ => trivial)); (case aO => exact (by (with_reducible repeat (first | apply Kd.R_alloc | apply Kd.R_drewN | apply Kd.R_drew)); exact HO137.out)); (case aS => exact (below_size (by repeat (first | (with_reducible first | exact HB.out | apply below_alloc | apply pw_below_drewN | apply below_drew1) | exact HB.out)))); (case aL => have := LMc4.out; omega); intro v139 w7 ho hb hg hat; rw [← Ny138.out] at ho; have n0_ := Aside0.mk (hb); have n1_ := Aside0.mk (ho); clear HB; clear HO137; have HB := n0_; have HO140 := n1_; clear n0_ n1_; clear ho hb hg hat))
  go_loopg [7, 8] k (fun kq v7 v8 w' => ∃ (x7_1 : List (S109)) (x8_1 : Int), v8 = .int .i64 x8_1 ∧ Aside0 (rundleref24_Add.l0 kq a1 l2 x7_1 x8_1 = some r) ∧ Aside0 (kq ≤ k) ∧ Aside0 (Kd.R k109 109 w' w.heap.size (fun _ => True) v7 x7_1) ∧ Aside0 (Below w.heap.size w w'))
  case atStart => exact ⟨(y138), (0), (by first | rfl | (simp; done) | (simp [*]; done)), H', ⟨Nat.le_refl _⟩, ⟨by (with_reducible repeat (first | apply Kd.R_alloc | apply Kd.R_drewN | apply Kd.R_drew)); exact HO140.out⟩, ⟨by repeat (first | (with_reducible first | exact HB.out | apply below_alloc | apply pw_below_drewN | apply below_drew1) | exact HB.out)⟩⟩
  case round =>
   clear H'
   try clear c2
   try clear p2
   try clear c4
   obtain ⟨x7_1, x8_1, rfl, HA, HK1, HO_7, HB⟩ := hrel
   cases gk with
   | zero => exact absurd HA.out (by simp [rundleref24_Add.l0])
   | succ k1 =>
    have H := HA.out
    clear HA
    simp only [rundleref24_Add.l0] at H
    by_cases c8 : x8_1 < (l2.length : Int)
    ·
     rw [if_pos c8] at H
     have c8b0 : decide (x8_1 < (l2.length : Int)) = true := decide_eq_true c8
     clear c8
     by_cases c9 : 0 ≤ x8_1
     ·
      rw [if_pos c9] at H
      have c9b0 : decide (0 ≤ x8_1) = true := decide_eq_true c9
      clear c9
      by_cases c10 : x7_1.length < 2932031007402
      ·
       rw [if_pos c10] at H
       have LMc10 := Aside0.mk c10
       clear c10
       obtain ⟨y144, hy144⟩ : ∃ y_ : List (S109), y_ = (x7_1 ++ [(⟨a1, (rd_T104 l2 x8_1).f0, (rd_T104 l2 x8_1).f1, (rd_T104 l2 x8_1).f2⟩ : S109)]) := ⟨_, rfl⟩
       replace H : (rundleref24_Add.l0 k1 a1 l2 y144 (wrap64 (x8_1 + 1))) = some r := by first | (rw [hy144]; with_reducible exact H) | (have H2_ := (Option.bind_some _ _).symm.trans H; rw [hy144]; with_reducible exact H2_) | (have H2_ := (Option.bind_some _ _).symm.trans H; with_reducible exact H2_) | with_reducible exact H | (rw [hy144]; exact H) | exact H
       have Ny144 := Aside0.mk hy144
       clear hy144
       have H' := Aside0.mk H
       clear H
       try go_wp2
       have n0_ := Aside0.mk (Kd.R_drew HO_7.out)
       have n1_ := Aside0.mk (below_drew1 HB.out)
       clear HO_7
       clear HB
       have HO_7 := n0_
       have HB := n1_
       clear n0_ n1_
       have p141 : 0 ≤ (x8_1 : Int) := of_decide_eq_true (by first | (with_reducible assumption) | assumption)
       have q141 : x8_1 < (l2.length : Int) := of_decide_eq_true (by first | (with_reducible assumption) | assumption)
       obtain ⟨ad141, e141, hx141_0, hx141_1, hx141_2⟩ := at_T104 HR2.out x8_1 p141 q141
       have hw141_2 := hx141_2
       have hw141_1 := hx141_1
       have hw141_0 := hx141_0
       cases e141
       replace hx141_0 := (HB.out.cell (World.block_lt_of_cell? w _ hx141_0)).trans hx141_0
       replace hx141_1 := (HB.out.cell (World.block_lt_of_cell? w _ hx141_1)).trans hx141_1
       replace hx141_2 := (HB.out.cell (World.block_lt_of_cell? w _ hx141_2)).trans hx141_2
       replace p141 := eq_true p141
       replace q141 := eq_true q141
       have p142 : 0 ≤ (x8_1 : Int) := of_decide_eq_true (by first | (with_reducible assumption) | assumption)
       have q142 : x8_1 < (l2.length : Int) := of_decide_eq_true (by first | (with_reducible assumption) | assumption)
       obtain ⟨ad142, e142, hx142_0, hx142_1, hx142_2⟩ := at_T104 HR2.out x8_1 p142 q142
       have hw142_2 := hx142_2
       have hw142_1 := hx142_1
       have hw142_0 := hx142_0
       obtain rfl : ad141 = ad142 := (by injection e142)
       replace hx142_0 := (HB.out.cell (World.block_lt_of_cell? w _ hx142_0)).trans hx142_0
       replace hx142_1 := (HB.out.cell (World.block_lt_of_cell? w _ hx142_1)).trans hx142_1
       replace hx142_2 := (HB.out.cell (World.block_lt_of_cell? w _ hx142_2)).trans hx142_2
       replace p142 := eq_true p142
       replace q142 := eq_true q142
       have p143 : 0 ≤ (x8_1 : Int) := of_decide_eq_true (by first | (with_reducible assumption) | assumption)
       have q143 : x8_1 < (l2.length : Int) := of_decide_eq_true (by first | (with_reducible assumption) | assumption)
       obtain ⟨ad143, e143, hx143_0, hx143_1, hx143_2⟩ := at_T104 HR2.out x8_1 p143 q143
       have hw143_2 := hx143_2
       have hw143_1 := hx143_1
       have hw143_0 := hx143_0
       obtain rfl : ad141 = ad143 := (by injection e143)
       replace hx143_0 := (HB.out.cell (World.block_lt_of_cell? w _ hx143_0)).trans hx143_0
       replace hx143_1 := (HB.out.cell (World.block_lt_of_cell? w _ hx143_1)).trans hx143_1
       replace hx143_2 := (HB.out.cell (World.block_lt_of_cell? w _ hx143_2)).trans hx143_2
       replace p143 := eq_true p143
       replace q143 := eq_true q143
       refine start_ (n := 21) (S := fun w' => w'.cell? (ad141.add ((x8_1).toNat * 3)) = some (.string ((rd_T104 l2 x8_1).f0)) ∧ w'.cell? ⟨(ad141.add ((x8_1).toNat * 3)).block, (ad141.add ((x8_1).toNat * 3)).off + 1, none⟩ = some (.string ((rd_T104 l2 x8_1).f1)) ∧ w'.cell? ⟨(ad141.add ((x8_1).toNat * 3)).block, (ad141.add ((x8_1).toNat * 3)).off + 2, none⟩ = some (.bool ((rd_T104 l2 x8_1).f2)) ∧ w'.cell? (ad141.add ((x8_1).toNat * 3)) = some (.string ((rd_T104 l2 x8_1).f0)) ∧ w'.cell? ⟨(ad141.add ((x8_1).toNat * 3)).block, (ad141.add ((x8_1).toNat * 3)).off + 1, none⟩ = some (.string ((rd_T104 l2 x8_1).f1)) ∧ w'.cell? ⟨(ad141.add ((x8_1).toNat * 3)).block, (ad141.add ((x8_1).toNat * 3)).off + 2, none⟩ = some (.bool ((rd_T104 l2 x8_1).f2)) ∧ w'.cell? (ad141.add ((x8_1).toNat * 3)) = some (.string ((rd_T104 l2 x8_1).f0)) ∧ w'.cell? ⟨(ad141.add ((x8_1).toNat * 3)).block, (ad141.add ((x8_1).toNat * 3)).off + 1, none⟩ = some (.string ((rd_T104 l2 x8_1).f1)) ∧ w'.cell? ⟨(ad141.add ((x8_1).toNat * 3)).block, (ad141.add ((x8_1).toNat * 3)).off + 2, none⟩ = some (.bool ((rd_T104 l2 x8_1).f2))) (ds := []) #[false, false, false, false, false, false, false, false, false, false, false, false, false, false, false, false, false, false, false, false, false] (by kernel_rfl) rfl rfl ⟨((HB.out.cell (World.block_lt_of_cell? w _ hw141_0)).trans hw141_0), ((HB.out.cell (World.block_lt_of_cell? w _ hw141_1)).trans hw141_1), ((HB.out.cell (World.block_lt_of_cell? w _ hw141_2)).trans hw141_2), ((HB.out.cell (World.block_lt_of_cell? w _ hw142_0)).trans hw142_0), ((HB.out.cell (World.block_lt_of_cell? w _ hw142_1)).trans hw142_1), ((HB.out.cell (World.block_lt_of_cell? w _ hw142_2)).trans hw142_2), ((HB.out.cell (World.block_lt_of_cell? w _ hw143_0)).trans hw143_0), ((HB.out.cell (World.block_lt_of_cell? w _ hw143_1)).trans hw143_1), ((HB.out.cell (World.block_lt_of_cell? w _ hw143_2)).trans hw143_2)⟩ (fun hHeld => ?_); refine with_tabW rundleref24_Add.tab5 rundleref24_Add.bits5 (fun HT_ HW_ => ?_)
       generalize wr.drew = w11 at HO_7 HB hx141_0 hx141_1 hx141_2 hx142_0 hx142_1 hx142_2 hx143_0 hx143_1 hx143_2 hHeld ⊢
       refine pure_ (i := 0) (N := some 18) (v := ?_) (a' := ?_) #[true, false, false, false, false, false, false, false, false, false, false, false, false, false, false, false, false, false, false, false, false] rfl rfl (any_of HT_.out (by kernel_rfl)) (fun _ _ _ h => h) (Or.inl ⟨by rfl, ?_⟩) ?_ ?_
       rotate_left
       ·
        intro w'
        go_simp
        with_reducible rfl
       rotate_left
       ·
        simp only [Act.put, List.setIfInBounds_toArray, List.set_cons_zero, List.set_cons_succ, i64_w, i32_w]
        rfl
       refine pure_ (i := 1) (N := some 19) (v := ?_) (a' := ?_) #[true, true, false, false, false, false, false, false, false, false, false, false, false, false, false, false, false, false, false, false, false] rfl rfl (any_of HT_.out (by kernel_rfl)) (fun _ _ _ h => h) (Or.inl ⟨by rfl, ?_⟩) ?_ ?_
       rotate_left
       ·
        intro w'
        go_simp
        with_reducible rfl
       rotate_left
       ·
        simp only [Act.put, List.setIfInBounds_toArray, List.set_cons_zero, List.set_cons_succ, i64_w, i32_w]
        rfl
       refine pure_ (i := 2) (N := some 20) (v := ?_) (a' := ?_) #[true, true, true, false, false, false, false, false, false, false, false, false, false, false, false, false, false, false, false, false, false] rfl rfl (any_of HT_.out (by kernel_rfl)) (fun _ _ _ h => h) (Or.inl ⟨by rfl, ?_⟩) ?_ ?_
       rotate_left
       ·
        intro w'
        go_simp
        with_reducible rfl
       rotate_left
       ·
        simp only [Act.put, List.setIfInBounds_toArray, List.set_cons_zero, List.set_cons_succ, i64_w, i32_w]
        rfl
       refine pure_ (i := 3) (N := some 21) (v := ?_) (a' := ?_) #[true, true, true, true, false, false, false, false, false, false, false, false, false, false, false, false, false, false, false, false, false] rfl rfl (any_of HT_.out (by kernel_rfl)) (fun _ _ _ h => h) (Or.inl ⟨by rfl, ?_⟩) ?_ ?_
       rotate_left
       ·
        intro w'
        go_simp
        with_reducible rfl
       rotate_left
       ·
        simp only [Act.put, List.setIfInBounds_toArray, List.set_cons_zero, List.set_cons_succ, i64_w, i32_w]
        rfl
       refine pure_ (i := 4) (N := some 22) (v := ?_) (a' := ?_) #[true, true, true, true, true, false, false, false, false, false, false, false, false, false, false, false, false, false, false, false, false] rfl rfl (any_of HT_.out (by kernel_rfl)) (fun _ _ _ h => h) (Or.inl ⟨by rfl, ?_⟩) ?_ ?_
       rotate_left
       ·
        intro w'
        go_simp
        with_reducible rfl
       rotate_left
       ·
        simp only [Act.put, List.setIfInBounds_toArray, List.set_cons_zero, List.set_cons_succ, i64_w, i32_w]
        rfl
       refine pure_ (i := 5) (N := some 23) (v := ?_) (a' := ?_) #[true, true, true, true, true, true, false, false, false, false, false, false, false, false, false, false, false, false, false, false, false] rfl rfl (any_of HT_.out (by kernel_rfl)) (fun _ _ _ h => h) (Or.inl ⟨by rfl, ?_⟩) ?_ ?_
       rotate_left
       ·
        intro w'
        go_simp
        with_reducible rfl
       rotate_left
       ·
        simp only [Act.put, List.setIfInBounds_toArray, List.set_cons_zero, List.set_cons_succ, i64_w, i32_w]
        rfl
       refine pure_ (i := 7) (N := some 25) (v := ?_) (a' := ?_) #[true, true, true, true, true, true, false, true, false, false, false, false, false, false, false, false, false, false, false, false, false] rfl rfl (any_of HT_.out (by kernel_rfl)) (fun _ _ _ h => h) (Or.inl ⟨by rfl, ?_⟩) ?_ ?_
       rotate_left
       ·
        intro w'
        go_simp
        with_reducible rfl
       rotate_left
       ·
        simp only [Act.put, List.setIfInBounds_toArray, List.set_cons_zero, List.set_cons_succ, i64_w, i32_w]
        rfl
       refine pure_ (i := 8) (N := some 26) (v := ?_) (a' := ?_) #[true, true, true, true, true, true, false, true, true, false, false, false, false, false, false, false, false, false, false, false, false] rfl rfl (any_of HT_.out (by kernel_rfl)) (fun _ _ _ h => h) (Or.inl ⟨by rfl, ?_⟩) ?_ ?_
       rotate_left
       ·
        intro w'
        go_simp
        with_reducible rfl
       rotate_left
       ·
        simp only [Act.put, List.setIfInBounds_toArray, List.set_cons_zero, List.set_cons_succ, i64_w, i32_w]
        rfl
       refine pure_ (i := 9) (N := some 27) (v := ?_) (a' := ?_) #[true, true, true, true, true, true, false, true, true, true, false, false, false, false, false, false, false, false, false, false, false] rfl rfl (any_of HT_.out (by kernel_rfl)) (fun _ _ _ h => h) (Or.inl ⟨by rfl, ?_⟩) ?_ ?_
       rotate_left
       ·
        intro w'
        go_simp
        with_reducible rfl
       rotate_left
       ·
        simp only [Act.put, List.setIfInBounds_toArray, List.set_cons_zero, List.set_cons_succ, i64_w, i32_w]
        rfl
       refine pure_ (i := 10) (N := some 28) (v := ?_) (a' := ?_) #[true, true, true, true, true, true, false, true, true, true, true, false, false, false, false, false, false, false, false, false, false] rfl rfl (any_of HT_.out (by kernel_rfl)) (fun _ _ _ h => h) (Or.inl ⟨by rfl, ?_⟩) ?_ ?_
       rotate_left
       ·
        intro w'
        go_simp
        with_reducible rfl
       rotate_left
       ·
        simp only [Act.put, List.setIfInBounds_toArray, List.set_cons_zero, List.set_cons_succ, i64_w, i32_w]
        rfl
       refine pure_ (i := 12) (N := some 30) (v := ?_) (a' := ?_) #[true, true, true, true, true, true, false, true, true, true, true, false, true, false, false, false, false, false, false, false, false] rfl rfl (any_of HT_.out (by kernel_rfl)) (fun _ _ _ h => h) (Or.inl ⟨by rfl, ?_⟩) ?_ ?_
       rotate_left
       ·
        intro w'
        go_simp
        with_reducible rfl
       rotate_left
       ·
        simp only [Act.put, List.setIfInBounds_toArray, List.set_cons_zero, List.set_cons_succ, i64_w, i32_w]
        rfl
       refine pure_ (i := 13) (N := some 31) (v := ?_) (a' := ?_) #[true, true, true, true, true, true, false, true, true, true, true, false, true, true, false, false, false, false, false, false, false] rfl rfl (any_of HT_.out (by kernel_rfl)) (fun _ _ _ h => h) (Or.inl ⟨by rfl, ?_⟩) ?_ ?_
       rotate_left
       ·
        intro w'
        go_simp
        with_reducible rfl
       rotate_left
       ·
        simp only [Act.put, List.setIfInBounds_toArray, List.set_cons_zero, List.set_cons_succ, i64_w, i32_w]
        rfl
       refine pure_ (i := 14) (N := some 32) (v := ?_) (a' := ?_) #[true, true, true, true, true, true, false, true, true, true, true, false, true, true, true, false, false, false, false, false, false] rfl rfl (any_of HT_.out (by kernel_rfl)) (fun _ _ _ h => h) (Or.inl ⟨by rfl, ?_⟩) ?_ ?_
       rotate_left
       ·
        intro w'
        go_simp
        with_reducible rfl
       rotate_left
       ·
        simp only [Act.put, List.setIfInBounds_toArray, List.set_cons_zero, List.set_cons_succ, i64_w, i32_w]
        rfl
       refine pure_ (i := 15) (N := some 33) (v := ?_) (a' := ?_) #[true, true, true, true, true, true, false, true, true, true, true, false, true, true, true, true, false, false, false, false, false] rfl rfl (any_of HT_.out (by kernel_rfl)) (fun _ _ _ h => h) (Or.inl ⟨by rfl, ?_⟩) ?_ ?_
       rotate_left
       ·
        intro w'
        go_simp
        with_reducible rfl
       rotate_left
       ·
        simp only [Act.put, List.setIfInBounds_toArray, List.set_cons_zero, List.set_cons_succ, i64_w, i32_w]
        rfl
       refine take_ (i := 6) (N := some 24) (v := ?_) (a' := ?_) #[true, true, true, true, true, true, true, true, true, true, true, false, true, true, true, true, false, false, false, false, false] rfl rfl (take_ofW HT_.out HW_.out (by kernel_rfl)) (fun _ _ _ h => h) (Or.inl ⟨by rfl, ?_⟩) hHeld ?_ ?_
       rotate_left
       ·
        rintro w' ⟨s0, s1, s2, s3, s4, s5, s6, s7, s8⟩
        go_simp
        with_reducible rfl
       rotate_left
       ·
        simp only [Act.put, List.setIfInBounds_toArray, List.set_cons_zero, List.set_cons_succ, i64_w, i32_w]
        rfl
       refine take_ (i := 11) (N := some 29) (v := ?_) (a' := ?_) #[true, true, true, true, true, true, true, true, true, true, true, true, true, true, true, true, false, false, false, false, false] rfl rfl (take_ofW HT_.out HW_.out (by kernel_rfl)) (fun _ _ _ h => h) (Or.inl ⟨by rfl, ?_⟩) hHeld ?_ ?_
       rotate_left
       ·
        rintro w' ⟨s0, s1, s2, s3, s4, s5, s6, s7, s8⟩
        go_simp
        with_reducible rfl
       rotate_left
       ·
        simp only [Act.put, List.setIfInBounds_toArray, List.set_cons_zero, List.set_cons_succ, i64_w, i32_w]
        rfl
       refine take_ (i := 16) (N := some 34) (v := ?_) (a' := ?_) #[true, true, true, true, true, true, true, true, true, true, true, true, true, true, true, true, true, false, false, false, false] rfl rfl (take_ofW HT_.out HW_.out (by kernel_rfl)) (fun _ _ _ h => h) (Or.inl ⟨by rfl, ?_⟩) hHeld ?_ ?_
       rotate_left
       ·
        rintro w' ⟨s0, s1, s2, s3, s4, s5, s6, s7, s8⟩
        go_simp
        with_reducible rfl
       rotate_left
       ·
        simp only [Act.put, List.setIfInBounds_toArray, List.set_cons_zero, List.set_cons_succ, i64_w, i32_w]
        rfl
       refine pure_ (i := 17) (N := some 35) (v := ?_) (a' := ?_) #[true, true, true, true, true, true, true, true, true, true, true, true, true, true, true, true, true, true, false, false, false] rfl rfl (any_of HT_.out (by kernel_rfl)) (fun _ _ _ h => h) (Or.inl ⟨by rfl, ?_⟩) ?_ ?_
       rotate_left
       ·
        intro w'
        go_simp
        with_reducible rfl
       rotate_left
       ·
        simp only [Act.put, List.setIfInBounds_toArray, List.set_cons_zero, List.set_cons_succ, i64_w, i32_w]
        rfl
       refine one_ (i := 18) (N := some 36) #[true, true, true, true, true, true, true, true, true, true, true, true, true, true, true, true, true, true, true, false, false] rfl rfl (one_of HT_.out (by kernel_rfl)) (by decide) (fun K hK => ?_)
       refine value_ (w1 := ?_) (v := ?_) (by rfl) rfl ?_ ?_
       rotate_left 2
       ·
        go_simp
        constructor
        ·
         rfl
        ·
         rfl
       refine hK.out _ _ ⟨(World.cell?_alloc_lt _ _ _ (World.block_lt_of_cell? _ _ (((HB.out.cell (World.block_lt_of_cell? w _ hw141_0)).trans hw141_0)))).trans (((HB.out.cell (World.block_lt_of_cell? w _ hw141_0)).trans hw141_0)), (World.cell?_alloc_lt _ _ _ (World.block_lt_of_cell? _ _ (((HB.out.cell (World.block_lt_of_cell? w _ hw141_1)).trans hw141_1)))).trans (((HB.out.cell (World.block_lt_of_cell? w _ hw141_1)).trans hw141_1)), (World.cell?_alloc_lt _ _ _ (World.block_lt_of_cell? _ _ (((HB.out.cell (World.block_lt_of_cell? w _ hw141_2)).trans hw141_2)))).trans (((HB.out.cell (World.block_lt_of_cell? w _ hw141_2)).trans hw141_2)), (World.cell?_alloc_lt _ _ _ (World.block_lt_of_cell? _ _ (((HB.out.cell (World.block_lt_of_cell? w _ hw142_0)).trans hw142_0)))).trans (((HB.out.cell (World.block_lt_of_cell? w _ hw142_0)).trans hw142_0)), (World.cell?_alloc_lt _ _ _ (World.block_lt_of_cell? _ _ (((HB.out.cell (World.block_lt_of_cell? w _ hw142_1)).trans hw142_1)))).trans (((HB.out.cell (World.block_lt_of_cell? w _ hw142_1)).trans hw142_1)), (World.cell?_alloc_lt _ _ _ (World.block_lt_of_cell? _ _ (((HB.out.cell (World.block_lt_of_cell? w _ hw142_2)).trans hw142_2)))).trans (((HB.out.cell (World.block_lt_of_cell? w _ hw142_2)).trans hw142_2)), (World.cell?_alloc_lt _ _ _ (World.block_lt_of_cell? _ _ (((HB.out.cell (World.block_lt_of_cell? w _ hw143_0)).trans hw143_0)))).trans (((HB.out.cell (World.block_lt_of_cell? w _ hw143_0)).trans hw143_0)), (World.cell?_alloc_lt _ _ _ (World.block_lt_of_cell? _ _ (((HB.out.cell (World.block_lt_of_cell? w _ hw143_1)).trans hw143_1)))).trans (((HB.out.cell (World.block_lt_of_cell? w _ hw143_1)).trans hw143_1)), (World.cell?_alloc_lt _ _ _ (World.block_lt_of_cell? _ _ (((HB.out.cell (World.block_lt_of_cell? w _ hw143_2)).trans hw143_2)))).trans (((HB.out.cell (World.block_lt_of_cell? w _ hw143_2)).trans hw143_2))⟩ (fun hHeld => ?_)
       clear hK K
       refine norm_ (a' := ?_) ?_ ?_
       rotate_left
       ·
        show Act.put _ (some 36) _ = _
        simp only [Act.put, List.setIfInBounds_toArray, List.set_cons_zero, List.set_cons_succ, i64_w, i32_w]
        rfl
       refine one_ (i := 19) (N := some 37) #[true, true, true, true, true, true, true, true, true, true, true, true, true, true, true, true, true, true, true, true, false] rfl rfl (one_of HT_.out (by kernel_rfl)) (by decide) (fun K hK => ?_)
       refine Kd.R_append_step k109 (w0 := w) w.heap.size (by rfl) (.tmp 18) (.tmp 36) 58 109 (.agg #[(.int .i64 0), (.string ⟨#[]⟩), (.string ⟨#[]⟩), (.bool false)]) 48 rfl Try.underlying58 info109 rfl (by decide) (by omega) u7 x7_1 (⟨a1, (rd_T104 l2 x8_1).f0, (rd_T104 l2 x8_1).f1, (rd_T104 l2 x8_1).f2⟩ : S109) [.int .i64 a1, .string ((rd_T104 l2 x8_1).f0), .string ((rd_T104 l2 x8_1).f1), .bool ((rd_T104 l2 x8_1).f2)] (fun _ => True) (fun _ => False) rfl rfl ?aP (fun _ hk => hk.elim) ?aF ?aO ?aB ?aS ?aL ?_
       (case aP => exact k109_mkM _ _ _ (⟨a1, (rd_T104 l2 x8_1).f0, (rd_T104 l2 x8_1).f1, (rd_T104 l2 x8_1).f2⟩ : S109))
       (case aB => exact (by repeat (first | (with_reducible first | exact HB.out | apply below_alloc | apply pw_below_drewN | apply below_drew1) | exact HB.out)))
       (case aF => exact (fun _ _ => trivial))
       (case aO => exact (by (with_reducible repeat (first | apply Kd.R_alloc | apply Kd.R_drewN | apply Kd.R_drew)); exact HO_7.out))
       (case aS => exact (below_size (by repeat (first | (with_reducible first | exact HB.out | apply below_alloc | apply pw_below_drewN | apply below_drew1) | exact HB.out))))
       (case aL => have := LMc10.out; omega)
       intro v145 w12 ho hb hg hat
       rw [← Ny144.out] at ho
       have n0_ := Aside0.mk (hb)
       have n1_ := Aside0.mk (ho)
       clear HB
       clear HO_7
       have HB := n0_
       have HO146 := n1_
       clear n0_ n1_
       clear ho hb hg hat
       refine hK.out _ _ ⟨((HB.out.cell (World.block_lt_of_cell? w _ hw141_0)).trans hw141_0), ((HB.out.cell (World.block_lt_of_cell? w _ hw141_1)).trans hw141_1), ((HB.out.cell (World.block_lt_of_cell? w _ hw141_2)).trans hw141_2), ((HB.out.cell (World.block_lt_of_cell? w _ hw142_0)).trans hw142_0), ((HB.out.cell (World.block_lt_of_cell? w _ hw142_1)).trans hw142_1), ((HB.out.cell (World.block_lt_of_cell? w _ hw142_2)).trans hw142_2), ((HB.out.cell (World.block_lt_of_cell? w _ hw143_0)).trans hw143_0), ((HB.out.cell (World.block_lt_of_cell? w _ hw143_1)).trans hw143_1), ((HB.out.cell (World.block_lt_of_cell? w _ hw143_2)).trans hw143_2)⟩ (fun hHeld => ?_)
       clear hK K
       refine norm_ (a' := ?_) ?_ ?_
       rotate_left
       ·
        show Act.put _ (some 37) _ = _
        simp only [Act.put, List.setIfInBounds_toArray, List.set_cons_zero, List.set_cons_succ, i64_w, i32_w]
        rfl
       refine pure_ (i := 20) (N := some 7) (v := ?_) (a' := ?_) #[true, true, true, true, true, true, true, true, true, true, true, true, true, true, true, true, true, true, true, true, true] rfl rfl (any_of HT_.out (by kernel_rfl)) (fun _ _ _ h => h) (Or.inl ⟨by rfl, ?_⟩) ?_ ?_
       rotate_left
       ·
        intro w'
        go_simp
        with_reducible rfl
       rotate_left
       ·
        simp only [Act.put, List.setIfInBounds_toArray, List.set_cons_zero, List.set_cons_succ, i64_w, i32_w]
        rfl
       refine done_ (done_of HT_.out (by kernel_rfl)) ?_
       try go_wp2
       go_roundg k1
       case measure => have := HK1.out; omega
       case rel => exact ⟨(y144), (wrap64 (x8_1 + 1)), (by first | rfl | (simp; done) | (simp [*]; done)), H', ⟨by have := HK1.out; omega⟩, ⟨by (with_reducible repeat (first | apply Kd.R_alloc | apply Kd.R_drewN | apply Kd.R_drew)); exact HO146.out⟩, ⟨by repeat (first | (with_reducible first | exact HB.out | apply below_alloc | apply pw_below_drewN | apply below_drew1) | exact HB.out)⟩⟩
      ·
       rw [if_neg c10] at H
       exact absurd H (by simp)
     ·
      rw [if_neg c9] at H
      exact absurd H (by simp)
    ·
     rw [if_neg c8] at H
     have c8b0 : decide (x8_1 < (l2.length : Int)) = false := decide_eq_false c8
     clear c8
     obtain rfl := Option.some.inj H
     go_wp2
     go_ret
     exact ⟨_, by first | rfl | (simp [errW_none, errW_some] <;> rfl) | (simp [*, errW_none, errW_some] <;> rfl), by (with_reducible repeat (first | apply Kd.R_alloc | apply Kd.R_drewN | apply Kd.R_drew)); exact HO_7.out, by repeat (first | (with_reducible first | exact HB.out | apply below_alloc | apply pw_below_drewN | apply below_drew1) | exact HB.out)⟩
 ·
  rw [if_neg c4] at H
  exact absurd H (by simp)

end Go.Proofs.Ytgnnhomipfjanaa.PM
