/- Functions with the same answers as the Go functions named, and that the Go code comes to just these; written by a program of this work, out of the kit's print. -/
import Derived.Test.YtgnnhomipfjanaaPAx0
import Derived.Test.YtgnnhomipfjanaaPAx2
import Derived.Test.YtgnnhomipfjanaaPAx3
namespace Go.Proofs.Ytgnnhomipfjanaa.PA
open Go.RowKit Go.Proofs.YtgnnhomipfjanaaW.PrintWords Go.Proofs.YtgnnhomipfjanaaW.PrintLast Go.Proofs.YtgnnhomipfjanaaW.PrintMore
attribute [local go_sem] max2_int min2_int max_two min_two max_three min_three max_four min_four   -- for this text's walks alone
set_option linter.unusedVariables false
set_option linter.unusedSimpArgs false

/-! ### rundlelaw09_BatchBounds: function 4 -/
def rundlelaw09_BatchBounds.l0 : Nat → Int → Int → Int → List (S37) → Int → Option (Bool)
  | 0, _, _, _, _, _ => none
  | k + 1, x0, x1, x2, x7, x8 => if x8 < (Int.tmod (wrap64 (x0)) 4200) then (if x7.length < 3518437208883 then (rundlelaw09_BatchBounds.l0 k x0 x1 x2 (x7 ++ [(⟨strOfNums (([(wrap64 (1 + (wrap64 (Int.tdiv x8 200)))) % 256, (wrap64 (1 + (Int.tmod x8 200))) % 256] : List Int)), (⟨#[]⟩ : ByteArray), false⟩ : S37)]) (wrap64 (x8 + 1))) else (none)) else ((batch_Check.f k x7).bind fun t127 => (if 0 ≤ (wrap64 (Int.tmod x1 1100)) then (if (wrap64 (Int.tmod x1 1100) : Int).toNat ≤ 281474976710656 then (if 0 ≤ (wrap64 (65500 + (wrap64 (Int.tmod x2 80)))) then (if (wrap64 (65500 + (wrap64 (Int.tmod x2 80))) : Int).toNat ≤ 281474976710656 then ((some (([(⟨strOfNums (List.replicate (wrap64 (Int.tmod x1 1100) : Int).toNat 0), strOfNums (List.replicate (wrap64 (65500 + (wrap64 (Int.tmod x2 80))) : Int).toNat 0), false⟩ : S37)] : List (S37)) : List (S37))).bind fun y134 => (if (x7.length : Int) ≥ 1 then (if ((t127 == 0) == (decide ((x7.length : Int) ≤ 4096))) = true then ((batch_Check.f k y134).bind fun t137 => (if (wrap64 (Int.tmod x1 1100)) ≥ 1 then (if (wrap64 (Int.tmod x1 1100)) ≤ 1024 then (some ((t137 == 0) == (decide ((wrap64 (65500 + (wrap64 (Int.tmod x2 80)))) ≤ 65536)))) else (some ((t137 == 0) == false))) else (some ((t137 == 0) == false)))) else (some false)) else (if ((t127 == 0) == false) = true then ((batch_Check.f k y134).bind fun t138 => (if (wrap64 (Int.tmod x1 1100)) ≥ 1 then (if (wrap64 (Int.tmod x1 1100)) ≤ 1024 then (some ((t138 == 0) == (decide ((wrap64 (65500 + (wrap64 (Int.tmod x2 80)))) ≤ 65536)))) else (some ((t138 == 0) == false))) else (some ((t138 == 0) == false)))) else (some false)))) else (none)) else (none)) else (none)) else (none)))
def rundlelaw09_BatchBounds.f (k : Nat) (a0 : Int) (a1 : Int) (a2 : Int) : Option (Bool) := (rundlelaw09_awake.f k).bind fun t120 => (if t120 = true then (rundlelaw09_BatchBounds.l0 k a0 a1 a2 ([] : List (S37)) 0) else (some false))
theorem rundlelaw09_BatchBounds.mono_l : ∀ k, (∀ y0 y1 y2 y3 y4, LeO (rundlelaw09_BatchBounds.l0 k y0 y1 y2 y3 y4) (rundlelaw09_BatchBounds.l0 (k + 1) y0 y1 y2 y3 y4))
  | 0 => fun _ _ _ _ _ r h => by simp [rundlelaw09_BatchBounds.l0] at h
  | k + 1 => by
    have ih0 := rundlelaw09_BatchBounds.mono_l k
    · intro y0 y1 y2 y3 y4
      unfold rundlelaw09_BatchBounds.l0
      repeat' first
      | (with_reducible exact ih0 _ _ _ _ _)
      | (with_reducible exact batch_Check.mono _ _)
      | (with_reducible exact rundlelaw09_awake.mono _)
      | (with_reducible exact LeO.refl _)
      | (with_reducible exact LeO.none _)
      | (with_reducible refine LeO.ite ?_ ?_)
      | (with_reducible refine LeO.bind ?_ (fun _ => ?_))
      | exact ih0 _ _ _ _ _
      | exact batch_Check.mono _ _
      | exact rundlelaw09_awake.mono _
      | exact LeO.none _
      | refine LeO.ite ?_ ?_
      | refine LeO.bind ?_ (fun _ => ?_)
theorem rundlelaw09_BatchBounds.mono : ∀ a0 a1 a2 k, LeO (rundlelaw09_BatchBounds.f k a0 a1 a2) (rundlelaw09_BatchBounds.f (k + 1) a0 a1 a2) := by
  intro a0 a1 a2 k
  have ih0 := rundlelaw09_BatchBounds.mono_l k
  unfold rundlelaw09_BatchBounds.f
  repeat' first
      | (with_reducible exact ih0 _ _ _ _ _)
      | (with_reducible exact batch_Check.mono _ _)
      | (with_reducible exact rundlelaw09_awake.mono _)
      | (with_reducible exact LeO.refl _)
      | (with_reducible exact LeO.none _)
      | (with_reducible refine LeO.ite ?_ ?_)
      | (with_reducible refine LeO.bind ?_ (fun _ => ?_))
      | exact ih0 _ _ _ _ _
      | exact batch_Check.mono _ _
      | exact rundlelaw09_awake.mono _
      | exact LeO.none _
      | refine LeO.ite ?_ ?_
      | refine LeO.bind ?_ (fun _ => ?_)
def rundlelaw09_BatchBounds.T10 : Bool × List (List Nat × List Nat) := (true, [([], []), ([0, 0], [0]), ([1], [1]), ([], []), ([3, 3], [3]), ([4], [4]), ([2, 5], [2, 5]), ([6], [6]), ([7, 0, 1, 2, 3, 4, 5, 6, 7], [7])])
def rundlelaw09_BatchBounds.B10 : List Nat := [0, 1, 3, 0, 8, 24, 63, 127, 255]
theorem rundlelaw09_BatchBounds.tab10 : rtab .any (opsOf Try.f4 10) = rundlelaw09_BatchBounds.T10 := by kernel_rfl
theorem rundlelaw09_BatchBounds.bits10 : waitsOk rundlelaw09_BatchBounds.T10.2 rundlelaw09_BatchBounds.B10 = true := by kernel_rfl
set_option maxHeartbeats 8000000 in
set_option maxRecDepth 100000 in
theorem rundlelaw09_BatchBounds.calls (k : Nat) (a0 : Int) (a1 : Int) (a2 : Int) (r : Bool) (w : World) (h : rundlelaw09_BatchBounds.f k a0 a1 a2 = some r) :
    Calls Try.prog 4 #[.int .u16 a0, .int .u32 a1, .int .u32 a2] w fun e w' => e = .returned (.bool r) ∧ Below w.heap.size w w' := by
  have hu37 := Try.underlying37
  have HB := Aside0.mk (Below.refl w.heap.size w)
  have H : ((rundlelaw09_awake.f k).bind fun t120 => (if t120 = true then (rundlelaw09_BatchBounds.l0 k a0 a1 a2 ([] : List (S37)) 0) else (some false))) = some r := h
  clear h
  replace H := Option.bind_eq_some_iff.mp H
  obtain ⟨t120, A40, H⟩ := H
  replace H : (if t120 = true then (rundlelaw09_BatchBounds.l0 k a0 a1 a2 ([] : List (S37)) 0) else (some false)) = some r := H
  have A4 := Aside0.mk A40
  clear A40
  by_cases c5 : t120 = true
  · subst c5
    have H1 : (rundlelaw09_BatchBounds.l0 k a0 a1 a2 ([] : List (S37)) 0) = some r := by rw [if_pos rfl] at H; exact H
    clear H
    have H := H1
    clear H1
    have H' := Aside0.mk H
    clear H
    go_enter Try.func4, Try.ntmps4
    go_wp2_with (first | ((with_reducible refine gate_callee (f := 12) rfl ?_); refine goesL_ (some 13) rfl rfl Try.func12 (by kernel_rfl) rfl #[] rfl (by (try simp only [List.map_toArray, List.map_cons, List.map_nil]); first | done | rfl | (simp only [List.length_drop, List.length_take]; rfl)) ?_; (with_reducible refine (rundlelaw09_awake.calls k  true _ A4.out).mono ?_); rintro e w6 ⟨rfl, hb⟩; refine ⟨_, rfl, ?_⟩; have n0_ := Aside0.mk (below_step (by repeat (first | (with_reducible first | exact HB.out | apply below_alloc | apply pw_below_drewN | apply below_drew1) | exact HB.out)) hb); clear HB; have HB := n0_; clear n0_; (try clear hb); (try clear hb2); (try clear hk); (try clear hi)))
    go_loopg [7, 8] k (fun kq v7 v8 w' => ∃ (x7_1 : List (S37)) (x8_1 : Int), v8 = .int .i64 x8_1 ∧ Aside0 (rundlelaw09_BatchBounds.l0 kq a0 a1 a2 x7_1 x8_1 = some r) ∧ Aside0 (kq ≤ k) ∧ Aside0 (Kd.R k37 37 w' w.heap.size (fun _ => True) v7 x7_1) ∧ Aside0 (Below w.heap.size w w'))
    case atStart => exact ⟨(([] : List (S37))), (0), (by first | rfl | (simp; done) | (simp [*]; done)), H', ⟨Nat.le_refl _⟩, ⟨by first | exact Kd.R_nil _ _ _ _ _ | exact Kd.N_nil _ _ _ _ _ | exact Kd.V_nil _ _ _ _ _ | exact Kd.Q_nil _ _ _ _ _ | exact Kd.S_nil _ _ _ _ _⟩, ⟨by repeat (first | (with_reducible first | exact HB.out | apply below_alloc | apply pw_below_drewN | apply below_drew1) | exact HB.out)⟩⟩
    case round =>
      clear H'
      try clear c1
      try clear p2
      try clear c4
      try clear c5
      obtain ⟨x7_1, x8_1, rfl, HA, HK1, HO_7, HB⟩ := hrel
      cases gk with
      | zero => exact absurd HA.out (by simp [rundlelaw09_BatchBounds.l0])
      | succ k1 =>
        have H := HA.out
        clear HA
        simp only [rundlelaw09_BatchBounds.l0] at H
        by_cases c7 : x8_1 < (Int.tmod (wrap64 (a0)) 4200)
        · rw [if_pos c7] at H
          have c7b0 : decide (x8_1 < (Int.tmod (wrap64 (a0)) 4200)) = true := decide_eq_true c7
          clear c7
          obtain ⟨y121, hy121⟩ : ∃ y_ : List Int, y_ = (([(wrap64 (1 + (wrap64 (Int.tdiv x8_1 200)))) % 256, (wrap64 (1 + (Int.tmod x8_1 200))) % 256] : List Int)) := ⟨_, rfl⟩
          replace H : (if x7_1.length < 3518437208883 then (rundlelaw09_BatchBounds.l0 k1 a0 a1 a2 (x7_1 ++ [(⟨strOfNums y121, (⟨#[]⟩ : ByteArray), false⟩ : S37)]) (wrap64 (x8_1 + 1))) else (none)) = some r := by first | (rw [hy121]; with_reducible exact H) | (have H2_ := (Option.bind_some _ _).symm.trans H; rw [hy121]; with_reducible exact H2_) | (have H2_ := (Option.bind_some _ _).symm.trans H; with_reducible exact H2_) | with_reducible exact H | (rw [hy121]; exact H) | exact H
          have Ny121 := Aside0.mk hy121
          clear hy121
          by_cases c8 : x7_1.length < 3518437208883
          · rw [if_pos c8] at H
            have LMc8 := Aside0.mk c8
            clear c8
            obtain ⟨y124, hy124⟩ : ∃ y_ : List (S37), y_ = (x7_1 ++ [(⟨strOfNums y121, (⟨#[]⟩ : ByteArray), false⟩ : S37)]) := ⟨_, rfl⟩
            replace H : (rundlelaw09_BatchBounds.l0 k1 a0 a1 a2 y124 (wrap64 (x8_1 + 1))) = some r := by first | (rw [hy124]; with_reducible exact H) | (have H2_ := (Option.bind_some _ _).symm.trans H; rw [hy124]; with_reducible exact H2_) | (have H2_ := (Option.bind_some _ _).symm.trans H; with_reducible exact H2_) | with_reducible exact H | (rw [hy124]; exact H) | exact H
            have Ny124 := Aside0.mk hy124
            clear hy124
            have H' := Aside0.mk H
            clear H
            go_wp2_with (first | ((with_reducible refine gate_dst (N := 31) rfl ?_); (try (refine gate_guard (by rfl) ?_; dsimp only)); refine Kd.R_lit (Kd.int .u8) _ 5 ?hg (N := 31) ?hd (xs := ([(wrap64 (1 + (wrap64 (Int.tdiv x8_1 200)))) % 256, (wrap64 (1 + (Int.tmod x8_1 200))) % 256] : List Int)) (inner := [.int .u8 ((wrap64 (1 + (wrap64 (Int.tdiv x8_1 200)))) % 256), .int .u8 ((wrap64 (1 + (Int.tmod x8_1 200))) % 256)]) (ok := fun _ => True) (okp := fun _ => True) ?hr ?hp (fun _ hk => hk) trivial (Below.refl _ _) (Nat.le_refl _) (by simp) ?_; (case hd => rfl); (case hg => rfl); (case hr => first | (go_simp; done) | (go_simp; rfl)); (case hp => exact (Reps.one (show Kd.M (Kd.int .u8) _ _ _ ((wrap64 (1 + (wrap64 (Int.tdiv x8_1 200)))) % 256) [.int .u8 ((wrap64 (1 + (wrap64 (Int.tdiv x8_1 200)))) % 256)] from rfl) (Reps.one (show Kd.M (Kd.int .u8) _ _ _ ((wrap64 (1 + (Int.tmod x8_1 200))) % 256) [.int .u8 ((wrap64 (1 + (Int.tmod x8_1 200))) % 256)] from rfl) (Reps.none _ _)))); intro v122 w9 ho10 hb hg_ hnew_; clear hg_ hnew_; (first | rw [← Ny121.out] at ho10 | (simp only [Int.reduceToNat] at ho10; rw [← Ny121.out] at ho10)); have n0_ := Aside0.mk (Kd.R_below (by (with_reducible repeat (first | apply Kd.R_alloc | apply Kd.R_drewN | apply Kd.R_drew)); exact HO_7.out) hb); have n1_ := Aside0.mk (Kd.R_lower ho10 (below_size (by repeat (first | (with_reducible first | exact HB.out | apply below_alloc | apply pw_below_drewN | apply below_drew1) | exact HB.out)))); have n2_ := Aside0.mk (below_step (by repeat (first | (with_reducible first | exact HB.out | apply below_alloc | apply pw_below_drewN | apply below_drew1) | exact HB.out)) hb); clear HO_7; clear HB; have HO_7 := n0_; have HO123 := n1_; have HB := n2_; clear n0_ n1_ n2_; clear hb ho10; have hcv11 := own_string (P := Try.prog) Try.underlying35 Try.underlying5 Try.underlying9 (Kd.own_of_R HO123.out)) | ((with_reducible refine gate_builtin (b := .append) (xs := #[.tmp 22, .tmp 34]) rfl ?_); (try (refine gate_guard (by rfl) ?_; dsimp only)); at_builtin; refine Kd.R_append k37 (w0 := w) w.heap.size rfl (.tmp 22) (.tmp 34) 25 37 (.agg #[(.string ⟨#[]⟩), (.string ⟨#[]⟩), (.bool false)]) 40 rfl Try.underlying25 info37 rfl (by decide) (by omega) u7 x7_1 (⟨strOfNums y121, (⟨#[]⟩ : ByteArray), false⟩ : S37) [.string (strOfNums y121), .string (⟨#[]⟩ : ByteArray), .bool false] (fun _ => True) (fun _ => False) rfl rfl ?aP (fun _ hk => hk.elim) ?aF ?aO ?aB ?aS ?aL ?_; (case aP => exact k37_mkM _ _ _ (⟨strOfNums y121, (⟨#[]⟩ : ByteArray), false⟩ : S37)); (case aB => exact (by repeat (first | (with_reducible first | exact HB.out | apply below_alloc | apply pw_below_drewN | apply below_drew1) | exact HB.out))); (case aF => exact (fun _ _ => trivial)); (case aO => exact (by (with_reducible repeat (first | apply Kd.R_alloc | apply Kd.R_drewN | apply Kd.R_drew)); exact HO_7.out)); (case aS => exact (below_size (by repeat (first | (with_reducible first | exact HB.out | apply below_alloc | apply pw_below_drewN | apply below_drew1) | exact HB.out)))); (case aL => have := LMc8.out; omega); intro v125 w12 ho hb hg hat; rw [← Ny124.out] at ho; have n0_ := Aside0.mk (Kd.R_over' (by (with_reducible repeat (first | apply Kd.R_alloc | apply Kd.R_drewN | apply Kd.R_drew)); exact HO123.out) (Kd.R_typed (by (with_reducible repeat (first | apply Kd.R_alloc | apply Kd.R_drewN | apply Kd.R_drew)); exact HO_7.out)) (by decide) hg); have n1_ := Aside0.mk (hb); have n2_ := Aside0.mk (ho); clear HO123; clear HB; clear HO_7; have HO123 := n0_; have HB := n1_; have HO126 := n2_; clear n0_ n1_ n2_; clear ho hb hg hat))
            go_roundg k1
            case measure => have := HK1.out; omega
            case rel => exact ⟨(y124), (wrap64 (x8_1 + 1)), (by first | rfl | (simp; done) | (simp [*]; done)), H', ⟨by have := HK1.out; omega⟩, ⟨by (with_reducible repeat (first | apply Kd.R_alloc | apply Kd.R_drewN | apply Kd.R_drew)); exact HO126.out⟩, ⟨by repeat (first | (with_reducible first | exact HB.out | apply below_alloc | apply pw_below_drewN | apply below_drew1) | exact HB.out)⟩⟩
          · rw [if_neg c8] at H
            exact absurd H (by simp)
        · rw [if_neg c7] at H
          have c7b0 : decide (x8_1 < (Int.tmod (wrap64 (a0)) 4200)) = false := decide_eq_false c7
          clear c7
          replace H := Option.bind_eq_some_iff.mp H
          obtain ⟨t127, A130, H⟩ := H
          replace H : (if 0 ≤ (wrap64 (Int.tmod a1 1100)) then (if (wrap64 (Int.tmod a1 1100) : Int).toNat ≤ 281474976710656 then (if 0 ≤ (wrap64 (65500 + (wrap64 (Int.tmod a2 80)))) then (if (wrap64 (65500 + (wrap64 (Int.tmod a2 80))) : Int).toNat ≤ 281474976710656 then ((some (([(⟨strOfNums (List.replicate (wrap64 (Int.tmod a1 1100) : Int).toNat 0), strOfNums (List.replicate (wrap64 (65500 + (wrap64 (Int.tmod a2 80))) : Int).toNat 0), false⟩ : S37)] : List (S37)) : List (S37))).bind fun y134 => (if (x7_1.length : Int) ≥ 1 then (if ((t127 == 0) == (decide ((x7_1.length : Int) ≤ 4096))) = true then ((batch_Check.f k1 y134).bind fun t137 => (if (wrap64 (Int.tmod a1 1100)) ≥ 1 then (if (wrap64 (Int.tmod a1 1100)) ≤ 1024 then (some ((t137 == 0) == (decide ((wrap64 (65500 + (wrap64 (Int.tmod a2 80)))) ≤ 65536)))) else (some ((t137 == 0) == false))) else (some ((t137 == 0) == false)))) else (some false)) else (if ((t127 == 0) == false) = true then ((batch_Check.f k1 y134).bind fun t138 => (if (wrap64 (Int.tmod a1 1100)) ≥ 1 then (if (wrap64 (Int.tmod a1 1100)) ≤ 1024 then (some ((t138 == 0) == (decide ((wrap64 (65500 + (wrap64 (Int.tmod a2 80)))) ≤ 65536)))) else (some ((t138 == 0) == false))) else (some ((t138 == 0) == false)))) else (some false)))) else (none)) else (none)) else (none)) else (none)) = some r := H
          have A13 := Aside0.mk A130
          clear A130
          obtain ⟨ji14, hji14⟩ : ∃ j_ : Int, (wrap64 (Int.tmod a1 1100)) = j_ := ⟨_, rfl⟩
          replace H : (if 0 ≤ (ji14) then (if (ji14 : Int).toNat ≤ 281474976710656 then (if 0 ≤ (wrap64 (65500 + (wrap64 (Int.tmod a2 80)))) then (if (wrap64 (65500 + (wrap64 (Int.tmod a2 80))) : Int).toNat ≤ 281474976710656 then ((some (([(⟨strOfNums (List.replicate (ji14 : Int).toNat 0), strOfNums (List.replicate (wrap64 (65500 + (wrap64 (Int.tmod a2 80))) : Int).toNat 0), false⟩ : S37)] : List (S37)) : List (S37))).bind fun y134 => (if (x7_1.length : Int) ≥ 1 then (if ((t127 == 0) == (decide ((x7_1.length : Int) ≤ 4096))) = true then ((batch_Check.f k1 y134).bind fun t137 => (if (ji14) ≥ 1 then (if (ji14) ≤ 1024 then (some ((t137 == 0) == (decide ((wrap64 (65500 + (wrap64 (Int.tmod a2 80)))) ≤ 65536)))) else (some ((t137 == 0) == false))) else (some ((t137 == 0) == false)))) else (some false)) else (if ((t127 == 0) == false) = true then ((batch_Check.f k1 y134).bind fun t138 => (if (ji14) ≥ 1 then (if (ji14) ≤ 1024 then (some ((t138 == 0) == (decide ((wrap64 (65500 + (wrap64 (Int.tmod a2 80)))) ≤ 65536)))) else (some ((t138 == 0) == false))) else (some ((t138 == 0) == false)))) else (some false)))) else (none)) else (none)) else (none)) else (none)) = some r := by first | (rw [hji14] at H; exact H) | (simp only [hji14] at H ⊢; exact H)
          (try rw [hji14] at A13)
          have hji14w : (IntKind.i64.wrap (Int.tmod a1 1100)) = ji14 := (i64_w _).trans hji14
          by_cases c15 : 0 ≤ (ji14)
          · rw [if_pos c15] at H
            have c15b0 := eq_true c15
            have c15b1 : decide (0 ≤ (ji14)) = true := decide_eq_true c15
            clear c15
            by_cases c16 : (ji14 : Int).toNat ≤ 281474976710656
            · rw [if_pos c16] at H
              have c16b0 := eq_true c16
              have c16b1 : decide ((ji14 : Int).toNat ≤ 281474976710656) = true := decide_eq_true c16
              clear c16
              obtain ⟨y128, hy128⟩ : ∃ y_ : List Int, y_ = (List.replicate (ji14 : Int).toNat 0) := ⟨_, rfl⟩
              replace H : (if 0 ≤ (wrap64 (65500 + (wrap64 (Int.tmod a2 80)))) then (if (wrap64 (65500 + (wrap64 (Int.tmod a2 80))) : Int).toNat ≤ 281474976710656 then ((some (([(⟨strOfNums y128, strOfNums (List.replicate (wrap64 (65500 + (wrap64 (Int.tmod a2 80))) : Int).toNat 0), false⟩ : S37)] : List (S37)) : List (S37))).bind fun y134 => (if (x7_1.length : Int) ≥ 1 then (if ((t127 == 0) == (decide ((x7_1.length : Int) ≤ 4096))) = true then ((batch_Check.f k1 y134).bind fun t137 => (if (ji14) ≥ 1 then (if (ji14) ≤ 1024 then (some ((t137 == 0) == (decide ((wrap64 (65500 + (wrap64 (Int.tmod a2 80)))) ≤ 65536)))) else (some ((t137 == 0) == false))) else (some ((t137 == 0) == false)))) else (some false)) else (if ((t127 == 0) == false) = true then ((batch_Check.f k1 y134).bind fun t138 => (if (ji14) ≥ 1 then (if (ji14) ≤ 1024 then (some ((t138 == 0) == (decide ((wrap64 (65500 + (wrap64 (Int.tmod a2 80)))) ≤ 65536)))) else (some ((t138 == 0) == false))) else (some ((t138 == 0) == false)))) else (some false)))) else (none)) else (none)) = some r := by first | (rw [hy128]; with_reducible exact H) | (have H2_ := (Option.bind_some _ _).symm.trans H; rw [hy128]; with_reducible exact H2_) | (have H2_ := (Option.bind_some _ _).symm.trans H; with_reducible exact H2_) | with_reducible exact H | (rw [hy128]; exact H) | exact H
              have Ny128 := Aside0.mk hy128
              clear hy128
              obtain ⟨ji17, hji17⟩ : ∃ j_ : Int, (wrap64 (65500 + (wrap64 (Int.tmod a2 80)))) = j_ := ⟨_, rfl⟩
              replace H : (if 0 ≤ (ji17) then (if (ji17 : Int).toNat ≤ 281474976710656 then ((some (([(⟨strOfNums y128, strOfNums (List.replicate (ji17 : Int).toNat 0), false⟩ : S37)] : List (S37)) : List (S37))).bind fun y134 => (if (x7_1.length : Int) ≥ 1 then (if ((t127 == 0) == (decide ((x7_1.length : Int) ≤ 4096))) = true then ((batch_Check.f k1 y134).bind fun t137 => (if (ji14) ≥ 1 then (if (ji14) ≤ 1024 then (some ((t137 == 0) == (decide ((ji17) ≤ 65536)))) else (some ((t137 == 0) == false))) else (some ((t137 == 0) == false)))) else (some false)) else (if ((t127 == 0) == false) = true then ((batch_Check.f k1 y134).bind fun t138 => (if (ji14) ≥ 1 then (if (ji14) ≤ 1024 then (some ((t138 == 0) == (decide ((ji17) ≤ 65536)))) else (some ((t138 == 0) == false))) else (some ((t138 == 0) == false)))) else (some false)))) else (none)) else (none)) = some r := by first | (rw [hji17] at H; exact H) | (simp only [hji17] at H ⊢; exact H)
              (try rw [hji17] at A13)
              have hji17w : (IntKind.i64.wrap (65500 + (wrap64 (Int.tmod a2 80)))) = ji17 := (i64_w _).trans hji17
              by_cases c18 : 0 ≤ (ji17)
              · rw [if_pos c18] at H
                have c18b0 := eq_true c18
                have c18b1 : decide (0 ≤ (ji17)) = true := decide_eq_true c18
                clear c18
                by_cases c19 : (ji17 : Int).toNat ≤ 281474976710656
                · rw [if_pos c19] at H
                  have c19b0 := eq_true c19
                  have c19b1 : decide ((ji17 : Int).toNat ≤ 281474976710656) = true := decide_eq_true c19
                  clear c19
                  obtain ⟨y131, hy131⟩ : ∃ y_ : List Int, y_ = (List.replicate (ji17 : Int).toNat 0) := ⟨_, rfl⟩
                  replace H : ((some (([(⟨strOfNums y128, strOfNums y131, false⟩ : S37)] : List (S37)) : List (S37))).bind fun y134 => (if (x7_1.length : Int) ≥ 1 then (if ((t127 == 0) == (decide ((x7_1.length : Int) ≤ 4096))) = true then ((batch_Check.f k1 y134).bind fun t137 => (if (ji14) ≥ 1 then (if (ji14) ≤ 1024 then (some ((t137 == 0) == (decide ((ji17) ≤ 65536)))) else (some ((t137 == 0) == false))) else (some ((t137 == 0) == false)))) else (some false)) else (if ((t127 == 0) == false) = true then ((batch_Check.f k1 y134).bind fun t138 => (if (ji14) ≥ 1 then (if (ji14) ≤ 1024 then (some ((t138 == 0) == (decide ((ji17) ≤ 65536)))) else (some ((t138 == 0) == false))) else (some ((t138 == 0) == false)))) else (some false)))) = some r := by first | (rw [hy131]; with_reducible exact H) | (have H2_ := (Option.bind_some _ _).symm.trans H; rw [hy131]; with_reducible exact H2_) | (have H2_ := (Option.bind_some _ _).symm.trans H; with_reducible exact H2_) | with_reducible exact H | (rw [hy131]; exact H) | exact H
                  have Ny131 := Aside0.mk hy131
                  clear hy131
                  obtain ⟨y134, hy134⟩ : ∃ y_ : List (S37), y_ = (([(⟨strOfNums y128, strOfNums y131, false⟩ : S37)] : List (S37))) := ⟨_, rfl⟩
                  replace H : (if (x7_1.length : Int) ≥ 1 then (if ((t127 == 0) == (decide ((x7_1.length : Int) ≤ 4096))) = true then ((batch_Check.f k1 y134).bind fun t137 => (if (ji14) ≥ 1 then (if (ji14) ≤ 1024 then (some ((t137 == 0) == (decide ((ji17) ≤ 65536)))) else (some ((t137 == 0) == false))) else (some ((t137 == 0) == false)))) else (some false)) else (if ((t127 == 0) == false) = true then ((batch_Check.f k1 y134).bind fun t138 => (if (ji14) ≥ 1 then (if (ji14) ≤ 1024 then (some ((t138 == 0) == (decide ((ji17) ≤ 65536)))) else (some ((t138 == 0) == false))) else (some ((t138 == 0) == false)))) else (some false))) = some r := by first | (rw [hy134]; with_reducible exact H) | (have H2_ := (Option.bind_some _ _).symm.trans H; rw [hy134]; with_reducible exact H2_) | (have H2_ := (Option.bind_some _ _).symm.trans H; with_reducible exact H2_) | with_reducible exact H | (rw [hy134]; exact H) | exact H
                  have Ny134 := Aside0.mk hy134
                  clear hy134
                  obtain ⟨Ao25, co25, eo25⟩ := Kd.R_slice HO_7.out
                  subst eo25
                  try go_wp2_with (first | ((with_reducible refine gate_callee (f := 15) rfl ?_); refine goesL_ (some 37) rfl rfl Try.func15 (by kernel_rfl) rfl #[.slice Ao25 x7_1.length co25] rfl (by (try simp only [List.map_toArray, List.map_cons, List.map_nil]); first | done | rfl | (simp only [List.length_drop, List.length_take]; rfl)) ?_; (with_reducible refine (batch_Check.calls k1 _ _ x7_1 t127 _ ?side1 ?side2 A13.out).mono ?_); (case side1 => repeat (first | exact (Kd.R_reads' HO_7.out).2.2 | (with_reducible refine Kd.C_alloc ?_ _) | (with_reducible refine Kd.C_drewN ?_ _) | (with_reducible refine Kd.C_drew ?_))); (case side2 => exact (Kd.R_reads' HO_7.out).2.1); rintro e w26 ⟨rfl, hb⟩; refine ⟨_, rfl, ?_⟩; have n0_ := Aside0.mk (Kd.R_below (by (with_reducible repeat (first | apply Kd.R_alloc | apply Kd.R_drewN | apply Kd.R_drew)); exact HO_7.out) hb); have n1_ := Aside0.mk (below_step (by repeat (first | (with_reducible first | exact HB.out | apply below_alloc | apply pw_below_drewN | apply below_drew1) | exact HB.out)) hb); clear HO_7; clear HB; have HO_7 := n0_; have HB := n1_; clear n0_ n1_; (try clear hb); (try clear hb2); (try clear hk); (try clear hi)))
                  have n0_ := Aside0.mk (Kd.R_drew HO_7.out)
                  have n1_ := Aside0.mk (below_drew1 HB.out)
                  clear HO_7
                  clear HB
                  have HO_7 := n0_
                  have HB := n1_
                  clear n0_ n1_
                  refine start_ (n := 9) (S := fun w' => True) (ds := []) #[false, false, false, false, false, false, false, false, false] (by kernel_rfl) rfl rfl trivial (fun hHeld => ?_); refine with_tabW rundlelaw09_BatchBounds.tab10 rundlelaw09_BatchBounds.bits10 (fun HT_ HW_ => ?_)
                  generalize w26.drew = w27 at HO_7 HB hHeld ⊢
                  refine pure_ (i := 0) (N := some 46) (v := ?_) (a' := ?_) #[true, false, false, false, false, false, false, false, false] rfl rfl (any_of HT_.out (by kernel_rfl)) (fun _ _ _ h => h) (Or.inl ⟨by rfl, ?_⟩) ?_ ?_
                  rotate_left
                  · intro w'
                    go_simp
                    with_reducible rfl
                  rotate_left
                  · simp only [Act.put, List.setIfInBounds_toArray, List.set_cons_zero, List.set_cons_succ, i64_w, i32_w]
                    rfl
                  refine pure_ (i := 3) (N := some 49) (v := ?_) (a' := ?_) #[true, false, false, true, false, false, false, false, false] rfl rfl (any_of HT_.out (by kernel_rfl)) (fun _ _ _ h => h) (Or.inl ⟨by rfl, ?_⟩) ?_ ?_
                  rotate_left
                  · intro w'
                    go_simp
                    with_reducible rfl
                  rotate_left
                  · simp only [Act.put, List.setIfInBounds_toArray, List.set_cons_zero, List.set_cons_succ, i64_w, i32_w]
                    rfl
                  refine join_ (σ := Value × Value) 3 #[true, true, true, true, true, true, false, false, false] (fun s_ => [(47, s_.1), (48, .string (strOfNums y128)), (50, s_.2), (51, .string (strOfNums y131))]) (fun s_ w' => (Kd.R (Kd.int .u8) 5 w' w.heap.size (fun k_ => some k_ ≠ (s_.2 : Value).ownBlock) s_.1 y128) ∧ (Kd.R (Kd.int .u8) 5 w' w.heap.size (fun k_ => some k_ ≠ (s_.1 : Value).ownBlock) s_.2 y131) ∧ (Kd.R k37 37 w' w.heap.size (fun _ => True) (.slice Ao25 x7_1.length co25) x7_1) ∧ (Below w.heap.size w w')) ?_ ?_
                  rotate_left
                  · intro hJ1_2_4_5
                    refine join_ (σ := Value × Value) 4 #[true, true, true, true, true, false, false, false, false] (fun s_ => [(47, s_.1), (48, .string (strOfNums y128)), (50, s_.2)]) (fun s_ w' => (Kd.R (Kd.int .u8) 5 w' w.heap.size (fun k_ => some k_ ≠ (s_.2 : Value).ownBlock) s_.1 y128) ∧ (Kd.R (Kd.int .u8) 5 w' w.heap.size (fun k_ => some k_ ≠ (s_.1 : Value).ownBlock) s_.2 y131) ∧ (Kd.R k37 37 w' w.heap.size (fun _ => True) (.slice Ao25 x7_1.length co25) x7_1) ∧ (Below w.heap.size w w')) ?_ ?_
                    rotate_left
                    · intro hJ1_2_4
                      refine join_ (σ := Value × Value) 4 #[true, true, false, true, true, true, false, false, false] (fun s_ => [(47, s_.1), (50, s_.2), (51, .string (strOfNums y131))]) (fun s_ w' => (Kd.R (Kd.int .u8) 5 w' w.heap.size (fun k_ => some k_ ≠ (s_.2 : Value).ownBlock) s_.1 y128) ∧ (Kd.R (Kd.int .u8) 5 w' w.heap.size (fun k_ => some k_ ≠ (s_.1 : Value).ownBlock) s_.2 y131) ∧ (Kd.R k37 37 w' w.heap.size (fun _ => True) (.slice Ao25 x7_1.length co25) x7_1) ∧ (Below w.heap.size w w')) ?_ ?_
                      rotate_left
                      · intro hJ1_4_5
                        refine join_ (σ := Value) 5 #[true, true, true, true, false, false, false, false, false] (fun s_ => [(47, s_), (48, .string (strOfNums y128))]) (fun s_ w' => (Kd.R (Kd.int .u8) 5 w' w.heap.size (fun _ => True) s_ y128) ∧ (Kd.R k37 37 w' w.heap.size (fun _ => True) (.slice Ao25 x7_1.length co25) x7_1) ∧ (Below w.heap.size w w')) ?_ ?_
                        rotate_left
                        · intro hJ1_2
                          refine join_ (σ := Value × Value) 5 #[true, true, false, true, true, false, false, false, false] (fun s_ => [(47, s_.1), (50, s_.2)]) (fun s_ w' => (Kd.R (Kd.int .u8) 5 w' w.heap.size (fun k_ => some k_ ≠ (s_.2 : Value).ownBlock) s_.1 y128) ∧ (Kd.R (Kd.int .u8) 5 w' w.heap.size (fun k_ => some k_ ≠ (s_.1 : Value).ownBlock) s_.2 y131) ∧ (Kd.R k37 37 w' w.heap.size (fun _ => True) (.slice Ao25 x7_1.length co25) x7_1) ∧ (Below w.heap.size w w')) ?_ ?_
                          rotate_left
                          · intro hJ1_4
                            refine join_ (σ := Value) 5 #[true, false, false, true, true, true, false, false, false] (fun s_ => [(50, s_), (51, .string (strOfNums y131))]) (fun s_ w' => (Kd.R (Kd.int .u8) 5 w' w.heap.size (fun _ => True) s_ y131) ∧ (Kd.R k37 37 w' w.heap.size (fun _ => True) (.slice Ao25 x7_1.length co25) x7_1) ∧ (Below w.heap.size w w')) ?_ ?_
                            rotate_left
                            · intro hJ4_5
                              refine join_ (σ := Value) 6 #[true, true, false, true, false, false, false, false, false] (fun s_ => [(47, s_)]) (fun s_ w' => (Kd.R (Kd.int .u8) 5 w' w.heap.size (fun _ => True) s_ y128) ∧ (Kd.R k37 37 w' w.heap.size (fun _ => True) (.slice Ao25 x7_1.length co25) x7_1) ∧ (Below w.heap.size w w')) ?_ ?_
                              rotate_left
                              · intro hJ1
                                refine join_ (σ := Value) 6 #[true, false, false, true, true, false, false, false, false] (fun s_ => [(50, s_)]) (fun s_ w' => (Kd.R (Kd.int .u8) 5 w' w.heap.size (fun _ => True) s_ y131) ∧ (Kd.R k37 37 w' w.heap.size (fun _ => True) (.slice Ao25 x7_1.length co25) x7_1) ∧ (Below w.heap.size w w')) ?_ ?_
                                rotate_left
                                · intro hJ4
                                  refine two_ (i := 1) (j := 4) (Ni := some 47) (Nj := some 50) #[true, true, false, true, false, false, false, false, false] #[true, false, false, true, true, false, false, false, false] rfl rfl rfl rfl (two_of HT_.out (by kernel_rfl)) (by decide) (by decide) (fun K hK => ?_) (fun K hK => ?_)
                                  · skip
                                    refine Kd.R_make_step (Kd.int .u8) _ 5 (by rfl) (N := 47) rfl 35 _ _ rfl ji14 rfl rfl Try.underlying35 (.int .u8 0) 1 info5 rfl (by decide) (by omega) 0 (ok := fun _ => True) (okp := fun _ => True) rfl (fun _ hk => hk) trivial (of_decide_eq_true (by first | (with_reducible assumption) | assumption)) (Nat.le_trans (Nat.mul_le_mul_right _ (of_decide_eq_true (by first | (with_reducible assumption) | assumption) : ji14.toNat ≤ 281474976710656)) (by omega)) (Below.refl _ _) (Nat.le_refl _) ?_
                                    intro v129 w28 ho29 hb hg_ hnew_
                                    clear hg_ hnew_
                                    (first | rw [← Ny128.out] at ho29 | (simp only [Int.reduceToNat] at ho29; rw [← Ny128.out] at ho29))
                                    have n0_ := Aside0.mk (Kd.R_below (by (with_reducible repeat (first | apply Kd.R_alloc | apply Kd.R_drewN | apply Kd.R_drew)); exact HO_7.out) hb)
                                    have n1_ := Aside0.mk (Kd.R_lower ho29 (below_size (by repeat (first | (with_reducible first | exact HB.out | apply below_alloc | apply pw_below_drewN | apply below_drew1) | exact HB.out))))
                                    have n2_ := Aside0.mk (below_step (by repeat (first | (with_reducible first | exact HB.out | apply below_alloc | apply pw_below_drewN | apply below_drew1) | exact HB.out)) hb)
                                    clear HO_7
                                    clear HB
                                    have HO_7 := n0_
                                    have HO130 := n1_
                                    have HB := n2_
                                    clear n0_ n1_ n2_
                                    clear hb ho29
                                    refine hK.out _ _ trivial (fun hHeld => ?_)
                                    clear hK K
                                    refine norm_ (a' := ?_) ?_ ?_
                                    rotate_left
                                    · show Act.put _ (some 47) _ = _
                                      simp only [Act.put, List.setIfInBounds_toArray, List.set_cons_zero, List.set_cons_succ, i64_w, i32_w]
                                      rfl
                                    exact norm_ (by first | (simp only [putAll, Act.put, List.setIfInBounds_toArray, List.set_cons_zero, List.set_cons_succ]; done) | (simp only [putAll, Act.put, List.setIfInBounds_toArray, List.set_cons_zero, List.set_cons_succ]; rfl)) (hJ1 (v129) _ ⟨(by (with_reducible repeat (first | apply Kd.R_alloc | apply Kd.R_drewN | apply Kd.R_drew)); exact HO130.out), (by (with_reducible repeat (first | apply Kd.R_alloc | apply Kd.R_drewN | apply Kd.R_drew)); exact HO_7.out), (by repeat (first | (with_reducible first | exact HB.out | apply below_alloc | apply pw_below_drewN | apply below_drew1) | exact HB.out))⟩)
                                  · skip
                                    refine Kd.R_make_step (Kd.int .u8) _ 5 (by rfl) (N := 50) rfl 35 _ _ rfl ji17 rfl rfl Try.underlying35 (.int .u8 0) 1 info5 rfl (by decide) (by omega) 0 (ok := fun _ => True) (okp := fun _ => True) rfl (fun _ hk => hk) trivial (of_decide_eq_true (by first | (with_reducible assumption) | assumption)) (Nat.le_trans (Nat.mul_le_mul_right _ (of_decide_eq_true (by first | (with_reducible assumption) | assumption) : ji17.toNat ≤ 281474976710656)) (by omega)) (Below.refl _ _) (Nat.le_refl _) ?_
                                    intro v132 w28 ho29 hb hg_ hnew_
                                    clear hg_ hnew_
                                    (first | rw [← Ny131.out] at ho29 | (simp only [Int.reduceToNat] at ho29; rw [← Ny131.out] at ho29))
                                    have n0_ := Aside0.mk (Kd.R_below (by (with_reducible repeat (first | apply Kd.R_alloc | apply Kd.R_drewN | apply Kd.R_drew)); exact HO_7.out) hb)
                                    have n1_ := Aside0.mk (Kd.R_lower ho29 (below_size (by repeat (first | (with_reducible first | exact HB.out | apply below_alloc | apply pw_below_drewN | apply below_drew1) | exact HB.out))))
                                    have n2_ := Aside0.mk (below_step (by repeat (first | (with_reducible first | exact HB.out | apply below_alloc | apply pw_below_drewN | apply below_drew1) | exact HB.out)) hb)
                                    clear HO_7
                                    clear HB
                                    have HO_7 := n0_
                                    have HO133 := n1_
                                    have HB := n2_
                                    clear n0_ n1_ n2_
                                    clear hb ho29
                                    refine hK.out _ _ trivial (fun hHeld => ?_)
                                    clear hK K
                                    refine norm_ (a' := ?_) ?_ ?_
                                    rotate_left
                                    · show Act.put _ (some 50) _ = _
                                      simp only [Act.put, List.setIfInBounds_toArray, List.set_cons_zero, List.set_cons_succ, i64_w, i32_w]
                                      rfl
                                    exact norm_ (by first | (simp only [putAll, Act.put, List.setIfInBounds_toArray, List.set_cons_zero, List.set_cons_succ]; done) | (simp only [putAll, Act.put, List.setIfInBounds_toArray, List.set_cons_zero, List.set_cons_succ]; rfl)) (hJ4 (v132) _ ⟨(by (with_reducible repeat (first | apply Kd.R_alloc | apply Kd.R_drewN | apply Kd.R_drew)); exact HO133.out), (by (with_reducible repeat (first | apply Kd.R_alloc | apply Kd.R_drewN | apply Kd.R_drew)); exact HO_7.out), (by repeat (first | (with_reducible first | exact HB.out | apply below_alloc | apply pw_below_drewN | apply below_drew1) | exact HB.out))⟩)
                                · skip
                                  rintro v132 w30 ⟨h0_, h1_, h2_⟩
                                  have n0_ : Aside0 (Kd.R (Kd.int .u8) 5 w30 w.heap.size (fun _ => True) v132 y131) := ⟨h0_⟩
                                  have n1_ : Aside0 (Kd.R k37 37 w30 w.heap.size (fun _ => True) (.slice Ao25 x7_1.length co25) x7_1) := ⟨h1_⟩
                                  have n2_ : Aside0 (Below w.heap.size w w30) := ⟨h2_⟩
                                  clear HO_7
                                  clear HB
                                  clear h0_ h1_ h2_
                                  have HO133 := n0_
                                  have HO_7 := n1_
                                  have HB := n2_
                                  clear n0_ n1_ n2_
                                  have hHeld := trivial
                                  refine norm_ (a' := ?_) ?_ ?_
                                  rotate_left
                                  · simp only [putAll, Act.put, List.setIfInBounds_toArray, List.set_cons_zero, List.set_cons_succ]
                                    rfl
                                  refine two_ (i := 1) (j := 5) (Ni := some 47) (Nj := some 51) #[true, true, false, true, true, false, false, false, false] #[true, false, false, true, true, true, false, false, false] rfl rfl rfl rfl (two_of HT_.out (by kernel_rfl)) (by decide) (by decide) (fun K hK => ?_) (fun K hK => ?_)
                                  · skip
                                    refine Kd.R_make_step (Kd.int .u8) _ 5 (by rfl) (N := 47) rfl 35 _ _ rfl ji14 rfl rfl Try.underlying35 (.int .u8 0) 1 info5 rfl (by decide) (by omega) 0 (ok := fun _ => True) (okp := fun _ => True) rfl (fun _ hk => hk) trivial (of_decide_eq_true (by first | (with_reducible assumption) | assumption)) (Nat.le_trans (Nat.mul_le_mul_right _ (of_decide_eq_true (by first | (with_reducible assumption) | assumption) : ji14.toNat ≤ 281474976710656)) (by omega)) (Below.refl _ _) (Nat.le_refl _) ?_
                                    intro v129 w31 ho32 hb hg_ hnew_
                                    clear hg_ hnew_
                                    (first | rw [← Ny128.out] at ho32 | (simp only [Int.reduceToNat] at ho32; rw [← Ny128.out] at ho32))
                                    have n0_ := Aside0.mk (Kd.R_below (by (with_reducible repeat (first | apply Kd.R_alloc | apply Kd.R_drewN | apply Kd.R_drew)); exact HO_7.out) hb)
                                    have n1_ := Aside0.mk (Kd.R_elder' (by (with_reducible repeat (first | apply Kd.R_alloc | apply Kd.R_drewN | apply Kd.R_drew)); exact HO133.out) (Kd.R_base ho32) hb)
                                    have n2_ := Aside0.mk (Kd.R_lower (Kd.R_new' ho32 (Kd.R_lt (by (with_reducible repeat (first | apply Kd.R_alloc | apply Kd.R_drewN | apply Kd.R_drew)); exact HO133.out))) (below_size (by repeat (first | (with_reducible first | exact HB.out | apply below_alloc | apply pw_below_drewN | apply below_drew1) | exact HB.out))))
                                    have n3_ := Aside0.mk (below_step (by repeat (first | (with_reducible first | exact HB.out | apply below_alloc | apply pw_below_drewN | apply below_drew1) | exact HB.out)) hb)
                                    clear HO_7
                                    clear HO133
                                    clear HB
                                    have HO_7 := n0_
                                    have HO133 := n1_
                                    have HO130 := n2_
                                    have HB := n3_
                                    clear n0_ n1_ n2_ n3_
                                    clear hb ho32
                                    refine hK.out _ _ trivial (fun hHeld => ?_)
                                    clear hK K
                                    refine norm_ (a' := ?_) ?_ ?_
                                    rotate_left
                                    · show Act.put _ (some 47) _ = _
                                      simp only [Act.put, List.setIfInBounds_toArray, List.set_cons_zero, List.set_cons_succ, i64_w, i32_w]
                                      rfl
                                    exact norm_ (by first | (simp only [putAll, Act.put, List.setIfInBounds_toArray, List.set_cons_zero, List.set_cons_succ]; done) | (simp only [putAll, Act.put, List.setIfInBounds_toArray, List.set_cons_zero, List.set_cons_succ]; rfl)) (hJ1_4 (v129, v132) _ ⟨(by (with_reducible repeat (first | apply Kd.R_alloc | apply Kd.R_drewN | apply Kd.R_drew)); exact Kd.R_mono HO130.out (fun _ hk => hk.2)), (by (with_reducible repeat (first | apply Kd.R_alloc | apply Kd.R_drewN | apply Kd.R_drew)); exact Kd.R_mono HO133.out (fun _ hk => hk.2)), (by (with_reducible repeat (first | apply Kd.R_alloc | apply Kd.R_drewN | apply Kd.R_drew)); exact HO_7.out), (by repeat (first | (with_reducible first | exact HB.out | apply below_alloc | apply pw_below_drewN | apply below_drew1) | exact HB.out))⟩)
                                  · skip
                                    have hcv31 := own_string (P := Try.prog) Try.underlying35 Try.underlying5 Try.underlying9 (Kd.own_of_R HO133.out)
                                    refine value_ (w1 := ?_) (v := ?_) (by rfl) rfl ?_ ?_
                                    rotate_left 2
                                    · go_simp
                                      constructor
                                      · rfl
                                      · rfl
                                    clear hcv31
                                    refine hK.out _ _ trivial (fun hHeld => ?_)
                                    clear hK K
                                    refine norm_ (a' := ?_) ?_ ?_
                                    rotate_left
                                    · show Act.put _ (some 51) _ = _
                                      simp only [Act.put, List.setIfInBounds_toArray, List.set_cons_zero, List.set_cons_succ, i64_w, i32_w]
                                      rfl
                                    exact norm_ (by first | (simp only [putAll, Act.put, List.setIfInBounds_toArray, List.set_cons_zero, List.set_cons_succ]; done) | (simp only [putAll, Act.put, List.setIfInBounds_toArray, List.set_cons_zero, List.set_cons_succ]; rfl)) (hJ4_5 (v132) _ ⟨(by (with_reducible repeat (first | apply Kd.R_alloc | apply Kd.R_drewN | apply Kd.R_drew)); exact HO133.out), (by (with_reducible repeat (first | apply Kd.R_alloc | apply Kd.R_drewN | apply Kd.R_drew)); exact HO_7.out), (by repeat (first | (with_reducible first | exact HB.out | apply below_alloc | apply pw_below_drewN | apply below_drew1) | exact HB.out))⟩)
                              · skip
                                rintro v129 w30 ⟨h0_, h1_, h2_⟩
                                have n0_ : Aside0 (Kd.R (Kd.int .u8) 5 w30 w.heap.size (fun _ => True) v129 y128) := ⟨h0_⟩
                                have n1_ : Aside0 (Kd.R k37 37 w30 w.heap.size (fun _ => True) (.slice Ao25 x7_1.length co25) x7_1) := ⟨h1_⟩
                                have n2_ : Aside0 (Below w.heap.size w w30) := ⟨h2_⟩
                                clear HO_7
                                clear HB
                                clear h0_ h1_ h2_
                                have HO130 := n0_
                                have HO_7 := n1_
                                have HB := n2_
                                clear n0_ n1_ n2_
                                have hHeld := trivial
                                refine norm_ (a' := ?_) ?_ ?_
                                rotate_left
                                · simp only [putAll, Act.put, List.setIfInBounds_toArray, List.set_cons_zero, List.set_cons_succ]
                                  rfl
                                refine two_ (i := 2) (j := 4) (Ni := some 48) (Nj := some 50) #[true, true, true, true, false, false, false, false, false] #[true, true, false, true, true, false, false, false, false] rfl rfl rfl rfl (two_of HT_.out (by kernel_rfl)) (by decide) (by decide) (fun K hK => ?_) (fun K hK => ?_)
                                · skip
                                  have hcv31 := own_string (P := Try.prog) Try.underlying35 Try.underlying5 Try.underlying9 (Kd.own_of_R HO130.out)
                                  refine value_ (w1 := ?_) (v := ?_) (by rfl) rfl ?_ ?_
                                  rotate_left 2
                                  · go_simp
                                    constructor
                                    · rfl
                                    · rfl
                                  clear hcv31
                                  refine hK.out _ _ trivial (fun hHeld => ?_)
                                  clear hK K
                                  refine norm_ (a' := ?_) ?_ ?_
                                  rotate_left
                                  · show Act.put _ (some 48) _ = _
                                    simp only [Act.put, List.setIfInBounds_toArray, List.set_cons_zero, List.set_cons_succ, i64_w, i32_w]
                                    rfl
                                  exact norm_ (by first | (simp only [putAll, Act.put, List.setIfInBounds_toArray, List.set_cons_zero, List.set_cons_succ]; done) | (simp only [putAll, Act.put, List.setIfInBounds_toArray, List.set_cons_zero, List.set_cons_succ]; rfl)) (hJ1_2 (v129) _ ⟨(by (with_reducible repeat (first | apply Kd.R_alloc | apply Kd.R_drewN | apply Kd.R_drew)); exact HO130.out), (by (with_reducible repeat (first | apply Kd.R_alloc | apply Kd.R_drewN | apply Kd.R_drew)); exact HO_7.out), (by repeat (first | (with_reducible first | exact HB.out | apply below_alloc | apply pw_below_drewN | apply below_drew1) | exact HB.out))⟩)
                                · skip
                                  refine Kd.R_make_step (Kd.int .u8) _ 5 (by rfl) (N := 50) rfl 35 _ _ rfl ji17 rfl rfl Try.underlying35 (.int .u8 0) 1 info5 rfl (by decide) (by omega) 0 (ok := fun _ => True) (okp := fun _ => True) rfl (fun _ hk => hk) trivial (of_decide_eq_true (by first | (with_reducible assumption) | assumption)) (Nat.le_trans (Nat.mul_le_mul_right _ (of_decide_eq_true (by first | (with_reducible assumption) | assumption) : ji17.toNat ≤ 281474976710656)) (by omega)) (Below.refl _ _) (Nat.le_refl _) ?_
                                  intro v132 w31 ho32 hb hg_ hnew_
                                  clear hg_ hnew_
                                  (first | rw [← Ny131.out] at ho32 | (simp only [Int.reduceToNat] at ho32; rw [← Ny131.out] at ho32))
                                  have n0_ := Aside0.mk (Kd.R_below (by (with_reducible repeat (first | apply Kd.R_alloc | apply Kd.R_drewN | apply Kd.R_drew)); exact HO_7.out) hb)
                                  have n1_ := Aside0.mk (Kd.R_elder' (by (with_reducible repeat (first | apply Kd.R_alloc | apply Kd.R_drewN | apply Kd.R_drew)); exact HO130.out) (Kd.R_base ho32) hb)
                                  have n2_ := Aside0.mk (Kd.R_lower (Kd.R_new' ho32 (Kd.R_lt (by (with_reducible repeat (first | apply Kd.R_alloc | apply Kd.R_drewN | apply Kd.R_drew)); exact HO130.out))) (below_size (by repeat (first | (with_reducible first | exact HB.out | apply below_alloc | apply pw_below_drewN | apply below_drew1) | exact HB.out))))
                                  have n3_ := Aside0.mk (below_step (by repeat (first | (with_reducible first | exact HB.out | apply below_alloc | apply pw_below_drewN | apply below_drew1) | exact HB.out)) hb)
                                  clear HO_7
                                  clear HO130
                                  clear HB
                                  have HO_7 := n0_
                                  have HO130 := n1_
                                  have HO133 := n2_
                                  have HB := n3_
                                  clear n0_ n1_ n2_ n3_
                                  clear hb ho32
                                  refine hK.out _ _ trivial (fun hHeld => ?_)
                                  clear hK K
                                  refine norm_ (a' := ?_) ?_ ?_
                                  rotate_left
                                  · show Act.put _ (some 50) _ = _
                                    simp only [Act.put, List.setIfInBounds_toArray, List.set_cons_zero, List.set_cons_succ, i64_w, i32_w]
                                    rfl
                                  exact norm_ (by first | (simp only [putAll, Act.put, List.setIfInBounds_toArray, List.set_cons_zero, List.set_cons_succ]; done) | (simp only [putAll, Act.put, List.setIfInBounds_toArray, List.set_cons_zero, List.set_cons_succ]; rfl)) (hJ1_4 (v129, v132) _ ⟨(by (with_reducible repeat (first | apply Kd.R_alloc | apply Kd.R_drewN | apply Kd.R_drew)); exact Kd.R_mono HO130.out (fun _ hk => hk.2)), (by (with_reducible repeat (first | apply Kd.R_alloc | apply Kd.R_drewN | apply Kd.R_drew)); exact Kd.R_mono HO133.out (fun _ hk => hk.2)), (by (with_reducible repeat (first | apply Kd.R_alloc | apply Kd.R_drewN | apply Kd.R_drew)); exact HO_7.out), (by repeat (first | (with_reducible first | exact HB.out | apply below_alloc | apply pw_below_drewN | apply below_drew1) | exact HB.out))⟩)
                            · skip
                              rintro v132 w31 ⟨h0_, h1_, h2_⟩
                              have n0_ : Aside0 (Kd.R (Kd.int .u8) 5 w31 w.heap.size (fun _ => True) v132 y131) := ⟨h0_⟩
                              have n1_ : Aside0 (Kd.R k37 37 w31 w.heap.size (fun _ => True) (.slice Ao25 x7_1.length co25) x7_1) := ⟨h1_⟩
                              have n2_ : Aside0 (Below w.heap.size w w31) := ⟨h2_⟩
                              clear HO_7
                              clear HB
                              clear h0_ h1_ h2_
                              have HO133 := n0_
                              have HO_7 := n1_
                              have HB := n2_
                              clear n0_ n1_ n2_
                              have hHeld := trivial
                              refine norm_ (a' := ?_) ?_ ?_
                              rotate_left
                              · simp only [putAll, Act.put, List.setIfInBounds_toArray, List.set_cons_zero, List.set_cons_succ]
                                rfl
                              refine one_ (i := 1) (N := some 47) #[true, true, false, true, true, true, false, false, false] rfl rfl (one_of HT_.out (by kernel_rfl)) (by decide) (fun K hK => ?_)
                              refine Kd.R_make_step (Kd.int .u8) _ 5 (by rfl) (N := 47) rfl 35 _ _ rfl ji14 rfl rfl Try.underlying35 (.int .u8 0) 1 info5 rfl (by decide) (by omega) 0 (ok := fun _ => True) (okp := fun _ => True) rfl (fun _ hk => hk) trivial (of_decide_eq_true (by first | (with_reducible assumption) | assumption)) (Nat.le_trans (Nat.mul_le_mul_right _ (of_decide_eq_true (by first | (with_reducible assumption) | assumption) : ji14.toNat ≤ 281474976710656)) (by omega)) (Below.refl _ _) (Nat.le_refl _) ?_
                              intro v129 w32 ho33 hb hg_ hnew_
                              clear hg_ hnew_
                              (first | rw [← Ny128.out] at ho33 | (simp only [Int.reduceToNat] at ho33; rw [← Ny128.out] at ho33))
                              have n0_ := Aside0.mk (Kd.R_below (by (with_reducible repeat (first | apply Kd.R_alloc | apply Kd.R_drewN | apply Kd.R_drew)); exact HO_7.out) hb)
                              have n1_ := Aside0.mk (Kd.R_elder' (by (with_reducible repeat (first | apply Kd.R_alloc | apply Kd.R_drewN | apply Kd.R_drew)); exact HO133.out) (Kd.R_base ho33) hb)
                              have n2_ := Aside0.mk (Kd.R_lower (Kd.R_new' ho33 (Kd.R_lt (by (with_reducible repeat (first | apply Kd.R_alloc | apply Kd.R_drewN | apply Kd.R_drew)); exact HO133.out))) (below_size (by repeat (first | (with_reducible first | exact HB.out | apply below_alloc | apply pw_below_drewN | apply below_drew1) | exact HB.out))))
                              have n3_ := Aside0.mk (below_step (by repeat (first | (with_reducible first | exact HB.out | apply below_alloc | apply pw_below_drewN | apply below_drew1) | exact HB.out)) hb)
                              clear HO_7
                              clear HO133
                              clear HB
                              have HO_7 := n0_
                              have HO133 := n1_
                              have HO130 := n2_
                              have HB := n3_
                              clear n0_ n1_ n2_ n3_
                              clear hb ho33
                              refine hK.out _ _ trivial (fun hHeld => ?_)
                              clear hK K
                              refine norm_ (a' := ?_) ?_ ?_
                              rotate_left
                              · show Act.put _ (some 47) _ = _
                                simp only [Act.put, List.setIfInBounds_toArray, List.set_cons_zero, List.set_cons_succ, i64_w, i32_w]
                                rfl
                              exact norm_ (by first | (simp only [putAll, Act.put, List.setIfInBounds_toArray, List.set_cons_zero, List.set_cons_succ]; done) | (simp only [putAll, Act.put, List.setIfInBounds_toArray, List.set_cons_zero, List.set_cons_succ]; rfl)) (hJ1_4_5 (v129, v132) _ ⟨(by (with_reducible repeat (first | apply Kd.R_alloc | apply Kd.R_drewN | apply Kd.R_drew)); exact Kd.R_mono HO130.out (fun _ hk => hk.2)), (by (with_reducible repeat (first | apply Kd.R_alloc | apply Kd.R_drewN | apply Kd.R_drew)); exact Kd.R_mono HO133.out (fun _ hk => hk.2)), (by (with_reducible repeat (first | apply Kd.R_alloc | apply Kd.R_drewN | apply Kd.R_drew)); exact HO_7.out), (by repeat (first | (with_reducible first | exact HB.out | apply below_alloc | apply pw_below_drewN | apply below_drew1) | exact HB.out))⟩)
                          · skip
                            rintro ⟨v129, v132⟩ w32 ⟨h0_, h1_, h2_, h3_⟩
                            have n0_ : Aside0 (Kd.R (Kd.int .u8) 5 w32 w.heap.size (fun k_ => some k_ ≠ (v132 : Value).ownBlock) v129 y128) := ⟨h0_⟩
                            have n1_ : Aside0 (Kd.R (Kd.int .u8) 5 w32 w.heap.size (fun k_ => some k_ ≠ (v129 : Value).ownBlock) v132 y131) := ⟨h1_⟩
                            have n2_ : Aside0 (Kd.R k37 37 w32 w.heap.size (fun _ => True) (.slice Ao25 x7_1.length co25) x7_1) := ⟨h2_⟩
                            have n3_ : Aside0 (Below w.heap.size w w32) := ⟨h3_⟩
                            clear HO_7
                            clear HB
                            clear h0_ h1_ h2_ h3_
                            have HO130 := n0_
                            have HO133 := n1_
                            have HO_7 := n2_
                            have HB := n3_
                            clear n0_ n1_ n2_ n3_
                            have hHeld := trivial
                            refine norm_ (a' := ?_) ?_ ?_
                            rotate_left
                            · simp only [putAll, Act.put, List.setIfInBounds_toArray, List.set_cons_zero, List.set_cons_succ]
                              rfl
                            refine two_ (i := 2) (j := 5) (Ni := some 48) (Nj := some 51) #[true, true, true, true, true, false, false, false, false] #[true, true, false, true, true, true, false, false, false] rfl rfl rfl rfl (two_of HT_.out (by kernel_rfl)) (by decide) (by decide) (fun K hK => ?_) (fun K hK => ?_)
                            · skip
                              have hcv33 := own_string (P := Try.prog) Try.underlying35 Try.underlying5 Try.underlying9 (Kd.own_of_R HO130.out)
                              refine value_ (w1 := ?_) (v := ?_) (by rfl) rfl ?_ ?_
                              rotate_left 2
                              · go_simp
                                constructor
                                · rfl
                                · rfl
                              clear hcv33
                              refine hK.out _ _ trivial (fun hHeld => ?_)
                              clear hK K
                              refine norm_ (a' := ?_) ?_ ?_
                              rotate_left
                              · show Act.put _ (some 48) _ = _
                                simp only [Act.put, List.setIfInBounds_toArray, List.set_cons_zero, List.set_cons_succ, i64_w, i32_w]
                                rfl
                              exact norm_ (by first | (simp only [putAll, Act.put, List.setIfInBounds_toArray, List.set_cons_zero, List.set_cons_succ]; done) | (simp only [putAll, Act.put, List.setIfInBounds_toArray, List.set_cons_zero, List.set_cons_succ]; rfl)) (hJ1_2_4 (v129, v132) _ ⟨(by (with_reducible repeat (first | apply Kd.R_alloc | apply Kd.R_drewN | apply Kd.R_drew)); exact HO130.out), (by (with_reducible repeat (first | apply Kd.R_alloc | apply Kd.R_drewN | apply Kd.R_drew)); exact HO133.out), (by (with_reducible repeat (first | apply Kd.R_alloc | apply Kd.R_drewN | apply Kd.R_drew)); exact HO_7.out), (by repeat (first | (with_reducible first | exact HB.out | apply below_alloc | apply pw_below_drewN | apply below_drew1) | exact HB.out))⟩)
                            · skip
                              have hcv33 := own_string (P := Try.prog) Try.underlying35 Try.underlying5 Try.underlying9 (Kd.own_of_R HO133.out)
                              refine value_ (w1 := ?_) (v := ?_) (by rfl) rfl ?_ ?_
                              rotate_left 2
                              · go_simp
                                constructor
                                · rfl
                                · rfl
                              clear hcv33
                              refine hK.out _ _ trivial (fun hHeld => ?_)
                              clear hK K
                              refine norm_ (a' := ?_) ?_ ?_
                              rotate_left
                              · show Act.put _ (some 51) _ = _
                                simp only [Act.put, List.setIfInBounds_toArray, List.set_cons_zero, List.set_cons_succ, i64_w, i32_w]
                                rfl
                              exact norm_ (by first | (simp only [putAll, Act.put, List.setIfInBounds_toArray, List.set_cons_zero, List.set_cons_succ]; done) | (simp only [putAll, Act.put, List.setIfInBounds_toArray, List.set_cons_zero, List.set_cons_succ]; rfl)) (hJ1_4_5 (v129, v132) _ ⟨(by (with_reducible repeat (first | apply Kd.R_alloc | apply Kd.R_drewN | apply Kd.R_drew)); exact HO130.out), (by (with_reducible repeat (first | apply Kd.R_alloc | apply Kd.R_drewN | apply Kd.R_drew)); exact HO133.out), (by (with_reducible repeat (first | apply Kd.R_alloc | apply Kd.R_drewN | apply Kd.R_drew)); exact HO_7.out), (by repeat (first | (with_reducible first | exact HB.out | apply below_alloc | apply pw_below_drewN | apply below_drew1) | exact HB.out))⟩)
                        · skip
                          rintro v129 w31 ⟨h0_, h1_, h2_⟩
                          have n0_ : Aside0 (Kd.R (Kd.int .u8) 5 w31 w.heap.size (fun _ => True) v129 y128) := ⟨h0_⟩
                          have n1_ : Aside0 (Kd.R k37 37 w31 w.heap.size (fun _ => True) (.slice Ao25 x7_1.length co25) x7_1) := ⟨h1_⟩
                          have n2_ : Aside0 (Below w.heap.size w w31) := ⟨h2_⟩
                          clear HO_7
                          clear HB
                          clear h0_ h1_ h2_
                          have HO130 := n0_
                          have HO_7 := n1_
                          have HB := n2_
                          clear n0_ n1_ n2_
                          have hHeld := trivial
                          refine norm_ (a' := ?_) ?_ ?_
                          rotate_left
                          · simp only [putAll, Act.put, List.setIfInBounds_toArray, List.set_cons_zero, List.set_cons_succ]
                            rfl
                          refine one_ (i := 4) (N := some 50) #[true, true, true, true, true, false, false, false, false] rfl rfl (one_of HT_.out (by kernel_rfl)) (by decide) (fun K hK => ?_)
                          refine Kd.R_make_step (Kd.int .u8) _ 5 (by rfl) (N := 50) rfl 35 _ _ rfl ji17 rfl rfl Try.underlying35 (.int .u8 0) 1 info5 rfl (by decide) (by omega) 0 (ok := fun _ => True) (okp := fun _ => True) rfl (fun _ hk => hk) trivial (of_decide_eq_true (by first | (with_reducible assumption) | assumption)) (Nat.le_trans (Nat.mul_le_mul_right _ (of_decide_eq_true (by first | (with_reducible assumption) | assumption) : ji17.toNat ≤ 281474976710656)) (by omega)) (Below.refl _ _) (Nat.le_refl _) ?_
                          intro v132 w32 ho33 hb hg_ hnew_
                          clear hg_ hnew_
                          (first | rw [← Ny131.out] at ho33 | (simp only [Int.reduceToNat] at ho33; rw [← Ny131.out] at ho33))
                          have n0_ := Aside0.mk (Kd.R_below (by (with_reducible repeat (first | apply Kd.R_alloc | apply Kd.R_drewN | apply Kd.R_drew)); exact HO_7.out) hb)
                          have n1_ := Aside0.mk (Kd.R_elder' (by (with_reducible repeat (first | apply Kd.R_alloc | apply Kd.R_drewN | apply Kd.R_drew)); exact HO130.out) (Kd.R_base ho33) hb)
                          have n2_ := Aside0.mk (Kd.R_lower (Kd.R_new' ho33 (Kd.R_lt (by (with_reducible repeat (first | apply Kd.R_alloc | apply Kd.R_drewN | apply Kd.R_drew)); exact HO130.out))) (below_size (by repeat (first | (with_reducible first | exact HB.out | apply below_alloc | apply pw_below_drewN | apply below_drew1) | exact HB.out))))
                          have n3_ := Aside0.mk (below_step (by repeat (first | (with_reducible first | exact HB.out | apply below_alloc | apply pw_below_drewN | apply below_drew1) | exact HB.out)) hb)
                          clear HO_7
                          clear HO130
                          clear HB
                          have HO_7 := n0_
                          have HO130 := n1_
                          have HO133 := n2_
                          have HB := n3_
                          clear n0_ n1_ n2_ n3_
                          clear hb ho33
                          refine hK.out _ _ trivial (fun hHeld => ?_)
                          clear hK K
                          refine norm_ (a' := ?_) ?_ ?_
                          rotate_left
                          · show Act.put _ (some 50) _ = _
                            simp only [Act.put, List.setIfInBounds_toArray, List.set_cons_zero, List.set_cons_succ, i64_w, i32_w]
                            rfl
                          exact norm_ (by first | (simp only [putAll, Act.put, List.setIfInBounds_toArray, List.set_cons_zero, List.set_cons_succ]; done) | (simp only [putAll, Act.put, List.setIfInBounds_toArray, List.set_cons_zero, List.set_cons_succ]; rfl)) (hJ1_2_4 (v129, v132) _ ⟨(by (with_reducible repeat (first | apply Kd.R_alloc | apply Kd.R_drewN | apply Kd.R_drew)); exact Kd.R_mono HO130.out (fun _ hk => hk.2)), (by (with_reducible repeat (first | apply Kd.R_alloc | apply Kd.R_drewN | apply Kd.R_drew)); exact Kd.R_mono HO133.out (fun _ hk => hk.2)), (by (with_reducible repeat (first | apply Kd.R_alloc | apply Kd.R_drewN | apply Kd.R_drew)); exact HO_7.out), (by repeat (first | (with_reducible first | exact HB.out | apply below_alloc | apply pw_below_drewN | apply below_drew1) | exact HB.out))⟩)
                      · skip
                        rintro ⟨v129, v132⟩ w33 ⟨h0_, h1_, h2_, h3_⟩
                        have n0_ : Aside0 (Kd.R (Kd.int .u8) 5 w33 w.heap.size (fun k_ => some k_ ≠ (v132 : Value).ownBlock) v129 y128) := ⟨h0_⟩
                        have n1_ : Aside0 (Kd.R (Kd.int .u8) 5 w33 w.heap.size (fun k_ => some k_ ≠ (v129 : Value).ownBlock) v132 y131) := ⟨h1_⟩
                        have n2_ : Aside0 (Kd.R k37 37 w33 w.heap.size (fun _ => True) (.slice Ao25 x7_1.length co25) x7_1) := ⟨h2_⟩
                        have n3_ : Aside0 (Below w.heap.size w w33) := ⟨h3_⟩
                        clear HO_7
                        clear HB
                        clear h0_ h1_ h2_ h3_
                        have HO130 := n0_
                        have HO133 := n1_
                        have HO_7 := n2_
                        have HB := n3_
                        clear n0_ n1_ n2_ n3_
                        have hHeld := trivial
                        refine norm_ (a' := ?_) ?_ ?_
                        rotate_left
                        · simp only [putAll, Act.put, List.setIfInBounds_toArray, List.set_cons_zero, List.set_cons_succ]
                          rfl
                        refine one_ (i := 2) (N := some 48) #[true, true, true, true, true, true, false, false, false] rfl rfl (one_of HT_.out (by kernel_rfl)) (by decide) (fun K hK => ?_)
                        have hcv34 := own_string (P := Try.prog) Try.underlying35 Try.underlying5 Try.underlying9 (Kd.own_of_R HO130.out)
                        refine value_ (w1 := ?_) (v := ?_) (by rfl) rfl ?_ ?_
                        rotate_left 2
                        · go_simp
                          constructor
                          · rfl
                          · rfl
                        clear hcv34
                        refine hK.out _ _ trivial (fun hHeld => ?_)
                        clear hK K
                        refine norm_ (a' := ?_) ?_ ?_
                        rotate_left
                        · show Act.put _ (some 48) _ = _
                          simp only [Act.put, List.setIfInBounds_toArray, List.set_cons_zero, List.set_cons_succ, i64_w, i32_w]
                          rfl
                        exact norm_ (by first | (simp only [putAll, Act.put, List.setIfInBounds_toArray, List.set_cons_zero, List.set_cons_succ]; done) | (simp only [putAll, Act.put, List.setIfInBounds_toArray, List.set_cons_zero, List.set_cons_succ]; rfl)) (hJ1_2_4_5 (v129, v132) _ ⟨(by (with_reducible repeat (first | apply Kd.R_alloc | apply Kd.R_drewN | apply Kd.R_drew)); exact HO130.out), (by (with_reducible repeat (first | apply Kd.R_alloc | apply Kd.R_drewN | apply Kd.R_drew)); exact HO133.out), (by (with_reducible repeat (first | apply Kd.R_alloc | apply Kd.R_drewN | apply Kd.R_drew)); exact HO_7.out), (by repeat (first | (with_reducible first | exact HB.out | apply below_alloc | apply pw_below_drewN | apply below_drew1) | exact HB.out))⟩)
                    · skip
                      rintro ⟨v129, v132⟩ w33 ⟨h0_, h1_, h2_, h3_⟩
                      have n0_ : Aside0 (Kd.R (Kd.int .u8) 5 w33 w.heap.size (fun k_ => some k_ ≠ (v132 : Value).ownBlock) v129 y128) := ⟨h0_⟩
                      have n1_ : Aside0 (Kd.R (Kd.int .u8) 5 w33 w.heap.size (fun k_ => some k_ ≠ (v129 : Value).ownBlock) v132 y131) := ⟨h1_⟩
                      have n2_ : Aside0 (Kd.R k37 37 w33 w.heap.size (fun _ => True) (.slice Ao25 x7_1.length co25) x7_1) := ⟨h2_⟩
                      have n3_ : Aside0 (Below w.heap.size w w33) := ⟨h3_⟩
                      clear HO_7
                      clear HB
                      clear h0_ h1_ h2_ h3_
                      have HO130 := n0_
                      have HO133 := n1_
                      have HO_7 := n2_
                      have HB := n3_
                      clear n0_ n1_ n2_ n3_
                      have hHeld := trivial
                      refine norm_ (a' := ?_) ?_ ?_
                      rotate_left
                      · simp only [putAll, Act.put, List.setIfInBounds_toArray, List.set_cons_zero, List.set_cons_succ]
                        rfl
                      refine one_ (i := 5) (N := some 51) #[true, true, true, true, true, true, false, false, false] rfl rfl (one_of HT_.out (by kernel_rfl)) (by decide) (fun K hK => ?_)
                      have hcv34 := own_string (P := Try.prog) Try.underlying35 Try.underlying5 Try.underlying9 (Kd.own_of_R HO133.out)
                      refine value_ (w1 := ?_) (v := ?_) (by rfl) rfl ?_ ?_
                      rotate_left 2
                      · go_simp
                        constructor
                        · rfl
                        · rfl
                      clear hcv34
                      refine hK.out _ _ trivial (fun hHeld => ?_)
                      clear hK K
                      refine norm_ (a' := ?_) ?_ ?_
                      rotate_left
                      · show Act.put _ (some 51) _ = _
                        simp only [Act.put, List.setIfInBounds_toArray, List.set_cons_zero, List.set_cons_succ, i64_w, i32_w]
                        rfl
                      exact norm_ (by first | (simp only [putAll, Act.put, List.setIfInBounds_toArray, List.set_cons_zero, List.set_cons_succ]; done) | (simp only [putAll, Act.put, List.setIfInBounds_toArray, List.set_cons_zero, List.set_cons_succ]; rfl)) (hJ1_2_4_5 (v129, v132) _ ⟨(by (with_reducible repeat (first | apply Kd.R_alloc | apply Kd.R_drewN | apply Kd.R_drew)); exact HO130.out), (by (with_reducible repeat (first | apply Kd.R_alloc | apply Kd.R_drewN | apply Kd.R_drew)); exact HO133.out), (by (with_reducible repeat (first | apply Kd.R_alloc | apply Kd.R_drewN | apply Kd.R_drew)); exact HO_7.out), (by repeat (first | (with_reducible first | exact HB.out | apply below_alloc | apply pw_below_drewN | apply below_drew1) | exact HB.out))⟩)
                  rintro ⟨v129, v132⟩ w34 ⟨h0_, h1_, h2_, h3_⟩
                  have n0_ : Aside0 (Kd.R (Kd.int .u8) 5 w34 w.heap.size (fun k_ => some k_ ≠ (v132 : Value).ownBlock) v129 y128) := ⟨h0_⟩
                  have n1_ : Aside0 (Kd.R (Kd.int .u8) 5 w34 w.heap.size (fun k_ => some k_ ≠ (v129 : Value).ownBlock) v132 y131) := ⟨h1_⟩
                  have n2_ : Aside0 (Kd.R k37 37 w34 w.heap.size (fun _ => True) (.slice Ao25 x7_1.length co25) x7_1) := ⟨h2_⟩
                  have n3_ : Aside0 (Below w.heap.size w w34) := ⟨h3_⟩
                  clear HO_7
                  clear HB
                  clear h0_ h1_ h2_ h3_
                  have HO130 := n0_
                  have HO133 := n1_
                  have HO_7 := n2_
                  have HB := n3_
                  clear n0_ n1_ n2_ n3_
                  have hHeld := trivial
                  refine norm_ (a' := ?_) ?_ ?_
                  rotate_left
                  · simp only [putAll, Act.put, List.setIfInBounds_toArray, List.set_cons_zero, List.set_cons_succ]
                    rfl
                  refine pure_ (i := 6) (N := some 52) (v := ?_) (a' := ?_) #[true, true, true, true, true, true, true, false, false] rfl rfl (any_of HT_.out (by kernel_rfl)) (fun _ _ _ h => h) (Or.inl ⟨by rfl, ?_⟩) ?_ ?_
                  rotate_left
                  · intro w'
                    go_simp
                    with_reducible rfl
                  rotate_left
                  · simp only [Act.put, List.setIfInBounds_toArray, List.set_cons_zero, List.set_cons_succ, i64_w, i32_w]
                    rfl
                  refine one_ (i := 7) (N := some 53) #[true, true, true, true, true, true, true, true, false] rfl rfl (one_of HT_.out (by kernel_rfl)) (by decide) (fun K hK => ?_)
                  refine Kd.R_lit_step k37 _ 37 ?hg (N := 53) ?hd (xs := ([(⟨strOfNums y128, strOfNums y131, false⟩ : S37)] : List (S37))) (inner := [.string (strOfNums y128), .string (strOfNums y131), .bool false]) (ok := fun _ => True) (okp := fun _ => True) ?hr ?hp (fun _ hk => hk) trivial (Below.refl _ _) (Nat.le_refl _) (by simp) ?_; (case hd => rfl); (case hg => rfl); (case hr => first | (go_simp; done) | (go_simp; rfl)); (case hp => exact (Reps.c3 (show Kd.M k37 _ _ _ (⟨strOfNums y128, strOfNums y131, false⟩ : S37) [.string (strOfNums y128), .string (strOfNums y131), .bool false] from (k37_mkM _ _ _ (⟨strOfNums y128, strOfNums y131, false⟩ : S37) )) (Reps.none _ _)))
                  intro v135 w35 ho36 hb hg_ hnew_
                  clear hg_ hnew_
                  (first | rw [← Ny134.out] at ho36 | (simp only [Int.reduceToNat] at ho36; rw [← Ny134.out] at ho36))
                  have n0_ := Aside0.mk (Kd.R_elder' (by (with_reducible repeat (first | apply Kd.R_alloc | apply Kd.R_drewN | apply Kd.R_drew)); exact HO_7.out) (Kd.R_base ho36) hb)
                  have n1_ := Aside0.mk (Kd.R_below (by (with_reducible repeat (first | apply Kd.R_alloc | apply Kd.R_drewN | apply Kd.R_drew)); exact HO130.out) hb)
                  have n2_ := Aside0.mk (Kd.R_below (by (with_reducible repeat (first | apply Kd.R_alloc | apply Kd.R_drewN | apply Kd.R_drew)); exact HO133.out) hb)
                  have n3_ := Aside0.mk (Kd.R_lower (Kd.R_new' ho36 (Kd.R_lt (by (with_reducible repeat (first | apply Kd.R_alloc | apply Kd.R_drewN | apply Kd.R_drew)); exact HO_7.out))) (below_size (by repeat (first | (with_reducible first | exact HB.out | apply below_alloc | apply pw_below_drewN | apply below_drew1) | exact HB.out))))
                  have n4_ := Aside0.mk (below_step (by repeat (first | (with_reducible first | exact HB.out | apply below_alloc | apply pw_below_drewN | apply below_drew1) | exact HB.out)) hb)
                  clear HO_7
                  clear HO130
                  clear HO133
                  clear HB
                  have HO_7 := n0_
                  have HO130 := n1_
                  have HO133 := n2_
                  have HO136 := n3_
                  have HB := n4_
                  clear n0_ n1_ n2_ n3_ n4_
                  clear hb ho36
                  refine hK.out _ _ trivial (fun hHeld => ?_)
                  clear hK K
                  refine norm_ (a' := ?_) ?_ ?_
                  rotate_left
                  · show Act.put _ (some 53) _ = _
                    simp only [Act.put, List.setIfInBounds_toArray, List.set_cons_zero, List.set_cons_succ, i64_w, i32_w]
                    rfl
                  refine pure_ (i := 8) (N := some 12) (v := ?_) (a' := ?_) #[true, true, true, true, true, true, true, true, true] rfl rfl (any_of HT_.out (by kernel_rfl)) (fun _ _ _ h => h) (Or.inl ⟨by rfl, ?_⟩) ?_ ?_
                  rotate_left
                  · intro w'
                    go_simp
                    with_reducible rfl
                  rotate_left
                  · simp only [Act.put, List.setIfInBounds_toArray, List.set_cons_zero, List.set_cons_succ, i64_w, i32_w]
                    rfl
                  refine done_ (done_of HT_.out (by kernel_rfl)) ?_
                  obtain ⟨Ao37, co37, eo37⟩ := Kd.R_slice HO136.out
                  subst eo37
                  by_cases c20 : (x7_1.length : Int) ≥ 1
                  · rw [if_pos c20] at H
                    have c20b0 : decide (1 ≤ (x7_1.length : Int)) = true := decide_eq_true c20
                    have c20b1 : decide (1 ≤ x7_1.length) = true := decide_eq_true (by omega)
                    clear c20
                    by_cases c21 : ((t127 == 0) == (decide ((x7_1.length : Int) ≤ 4096))) = true
                    · rw [if_pos c21] at H
                      have c21b0 : ((t127 == 0) == (decide ((x7_1.length : Int) ≤ 4096))) = true := c21
                      (try (have c21b1 : decide ((t127 == 0) = (decide ((x7_1.length : Int) ≤ 4096))) = true := by simpa using c21))
                      (try (have c21b2 : ((t127 == 0) == (decide ((x7_1.length : Int) ≤ 4096))) = true := by simpa using c21))
                      clear c21
                      replace H := Option.bind_eq_some_iff.mp H
                      obtain ⟨t137, A220, H⟩ := H
                      replace H : (if (ji14) ≥ 1 then (if (ji14) ≤ 1024 then (some ((t137 == 0) == (decide ((ji17) ≤ 65536)))) else (some ((t137 == 0) == false))) else (some ((t137 == 0) == false))) = some r := H
                      have A22 := Aside0.mk A220
                      clear A220
                      by_cases c23 : (ji14) ≥ 1
                      · rw [if_pos c23] at H
                        have c23b0 : decide (1 ≤ (ji14)) = true := decide_eq_true c23
                        clear c23
                        by_cases c24 : (ji14) ≤ 1024
                        · rw [if_pos c24] at H
                          have c24b0 : decide ((ji14) ≤ 1024) = true := decide_eq_true c24
                          clear c24
                          obtain rfl := Option.some.inj H
                          try go_wp2_with (first | (go_at_call 15; (with_reducible refine (batch_Check.calls k1 _ _ y134 t137 _ ?side1 ?side2 A22.out).mono ?_); (case side1 => repeat (first | exact (Kd.R_reads' HO136.out).2.2 | (with_reducible refine Kd.C_alloc ?_ _) | (with_reducible refine Kd.C_drewN ?_ _) | (with_reducible refine Kd.C_drew ?_))); (case side2 => exact (Kd.R_reads' HO136.out).2.1); rintro e w38 ⟨rfl, hb⟩; have n0_ := Aside0.mk (Kd.R_below (by (with_reducible repeat (first | apply Kd.R_alloc | apply Kd.R_drewN | apply Kd.R_drew)); exact HO_7.out) hb); have n1_ := Aside0.mk (Kd.R_below (by (with_reducible repeat (first | apply Kd.R_alloc | apply Kd.R_drewN | apply Kd.R_drew)); exact HO130.out) hb); have n2_ := Aside0.mk (Kd.R_below (by (with_reducible repeat (first | apply Kd.R_alloc | apply Kd.R_drewN | apply Kd.R_drew)); exact HO133.out) hb); have n3_ := Aside0.mk (Kd.R_below (by (with_reducible repeat (first | apply Kd.R_alloc | apply Kd.R_drewN | apply Kd.R_drew)); exact HO136.out) hb); have n4_ := Aside0.mk (below_step (by repeat (first | (with_reducible first | exact HB.out | apply below_alloc | apply pw_below_drewN | apply below_drew1) | exact HB.out)) hb); clear HO_7; clear HO130; clear HO133; clear HO136; clear HB; have HO_7 := n0_; have HO130 := n1_; have HO133 := n2_; have HO136 := n3_; have HB := n4_; clear n0_ n1_ n2_ n3_ n4_; (try clear hb); (try clear hb2); (try clear hk); (try clear hi)))
                          go_ret
                          exact ⟨by first | rfl | (simp [errW_none, errW_some] <;> rfl) | (simp only [← hji14, ← hji17]; first | rfl | (simp [errW_none, errW_some] <;> rfl)) | (simp [*, errW_none, errW_some] <;> rfl), by repeat (first | (with_reducible first | exact HB.out | apply below_alloc | apply pw_below_drewN | apply below_drew1) | exact HB.out)⟩
                        · rw [if_neg c24] at H
                          have c24b0 : decide ((ji14) ≤ 1024) = false := decide_eq_false c24
                          clear c24
                          obtain rfl := Option.some.inj H
                          try go_wp2_with (first | (go_at_call 15; (with_reducible refine (batch_Check.calls k1 _ _ y134 t137 _ ?side1 ?side2 A22.out).mono ?_); (case side1 => repeat (first | exact (Kd.R_reads' HO136.out).2.2 | (with_reducible refine Kd.C_alloc ?_ _) | (with_reducible refine Kd.C_drewN ?_ _) | (with_reducible refine Kd.C_drew ?_))); (case side2 => exact (Kd.R_reads' HO136.out).2.1); rintro e w52 ⟨rfl, hb⟩; have n0_ := Aside0.mk (Kd.R_below (by (with_reducible repeat (first | apply Kd.R_alloc | apply Kd.R_drewN | apply Kd.R_drew)); exact HO_7.out) hb); have n1_ := Aside0.mk (Kd.R_below (by (with_reducible repeat (first | apply Kd.R_alloc | apply Kd.R_drewN | apply Kd.R_drew)); exact HO130.out) hb); have n2_ := Aside0.mk (Kd.R_below (by (with_reducible repeat (first | apply Kd.R_alloc | apply Kd.R_drewN | apply Kd.R_drew)); exact HO133.out) hb); have n3_ := Aside0.mk (Kd.R_below (by (with_reducible repeat (first | apply Kd.R_alloc | apply Kd.R_drewN | apply Kd.R_drew)); exact HO136.out) hb); have n4_ := Aside0.mk (below_step (by repeat (first | (with_reducible first | exact HB.out | apply below_alloc | apply pw_below_drewN | apply below_drew1) | exact HB.out)) hb); clear HO_7; clear HO130; clear HO133; clear HO136; clear HB; have HO_7 := n0_; have HO130 := n1_; have HO133 := n2_; have HO136 := n3_; have HB := n4_; clear n0_ n1_ n2_ n3_ n4_; (try clear hb); (try clear hb2); (try clear hk); (try clear hi)))
                          go_ret
                          exact ⟨by first | rfl | (simp [errW_none, errW_some] <;> rfl) | (simp only [← hji14, ← hji17]; first | rfl | (simp [errW_none, errW_some] <;> rfl)) | (simp [*, errW_none, errW_some] <;> rfl), by repeat (first | (with_reducible first | exact HB.out | apply below_alloc | apply pw_below_drewN | apply below_drew1) | exact HB.out)⟩
                      · rw [if_neg c23] at H
                        have c23b0 : decide (1 ≤ (ji14)) = false := decide_eq_false c23
                        clear c23
                        obtain rfl := Option.some.inj H
                        try go_wp2_with (first | (go_at_call 15; (with_reducible refine (batch_Check.calls k1 _ _ y134 t137 _ ?side1 ?side2 A22.out).mono ?_); (case side1 => repeat (first | exact (Kd.R_reads' HO136.out).2.2 | (with_reducible refine Kd.C_alloc ?_ _) | (with_reducible refine Kd.C_drewN ?_ _) | (with_reducible refine Kd.C_drew ?_))); (case side2 => exact (Kd.R_reads' HO136.out).2.1); rintro e w66 ⟨rfl, hb⟩; have n0_ := Aside0.mk (Kd.R_below (by (with_reducible repeat (first | apply Kd.R_alloc | apply Kd.R_drewN | apply Kd.R_drew)); exact HO_7.out) hb); have n1_ := Aside0.mk (Kd.R_below (by (with_reducible repeat (first | apply Kd.R_alloc | apply Kd.R_drewN | apply Kd.R_drew)); exact HO130.out) hb); have n2_ := Aside0.mk (Kd.R_below (by (with_reducible repeat (first | apply Kd.R_alloc | apply Kd.R_drewN | apply Kd.R_drew)); exact HO133.out) hb); have n3_ := Aside0.mk (Kd.R_below (by (with_reducible repeat (first | apply Kd.R_alloc | apply Kd.R_drewN | apply Kd.R_drew)); exact HO136.out) hb); have n4_ := Aside0.mk (below_step (by repeat (first | (with_reducible first | exact HB.out | apply below_alloc | apply pw_below_drewN | apply below_drew1) | exact HB.out)) hb); clear HO_7; clear HO130; clear HO133; clear HO136; clear HB; have HO_7 := n0_; have HO130 := n1_; have HO133 := n2_; have HO136 := n3_; have HB := n4_; clear n0_ n1_ n2_ n3_ n4_; (try clear hb); (try clear hb2); (try clear hk); (try clear hi)))
                        go_ret
                        exact ⟨by first | rfl | (simp [errW_none, errW_some] <;> rfl) | (simp only [← hji14, ← hji17]; first | rfl | (simp [errW_none, errW_some] <;> rfl)) | (simp [*, errW_none, errW_some] <;> rfl), by repeat (first | (with_reducible first | exact HB.out | apply below_alloc | apply pw_below_drewN | apply below_drew1) | exact HB.out)⟩
                    · rw [if_neg c21] at H
                      have c21b0 : ((t127 == 0) == (decide ((x7_1.length : Int) ≤ 4096))) = false := by simpa using c21
                      (try (have c21b1 : decide ((t127 == 0) = (decide ((x7_1.length : Int) ≤ 4096))) = false := by simpa using c21))
                      (try (have c21b2 : ((t127 == 0) == (decide ((x7_1.length : Int) ≤ 4096))) = false := by simpa using c21))
                      (try (have c21b3 : ¬ ((t127 == 0) = (decide ((x7_1.length : Int) ≤ 4096))) := by simpa using c21))
                      clear c21
                      obtain rfl := Option.some.inj H
                      try go_wp2
                      go_ret
                      exact ⟨by first | rfl | (simp [errW_none, errW_some] <;> rfl) | (simp only [← hji14, ← hji17]; first | rfl | (simp [errW_none, errW_some] <;> rfl)) | (simp [*, errW_none, errW_some] <;> rfl), by repeat (first | (with_reducible first | exact HB.out | apply below_alloc | apply pw_below_drewN | apply below_drew1) | exact HB.out)⟩
                  · rw [if_neg c20] at H
                    have c20b0 : decide (1 ≤ (x7_1.length : Int)) = false := decide_eq_false c20
                    have c20b1 : decide (1 ≤ x7_1.length) = false := decide_eq_false (by omega)
                    clear c20
                    by_cases c79 : ((t127 == 0) == false) = true
                    · rw [if_pos c79] at H
                      have c79b0 : ((t127 == 0) == false) = true := c79
                      (try (have c79b1 : decide ((t127 == 0) = false) = true := by simpa using c79))
                      (try (have c79b2 : ((t127 == 0) == false) = true := by simpa using c79))
                      clear c79
                      replace H := Option.bind_eq_some_iff.mp H
                      obtain ⟨t138, A800, H⟩ := H
                      replace H : (if (ji14) ≥ 1 then (if (ji14) ≤ 1024 then (some ((t138 == 0) == (decide ((ji17) ≤ 65536)))) else (some ((t138 == 0) == false))) else (some ((t138 == 0) == false))) = some r := H
                      have A80 := Aside0.mk A800
                      clear A800
                      by_cases c81 : (ji14) ≥ 1
                      · rw [if_pos c81] at H
                        have c81b0 : decide (1 ≤ (ji14)) = true := decide_eq_true c81
                        clear c81
                        by_cases c82 : (ji14) ≤ 1024
                        · rw [if_pos c82] at H
                          have c82b0 : decide ((ji14) ≤ 1024) = true := decide_eq_true c82
                          clear c82
                          obtain rfl := Option.some.inj H
                          try go_wp2_with (first | (go_at_call 15; (with_reducible refine (batch_Check.calls k1 _ _ y134 t138 _ ?side1 ?side2 A80.out).mono ?_); (case side1 => repeat (first | exact (Kd.R_reads' HO136.out).2.2 | (with_reducible refine Kd.C_alloc ?_ _) | (with_reducible refine Kd.C_drewN ?_ _) | (with_reducible refine Kd.C_drew ?_))); (case side2 => exact (Kd.R_reads' HO136.out).2.1); rintro e w96 ⟨rfl, hb⟩; have n0_ := Aside0.mk (Kd.R_below (by (with_reducible repeat (first | apply Kd.R_alloc | apply Kd.R_drewN | apply Kd.R_drew)); exact HO_7.out) hb); have n1_ := Aside0.mk (Kd.R_below (by (with_reducible repeat (first | apply Kd.R_alloc | apply Kd.R_drewN | apply Kd.R_drew)); exact HO130.out) hb); have n2_ := Aside0.mk (Kd.R_below (by (with_reducible repeat (first | apply Kd.R_alloc | apply Kd.R_drewN | apply Kd.R_drew)); exact HO133.out) hb); have n3_ := Aside0.mk (Kd.R_below (by (with_reducible repeat (first | apply Kd.R_alloc | apply Kd.R_drewN | apply Kd.R_drew)); exact HO136.out) hb); have n4_ := Aside0.mk (below_step (by repeat (first | (with_reducible first | exact HB.out | apply below_alloc | apply pw_below_drewN | apply below_drew1) | exact HB.out)) hb); clear HO_7; clear HO130; clear HO133; clear HO136; clear HB; have HO_7 := n0_; have HO130 := n1_; have HO133 := n2_; have HO136 := n3_; have HB := n4_; clear n0_ n1_ n2_ n3_ n4_; (try clear hb); (try clear hb2); (try clear hk); (try clear hi)))
                          go_ret
                          exact ⟨by first | rfl | (simp [errW_none, errW_some] <;> rfl) | (simp only [← hji14, ← hji17]; first | rfl | (simp [errW_none, errW_some] <;> rfl)) | (simp [*, errW_none, errW_some] <;> rfl), by repeat (first | (with_reducible first | exact HB.out | apply below_alloc | apply pw_below_drewN | apply below_drew1) | exact HB.out)⟩
                        · rw [if_neg c82] at H
                          have c82b0 : decide ((ji14) ≤ 1024) = false := decide_eq_false c82
                          clear c82
                          obtain rfl := Option.some.inj H
                          try go_wp2_with (first | (go_at_call 15; (with_reducible refine (batch_Check.calls k1 _ _ y134 t138 _ ?side1 ?side2 A80.out).mono ?_); (case side1 => repeat (first | exact (Kd.R_reads' HO136.out).2.2 | (with_reducible refine Kd.C_alloc ?_ _) | (with_reducible refine Kd.C_drewN ?_ _) | (with_reducible refine Kd.C_drew ?_))); (case side2 => exact (Kd.R_reads' HO136.out).2.1); rintro e w110 ⟨rfl, hb⟩; have n0_ := Aside0.mk (Kd.R_below (by (with_reducible repeat (first | apply Kd.R_alloc | apply Kd.R_drewN | apply Kd.R_drew)); exact HO_7.out) hb); have n1_ := Aside0.mk (Kd.R_below (by (with_reducible repeat (first | apply Kd.R_alloc | apply Kd.R_drewN | apply Kd.R_drew)); exact HO130.out) hb); have n2_ := Aside0.mk (Kd.R_below (by (with_reducible repeat (first | apply Kd.R_alloc | apply Kd.R_drewN | apply Kd.R_drew)); exact HO133.out) hb); have n3_ := Aside0.mk (Kd.R_below (by (with_reducible repeat (first | apply Kd.R_alloc | apply Kd.R_drewN | apply Kd.R_drew)); exact HO136.out) hb); have n4_ := Aside0.mk (below_step (by repeat (first | (with_reducible first | exact HB.out | apply below_alloc | apply pw_below_drewN | apply below_drew1) | exact HB.out)) hb); clear HO_7; clear HO130; clear HO133; clear HO136; clear HB; have HO_7 := n0_; have HO130 := n1_; have HO133 := n2_; have HO136 := n3_; have HB := n4_; clear n0_ n1_ n2_ n3_ n4_; (try clear hb); (try clear hb2); (try clear hk); (try clear hi)))
                          go_ret
                          exact ⟨by first | rfl | (simp [errW_none, errW_some] <;> rfl) | (simp only [← hji14, ← hji17]; first | rfl | (simp [errW_none, errW_some] <;> rfl)) | (simp [*, errW_none, errW_some] <;> rfl), by repeat (first | (with_reducible first | exact HB.out | apply below_alloc | apply pw_below_drewN | apply below_drew1) | exact HB.out)⟩
                      · rw [if_neg c81] at H
                        have c81b0 : decide (1 ≤ (ji14)) = false := decide_eq_false c81
                        clear c81
                        obtain rfl := Option.some.inj H
                        try go_wp2_with (first | (go_at_call 15; (with_reducible refine (batch_Check.calls k1 _ _ y134 t138 _ ?side1 ?side2 A80.out).mono ?_); (case side1 => repeat (first | exact (Kd.R_reads' HO136.out).2.2 | (with_reducible refine Kd.C_alloc ?_ _) | (with_reducible refine Kd.C_drewN ?_ _) | (with_reducible refine Kd.C_drew ?_))); (case side2 => exact (Kd.R_reads' HO136.out).2.1); rintro e w124 ⟨rfl, hb⟩; have n0_ := Aside0.mk (Kd.R_below (by (with_reducible repeat (first | apply Kd.R_alloc | apply Kd.R_drewN | apply Kd.R_drew)); exact HO_7.out) hb); have n1_ := Aside0.mk (Kd.R_below (by (with_reducible repeat (first | apply Kd.R_alloc | apply Kd.R_drewN | apply Kd.R_drew)); exact HO130.out) hb); have n2_ := Aside0.mk (Kd.R_below (by (with_reducible repeat (first | apply Kd.R_alloc | apply Kd.R_drewN | apply Kd.R_drew)); exact HO133.out) hb); have n3_ := Aside0.mk (Kd.R_below (by (with_reducible repeat (first | apply Kd.R_alloc | apply Kd.R_drewN | apply Kd.R_drew)); exact HO136.out) hb); have n4_ := Aside0.mk (below_step (by repeat (first | (with_reducible first | exact HB.out | apply below_alloc | apply pw_below_drewN | apply below_drew1) | exact HB.out)) hb); clear HO_7; clear HO130; clear HO133; clear HO136; clear HB; have HO_7 := n0_; have HO130 := n1_; have HO133 := n2_; have HO136 := n3_; have HB := n4_; clear n0_ n1_ n2_ n3_ n4_; (try clear hb); (try clear hb2); (try clear hk); (try clear hi)))
                        go_ret
                        exact ⟨by first | rfl | (simp [errW_none, errW_some] <;> rfl) | (simp only [← hji14, ← hji17]; first | rfl | (simp [errW_none, errW_some] <;> rfl)) | (simp [*, errW_none, errW_some] <;> rfl), by repeat (first | (with_reducible first | exact HB.out | apply below_alloc | apply pw_below_drewN | apply below_drew1) | exact HB.out)⟩
                    · rw [if_neg c79] at H
                      have c79b0 : ((t127 == 0) == false) = false := by simpa using c79
                      (try (have c79b1 : decide ((t127 == 0) = false) = false := by simpa using c79))
                      (try (have c79b2 : ((t127 == 0) == false) = false := by simpa using c79))
                      (try (have c79b3 : ¬ ((t127 == 0) = false) := by simpa using c79))
                      clear c79
                      obtain rfl := Option.some.inj H
                      try go_wp2
                      go_ret
                      exact ⟨by first | rfl | (simp [errW_none, errW_some] <;> rfl) | (simp only [← hji14, ← hji17]; first | rfl | (simp [errW_none, errW_some] <;> rfl)) | (simp [*, errW_none, errW_some] <;> rfl), by repeat (first | (with_reducible first | exact HB.out | apply below_alloc | apply pw_below_drewN | apply below_drew1) | exact HB.out)⟩
                · rw [if_neg c19] at H
                  exact absurd H (by simp)
              · rw [if_neg c18] at H
                exact absurd H (by simp)
            · rw [if_neg c16] at H
              exact absurd H (by simp)
          · rw [if_neg c15] at H
            exact absurd H (by simp)
  · replace c5 := Bool.eq_false_iff.mpr c5
    subst c5
    have H1 : (some false) = some r := by rw [if_neg (show ¬ (false = true) by decide)] at H; exact H
    clear H
    have H := H1
    clear H1
    obtain rfl := Option.some.inj H
    go_enter Try.func4, Try.ntmps4
    go_wp2_with (first | ((with_reducible refine gate_callee (f := 12) rfl ?_); refine goesL_ (some 13) rfl rfl Try.func12 (by kernel_rfl) rfl #[] rfl (by (try simp only [List.map_toArray, List.map_cons, List.map_nil]); first | done | rfl | (simp only [List.length_drop, List.length_take]; rfl)) ?_; (with_reducible refine (rundlelaw09_awake.calls k  false _ A4.out).mono ?_); rintro e w137 ⟨rfl, hb⟩; refine ⟨_, rfl, ?_⟩; have n0_ := Aside0.mk (below_step (by repeat (first | (with_reducible first | exact HB.out | apply below_alloc | apply pw_below_drewN | apply below_drew1) | exact HB.out)) hb); clear HB; have HB := n0_; clear n0_; (try clear hb); (try clear hb2); (try clear hk); (try clear hi)))
    go_ret
    exact ⟨by first | rfl | (simp [errW_none, errW_some] <;> rfl) | (simp [*, errW_none, errW_some] <;> rfl), by repeat (first | (with_reducible first | exact HB.out | apply below_alloc | apply pw_below_drewN | apply below_drew1) | exact HB.out)⟩

end Go.Proofs.Ytgnnhomipfjanaa.PA
