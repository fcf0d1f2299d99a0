/- Functions with the same answers as the Go functions named, and that the Go code comes to just these; written by a program of this work, out of the kit's print. -/
import Derived.Test.YthfcgcbolbmdcaaDoorPRx0
import Derived.Test.YthfcgcbolbmdcaaDoorPRx8
namespace Go.Proofs.YthfcgcbolbmdcaaDoor.PR
open Go.RowKit Go.Proofs.YthfcgcbolbmdcaaDoorW.PrintWords Go.Proofs.YthfcgcbolbmdcaaDoorW.PrintLast Go.Proofs.YthfcgcbolbmdcaaDoorW.PrintMore
attribute [local go_sem] Wd.one Wd.run_store Go.Lib.run_max_strs max2_int min2_int max_two min_two max_three min_three max_four min_four   -- for this text's walks alone
set_option linter.unusedVariables false
set_option linter.unusedSimpArgs false

/-! ### rundleref01_Unquote: function 68 -/
mutual
def rundleref01_Unquote.j0 : Nat → ByteArray → Int → Bool → Option (ByteArray × Bool)
  | 0, _, _, _ => none
  | k + 1, x0, x4, x27 => if x27 = true then (some ((⟨#[]⟩ : ByteArray), false)) else (rundleref01_Unquote.l0 k x0 x4 ([] : List Int) 1)
def rundleref01_Unquote.l0 : Nat → ByteArray → Int → List Int → Int → Option (ByteArray × Bool)
  | 0, _, _, _, _ => none
  | k + 1, x0, x4, x5, x6 => if x6 < x4 then (if 0 ≤ x6 then (if x6 < (x0.size : Int) then (if (bt x0 x6) = 34 then (rundleref01_Unquote.j2 k x0 x4 x5 x6 true) else (if (bt x0 x6) < 32 then (rundleref01_Unquote.j2 k x0 x4 x5 x6 true) else (rundleref01_Unquote.j2 k x0 x4 x5 x6 ((bt x0 x6) == 127)))) else (none)) else (none)) else (some (strOfNums x5, true))
def rundleref01_Unquote.j2 : Nat → ByteArray → Int → List Int → Int → Bool → Option (ByteArray × Bool)
  | 0, _, _, _, _, _ => none
  | k + 1, x0, x4, x5, x6, x46 => if x46 = true then (some ((⟨#[]⟩ : ByteArray), false)) else (if 0 ≤ x6 then (if x6 < (x0.size : Int) then (if (bt x0 x6) = 92 then (if (wrap64 (x6 + 1)) < x4 then (if 0 ≤ (wrap64 (x6 + 1)) then (if (wrap64 (x6 + 1)) < (x0.size : Int) then (if (bt x0 (wrap64 (x6 + 1))) = 34 then (rundleref01_Unquote.j3 k x0 x4 x5 x6 true) else (rundleref01_Unquote.j3 k x0 x4 x5 x6 ((bt x0 (wrap64 (x6 + 1))) == 92))) else (none)) else (none)) else (rundleref01_Unquote.j3 k x0 x4 x5 x6 false)) else (if x5.length < 140737488355328 then (rundleref01_Unquote.l0 k x0 x4 (x5 ++ [bt x0 x6]) (wrap64 (x6 + 1))) else (none))) else (none)) else (none))
def rundleref01_Unquote.j3 : Nat → ByteArray → Int → List Int → Int → Bool → Option (ByteArray × Bool)
  | 0, _, _, _, _, _ => none
  | k + 1, x0, x4, x5, x6, x76 => if x76 = true then (if 0 ≤ (wrap64 (x6 + 1)) then (if (wrap64 (x6 + 1)) < (x0.size : Int) then (if x5.length < 140737488355328 then (rundleref01_Unquote.l0 k x0 x4 (x5 ++ [bt x0 (wrap64 (x6 + 1))]) (wrap64 (x6 + 2))) else (none)) else (none)) else (none)) else (if (wrap64 (x6 + 3)) ≥ x4 then (rundleref01_Unquote.j4 k x0 x4 x5 x6 true) else (if 0 ≤ (wrap64 (x6 + 1)) then (if (wrap64 (x6 + 1)) < (x0.size : Int) then (if (bt x0 (wrap64 (x6 + 1))) = 120 then (if 0 ≤ (wrap64 (x6 + 2)) then (if (wrap64 (x6 + 2)) < (x0.size : Int) then ((rundleref01_number.f k (bt x0 (wrap64 (x6 + 2)))).bind fun t226 => (if t226 = 16 then (rundleref01_Unquote.j4 k x0 x4 x5 x6 true) else (if 0 ≤ (wrap64 (x6 + 3)) then (if (wrap64 (x6 + 3)) < (x0.size : Int) then ((rundleref01_number.f k (bt x0 (wrap64 (x6 + 3)))).bind fun t227 => (rundleref01_Unquote.j4 k x0 x4 x5 x6 (t227 == 16))) else (none)) else (none)))) else (none)) else (none)) else (rundleref01_Unquote.j4 k x0 x4 x5 x6 true)) else (none)) else (none)))
def rundleref01_Unquote.j4 : Nat → ByteArray → Int → List Int → Int → Bool → Option (ByteArray × Bool)
  | 0, _, _, _, _, _ => none
  | k + 1, x0, x4, x5, x6, x112 => if x112 = true then (some ((⟨#[]⟩ : ByteArray), false)) else (if 0 ≤ (wrap64 (x6 + 2)) then (if (wrap64 (x6 + 2)) < (x0.size : Int) then ((rundleref01_number.f k (bt x0 (wrap64 (x6 + 2)))).bind fun t228 => (if 0 ≤ (wrap64 (x6 + 3)) then (if (wrap64 (x6 + 3)) < (x0.size : Int) then ((rundleref01_number.f k (bt x0 (wrap64 (x6 + 3)))).bind fun t229 => (if x5.length < 140737488355328 then (rundleref01_Unquote.l0 k x0 x4 (x5 ++ [(((t228 * 16) % 256) + t229) % 256]) (wrap64 (x6 + 4))) else (none))) else (none)) else (none))) else (none)) else (none))
end
def rundleref01_Unquote.f (k : Nat) (a0 : ByteArray) : Option (ByteArray × Bool) := if (wrap64 ((a0.size : Int) - 1)) < 1 then (rundleref01_Unquote.j0 k a0 (wrap64 ((a0.size : Int) - 1)) true) else (if 0 < (a0.size : Int) then (if (bt a0 0) = 34 then (if 0 ≤ (wrap64 ((a0.size : Int) - 1)) then (if (wrap64 ((a0.size : Int) - 1)) < (a0.size : Int) then (if (bt a0 (wrap64 ((a0.size : Int) - 1))) = 34 then ((rundleref01_Right.f k a0).bind fun t219 => (rundleref01_Unquote.j0 k a0 (wrap64 ((a0.size : Int) - 1)) (decide (t219 ≥ 0)))) else (rundleref01_Unquote.j0 k a0 (wrap64 ((a0.size : Int) - 1)) true)) else (none)) else (none)) else (rundleref01_Unquote.j0 k a0 (wrap64 ((a0.size : Int) - 1)) true)) else (none))
theorem rundleref01_Unquote.mono_l : ∀ k, (∀ y0 y1 y2, LeO (rundleref01_Unquote.j0 k y0 y1 y2) (rundleref01_Unquote.j0 (k + 1) y0 y1 y2)) ∧ (∀ y0 y1 y2 y3, LeO (rundleref01_Unquote.l0 k y0 y1 y2 y3) (rundleref01_Unquote.l0 (k + 1) y0 y1 y2 y3)) ∧ (∀ y0 y1 y2 y3 y4, LeO (rundleref01_Unquote.j2 k y0 y1 y2 y3 y4) (rundleref01_Unquote.j2 (k + 1) y0 y1 y2 y3 y4)) ∧ (∀ y0 y1 y2 y3 y4, LeO (rundleref01_Unquote.j3 k y0 y1 y2 y3 y4) (rundleref01_Unquote.j3 (k + 1) y0 y1 y2 y3 y4)) ∧ (∀ y0 y1 y2 y3 y4, LeO (rundleref01_Unquote.j4 k y0 y1 y2 y3 y4) (rundleref01_Unquote.j4 (k + 1) y0 y1 y2 y3 y4))
  | 0 => ⟨fun _ _ _ r h => by simp [rundleref01_Unquote.j0] at h, fun _ _ _ _ r h => by simp [rundleref01_Unquote.l0] at h, fun _ _ _ _ _ r h => by simp [rundleref01_Unquote.j2] at h, fun _ _ _ _ _ r h => by simp [rundleref01_Unquote.j3] at h, fun _ _ _ _ _ r h => by simp [rundleref01_Unquote.j4] at h⟩
  | k + 1 => by
    obtain ⟨ih0, ih1, ih2, ih3, ih4⟩ := rundleref01_Unquote.mono_l k
    refine ⟨?_, ?_, ?_, ?_, ?_⟩
    · intro y0 y1 y2
      unfold rundleref01_Unquote.j0
      repeat' first
      | (with_reducible exact ih0 _ _ _)
      | (with_reducible exact ih1 _ _ _ _)
      | (with_reducible exact ih2 _ _ _ _ _)
      | (with_reducible exact ih3 _ _ _ _ _)
      | (with_reducible exact ih4 _ _ _ _ _)
      | (with_reducible exact rundleref01_Right.mono _ _)
      | (with_reducible exact rundleref01_number.mono _ _)
      | (with_reducible exact LeO.refl _)
      | (with_reducible exact LeO.none _)
      | (with_reducible refine LeO.ite ?_ ?_)
      | (with_reducible refine LeO.bind ?_ (fun _ => ?_))
      | exact ih0 _ _ _
      | exact ih1 _ _ _ _
      | exact ih2 _ _ _ _ _
      | exact ih3 _ _ _ _ _
      | exact ih4 _ _ _ _ _
      | exact rundleref01_Right.mono _ _
      | exact rundleref01_number.mono _ _
      | exact LeO.none _
      | refine LeO.ite ?_ ?_
      | refine LeO.bind ?_ (fun _ => ?_)
    · intro y0 y1 y2 y3
      unfold rundleref01_Unquote.l0
      repeat' first
      | (with_reducible exact ih0 _ _ _)
      | (with_reducible exact ih1 _ _ _ _)
      | (with_reducible exact ih2 _ _ _ _ _)
      | (with_reducible exact ih3 _ _ _ _ _)
      | (with_reducible exact ih4 _ _ _ _ _)
      | (with_reducible exact rundleref01_Right.mono _ _)
      | (with_reducible exact rundleref01_number.mono _ _)
      | (with_reducible exact LeO.refl _)
      | (with_reducible exact LeO.none _)
      | (with_reducible refine LeO.ite ?_ ?_)
      | (with_reducible refine LeO.bind ?_ (fun _ => ?_))
      | exact ih0 _ _ _
      | exact ih1 _ _ _ _
      | exact ih2 _ _ _ _ _
      | exact ih3 _ _ _ _ _
      | exact ih4 _ _ _ _ _
      | exact rundleref01_Right.mono _ _
      | exact rundleref01_number.mono _ _
      | exact LeO.none _
      | refine LeO.ite ?_ ?_
      | refine LeO.bind ?_ (fun _ => ?_)
    · intro y0 y1 y2 y3 y4
      unfold rundleref01_Unquote.j2
      repeat' first
      | (with_reducible exact ih0 _ _ _)
      | (with_reducible exact ih1 _ _ _ _)
      | (with_reducible exact ih2 _ _ _ _ _)
      | (with_reducible exact ih3 _ _ _ _ _)
      | (with_reducible exact ih4 _ _ _ _ _)
      | (with_reducible exact rundleref01_Right.mono _ _)
      | (with_reducible exact rundleref01_number.mono _ _)
      | (with_reducible exact LeO.refl _)
      | (with_reducible exact LeO.none _)
      | (with_reducible refine LeO.ite ?_ ?_)
      | (with_reducible refine LeO.bind ?_ (fun _ => ?_))
      | exact ih0 _ _ _
      | exact ih1 _ _ _ _
      | exact ih2 _ _ _ _ _
      | exact ih3 _ _ _ _ _
      | exact ih4 _ _ _ _ _
      | exact rundleref01_Right.mono _ _
      | exact rundleref01_number.mono _ _
      | exact LeO.none _
      | refine LeO.ite ?_ ?_
      | refine LeO.bind ?_ (fun _ => ?_)
    · intro y0 y1 y2 y3 y4
      unfold rundleref01_Unquote.j3
      repeat' first
      | (with_reducible exact ih0 _ _ _)
      | (with_reducible exact ih1 _ _ _ _)
      | (with_reducible exact ih2 _ _ _ _ _)
      | (with_reducible exact ih3 _ _ _ _ _)
      | (with_reducible exact ih4 _ _ _ _ _)
      | (with_reducible exact rundleref01_Right.mono _ _)
      | (with_reducible exact rundleref01_number.mono _ _)
      | (with_reducible exact LeO.refl _)
      | (with_reducible exact LeO.none _)
      | (with_reducible refine LeO.ite ?_ ?_)
      | (with_reducible refine LeO.bind ?_ (fun _ => ?_))
      | exact ih0 _ _ _
      | exact ih1 _ _ _ _
      | exact ih2 _ _ _ _ _
      | exact ih3 _ _ _ _ _
      | exact ih4 _ _ _ _ _
      | exact rundleref01_Right.mono _ _
      | exact rundleref01_number.mono _ _
      | exact LeO.none _
      | refine LeO.ite ?_ ?_
      | refine LeO.bind ?_ (fun _ => ?_)
    · intro y0 y1 y2 y3 y4
      unfold rundleref01_Unquote.j4
      repeat' first
      | (with_reducible exact ih0 _ _ _)
      | (with_reducible exact ih1 _ _ _ _)
      | (with_reducible exact ih2 _ _ _ _ _)
      | (with_reducible exact ih3 _ _ _ _ _)
      | (with_reducible exact ih4 _ _ _ _ _)
      | (with_reducible exact rundleref01_Right.mono _ _)
      | (with_reducible exact rundleref01_number.mono _ _)
      | (with_reducible exact LeO.refl _)
      | (with_reducible exact LeO.none _)
      | (with_reducible refine LeO.ite ?_ ?_)
      | (with_reducible refine LeO.bind ?_ (fun _ => ?_))
      | exact ih0 _ _ _
      | exact ih1 _ _ _ _
      | exact ih2 _ _ _ _ _
      | exact ih3 _ _ _ _ _
      | exact ih4 _ _ _ _ _
      | exact rundleref01_Right.mono _ _
      | exact rundleref01_number.mono _ _
      | exact LeO.none _
      | refine LeO.ite ?_ ?_
      | refine LeO.bind ?_ (fun _ => ?_)
theorem rundleref01_Unquote.mono : ∀ a0 k, LeO (rundleref01_Unquote.f k a0) (rundleref01_Unquote.f (k + 1) a0) := by
  intro a0 k
  obtain ⟨ih0, ih1, ih2, ih3, ih4⟩ := rundleref01_Unquote.mono_l k
  unfold rundleref01_Unquote.f
  repeat' first
      | (with_reducible exact ih0 _ _ _)
      | (with_reducible exact ih1 _ _ _ _)
      | (with_reducible exact ih2 _ _ _ _ _)
      | (with_reducible exact ih3 _ _ _ _ _)
      | (with_reducible exact ih4 _ _ _ _ _)
      | (with_reducible exact rundleref01_Right.mono _ _)
      | (with_reducible exact rundleref01_number.mono _ _)
      | (with_reducible exact LeO.refl _)
      | (with_reducible exact LeO.none _)
      | (with_reducible refine LeO.ite ?_ ?_)
      | (with_reducible refine LeO.bind ?_ (fun _ => ?_))
      | exact ih0 _ _ _
      | exact ih1 _ _ _ _
      | exact ih2 _ _ _ _ _
      | exact ih3 _ _ _ _ _
      | exact ih4 _ _ _ _ _
      | exact rundleref01_Right.mono _ _
      | exact rundleref01_number.mono _ _
      | exact LeO.none _
      | refine LeO.ite ?_ ?_
      | refine LeO.bind ?_ (fun _ => ?_)
def rundleref01_Unquote.T17 : Bool × List (List Nat × List Nat) := (true, [([], []), ([], []), ([], []), ([2], [2]), ([1, 3], [1, 3]), ([4], [4]), ([5], [5]), ([], []), ([], []), ([8], [8]), ([7, 9], [7, 9]), ([10, 5], [10]), ([6, 11], [6, 11]), ([12], [12]), ([0, 13, 11], [0, 13]), ([14, 14, 0, 1, 2, 3, 4, 5, 6, 7, 8, 9, 10, 11, 12, 13, 14], [0, 14])])
def rundleref01_Unquote.B17 : List Nat := [0, 0, 0, 4, 14, 30, 62, 0, 0, 256, 896, 1982, 4094, 8190, 16383, 32767]
theorem rundleref01_Unquote.tab17 : rtab .any (opsOf Tryd.f68 17) = rundleref01_Unquote.T17 := by kernel_rfl
theorem rundleref01_Unquote.bits17 : waitsOk rundleref01_Unquote.T17.2 rundleref01_Unquote.B17 = true := by kernel_rfl
set_option maxHeartbeats 8000000 in
set_option maxRecDepth 100000 in
theorem rundleref01_Unquote.calls (k : Nat) (a0 : ByteArray) (r1 : ByteArray) (r2 : Bool) (w : World) (h : rundleref01_Unquote.f k a0 = some (r1, r2)) :
    Calls Tryd.prog 68 #[.string a0] w fun e w' => e = .returned (.tuple #[.string r1, .bool r2]) ∧ Below w.heap.size w w' := by
  have HB := Aside0.mk (Below.refl w.heap.size w)
  have H : (if (wrap64 ((a0.size : Int) - 1)) < 1 then (rundleref01_Unquote.j0 k a0 (wrap64 ((a0.size : Int) - 1)) true) else (if 0 < (a0.size : Int) then (if (bt a0 0) = 34 then (if 0 ≤ (wrap64 ((a0.size : Int) - 1)) then (if (wrap64 ((a0.size : Int) - 1)) < (a0.size : Int) then (if (bt a0 (wrap64 ((a0.size : Int) - 1))) = 34 then ((rundleref01_Right.f k a0).bind fun t219 => (rundleref01_Unquote.j0 k a0 (wrap64 ((a0.size : Int) - 1)) (decide (t219 ≥ 0)))) else (rundleref01_Unquote.j0 k a0 (wrap64 ((a0.size : Int) - 1)) true)) else (none)) else (none)) else (rundleref01_Unquote.j0 k a0 (wrap64 ((a0.size : Int) - 1)) true)) else (none))) = some (r1, r2) := h
  clear h
  have HC2 := Aside0.mk H
  clear H
  go_enter Tryd.func68, Tryd.ntmps68
  go_upto_region 2 with (fail)
  go_cut [27] (fun v27 wc => ∃ (kq : Nat) (x27_1 : Bool), v27 = .bool x27_1 ∧ Aside0 (rundleref01_Unquote.j0 kq a0 (wrap64 ((a0.size : Int) - 1)) x27_1 = some (r1, r2)) ∧ Aside0 (kq ≤ k) ∧ Aside0 (Below w.heap.size w wc))
  case first =>
    have H := HC2.out
    clear HC2
    by_cases c3 : (wrap64 ((a0.size : Int) - 1)) < 1
    · rw [if_pos c3] at H
      have c3b0 : decide ((wrap64 ((a0.size : Int) - 1)) < 1) = true := decide_eq_true c3
      clear c3
      (first | rw [c3b0] | (simp only [i64_w, i32_w]; rw [c3b0]) | skip)
      have H' := Aside0.mk H
      clear H
      go_wp2
      go_meet
      case rel => exact ⟨_, (true), (by first | rfl | (simp; done) | (simp [*]; done)), H', ⟨by first | omega | exact Nat.le_refl _⟩, ⟨by repeat (first | (with_reducible first | exact HB.out | apply below_alloc | apply pw_below_drewN | apply below_drew1) | exact HB.out)⟩⟩
    · rw [if_neg c3] at H
      have c3b0 : decide ((wrap64 ((a0.size : Int) - 1)) < 1) = false := decide_eq_false c3
      clear c3
      (first | rw [c3b0] | (simp only [i64_w, i32_w]; rw [c3b0]) | skip)
      by_cases c4 : 0 < (a0.size : Int)
      · rw [if_pos c4] at H
        have c4b0 : decide (0 < (a0.size : Int)) = true := decide_eq_true c4
        have c4b1 : decide (0 < a0.size) = true := decide_eq_true (by omega)
        clear c4
        by_cases c6 : (bt a0 0) = 34
        · rw [if_pos c6] at H
          have c6b0 : ((bt a0 0) == 34) = true := beq_iff_eq.mpr c6
          have c6b1 : ((bt a0 0) != 34) = false := bne_eq_false_iff_eq.mpr c6
          clear c6
          obtain ⟨ji7, hji7⟩ : ∃ j_ : Int, (wrap64 ((a0.size : Int) - 1)) = j_ := ⟨_, rfl⟩
          replace H : (if 0 ≤ (ji7) then (if (ji7) < (a0.size : Int) then (if (bt a0 (ji7)) = 34 then ((rundleref01_Right.f k a0).bind fun t219 => (rundleref01_Unquote.j0 k a0 ji7 (decide (t219 ≥ 0)))) else (rundleref01_Unquote.j0 k a0 ji7 true)) else (none)) else (none)) = some (r1, r2) := by first | (rw [hji7] at H; exact H) | (simp only [hji7] at H ⊢; exact H)
          (try rw [hji7] at c3b0)
          have hji7w : (IntKind.i64.wrap ((a0.size : Int) - 1)) = ji7 := (i64_w _).trans hji7
          by_cases c8 : 0 ≤ (ji7)
          · rw [if_pos c8] at H
            have c8b0 : decide (0 ≤ (ji7)) = true := decide_eq_true c8
            clear c8
            by_cases c9 : (ji7) < (a0.size : Int)
            · rw [if_pos c9] at H
              have c9b0 : decide ((ji7) < (a0.size : Int)) = true := decide_eq_true c9
              clear c9
              by_cases c11 : (bt a0 (ji7)) = 34
              · rw [if_pos c11] at H
                have c11b0 : ((bt a0 (ji7)) == 34) = true := beq_iff_eq.mpr c11
                have c11b1 : ((bt a0 (ji7)) != 34) = false := bne_eq_false_iff_eq.mpr c11
                clear c11
                replace H := Option.bind_eq_some_iff.mp H
                obtain ⟨t219, A120, H⟩ := H
                replace H : (rundleref01_Unquote.j0 k a0 ji7 (decide (t219 ≥ 0))) = some (r1, r2) := H
                have A12 := Aside0.mk A120
                clear A120
                have H' := Aside0.mk H
                clear H
                have p5 : 0 ≤ (0 : Int) := (by omega)
                have q5 : 0 < a0.size := (by have : (0 : Int) < (a0.size : Int) := of_decide_eq_true (by first | (with_reducible assumption) | assumption); omega)
                have hx5 : ∀ h : 0 < a0.size, ((a0[0]'h).toNat : Int) = bt a0 0 := bt_at a0 0
                clear p5
                have qi5 : (0 < (a0.size : Int)) = True := eq_true (of_decide_eq_true (by first | (with_reducible assumption) | assumption))
                replace q5 := eq_true q5
                have p10 : 0 ≤ ((ji7) : Int) := of_decide_eq_true (by first | (with_reducible assumption) | assumption)
                have q10 : (ji7) < (a0.size : Int) := of_decide_eq_true (by first | (with_reducible assumption) | assumption)
                have hx10 := bt_at a0 (ji7)
                replace p10 := eq_true p10
                replace q10 := eq_true q10
                go_wp2_with (first | (go_at_call 85; (with_reducible refine (rundleref01_Right.calls k a0 t219 _ A12.out).mono ?_); rintro e w' ⟨rfl, ⟨nd, rfl⟩⟩))
                subst hji7
                go_meet
                case rel => exact ⟨_, (decide (t219 ≥ 0)), (by first | rfl | (simp; done) | (simp [*]; done)), H', ⟨by first | omega | exact Nat.le_refl _⟩, ⟨by repeat (first | (with_reducible first | exact HB.out | apply below_alloc | apply pw_below_drewN | apply below_drew1) | exact HB.out)⟩⟩
              · rw [if_neg c11] at H
                have c11b0 : ((bt a0 (ji7)) == 34) = false := beq_eq_false_iff_ne.mpr c11
                have c11b1 : ((bt a0 (ji7)) != 34) = true := bne_iff_ne.mpr c11
                have H' := Aside0.mk H
                clear H
                have p5 : 0 ≤ (0 : Int) := (by omega)
                have q5 : 0 < a0.size := (by have : (0 : Int) < (a0.size : Int) := of_decide_eq_true (by first | (with_reducible assumption) | assumption); omega)
                have hx5 : ∀ h : 0 < a0.size, ((a0[0]'h).toNat : Int) = bt a0 0 := bt_at a0 0
                clear p5
                have qi5 : (0 < (a0.size : Int)) = True := eq_true (of_decide_eq_true (by first | (with_reducible assumption) | assumption))
                replace q5 := eq_true q5
                have p10 : 0 ≤ ((ji7) : Int) := of_decide_eq_true (by first | (with_reducible assumption) | assumption)
                have q10 : (ji7) < (a0.size : Int) := of_decide_eq_true (by first | (with_reducible assumption) | assumption)
                have hx10 := bt_at a0 (ji7)
                replace p10 := eq_true p10
                replace q10 := eq_true q10
                go_wp2
                subst hji7
                go_meet
                case rel => exact ⟨_, (true), (by first | rfl | (simp; done) | (simp [*]; done)), H', ⟨by first | omega | exact Nat.le_refl _⟩, ⟨by repeat (first | (with_reducible first | exact HB.out | apply below_alloc | apply pw_below_drewN | apply below_drew1) | exact HB.out)⟩⟩
            · rw [if_neg c9] at H
              exact absurd H (by simp)
          · rw [if_neg c8] at H
            exact absurd H (by simp)
        · rw [if_neg c6] at H
          have c6b0 : ((bt a0 0) == 34) = false := beq_eq_false_iff_ne.mpr c6
          have c6b1 : ((bt a0 0) != 34) = true := bne_iff_ne.mpr c6
          have H' := Aside0.mk H
          clear H
          have p5 : 0 ≤ (0 : Int) := (by omega)
          have q5 : 0 < a0.size := (by have : (0 : Int) < (a0.size : Int) := of_decide_eq_true (by first | (with_reducible assumption) | assumption); omega)
          have hx5 : ∀ h : 0 < a0.size, ((a0[0]'h).toNat : Int) = bt a0 0 := bt_at a0 0
          clear p5
          have qi5 : (0 < (a0.size : Int)) = True := eq_true (of_decide_eq_true (by first | (with_reducible assumption) | assumption))
          replace q5 := eq_true q5
          go_wp2
          go_meet
          case rel => exact ⟨_, (true), (by first | rfl | (simp; done) | (simp [*]; done)), H', ⟨by first | omega | exact Nat.le_refl _⟩, ⟨by repeat (first | (with_reducible first | exact HB.out | apply below_alloc | apply pw_below_drewN | apply below_drew1) | exact HB.out)⟩⟩
      · rw [if_neg c4] at H
        exact absurd H (by simp)
  case rest =>
    clear HC2
    try clear c1
    try clear p1
    try clear q1
    try clear hx1
    try clear p2
    try clear c3
    try clear c3b0
    try clear c4
    try clear c4b0
    try clear c4b1
    try clear p5
    try clear q5
    try clear hx5
    try clear qi5
    try clear c6
    try clear c6b0
    try clear c6b1
    try clear p6
    try clear c8
    try clear c8b0
    try clear c9
    try clear c9b0
    try clear p10
    try clear q10
    try clear hx10
    try clear c11
    try clear c11b0
    try clear c11b1
    try clear p10
    try clear p5
    try clear q10
    try clear q5
    obtain ⟨kq, x27_1, rfl, HA, HJ1, HB⟩ := hcut
    cases kq with
    | zero => exact absurd HA.out (by simp [rundleref01_Unquote.j0])
    | succ kj1 =>
      have H := HA.out
      clear HA
      simp only [rundleref01_Unquote.j0] at H
      by_cases c13 : x27_1 = true
      · subst c13
        have H1 : (some ((⟨#[]⟩ : ByteArray), false)) = some (r1, r2) := by rw [if_pos rfl] at H; exact H
        clear H
        have H := H1
        clear H1
        simp only [Option.some.injEq, Prod.mk.injEq] at H
        obtain ⟨rfl, rfl⟩ := H
        go_wp2
        go_ret2
        exact ⟨by first | rfl | (simp [errW_none, errW_some] <;> rfl) | (simp [*, errW_none, errW_some] <;> rfl), by repeat (first | (with_reducible first | exact HB.out | apply below_alloc | apply pw_below_drewN | apply below_drew1) | exact HB.out)⟩
      · replace c13 := Bool.eq_false_iff.mpr c13
        subst c13
        have H1 : (rundleref01_Unquote.l0 kj1 a0 (wrap64 ((a0.size : Int) - 1)) ([] : List Int) 1) = some (r1, r2) := by rw [if_neg (show ¬ (false = true) by decide)] at H; exact H
        clear H
        have H := H1
        clear H1
        have H' := Aside0.mk H
        clear H
        go_wp2
        go_loopg [5, 6] kj1 (fun kq v5 v6 w' => ∃ (x5_2 : List Int) (x6_2 : Int), v6 = .int .i64 x6_2 ∧ Aside0 (rundleref01_Unquote.l0 kq a0 (wrap64 ((a0.size : Int) - 1)) x5_2 x6_2 = some (r1, r2)) ∧ Aside0 (kq ≤ kj1) ∧ Aside0 (Kd.R (Kd.int .u8) 5 w' w.heap.size (fun _ => True) v5 x5_2) ∧ Aside0 (Below w.heap.size w w'))
        case atStart => exact ⟨(([] : List Int)), (1), (by first | rfl | (simp; done) | (simp [*]; done)), H', ⟨Nat.le_refl _⟩, ⟨by first | exact Kd.R_nil _ _ _ _ _ | exact Kd.N_nil _ _ _ _ _ | exact Kd.V_nil _ _ _ _ _ | exact Kd.Q_nil _ _ _ _ _ | exact Kd.S_nil _ _ _ _ _⟩, ⟨by repeat (first | (with_reducible first | exact HB.out | apply below_alloc | apply pw_below_drewN | apply below_drew1) | exact HB.out)⟩⟩
        case round =>
          clear H'
          try clear c1
          try clear p1
          try clear q1
          try clear hx1
          try clear p2
          try clear c3
          try clear c3b0
          try clear c4
          try clear c4b0
          try clear c4b1
          try clear p5
          try clear q5
          try clear hx5
          try clear qi5
          try clear c6
          try clear c6b0
          try clear c6b1
          try clear p6
          try clear c8
          try clear c8b0
          try clear c9
          try clear c9b0
          try clear p10
          try clear q10
          try clear hx10
          try clear c11
          try clear c11b0
          try clear c11b1
          try clear c13
          try clear p1
          try clear p10
          try clear p2
          try clear p5
          try clear p6
          try clear q1
          try clear q10
          try clear q5
          obtain ⟨x5_2, x6_2, rfl, HA, HK2, HO_5, HB⟩ := hrel
          cases gk with
          | zero => exact absurd HA.out (by simp [rundleref01_Unquote.l0])
          | succ k2 =>
            have H := HA.out
            clear HA
            simp only [rundleref01_Unquote.l0] at H
            by_cases c14 : x6_2 < (wrap64 ((a0.size : Int) - 1))
            · rw [if_pos c14] at H
              have c14b0 : decide (x6_2 < (wrap64 ((a0.size : Int) - 1))) = true := decide_eq_true c14
              clear c14
              have HC15 := Aside0.mk H
              clear H
              go_upto_region 7 with (fail)
              go_cut [46] (fun v46 wc => ∃ (kq : Nat) (x46_14 : Bool), v46 = .bool x46_14 ∧ Aside0 (rundleref01_Unquote.j2 kq a0 (wrap64 ((a0.size : Int) - 1)) x5_2 x6_2 x46_14 = some (r1, r2)) ∧ Aside0 (kq ≤ k2) ∧ Aside0 (Kd.R (Kd.int .u8) 5 wc w.heap.size (fun _ => True) u5 x5_2) ∧ Aside0 (Below w.heap.size w wc))
              case first =>
                have H := HC15.out
                clear HC15
                by_cases c16 : 0 ≤ x6_2
                · rw [if_pos c16] at H
                  have c16b0 : decide (0 ≤ x6_2) = true := decide_eq_true c16
                  clear c16
                  (first | rw [c16b0] | (simp only [i64_w, i32_w]; rw [c16b0]) | skip)
                  by_cases c17 : x6_2 < (a0.size : Int)
                  · rw [if_pos c17] at H
                    have c17b0 : decide (x6_2 < (a0.size : Int)) = true := decide_eq_true c17
                    clear c17
                    by_cases c19 : (bt a0 x6_2) = 34
                    · rw [if_pos c19] at H
                      have c19b0 : ((bt a0 x6_2) == 34) = true := beq_iff_eq.mpr c19
                      have c19b1 : ((bt a0 x6_2) != 34) = false := bne_eq_false_iff_eq.mpr c19
                      clear c19
                      have H' := Aside0.mk H
                      clear H
                      have p18 : 0 ≤ (x6_2 : Int) := of_decide_eq_true (by first | (with_reducible assumption) | assumption)
                      have q18 : x6_2 < (a0.size : Int) := of_decide_eq_true (by first | (with_reducible assumption) | assumption)
                      have hx18 := bt_at a0 x6_2
                      replace p18 := eq_true p18
                      replace q18 := eq_true q18
                      go_wp2
                      go_meet
                      case rel => exact ⟨_, (true), (by first | rfl | (simp; done) | (simp [*]; done)), H', ⟨by have := HJ1.out; have := HK2.out; first | omega | exact Nat.le_refl _⟩, ⟨by (with_reducible repeat (first | apply Kd.R_alloc | apply Kd.R_drewN | apply Kd.R_drew)); exact HO_5.out⟩, ⟨by repeat (first | (with_reducible first | exact HB.out | apply below_alloc | apply pw_below_drewN | apply below_drew1) | exact HB.out)⟩⟩
                    · rw [if_neg c19] at H
                      have c19b0 : ((bt a0 x6_2) == 34) = false := beq_eq_false_iff_ne.mpr c19
                      have c19b1 : ((bt a0 x6_2) != 34) = true := bne_iff_ne.mpr c19
                      by_cases c21 : (bt a0 x6_2) < 32
                      · rw [if_pos c21] at H
                        have c21b0 : decide ((bt a0 x6_2) < 32) = true := decide_eq_true c21
                        clear c21
                        have H' := Aside0.mk H
                        clear H
                        have p18 : 0 ≤ (x6_2 : Int) := of_decide_eq_true (by first | (with_reducible assumption) | assumption)
                        have q18 : x6_2 < (a0.size : Int) := of_decide_eq_true (by first | (with_reducible assumption) | assumption)
                        have hx18 := bt_at a0 x6_2
                        replace p18 := eq_true p18
                        replace q18 := eq_true q18
                        have p20 : 0 ≤ (x6_2 : Int) := of_decide_eq_true (by first | (with_reducible assumption) | assumption)
                        have q20 : x6_2 < (a0.size : Int) := of_decide_eq_true (by first | (with_reducible assumption) | assumption)
                        have hx20 := bt_at a0 x6_2
                        replace p20 := eq_true p20
                        replace q20 := eq_true q20
                        go_wp2
                        go_meet
                        case rel => exact ⟨_, (true), (by first | rfl | (simp; done) | (simp [*]; done)), H', ⟨by have := HJ1.out; have := HK2.out; first | omega | exact Nat.le_refl _⟩, ⟨by (with_reducible repeat (first | apply Kd.R_alloc | apply Kd.R_drewN | apply Kd.R_drew)); exact HO_5.out⟩, ⟨by repeat (first | (with_reducible first | exact HB.out | apply below_alloc | apply pw_below_drewN | apply below_drew1) | exact HB.out)⟩⟩
                      · rw [if_neg c21] at H
                        have c21b0 : decide ((bt a0 x6_2) < 32) = false := decide_eq_false c21
                        clear c21
                        have H' := Aside0.mk H
                        clear H
                        have p18 : 0 ≤ (x6_2 : Int) := of_decide_eq_true (by first | (with_reducible assumption) | assumption)
                        have q18 : x6_2 < (a0.size : Int) := of_decide_eq_true (by first | (with_reducible assumption) | assumption)
                        have hx18 := bt_at a0 x6_2
                        replace p18 := eq_true p18
                        replace q18 := eq_true q18
                        have p20 : 0 ≤ (x6_2 : Int) := of_decide_eq_true (by first | (with_reducible assumption) | assumption)
                        have q20 : x6_2 < (a0.size : Int) := of_decide_eq_true (by first | (with_reducible assumption) | assumption)
                        have hx20 := bt_at a0 x6_2
                        replace p20 := eq_true p20
                        replace q20 := eq_true q20
                        have p22 : 0 ≤ (x6_2 : Int) := of_decide_eq_true (by first | (with_reducible assumption) | assumption)
                        have q22 : x6_2 < (a0.size : Int) := of_decide_eq_true (by first | (with_reducible assumption) | assumption)
                        have hx22 := bt_at a0 x6_2
                        replace p22 := eq_true p22
                        replace q22 := eq_true q22
                        go_wp2
                        go_meet
                        case rel => exact ⟨_, (((bt a0 x6_2) == 127)), (by first | rfl | (simp; done) | (simp [*]; done)), H', ⟨by have := HJ1.out; have := HK2.out; first | omega | exact Nat.le_refl _⟩, ⟨by (with_reducible repeat (first | apply Kd.R_alloc | apply Kd.R_drewN | apply Kd.R_drew)); exact HO_5.out⟩, ⟨by repeat (first | (with_reducible first | exact HB.out | apply below_alloc | apply pw_below_drewN | apply below_drew1) | exact HB.out)⟩⟩
                  · rw [if_neg c17] at H
                    exact absurd H (by simp)
                · rw [if_neg c16] at H
                  exact absurd H (by simp)
              case rest =>
                clear HC15
                try clear c1
                try clear p1
                try clear q1
                try clear hx1
                try clear c2
                try clear p2
                try clear q2
                try clear hx2
                try clear c3
                try clear c3b0
                try clear c4
                try clear c4b0
                try clear c4b1
                try clear p5
                try clear q5
                try clear hx5
                try clear qi5
                try clear c6
                try clear c6b0
                try clear c6b1
                try clear p6
                try clear c8
                try clear c8b0
                try clear c9
                try clear c9b0
                try clear p10
                try clear q10
                try clear hx10
                try clear c11
                try clear c11b0
                try clear c11b1
                try clear c13
                try clear c14
                try clear c14b0
                try clear c16
                try clear c16b0
                try clear c17
                try clear c17b0
                try clear p18
                try clear q18
                try clear hx18
                try clear c19
                try clear c19b0
                try clear c19b1
                try clear p20
                try clear q20
                try clear hx20
                try clear c21
                try clear c21b0
                try clear p22
                try clear q22
                try clear hx22
                try clear p1
                try clear p10
                try clear p18
                try clear p2
                try clear p20
                try clear p22
                try clear p5
                try clear p6
                try clear q1
                try clear q10
                try clear q18
                try clear q20
                try clear q22
                try clear q5
                obtain ⟨kq, x46_14, rfl, HA, HJ14, HO_5, HB⟩ := hcut
                cases kq with
                | zero => exact absurd HA.out (by simp [rundleref01_Unquote.j2])
                | succ kj14 =>
                  have H := HA.out
                  clear HA
                  simp only [rundleref01_Unquote.j2] at H
                  by_cases c23 : x46_14 = true
                  · subst c23
                    have H1 : (some ((⟨#[]⟩ : ByteArray), false)) = some (r1, r2) := by rw [if_pos rfl] at H; exact H
                    clear H
                    have H := H1
                    clear H1
                    simp only [Option.some.injEq, Prod.mk.injEq] at H
                    obtain ⟨rfl, rfl⟩ := H
                    go_wp2
                    go_ret2
                    exact ⟨by first | rfl | (simp [errW_none, errW_some] <;> rfl) | (simp [*, errW_none, errW_some] <;> rfl), by repeat (first | (with_reducible first | exact HB.out | apply below_alloc | apply pw_below_drewN | apply below_drew1) | exact HB.out)⟩
                  · replace c23 := Bool.eq_false_iff.mpr c23
                    subst c23
                    have H1 : (if 0 ≤ x6_2 then (if x6_2 < (a0.size : Int) then (if (bt a0 x6_2) = 92 then (if (wrap64 (x6_2 + 1)) < (wrap64 ((a0.size : Int) - 1)) then (if 0 ≤ (wrap64 (x6_2 + 1)) then (if (wrap64 (x6_2 + 1)) < (a0.size : Int) then (if (bt a0 (wrap64 (x6_2 + 1))) = 34 then (rundleref01_Unquote.j3 kj14 a0 (wrap64 ((a0.size : Int) - 1)) x5_2 x6_2 true) else (rundleref01_Unquote.j3 kj14 a0 (wrap64 ((a0.size : Int) - 1)) x5_2 x6_2 ((bt a0 (wrap64 (x6_2 + 1))) == 92))) else (none)) else (none)) else (rundleref01_Unquote.j3 kj14 a0 (wrap64 ((a0.size : Int) - 1)) x5_2 x6_2 false)) else (if x5_2.length < 140737488355328 then (rundleref01_Unquote.l0 kj14 a0 (wrap64 ((a0.size : Int) - 1)) (x5_2 ++ [bt a0 x6_2]) (wrap64 (x6_2 + 1))) else (none))) else (none)) else (none)) = some (r1, r2) := by rw [if_neg (show ¬ (false = true) by decide)] at H; exact H
                    clear H
                    have H := H1
                    clear H1
                    by_cases c24 : 0 ≤ x6_2
                    · rw [if_pos c24] at H
                      have c24b0 : decide (0 ≤ x6_2) = true := decide_eq_true c24
                      clear c24
                      by_cases c25 : x6_2 < (a0.size : Int)
                      · rw [if_pos c25] at H
                        have c25b0 : decide (x6_2 < (a0.size : Int)) = true := decide_eq_true c25
                        clear c25
                        by_cases c27 : (bt a0 x6_2) = 92
                        · rw [if_pos c27] at H
                          have c27b0 : ((bt a0 x6_2) == 92) = true := beq_iff_eq.mpr c27
                          have c27b1 : ((bt a0 x6_2) != 92) = false := bne_eq_false_iff_eq.mpr c27
                          clear c27
                          have HC28 := Aside0.mk H
                          clear H
                          have p26 : 0 ≤ (x6_2 : Int) := of_decide_eq_true (by first | (with_reducible assumption) | assumption)
                          have q26 : x6_2 < (a0.size : Int) := of_decide_eq_true (by first | (with_reducible assumption) | assumption)
                          have hx26 := bt_at a0 x6_2
                          replace p26 := eq_true p26
                          replace q26 := eq_true q26
                          go_upto_region 12 with (fail)
                          go_cut [76] (fun v76 wc => ∃ (kq : Nat) (x76_27 : Bool), v76 = .bool x76_27 ∧ Aside0 (rundleref01_Unquote.j3 kq a0 (wrap64 ((a0.size : Int) - 1)) x5_2 x6_2 x76_27 = some (r1, r2)) ∧ Aside0 (kq ≤ kj14) ∧ Aside0 (Kd.R (Kd.int .u8) 5 wc w.heap.size (fun _ => True) u5 x5_2) ∧ Aside0 (Below w.heap.size w wc))
                          case first =>
                            have H := HC28.out
                            clear HC28
                            by_cases c29 : (wrap64 (x6_2 + 1)) < (wrap64 ((a0.size : Int) - 1))
                            · rw [if_pos c29] at H
                              have c29b0 : decide ((wrap64 (x6_2 + 1)) < (wrap64 ((a0.size : Int) - 1))) = true := decide_eq_true c29
                              clear c29
                              (first | rw [c29b0] | (simp only [i64_w, i32_w]; rw [c29b0]) | skip)
                              obtain ⟨ji30, hji30⟩ : ∃ j_ : Int, (wrap64 (x6_2 + 1)) = j_ := ⟨_, rfl⟩
                              replace H : (if 0 ≤ (ji30) then (if (ji30) < (a0.size : Int) then (if (bt a0 (ji30)) = 34 then (rundleref01_Unquote.j3 kj14 a0 (wrap64 ((a0.size : Int) - 1)) x5_2 x6_2 true) else (rundleref01_Unquote.j3 kj14 a0 (wrap64 ((a0.size : Int) - 1)) x5_2 x6_2 ((bt a0 (ji30)) == 92))) else (none)) else (none)) = some (r1, r2) := by first | (rw [hji30] at H; exact H) | (simp only [hji30] at H ⊢; exact H)
                              (try rw [hji30] at c29b0)
                              have hji30w : (IntKind.i64.wrap (x6_2 + 1)) = ji30 := (i64_w _).trans hji30
                              by_cases c31 : 0 ≤ (ji30)
                              · rw [if_pos c31] at H
                                have c31b0 : decide (0 ≤ (ji30)) = true := decide_eq_true c31
                                clear c31
                                by_cases c32 : (ji30) < (a0.size : Int)
                                · rw [if_pos c32] at H
                                  have c32b0 : decide ((ji30) < (a0.size : Int)) = true := decide_eq_true c32
                                  clear c32
                                  by_cases c34 : (bt a0 (ji30)) = 34
                                  · rw [if_pos c34] at H
                                    have c34b0 : ((bt a0 (ji30)) == 34) = true := beq_iff_eq.mpr c34
                                    have c34b1 : ((bt a0 (ji30)) != 34) = false := bne_eq_false_iff_eq.mpr c34
                                    clear c34
                                    have H' := Aside0.mk H
                                    clear H
                                    have p33 : 0 ≤ ((ji30) : Int) := of_decide_eq_true (by first | (with_reducible assumption) | assumption)
                                    have q33 : (ji30) < (a0.size : Int) := of_decide_eq_true (by first | (with_reducible assumption) | assumption)
                                    have hx33 := bt_at a0 (ji30)
                                    replace p33 := eq_true p33
                                    replace q33 := eq_true q33
                                    go_wp2
                                    go_meet
                                    case rel => exact ⟨_, (true), (by first | rfl | (simp; done) | (simp [*]; done)), H', ⟨by have := HJ1.out; have := HK2.out; have := HJ14.out; first | omega | exact Nat.le_refl _⟩, ⟨by (with_reducible repeat (first | apply Kd.R_alloc | apply Kd.R_drewN | apply Kd.R_drew)); exact HO_5.out⟩, ⟨by repeat (first | (with_reducible first | exact HB.out | apply below_alloc | apply pw_below_drewN | apply below_drew1) | exact HB.out)⟩⟩
                                  · rw [if_neg c34] at H
                                    have c34b0 : ((bt a0 (ji30)) == 34) = false := beq_eq_false_iff_ne.mpr c34
                                    have c34b1 : ((bt a0 (ji30)) != 34) = true := bne_iff_ne.mpr c34
                                    have H' := Aside0.mk H
                                    clear H
                                    have p33 : 0 ≤ ((ji30) : Int) := of_decide_eq_true (by first | (with_reducible assumption) | assumption)
                                    have q33 : (ji30) < (a0.size : Int) := of_decide_eq_true (by first | (with_reducible assumption) | assumption)
                                    have hx33 := bt_at a0 (ji30)
                                    replace p33 := eq_true p33
                                    replace q33 := eq_true q33
                                    have p35 : 0 ≤ ((ji30) : Int) := of_decide_eq_true (by first | (with_reducible assumption) | assumption)
                                    have q35 : (ji30) < (a0.size : Int) := of_decide_eq_true (by first | (with_reducible assumption) | assumption)
                                    have hx35 := bt_at a0 (ji30)
                                    replace p35 := eq_true p35
                                    replace q35 := eq_true q35
                                    go_wp2
                                    go_meet
                                    case rel => exact ⟨_, (((bt a0 (ji30)) == 92)), (by first | rfl | (simp; done) | (simp only [← hji30] <;> (first | rfl | simp)) | (simp [*]; done)), H', ⟨by have := HJ1.out; have := HK2.out; have := HJ14.out; first | omega | exact Nat.le_refl _⟩, ⟨by (with_reducible repeat (first | apply Kd.R_alloc | apply Kd.R_drewN | apply Kd.R_drew)); exact HO_5.out⟩, ⟨by repeat (first | (with_reducible first | exact HB.out | apply below_alloc | apply pw_below_drewN | apply below_drew1) | exact HB.out)⟩⟩
                                · rw [if_neg c32] at H
                                  exact absurd H (by simp)
                              · rw [if_neg c31] at H
                                exact absurd H (by simp)
                            · rw [if_neg c29] at H
                              have c29b0 : decide ((wrap64 (x6_2 + 1)) < (wrap64 ((a0.size : Int) - 1))) = false := decide_eq_false c29
                              clear c29
                              (first | rw [c29b0] | (simp only [i64_w, i32_w]; rw [c29b0]) | skip)
                              have H' := Aside0.mk H
                              clear H
                              go_wp2
                              go_meet
                              case rel => exact ⟨_, (false), (by first | rfl | (simp; done) | (simp [*]; done)), H', ⟨by have := HJ1.out; have := HK2.out; have := HJ14.out; first | omega | exact Nat.le_refl _⟩, ⟨by (with_reducible repeat (first | apply Kd.R_alloc | apply Kd.R_drewN | apply Kd.R_drew)); exact HO_5.out⟩, ⟨by repeat (first | (with_reducible first | exact HB.out | apply below_alloc | apply pw_below_drewN | apply below_drew1) | exact HB.out)⟩⟩
                          case rest =>
                            clear HC28
                            try clear c1
                            try clear p1
                            try clear q1
                            try clear hx1
                            try clear c2
                            try clear p2
                            try clear q2
                            try clear hx2
                            try clear c3
                            try clear c3b0
                            try clear p3
                            try clear q3
                            try clear hx3
                            try clear c4
                            try clear c4b0
                            try clear c4b1
                            try clear p5
                            try clear q5
                            try clear hx5
                            try clear qi5
                            try clear c6
                            try clear c6b0
                            try clear c6b1
                            try clear p6
                            try clear c8
                            try clear c8b0
                            try clear c9
                            try clear c9b0
                            try clear p10
                            try clear q10
                            try clear hx10
                            try clear c11
                            try clear c11b0
                            try clear c11b1
                            try clear c13
                            try clear c14
                            try clear c14b0
                            try clear c16
                            try clear c16b0
                            try clear c17
                            try clear c17b0
                            try clear p18
                            try clear q18
                            try clear hx18
                            try clear c19
                            try clear c19b0
                            try clear c19b1
                            try clear p20
                            try clear q20
                            try clear hx20
                            try clear c21
                            try clear c21b0
                            try clear p22
                            try clear q22
                            try clear hx22
                            try clear c23
                            try clear c24
                            try clear c24b0
                            try clear c25
                            try clear c25b0
                            try clear p26
                            try clear q26
                            try clear hx26
                            try clear c27
                            try clear c27b0
                            try clear c27b1
                            try clear c29
                            try clear c29b0
                            try clear c31
                            try clear c31b0
                            try clear c32
                            try clear c32b0
                            try clear p33
                            try clear q33
                            try clear hx33
                            try clear c34
                            try clear c34b0
                            try clear c34b1
                            try clear p35
                            try clear q35
                            try clear hx35
                            try clear p1
                            try clear p10
                            try clear p18
                            try clear p2
                            try clear p20
                            try clear p22
                            try clear p26
                            try clear p33
                            try clear p35
                            try clear p5
                            try clear p6
                            try clear q1
                            try clear q10
                            try clear q18
                            try clear q2
                            try clear q20
                            try clear q22
                            try clear q26
                            try clear q33
                            try clear q35
                            try clear q5
                            obtain ⟨kq, x76_27, rfl, HA, HJ27, HO_5, HB⟩ := hcut
                            cases kq with
                            | zero => exact absurd HA.out (by simp [rundleref01_Unquote.j3])
                            | succ kj27 =>
                              have H := HA.out
                              clear HA
                              simp only [rundleref01_Unquote.j3] at H
                              by_cases c36 : x76_27 = true
                              · subst c36
                                have H1 : (if 0 ≤ (wrap64 (x6_2 + 1)) then (if (wrap64 (x6_2 + 1)) < (a0.size : Int) then (if x5_2.length < 140737488355328 then (rundleref01_Unquote.l0 kj27 a0 (wrap64 ((a0.size : Int) - 1)) (x5_2 ++ [bt a0 (wrap64 (x6_2 + 1))]) (wrap64 (x6_2 + 2))) else (none)) else (none)) else (none)) = some (r1, r2) := by rw [if_pos rfl] at H; exact H
                                clear H
                                have H := H1
                                clear H1
                                obtain ⟨ji37, hji37⟩ : ∃ j_ : Int, (wrap64 (x6_2 + 1)) = j_ := ⟨_, rfl⟩
                                replace H : (if 0 ≤ (ji37) then (if (ji37) < (a0.size : Int) then (if x5_2.length < 140737488355328 then (rundleref01_Unquote.l0 kj27 a0 (wrap64 ((a0.size : Int) - 1)) (x5_2 ++ [bt a0 (ji37)]) (wrap64 (x6_2 + 2))) else (none)) else (none)) else (none)) = some (r1, r2) := by first | (rw [hji37] at H; exact H) | (simp only [hji37] at H ⊢; exact H)
                                have hji37w : (IntKind.i64.wrap (x6_2 + 1)) = ji37 := (i64_w _).trans hji37
                                by_cases c38 : 0 ≤ (ji37)
                                · rw [if_pos c38] at H
                                  have c38b0 : decide (0 ≤ (ji37)) = true := decide_eq_true c38
                                  clear c38
                                  by_cases c39 : (ji37) < (a0.size : Int)
                                  · rw [if_pos c39] at H
                                    have c39b0 : decide ((ji37) < (a0.size : Int)) = true := decide_eq_true c39
                                    clear c39
                                    by_cases c41 : x5_2.length < 140737488355328
                                    · rw [if_pos c41] at H
                                      have LMc41 := Aside0.mk c41
                                      clear c41
                                      obtain ⟨y223, hy223⟩ : ∃ y_ : List Int, y_ = (x5_2 ++ [bt a0 (ji37)]) := ⟨_, rfl⟩
                                      replace H : (rundleref01_Unquote.l0 kj27 a0 (wrap64 ((a0.size : Int) - 1)) y223 (wrap64 (x6_2 + 2))) = some (r1, r2) := by first | (rw [hy223]; with_reducible exact H) | (have H2_ := (Option.bind_some _ _).symm.trans H; rw [hy223]; with_reducible exact H2_) | (have H2_ := (Option.bind_some _ _).symm.trans H; with_reducible exact H2_) | with_reducible exact H | (rw [hy223]; exact H) | exact H
                                      have Ny223 := Aside0.mk hy223
                                      clear hy223
                                      have H' := Aside0.mk H
                                      clear H
                                      have p40 : 0 ≤ ((ji37) : Int) := of_decide_eq_true (by first | (with_reducible assumption) | assumption)
                                      have q40 : (ji37) < (a0.size : Int) := of_decide_eq_true (by first | (with_reducible assumption) | assumption)
                                      have hx40 := bt_at a0 (ji37)
                                      replace p40 := eq_true p40
                                      replace q40 := eq_true q40
                                      go_wp2_with (first | ((with_reducible refine gate_builtin (b := .append) (xs := #[.tmp 77, .tmp 82]) rfl ?_); at_builtin; refine Kd.R_append (Kd.int .u8) (w0 := w) w.heap.size rfl (.tmp 77) (.tmp 82) 120 5 (.int .u8 0) 1 rfl Tryd.underlying120 info5 rfl (by decide) (by omega) u5 x5_2 (bt a0 (ji37)) [.int .u8 (bt a0 (ji37))] (fun _ => True) (fun _ => False) rfl rfl ?aP (fun _ hk => hk.elim) ?aF ?aO ?aB ?aS ?aL ?_; (case aP => exact rfl); (case aB => exact (by repeat (first | (with_reducible first | exact HB.out | apply below_alloc | apply pw_below_drewN | apply below_drew1) | exact HB.out))); (case aF => exact (fun _ _ => trivial)); (case aO => exact (by (with_reducible repeat (first | apply Kd.R_alloc | apply Kd.R_drewN | apply Kd.R_drew)); exact HO_5.out)); (case aS => exact (below_size (by repeat (first | (with_reducible first | exact HB.out | apply below_alloc | apply pw_below_drewN | apply below_drew1) | exact HB.out)))); (case aL => have := LMc41.out; omega); intro v224 w42 ho hb hg hat; rw [← Ny223.out] at ho; have n0_ := Aside0.mk (hb); have n1_ := Aside0.mk (ho); clear HB; clear HO_5; have HB := n0_; have HO225 := n1_; clear n0_ n1_; clear ho hb hg hat))
                                      go_roundg kj27
                                      case measure => have := HJ1.out; have := HK2.out; have := HJ14.out; have := HJ27.out; omega
                                      case rel => exact ⟨(y223), (wrap64 (x6_2 + 2)), (by first | rfl | (simp; done) | (simp [*]; done)), H', ⟨by have := HJ1.out; have := HK2.out; have := HJ14.out; have := HJ27.out; omega⟩, ⟨by (with_reducible repeat (first | apply Kd.R_alloc | apply Kd.R_drewN | apply Kd.R_drew)); exact HO225.out⟩, ⟨by repeat (first | (with_reducible first | exact HB.out | apply below_alloc | apply pw_below_drewN | apply below_drew1) | exact HB.out)⟩⟩
                                    · rw [if_neg c41] at H
                                      exact absurd H (by simp)
                                  · rw [if_neg c39] at H
                                    exact absurd H (by simp)
                                · rw [if_neg c38] at H
                                  exact absurd H (by simp)
                              · replace c36 := Bool.eq_false_iff.mpr c36
                                subst c36
                                have H1 : (if (wrap64 (x6_2 + 3)) ≥ (wrap64 ((a0.size : Int) - 1)) then (rundleref01_Unquote.j4 kj27 a0 (wrap64 ((a0.size : Int) - 1)) x5_2 x6_2 true) else (if 0 ≤ (wrap64 (x6_2 + 1)) then (if (wrap64 (x6_2 + 1)) < (a0.size : Int) then (if (bt a0 (wrap64 (x6_2 + 1))) = 120 then (if 0 ≤ (wrap64 (x6_2 + 2)) then (if (wrap64 (x6_2 + 2)) < (a0.size : Int) then ((rundleref01_number.f kj27 (bt a0 (wrap64 (x6_2 + 2)))).bind fun t226 => (if t226 = 16 then (rundleref01_Unquote.j4 kj27 a0 (wrap64 ((a0.size : Int) - 1)) x5_2 x6_2 true) else (if 0 ≤ (wrap64 (x6_2 + 3)) then (if (wrap64 (x6_2 + 3)) < (a0.size : Int) then ((rundleref01_number.f kj27 (bt a0 (wrap64 (x6_2 + 3)))).bind fun t227 => (rundleref01_Unquote.j4 kj27 a0 (wrap64 ((a0.size : Int) - 1)) x5_2 x6_2 (t227 == 16))) else (none)) else (none)))) else (none)) else (none)) else (rundleref01_Unquote.j4 kj27 a0 (wrap64 ((a0.size : Int) - 1)) x5_2 x6_2 true)) else (none)) else (none))) = some (r1, r2) := by rw [if_neg (show ¬ (false = true) by decide)] at H; exact H
                                clear H
                                have H := H1
                                clear H1
                                have HC43 := Aside0.mk H
                                clear H
                                go_upto_region 15 with (fail)
                                go_cut [112] (fun v112 wc => ∃ (kq : Nat) (x112_42 : Bool), v112 = .bool x112_42 ∧ Aside0 (rundleref01_Unquote.j4 kq a0 (wrap64 ((a0.size : Int) - 1)) x5_2 x6_2 x112_42 = some (r1, r2)) ∧ Aside0 (kq ≤ kj27) ∧ Aside0 (Kd.R (Kd.int .u8) 5 wc w.heap.size (fun _ => True) u5 x5_2) ∧ Aside0 (Below w.heap.size w wc))
                                case first =>
                                  have H := HC43.out
                                  clear HC43
                                  by_cases c44 : (wrap64 (x6_2 + 3)) ≥ (wrap64 ((a0.size : Int) - 1))
                                  · rw [if_pos c44] at H
                                    have c44b0 : decide ((wrap64 ((a0.size : Int) - 1)) ≤ (wrap64 (x6_2 + 3))) = true := decide_eq_true c44
                                    clear c44
                                    (first | rw [c44b0] | (simp only [i64_w, i32_w]; rw [c44b0]) | skip)
                                    have H' := Aside0.mk H
                                    clear H
                                    go_wp2
                                    go_meet
                                    case rel => exact ⟨_, (true), (by first | rfl | (simp; done) | (simp [*]; done)), H', ⟨by have := HJ1.out; have := HK2.out; have := HJ14.out; have := HJ27.out; first | omega | exact Nat.le_refl _⟩, ⟨by (with_reducible repeat (first | apply Kd.R_alloc | apply Kd.R_drewN | apply Kd.R_drew)); exact HO_5.out⟩, ⟨by repeat (first | (with_reducible first | exact HB.out | apply below_alloc | apply pw_below_drewN | apply below_drew1) | exact HB.out)⟩⟩
                                  · rw [if_neg c44] at H
                                    have c44b0 : decide ((wrap64 ((a0.size : Int) - 1)) ≤ (wrap64 (x6_2 + 3))) = false := decide_eq_false c44
                                    clear c44
                                    (first | rw [c44b0] | (simp only [i64_w, i32_w]; rw [c44b0]) | skip)
                                    obtain ⟨ji45, hji45⟩ : ∃ j_ : Int, (wrap64 (x6_2 + 1)) = j_ := ⟨_, rfl⟩
                                    replace H : (if 0 ≤ (ji45) then (if (ji45) < (a0.size : Int) then (if (bt a0 (ji45)) = 120 then (if 0 ≤ (wrap64 (x6_2 + 2)) then (if (wrap64 (x6_2 + 2)) < (a0.size : Int) then ((rundleref01_number.f kj27 (bt a0 (wrap64 (x6_2 + 2)))).bind fun t226 => (if t226 = 16 then (rundleref01_Unquote.j4 kj27 a0 (wrap64 ((a0.size : Int) - 1)) x5_2 x6_2 true) else (if 0 ≤ (wrap64 (x6_2 + 3)) then (if (wrap64 (x6_2 + 3)) < (a0.size : Int) then ((rundleref01_number.f kj27 (bt a0 (wrap64 (x6_2 + 3)))).bind fun t227 => (rundleref01_Unquote.j4 kj27 a0 (wrap64 ((a0.size : Int) - 1)) x5_2 x6_2 (t227 == 16))) else (none)) else (none)))) else (none)) else (none)) else (rundleref01_Unquote.j4 kj27 a0 (wrap64 ((a0.size : Int) - 1)) x5_2 x6_2 true)) else (none)) else (none)) = some (r1, r2) := by first | (rw [hji45] at H; exact H) | (simp only [hji45] at H ⊢; exact H)
                                    have hji45w : (IntKind.i64.wrap (x6_2 + 1)) = ji45 := (i64_w _).trans hji45
                                    by_cases c46 : 0 ≤ (ji45)
                                    · rw [if_pos c46] at H
                                      have c46b0 : decide (0 ≤ (ji45)) = true := decide_eq_true c46
                                      clear c46
                                      by_cases c47 : (ji45) < (a0.size : Int)
                                      · rw [if_pos c47] at H
                                        have c47b0 : decide ((ji45) < (a0.size : Int)) = true := decide_eq_true c47
                                        clear c47
                                        by_cases c49 : (bt a0 (ji45)) = 120
                                        · rw [if_pos c49] at H
                                          have c49b0 : ((bt a0 (ji45)) == 120) = true := beq_iff_eq.mpr c49
                                          have c49b1 : ((bt a0 (ji45)) != 120) = false := bne_eq_false_iff_eq.mpr c49
                                          clear c49
                                          obtain ⟨ji50, hji50⟩ : ∃ j_ : Int, (wrap64 (x6_2 + 2)) = j_ := ⟨_, rfl⟩
                                          replace H : (if 0 ≤ (ji50) then (if (ji50) < (a0.size : Int) then ((rundleref01_number.f kj27 (bt a0 (ji50))).bind fun t226 => (if t226 = 16 then (rundleref01_Unquote.j4 kj27 a0 (wrap64 ((a0.size : Int) - 1)) x5_2 x6_2 true) else (if 0 ≤ (wrap64 (x6_2 + 3)) then (if (wrap64 (x6_2 + 3)) < (a0.size : Int) then ((rundleref01_number.f kj27 (bt a0 (wrap64 (x6_2 + 3)))).bind fun t227 => (rundleref01_Unquote.j4 kj27 a0 (wrap64 ((a0.size : Int) - 1)) x5_2 x6_2 (t227 == 16))) else (none)) else (none)))) else (none)) else (none)) = some (r1, r2) := by first | (rw [hji50] at H; exact H) | (simp only [hji50] at H ⊢; exact H)
                                          have hji50w : (IntKind.i64.wrap (x6_2 + 2)) = ji50 := (i64_w _).trans hji50
                                          by_cases c51 : 0 ≤ (ji50)
                                          · rw [if_pos c51] at H
                                            have c51b0 : decide (0 ≤ (ji50)) = true := decide_eq_true c51
                                            clear c51
                                            by_cases c52 : (ji50) < (a0.size : Int)
                                            · rw [if_pos c52] at H
                                              have c52b0 : decide ((ji50) < (a0.size : Int)) = true := decide_eq_true c52
                                              clear c52
                                              replace H := Option.bind_eq_some_iff.mp H
                                              obtain ⟨t226, A540, H⟩ := H
                                              replace H : (if t226 = 16 then (rundleref01_Unquote.j4 kj27 a0 (wrap64 ((a0.size : Int) - 1)) x5_2 x6_2 true) else (if 0 ≤ (wrap64 (x6_2 + 3)) then (if (wrap64 (x6_2 + 3)) < (a0.size : Int) then ((rundleref01_number.f kj27 (bt a0 (wrap64 (x6_2 + 3)))).bind fun t227 => (rundleref01_Unquote.j4 kj27 a0 (wrap64 ((a0.size : Int) - 1)) x5_2 x6_2 (t227 == 16))) else (none)) else (none))) = some (r1, r2) := H
                                              have A54 := Aside0.mk A540
                                              clear A540
                                              by_cases c55 : t226 = 16
                                              · rw [if_pos c55] at H
                                                have c55b0 : (t226 == 16) = true := beq_iff_eq.mpr c55
                                                have c55b1 : (t226 != 16) = false := bne_eq_false_iff_eq.mpr c55
                                                clear c55
                                                have H' := Aside0.mk H
                                                clear H
                                                have p48 : 0 ≤ ((ji45) : Int) := of_decide_eq_true (by first | (with_reducible assumption) | assumption)
                                                have q48 : (ji45) < (a0.size : Int) := of_decide_eq_true (by first | (with_reducible assumption) | assumption)
                                                have hx48 := bt_at a0 (ji45)
                                                replace p48 := eq_true p48
                                                replace q48 := eq_true q48
                                                have p53 : 0 ≤ ((ji50) : Int) := of_decide_eq_true (by first | (with_reducible assumption) | assumption)
                                                have q53 : (ji50) < (a0.size : Int) := of_decide_eq_true (by first | (with_reducible assumption) | assumption)
                                                have hx53 := bt_at a0 (ji50)
                                                replace p53 := eq_true p53
                                                replace q53 := eq_true q53
                                                go_wp2_with (first | (go_at_call 86; (with_reducible refine (rundleref01_number.calls kj27 (bt a0 (ji50)) t226 _ A54.out).mono ?_); rintro e w' ⟨rfl, ⟨nd, rfl⟩⟩))
                                                go_meet
                                                case rel => exact ⟨_, (true), (by first | rfl | (simp; done) | (simp [*]; done)), H', ⟨by have := HJ1.out; have := HK2.out; have := HJ14.out; have := HJ27.out; first | omega | exact Nat.le_refl _⟩, ⟨by (with_reducible repeat (first | apply Kd.R_alloc | apply Kd.R_drewN | apply Kd.R_drew)); exact HO_5.out⟩, ⟨by repeat (first | (with_reducible first | exact HB.out | apply below_alloc | apply pw_below_drewN | apply below_drew1) | exact HB.out)⟩⟩
                                              · rw [if_neg c55] at H
                                                have c55b0 : (t226 == 16) = false := beq_eq_false_iff_ne.mpr c55
                                                have c55b1 : (t226 != 16) = true := bne_iff_ne.mpr c55
                                                obtain ⟨ji56, hji56⟩ : ∃ j_ : Int, (wrap64 (x6_2 + 3)) = j_ := ⟨_, rfl⟩
                                                replace H : (if 0 ≤ (ji56) then (if (ji56) < (a0.size : Int) then ((rundleref01_number.f kj27 (bt a0 (ji56))).bind fun t227 => (rundleref01_Unquote.j4 kj27 a0 (wrap64 ((a0.size : Int) - 1)) x5_2 x6_2 (t227 == 16))) else (none)) else (none)) = some (r1, r2) := by first | (rw [hji56] at H; exact H) | (simp only [hji56] at H ⊢; exact H)
                                                (try rw [hji56] at c44b0)
                                                (try rw [hji56] at A54)
                                                have hji56w : (IntKind.i64.wrap (x6_2 + 3)) = ji56 := (i64_w _).trans hji56
                                                by_cases c57 : 0 ≤ (ji56)
                                                · rw [if_pos c57] at H
                                                  have c57b0 : decide (0 ≤ (ji56)) = true := decide_eq_true c57
                                                  clear c57
                                                  by_cases c58 : (ji56) < (a0.size : Int)
                                                  · rw [if_pos c58] at H
                                                    have c58b0 : decide ((ji56) < (a0.size : Int)) = true := decide_eq_true c58
                                                    clear c58
                                                    replace H := Option.bind_eq_some_iff.mp H
                                                    obtain ⟨t227, A600, H⟩ := H
                                                    replace H : (rundleref01_Unquote.j4 kj27 a0 (wrap64 ((a0.size : Int) - 1)) x5_2 x6_2 (t227 == 16)) = some (r1, r2) := H
                                                    have A60 := Aside0.mk A600
                                                    clear A600
                                                    have H' := Aside0.mk H
                                                    clear H
                                                    have p48 : 0 ≤ ((ji45) : Int) := of_decide_eq_true (by first | (with_reducible assumption) | assumption)
                                                    have q48 : (ji45) < (a0.size : Int) := of_decide_eq_true (by first | (with_reducible assumption) | assumption)
                                                    have hx48 := bt_at a0 (ji45)
                                                    replace p48 := eq_true p48
                                                    replace q48 := eq_true q48
                                                    have p53 : 0 ≤ ((ji50) : Int) := of_decide_eq_true (by first | (with_reducible assumption) | assumption)
                                                    have q53 : (ji50) < (a0.size : Int) := of_decide_eq_true (by first | (with_reducible assumption) | assumption)
                                                    have hx53 := bt_at a0 (ji50)
                                                    replace p53 := eq_true p53
                                                    replace q53 := eq_true q53
                                                    go_wp2_with (first | (go_at_call 86; (with_reducible refine (rundleref01_number.calls kj27 (bt a0 (ji50)) t226 _ A54.out).mono ?_); rintro e w' ⟨rfl, ⟨nd, rfl⟩⟩; have p59 : 0 ≤ ((ji56) : Int) := of_decide_eq_true (by first | (with_reducible assumption) | assumption); have q59 : (ji56) < (a0.size : Int) := of_decide_eq_true (by first | (with_reducible assumption) | assumption); have hx59 := bt_at a0 (ji56); replace p59 := eq_true p59; replace q59 := eq_true q59) | (go_at_call 86; (with_reducible refine (rundleref01_number.calls kj27 (bt a0 (ji56)) t227 _ A60.out).mono ?_); rintro e w' ⟨rfl, ⟨nd, rfl⟩⟩))
                                                    go_meet
                                                    case rel => exact ⟨_, ((t227 == 16)), (by first | rfl | (simp; done) | (simp [*]; done)), H', ⟨by have := HJ1.out; have := HK2.out; have := HJ14.out; have := HJ27.out; first | omega | exact Nat.le_refl _⟩, ⟨by (with_reducible repeat (first | apply Kd.R_alloc | apply Kd.R_drewN | apply Kd.R_drew)); exact HO_5.out⟩, ⟨by repeat (first | (with_reducible first | exact HB.out | apply below_alloc | apply pw_below_drewN | apply below_drew1) | exact HB.out)⟩⟩
                                                  · rw [if_neg c58] at H
                                                    exact absurd H (by simp)
                                                · rw [if_neg c57] at H
                                                  exact absurd H (by simp)
                                            · rw [if_neg c52] at H
                                              exact absurd H (by simp)
                                          · rw [if_neg c51] at H
                                            exact absurd H (by simp)
                                        · rw [if_neg c49] at H
                                          have c49b0 : ((bt a0 (ji45)) == 120) = false := beq_eq_false_iff_ne.mpr c49
                                          have c49b1 : ((bt a0 (ji45)) != 120) = true := bne_iff_ne.mpr c49
                                          have H' := Aside0.mk H
                                          clear H
                                          have p48 : 0 ≤ ((ji45) : Int) := of_decide_eq_true (by first | (with_reducible assumption) | assumption)
                                          have q48 : (ji45) < (a0.size : Int) := of_decide_eq_true (by first | (with_reducible assumption) | assumption)
                                          have hx48 := bt_at a0 (ji45)
                                          replace p48 := eq_true p48
                                          replace q48 := eq_true q48
                                          go_wp2
                                          go_meet
                                          case rel => exact ⟨_, (true), (by first | rfl | (simp; done) | (simp [*]; done)), H', ⟨by have := HJ1.out; have := HK2.out; have := HJ14.out; have := HJ27.out; first | omega | exact Nat.le_refl _⟩, ⟨by (with_reducible repeat (first | apply Kd.R_alloc | apply Kd.R_drewN | apply Kd.R_drew)); exact HO_5.out⟩, ⟨by repeat (first | (with_reducible first | exact HB.out | apply below_alloc | apply pw_below_drewN | apply below_drew1) | exact HB.out)⟩⟩
                                      · rw [if_neg c47] at H
                                        exact absurd H (by simp)
                                    · rw [if_neg c46] at H
                                      exact absurd H (by simp)
                                case rest =>
                                  clear HC43
                                  try clear c1
                                  try clear p1
                                  try clear q1
                                  try clear hx1
                                  try clear c2
                                  try clear p2
                                  try clear q2
                                  try clear hx2
                                  try clear c3
                                  try clear c3b0
                                  try clear p3
                                  try clear q3
                                  try clear hx3
                                  try clear c4
                                  try clear c4b0
                                  try clear c4b1
                                  try clear p4
                                  try clear q4
                                  try clear hx4
                                  try clear c5
                                  try clear p5
                                  try clear q5
                                  try clear hx5
                                  try clear qi5
                                  try clear c6
                                  try clear c6b0
                                  try clear c6b1
                                  try clear p6
                                  try clear c8
                                  try clear c8b0
                                  try clear c9
                                  try clear c9b0
                                  try clear p10
                                  try clear q10
                                  try clear hx10
                                  try clear c11
                                  try clear c11b0
                                  try clear c11b1
                                  try clear c13
                                  try clear c14
                                  try clear c14b0
                                  try clear c16
                                  try clear c16b0
                                  try clear c17
                                  try clear c17b0
                                  try clear p18
                                  try clear q18
                                  try clear hx18
                                  try clear c19
                                  try clear c19b0
                                  try clear c19b1
                                  try clear p20
                                  try clear q20
                                  try clear hx20
                                  try clear c21
                                  try clear c21b0
                                  try clear p22
                                  try clear q22
                                  try clear hx22
                                  try clear c23
                                  try clear c24
                                  try clear c24b0
                                  try clear c25
                                  try clear c25b0
                                  try clear p26
                                  try clear q26
                                  try clear hx26
                                  try clear c27
                                  try clear c27b0
                                  try clear c27b1
                                  try clear c29
                                  try clear c29b0
                                  try clear c31
                                  try clear c31b0
                                  try clear c32
                                  try clear c32b0
                                  try clear p33
                                  try clear q33
                                  try clear hx33
                                  try clear c34
                                  try clear c34b0
                                  try clear c34b1
                                  try clear p35
                                  try clear q35
                                  try clear hx35
                                  try clear c36
                                  try clear c38
                                  try clear c38b0
                                  try clear c39
                                  try clear c39b0
                                  try clear p40
                                  try clear q40
                                  try clear hx40
                                  try clear c41
                                  try clear c44
                                  try clear c44b0
                                  try clear c46
                                  try clear c46b0
                                  try clear c47
                                  try clear c47b0
                                  try clear p48
                                  try clear q48
                                  try clear hx48
                                  try clear c49
                                  try clear c49b0
                                  try clear c49b1
                                  try clear c51
                                  try clear c51b0
                                  try clear c52
                                  try clear c52b0
                                  try clear p53
                                  try clear q53
                                  try clear hx53
                                  try clear c55
                                  try clear c55b0
                                  try clear c55b1
                                  try clear c57
                                  try clear c57b0
                                  try clear c58
                                  try clear c58b0
                                  try clear p59
                                  try clear q59
                                  try clear hx59
                                  try clear p1
                                  try clear p10
                                  try clear p18
                                  try clear p2
                                  try clear p20
                                  try clear p22
                                  try clear p26
                                  try clear p3
                                  try clear p33
                                  try clear p35
                                  try clear p40
                                  try clear p48
                                  try clear p5
                                  try clear p53
                                  try clear p59
                                  try clear p6
                                  try clear q1
                                  try clear q10
                                  try clear q18
                                  try clear q2
                                  try clear q20
                                  try clear q22
                                  try clear q26
                                  try clear q3
                                  try clear q33
                                  try clear q35
                                  try clear q40
                                  try clear q48
                                  try clear q5
                                  try clear q53
                                  try clear q59
                                  obtain ⟨kq, x112_42, rfl, HA, HJ42, HO_5, HB⟩ := hcut
                                  cases kq with
                                  | zero => exact absurd HA.out (by simp [rundleref01_Unquote.j4])
                                  | succ kj42 =>
                                    have H := HA.out
                                    clear HA
                                    simp only [rundleref01_Unquote.j4] at H
                                    by_cases c61 : x112_42 = true
                                    · subst c61
                                      have H1 : (some ((⟨#[]⟩ : ByteArray), false)) = some (r1, r2) := by rw [if_pos rfl] at H; exact H
                                      clear H
                                      have H := H1
                                      clear H1
                                      simp only [Option.some.injEq, Prod.mk.injEq] at H
                                      obtain ⟨rfl, rfl⟩ := H
                                      go_wp2
                                      go_ret2
                                      exact ⟨by first | rfl | (simp [errW_none, errW_some] <;> rfl) | (simp [*, errW_none, errW_some] <;> rfl), by repeat (first | (with_reducible first | exact HB.out | apply below_alloc | apply pw_below_drewN | apply below_drew1) | exact HB.out)⟩
                                    · replace c61 := Bool.eq_false_iff.mpr c61
                                      subst c61
                                      have H1 : (if 0 ≤ (wrap64 (x6_2 + 2)) then (if (wrap64 (x6_2 + 2)) < (a0.size : Int) then ((rundleref01_number.f kj42 (bt a0 (wrap64 (x6_2 + 2)))).bind fun t228 => (if 0 ≤ (wrap64 (x6_2 + 3)) then (if (wrap64 (x6_2 + 3)) < (a0.size : Int) then ((rundleref01_number.f kj42 (bt a0 (wrap64 (x6_2 + 3)))).bind fun t229 => (if x5_2.length < 140737488355328 then (rundleref01_Unquote.l0 kj42 a0 (wrap64 ((a0.size : Int) - 1)) (x5_2 ++ [(((t228 * 16) % 256) + t229) % 256]) (wrap64 (x6_2 + 4))) else (none))) else (none)) else (none))) else (none)) else (none)) = some (r1, r2) := by rw [if_neg (show ¬ (false = true) by decide)] at H; exact H
                                      clear H
                                      have H := H1
                                      clear H1
                                      obtain ⟨ji62, hji62⟩ : ∃ j_ : Int, (wrap64 (x6_2 + 2)) = j_ := ⟨_, rfl⟩
                                      replace H : (if 0 ≤ (ji62) then (if (ji62) < (a0.size : Int) then ((rundleref01_number.f kj42 (bt a0 (ji62))).bind fun t228 => (if 0 ≤ (wrap64 (x6_2 + 3)) then (if (wrap64 (x6_2 + 3)) < (a0.size : Int) then ((rundleref01_number.f kj42 (bt a0 (wrap64 (x6_2 + 3)))).bind fun t229 => (if x5_2.length < 140737488355328 then (rundleref01_Unquote.l0 kj42 a0 (wrap64 ((a0.size : Int) - 1)) (x5_2 ++ [(((t228 * 16) % 256) + t229) % 256]) (wrap64 (x6_2 + 4))) else (none))) else (none)) else (none))) else (none)) else (none)) = some (r1, r2) := by first | (rw [hji62] at H; exact H) | (simp only [hji62] at H ⊢; exact H)
                                      have hji62w : (IntKind.i64.wrap (x6_2 + 2)) = ji62 := (i64_w _).trans hji62
                                      by_cases c63 : 0 ≤ (ji62)
                                      · rw [if_pos c63] at H
                                        have c63b0 : decide (0 ≤ (ji62)) = true := decide_eq_true c63
                                        clear c63
                                        by_cases c64 : (ji62) < (a0.size : Int)
                                        · rw [if_pos c64] at H
                                          have c64b0 : decide ((ji62) < (a0.size : Int)) = true := decide_eq_true c64
                                          clear c64
                                          replace H := Option.bind_eq_some_iff.mp H
                                          obtain ⟨t228, A660, H⟩ := H
                                          replace H : (if 0 ≤ (wrap64 (x6_2 + 3)) then (if (wrap64 (x6_2 + 3)) < (a0.size : Int) then ((rundleref01_number.f kj42 (bt a0 (wrap64 (x6_2 + 3)))).bind fun t229 => (if x5_2.length < 140737488355328 then (rundleref01_Unquote.l0 kj42 a0 (wrap64 ((a0.size : Int) - 1)) (x5_2 ++ [(((t228 * 16) % 256) + t229) % 256]) (wrap64 (x6_2 + 4))) else (none))) else (none)) else (none)) = some (r1, r2) := H
                                          have A66 := Aside0.mk A660
                                          clear A660
                                          obtain ⟨ji67, hji67⟩ : ∃ j_ : Int, (wrap64 (x6_2 + 3)) = j_ := ⟨_, rfl⟩
                                          replace H : (if 0 ≤ (ji67) then (if (ji67) < (a0.size : Int) then ((rundleref01_number.f kj42 (bt a0 (ji67))).bind fun t229 => (if x5_2.length < 140737488355328 then (rundleref01_Unquote.l0 kj42 a0 (wrap64 ((a0.size : Int) - 1)) (x5_2 ++ [(((t228 * 16) % 256) + t229) % 256]) (wrap64 (x6_2 + 4))) else (none))) else (none)) else (none)) = some (r1, r2) := by first | (rw [hji67] at H; exact H) | (simp only [hji67] at H ⊢; exact H)
                                          (try rw [hji67] at A66)
                                          have hji67w : (IntKind.i64.wrap (x6_2 + 3)) = ji67 := (i64_w _).trans hji67
                                          by_cases c68 : 0 ≤ (ji67)
                                          · rw [if_pos c68] at H
                                            have c68b0 : decide (0 ≤ (ji67)) = true := decide_eq_true c68
                                            clear c68
                                            by_cases c69 : (ji67) < (a0.size : Int)
                                            · rw [if_pos c69] at H
                                              have c69b0 : decide ((ji67) < (a0.size : Int)) = true := decide_eq_true c69
                                              clear c69
                                              replace H := Option.bind_eq_some_iff.mp H
                                              obtain ⟨t229, A710, H⟩ := H
                                              replace H : (if x5_2.length < 140737488355328 then (rundleref01_Unquote.l0 kj42 a0 (wrap64 ((a0.size : Int) - 1)) (x5_2 ++ [(((t228 * 16) % 256) + t229) % 256]) (wrap64 (x6_2 + 4))) else (none)) = some (r1, r2) := H
                                              have A71 := Aside0.mk A710
                                              clear A710
                                              by_cases c72 : x5_2.length < 140737488355328
                                              · rw [if_pos c72] at H
                                                have LMc72 := Aside0.mk c72
                                                clear c72
                                                obtain ⟨y230, hy230⟩ : ∃ y_ : List Int, y_ = (x5_2 ++ [(((t228 * 16) % 256) + t229) % 256]) := ⟨_, rfl⟩
                                                replace H : (rundleref01_Unquote.l0 kj42 a0 (wrap64 ((a0.size : Int) - 1)) y230 (wrap64 (x6_2 + 4))) = some (r1, r2) := by first | (rw [hy230]; with_reducible exact H) | (have H2_ := (Option.bind_some _ _).symm.trans H; rw [hy230]; with_reducible exact H2_) | (have H2_ := (Option.bind_some _ _).symm.trans H; with_reducible exact H2_) | with_reducible exact H | (rw [hy230]; exact H) | exact H
                                                have Ny230 := Aside0.mk hy230
                                                clear hy230
                                                have H' := Aside0.mk H
                                                clear H
                                                try go_wp2
                                                have n0_ := Aside0.mk (Kd.R_drew HO_5.out)
                                                have n1_ := Aside0.mk (below_drew1 HB.out)
                                                clear HO_5
                                                clear HB
                                                have HO_5 := n0_
                                                have HB := n1_
                                                clear n0_ n1_
                                                have p65 : 0 ≤ ((ji62) : Int) := of_decide_eq_true (by first | (with_reducible assumption) | assumption)
                                                have q65 : (ji62) < (a0.size : Int) := of_decide_eq_true (by first | (with_reducible assumption) | assumption)
                                                have hx65 := bt_at a0 (ji62)
                                                replace p65 := eq_true p65
                                                replace q65 := eq_true q65
                                                have p70 : 0 ≤ ((ji67) : Int) := of_decide_eq_true (by first | (with_reducible assumption) | assumption)
                                                have q70 : (ji67) < (a0.size : Int) := of_decide_eq_true (by first | (with_reducible assumption) | assumption)
                                                have hx70 := bt_at a0 (ji67)
                                                replace p70 := eq_true p70
                                                replace q70 := eq_true q70
                                                refine start_ (n := 16) (S := fun w' => True) (ds := []) #[false, false, false, false, false, false, false, false, false, false, false, false, false, false, false, false] (by kernel_rfl) rfl rfl trivial (fun hHeld => ?_); refine with_tabW rundleref01_Unquote.tab17 rundleref01_Unquote.bits17 (fun HT_ HW_ => ?_)
                                                generalize wc.drew = w73 at HO_5 HB hHeld ⊢
                                                refine pure_ (i := 0) (N := some 113) (v := ?_) (a' := ?_) #[true, false, false, false, false, false, false, false, false, false, false, false, false, false, false, false] rfl rfl (any_of HT_.out (by kernel_rfl)) (fun _ _ _ h => h) (Or.inl ⟨by rfl, ?_⟩) ?_ ?_
                                                rotate_left
                                                · intro w'
                                                  go_simp
                                                  with_reducible rfl
                                                rotate_left
                                                · simp only [Act.put, List.setIfInBounds_toArray, List.set_cons_zero, List.set_cons_succ, i64_w, i32_w]
                                                  rfl
                                                refine pure_ (i := 1) (N := some 114) (v := ?_) (a' := ?_) #[true, true, false, false, false, false, false, false, false, false, false, false, false, false, false, false] rfl rfl (any_of HT_.out (by kernel_rfl)) (fun _ _ _ h => h) (Or.inl ⟨by rfl, ?_⟩) ?_ ?_
                                                rotate_left
                                                · intro w'
                                                  go_simp
                                                  with_reducible rfl
                                                rotate_left
                                                · simp only [Act.put, List.setIfInBounds_toArray, List.set_cons_zero, List.set_cons_succ, i64_w, i32_w]
                                                  rfl
                                                refine pure_ (i := 2) (N := some 115) (v := ?_) (a' := ?_) #[true, true, true, false, false, false, false, false, false, false, false, false, false, false, false, false] rfl rfl (any_of HT_.out (by kernel_rfl)) (fun _ _ _ h => h) (Or.inl ⟨by rfl, ?_⟩) ?_ ?_
                                                rotate_left
                                                · intro w'
                                                  go_simp
                                                  with_reducible rfl
                                                rotate_left
                                                · simp only [Act.put, List.setIfInBounds_toArray, List.set_cons_zero, List.set_cons_succ, i64_w, i32_w]
                                                  rfl
                                                refine pure_ (i := 3) (N := some 116) (v := ?_) (a' := ?_) #[true, true, true, true, false, false, false, false, false, false, false, false, false, false, false, false] rfl rfl (any_of HT_.out (by kernel_rfl)) (fun _ _ _ h => h) (Or.inl ⟨by rfl, ?_⟩) ?_ ?_
                                                rotate_left
                                                · intro w'
                                                  go_simp
                                                  with_reducible rfl
                                                rotate_left
                                                · simp only [Act.put, List.setIfInBounds_toArray, List.set_cons_zero, List.set_cons_succ, i64_w, i32_w]
                                                  rfl
                                                refine pure_ (i := 7) (N := some 120) (v := ?_) (a' := ?_) #[true, true, true, true, false, false, false, true, false, false, false, false, false, false, false, false] rfl rfl (any_of HT_.out (by kernel_rfl)) (fun _ _ _ h => h) (Or.inl ⟨by rfl, ?_⟩) ?_ ?_
                                                rotate_left
                                                · intro w'
                                                  go_simp
                                                  with_reducible rfl
                                                rotate_left
                                                · simp only [Act.put, List.setIfInBounds_toArray, List.set_cons_zero, List.set_cons_succ, i64_w, i32_w]
                                                  rfl
                                                refine pure_ (i := 8) (N := some 121) (v := ?_) (a' := ?_) #[true, true, true, true, false, false, false, true, true, false, false, false, false, false, false, false] rfl rfl (any_of HT_.out (by kernel_rfl)) (fun _ _ _ h => h) (Or.inl ⟨by rfl, ?_⟩) ?_ ?_
                                                rotate_left
                                                · intro w'
                                                  go_simp
                                                  with_reducible rfl
                                                rotate_left
                                                · simp only [Act.put, List.setIfInBounds_toArray, List.set_cons_zero, List.set_cons_succ, i64_w, i32_w]
                                                  rfl
                                                refine pure_ (i := 9) (N := some 122) (v := ?_) (a' := ?_) #[true, true, true, true, false, false, false, true, true, true, false, false, false, false, false, false] rfl rfl (any_of HT_.out (by kernel_rfl)) (fun _ _ _ h => h) (Or.inl ⟨by rfl, ?_⟩) ?_ ?_
                                                rotate_left
                                                · intro w'
                                                  go_simp
                                                  with_reducible rfl
                                                rotate_left
                                                · simp only [Act.put, List.setIfInBounds_toArray, List.set_cons_zero, List.set_cons_succ, i64_w, i32_w]
                                                  rfl
                                                refine take_ (i := 4) (N := some 117) (v := ?_) (a' := ?_) #[true, true, true, true, true, false, false, true, true, true, false, false, false, false, false, false] rfl rfl (take_ofW HT_.out HW_.out (by kernel_rfl)) (fun _ _ _ h => h) (Or.inl ⟨by rfl, ?_⟩) hHeld ?_ ?_
                                                rotate_left
                                                · intro w' _
                                                  go_simp
                                                  with_reducible rfl
                                                rotate_left
                                                · simp only [Act.put, List.setIfInBounds_toArray, List.set_cons_zero, List.set_cons_succ, i64_w, i32_w]
                                                  rfl
                                                refine take_ (i := 10) (N := some 123) (v := ?_) (a' := ?_) #[true, true, true, true, true, false, false, true, true, true, true, false, false, false, false, false] rfl rfl (take_ofW HT_.out HW_.out (by kernel_rfl)) (fun _ _ _ h => h) (Or.inl ⟨by rfl, ?_⟩) hHeld ?_ ?_
                                                rotate_left
                                                · intro w' _
                                                  go_simp
                                                  with_reducible rfl
                                                rotate_left
                                                · simp only [Act.put, List.setIfInBounds_toArray, List.set_cons_zero, List.set_cons_succ, i64_w, i32_w]
                                                  rfl
                                                refine one_ (i := 5) (N := some 118) #[true, true, true, true, true, true, false, true, true, true, true, false, false, false, false, false] rfl rfl (one_of HT_.out (by kernel_rfl)) (by decide) (fun K hK => ?_)
                                                refine goes_ Tryd.func86 (by kernel_rfl) rfl #[.int .u8 (bt a0 (ji62))] (by rfl) rfl rfl (by (try simp only [List.map_toArray, List.map_cons, List.map_nil]); first | done | (simp only [hji62]; rfl) | rfl | (simp only [List.length_drop, List.length_take]; rfl)) ?_
                                                with_reducible refine (rundleref01_number.calls kj42 (bt a0 (ji62)) t228 _ A66.out).mono ?_
                                                rintro e w' ⟨rfl, ⟨nd, rfl⟩⟩
                                                refine ⟨_, rfl, ?_⟩
                                                refine hK.out _ _ trivial (fun hHeld => ?_)
                                                clear hK K
                                                refine norm_ (a' := ?_) ?_ ?_
                                                rotate_left
                                                · show Act.put _ (some 118) _ = _
                                                  simp only [Act.put, List.setIfInBounds_toArray, List.set_cons_zero, List.set_cons_succ, i64_w, i32_w]
                                                  rfl
                                                refine pure_ (i := 6) (N := some 119) (v := ?_) (a' := ?_) #[true, true, true, true, true, true, true, true, true, true, true, false, false, false, false, false] rfl rfl (any_of HT_.out (by kernel_rfl)) (fun _ _ _ h => h) (Or.inl ⟨by rfl, ?_⟩) ?_ ?_
                                                rotate_left
                                                · intro w'
                                                  go_simp
                                                  with_reducible rfl
                                                rotate_left
                                                · simp only [Act.put, List.setIfInBounds_toArray, List.set_cons_zero, List.set_cons_succ, i64_w, i32_w]
                                                  rfl
                                                refine one_ (i := 11) (N := some 124) #[true, true, true, true, true, true, true, true, true, true, true, true, false, false, false, false] rfl rfl (one_of HT_.out (by kernel_rfl)) (by decide) (fun K hK => ?_)
                                                refine goes_ Tryd.func86 (by kernel_rfl) rfl #[.int .u8 (bt a0 (ji67))] (by rfl) rfl rfl (by (try simp only [List.map_toArray, List.map_cons, List.map_nil]); first | done | (simp only [hji67]; rfl) | rfl | (simp only [List.length_drop, List.length_take]; rfl)) ?_
                                                with_reducible refine (rundleref01_number.calls kj42 (bt a0 (ji67)) t229 _ A71.out).mono ?_
                                                rintro e w' ⟨rfl, ⟨nd, rfl⟩⟩
                                                refine ⟨_, rfl, ?_⟩
                                                refine hK.out _ _ trivial (fun hHeld => ?_)
                                                clear hK K
                                                refine norm_ (a' := ?_) ?_ ?_
                                                rotate_left
                                                · show Act.put _ (some 124) _ = _
                                                  simp only [Act.put, List.setIfInBounds_toArray, List.set_cons_zero, List.set_cons_succ, i64_w, i32_w]
                                                  rfl
                                                refine pure_ (i := 12) (N := some 125) (v := ?_) (a' := ?_) #[true, true, true, true, true, true, true, true, true, true, true, true, true, false, false, false] rfl rfl (any_of HT_.out (by kernel_rfl)) (fun _ _ _ h => h) (Or.inl ⟨by rfl, ?_⟩) ?_ ?_
                                                rotate_left
                                                · intro w'
                                                  go_simp
                                                  with_reducible rfl
                                                rotate_left
                                                · simp only [Act.put, List.setIfInBounds_toArray, List.set_cons_zero, List.set_cons_succ, i64_w, i32_w]
                                                  rfl
                                                refine one_ (i := 13) (N := some 126) #[true, true, true, true, true, true, true, true, true, true, true, true, true, true, false, false] rfl rfl (one_of HT_.out (by kernel_rfl)) (by decide) (fun K hK => ?_)
                                                refine value_ (w1 := ?_) (v := ?_) (by rfl) rfl ?_ ?_
                                                rotate_left 2
                                                · go_simp
                                                  constructor
                                                  · rfl
                                                  · rfl
                                                refine hK.out _ _ trivial (fun hHeld => ?_)
                                                clear hK K
                                                refine norm_ (a' := ?_) ?_ ?_
                                                rotate_left
                                                · show Act.put _ (some 126) _ = _
                                                  simp only [Act.put, List.setIfInBounds_toArray, List.set_cons_zero, List.set_cons_succ, i64_w, i32_w]
                                                  rfl
                                                refine one_ (i := 14) (N := some 127) #[true, true, true, true, true, true, true, true, true, true, true, true, true, true, true, false] rfl rfl (one_of HT_.out (by kernel_rfl)) (by decide) (fun K hK => ?_)
                                                refine Kd.R_append_step (Kd.int .u8) (w0 := w) w.heap.size (by rfl) (.tmp 113) (.tmp 126) 120 5 (.int .u8 0) 1 rfl Tryd.underlying120 info5 rfl (by decide) (by omega) u5 x5_2 ((((t228 * 16) % 256) + t229) % 256) [.int .u8 ((((t228 * 16) % 256) + t229) % 256)] (fun _ => True) (fun _ => False) rfl rfl ?aP (fun _ hk => hk.elim) ?aF ?aO ?aB ?aS ?aL ?_
                                                (case aP => exact rfl)
                                                (case aB => exact (by repeat (first | (with_reducible first | exact HB.out | apply below_alloc | apply pw_below_drewN | apply below_drew1) | exact HB.out)))
                                                (case aF => exact (fun _ _ => trivial))
                                                (case aO => exact (by (with_reducible repeat (first | apply Kd.R_alloc | apply Kd.R_drewN | apply Kd.R_drew)); exact HO_5.out))
                                                (case aS => exact (below_size (by repeat (first | (with_reducible first | exact HB.out | apply below_alloc | apply pw_below_drewN | apply below_drew1) | exact HB.out))))
                                                (case aL => have := LMc72.out; omega)
                                                intro v231 w74 ho hb hg hat
                                                rw [← Ny230.out] at ho
                                                have n0_ := Aside0.mk (hb)
                                                have n1_ := Aside0.mk (ho)
                                                clear HB
                                                clear HO_5
                                                have HB := n0_
                                                have HO232 := n1_
                                                clear n0_ n1_
                                                clear ho hb hg hat
                                                refine hK.out _ _ trivial (fun hHeld => ?_)
                                                clear hK K
                                                refine norm_ (a' := ?_) ?_ ?_
                                                rotate_left
                                                · show Act.put _ (some 127) _ = _
                                                  simp only [Act.put, List.setIfInBounds_toArray, List.set_cons_zero, List.set_cons_succ, i64_w, i32_w]
                                                  rfl
                                                refine pure_ (i := 15) (N := some 5) (v := ?_) (a' := ?_) #[true, true, true, true, true, true, true, true, true, true, true, true, true, true, true, true] rfl rfl (any_of HT_.out (by kernel_rfl)) (fun _ _ _ h => h) (Or.inl ⟨by rfl, ?_⟩) ?_ ?_
                                                rotate_left
                                                · intro w'
                                                  go_simp
                                                  with_reducible rfl
                                                rotate_left
                                                · simp only [Act.put, List.setIfInBounds_toArray, List.set_cons_zero, List.set_cons_succ, i64_w, i32_w]
                                                  rfl
                                                refine done_ (done_of HT_.out (by kernel_rfl)) ?_
                                                try go_wp2
                                                go_roundg kj42
                                                case measure => have := HJ1.out; have := HK2.out; have := HJ14.out; have := HJ27.out; have := HJ42.out; omega
                                                case rel => exact ⟨(y230), (wrap64 (x6_2 + 4)), (by first | rfl | (simp; done) | (simp [*]; done)), H', ⟨by have := HJ1.out; have := HK2.out; have := HJ14.out; have := HJ27.out; have := HJ42.out; omega⟩, ⟨by (with_reducible repeat (first | apply Kd.R_alloc | apply Kd.R_drewN | apply Kd.R_drew)); exact HO232.out⟩, ⟨by repeat (first | (with_reducible first | exact HB.out | apply below_alloc | apply pw_below_drewN | apply below_drew1) | exact HB.out)⟩⟩
                                              · rw [if_neg c72] at H
                                                exact absurd H (by simp)
                                            · rw [if_neg c69] at H
                                              exact absurd H (by simp)
                                          · rw [if_neg c68] at H
                                            exact absurd H (by simp)
                                        · rw [if_neg c64] at H
                                          exact absurd H (by simp)
                                      · rw [if_neg c63] at H
                                        exact absurd H (by simp)
                        · rw [if_neg c27] at H
                          have c27b0 : ((bt a0 x6_2) == 92) = false := beq_eq_false_iff_ne.mpr c27
                          have c27b1 : ((bt a0 x6_2) != 92) = true := bne_iff_ne.mpr c27
                          by_cases c76 : x5_2.length < 140737488355328
                          · rw [if_pos c76] at H
                            have LMc76 := Aside0.mk c76
                            clear c76
                            obtain ⟨y220, hy220⟩ : ∃ y_ : List Int, y_ = (x5_2 ++ [bt a0 x6_2]) := ⟨_, rfl⟩
                            replace H : (rundleref01_Unquote.l0 kj14 a0 (wrap64 ((a0.size : Int) - 1)) y220 (wrap64 (x6_2 + 1))) = some (r1, r2) := by first | (rw [hy220]; with_reducible exact H) | (have H2_ := (Option.bind_some _ _).symm.trans H; rw [hy220]; with_reducible exact H2_) | (have H2_ := (Option.bind_some _ _).symm.trans H; with_reducible exact H2_) | with_reducible exact H | (rw [hy220]; exact H) | exact H
                            have Ny220 := Aside0.mk hy220
                            clear hy220
                            have H' := Aside0.mk H
                            clear H
                            have p26 : 0 ≤ (x6_2 : Int) := of_decide_eq_true (by first | (with_reducible assumption) | assumption)
                            have q26 : x6_2 < (a0.size : Int) := of_decide_eq_true (by first | (with_reducible assumption) | assumption)
                            have hx26 := bt_at a0 x6_2
                            replace p26 := eq_true p26
                            replace q26 := eq_true q26
                            have p75 : 0 ≤ (x6_2 : Int) := of_decide_eq_true (by first | (with_reducible assumption) | assumption)
                            have q75 : x6_2 < (a0.size : Int) := of_decide_eq_true (by first | (with_reducible assumption) | assumption)
                            have hx75 := bt_at a0 x6_2
                            replace p75 := eq_true p75
                            replace q75 := eq_true q75
                            go_wp2_with (first | ((with_reducible refine gate_builtin (b := .append) (xs := #[.tmp 51, .tmp 55]) rfl ?_); at_builtin; refine Kd.R_append (Kd.int .u8) (w0 := w) w.heap.size rfl (.tmp 51) (.tmp 55) 120 5 (.int .u8 0) 1 rfl Tryd.underlying120 info5 rfl (by decide) (by omega) u5 x5_2 (bt a0 x6_2) [.int .u8 (bt a0 x6_2)] (fun _ => True) (fun _ => False) rfl rfl ?aP (fun _ hk => hk.elim) ?aF ?aO ?aB ?aS ?aL ?_; (case aP => exact rfl); (case aB => exact (by repeat (first | (with_reducible first | exact HB.out | apply below_alloc | apply pw_below_drewN | apply below_drew1) | exact HB.out))); (case aF => exact (fun _ _ => trivial)); (case aO => exact (by (with_reducible repeat (first | apply Kd.R_alloc | apply Kd.R_drewN | apply Kd.R_drew)); exact HO_5.out)); (case aS => exact (below_size (by repeat (first | (with_reducible first | exact HB.out | apply below_alloc | apply pw_below_drewN | apply below_drew1) | exact HB.out)))); (case aL => have := LMc76.out; omega); intro v221 w77 ho hb hg hat; rw [← Ny220.out] at ho; have n0_ := Aside0.mk (hb); have n1_ := Aside0.mk (ho); clear HB; clear HO_5; have HB := n0_; have HO222 := n1_; clear n0_ n1_; clear ho hb hg hat))
                            go_roundg kj14
                            case measure => have := HJ1.out; have := HK2.out; have := HJ14.out; omega
                            case rel => exact ⟨(y220), (wrap64 (x6_2 + 1)), (by first | rfl | (simp; done) | (simp [*]; done)), H', ⟨by have := HJ1.out; have := HK2.out; have := HJ14.out; omega⟩, ⟨by (with_reducible repeat (first | apply Kd.R_alloc | apply Kd.R_drewN | apply Kd.R_drew)); exact HO222.out⟩, ⟨by repeat (first | (with_reducible first | exact HB.out | apply below_alloc | apply pw_below_drewN | apply below_drew1) | exact HB.out)⟩⟩
                          · rw [if_neg c76] at H
                            exact absurd H (by simp)
                      · rw [if_neg c25] at H
                        exact absurd H (by simp)
                    · rw [if_neg c24] at H
                      exact absurd H (by simp)
            · rw [if_neg c14] at H
              have c14b0 : decide (x6_2 < (wrap64 ((a0.size : Int) - 1))) = false := decide_eq_false c14
              clear c14
              simp only [Option.some.injEq, Prod.mk.injEq] at H
              obtain ⟨rfl, rfl⟩ := H
              have hcv78 := own_string (P := Tryd.prog) Tryd.underlying120 Tryd.underlying5 Tryd.underlying9 (Kd.own_of_R HO_5.out)
              go_wp2
              go_ret2
              exact ⟨by first | rfl | (simp [errW_none, errW_some] <;> rfl) | (simp [*, errW_none, errW_some] <;> rfl), by repeat (first | (with_reducible first | exact HB.out | apply below_alloc | apply pw_below_drewN | apply below_drew1) | exact HB.out)⟩

end Go.Proofs.YthfcgcbolbmdcaaDoor.PR
