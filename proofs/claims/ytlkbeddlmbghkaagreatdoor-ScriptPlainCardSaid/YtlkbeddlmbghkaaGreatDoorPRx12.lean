/- Functions with the same answers as the Go functions named, and that the Go code comes to just these; written by a program of this work, out of the kit's print. -/
import Derived.Test.YtlkbeddlmbghkaaGreatDoorPRx0
namespace Go.Proofs.YtlkbeddlmbghkaaGreatDoor.PR
open Go.RowKit Go.Proofs.YtlkbeddlmbghkaaGreatDoorW.PrintWords Go.Proofs.YtlkbeddlmbghkaaGreatDoorW.PrintLast Go.Proofs.YtlkbeddlmbghkaaGreatDoorW.PrintMore
attribute [local go_sem] Wd.one Wd.run_store Go.Lib.run_max_strs max2_int min2_int max_two min_two max_three min_three max_four min_four   -- for this text's walks alone
set_option linter.unusedVariables false
set_option linter.unusedSimpArgs false

/-! ### rundlelaw26_long: function 23 -/
mutual
def rundlelaw26_long.l0 : Nat → List (S58) → Int → Int → Option (Bool)
 | 0, _, _, _ => none
 | k + 1, x0, x3, x4 => if x4 < (x0.length : Int) then (rundlelaw26_long.j1 k x0 x3 x4 (decide (x3 ≤ 30000))) else (rundlelaw26_long.j1 k x0 x3 x4 false)
def rundlelaw26_long.j1 : Nat → List (S58) → Int → Int → Bool → Option (Bool)
 | 0, _, _, _, _ => none
 | k + 1, x0, x3, x4, x17 => if x17 = true then (if 0 ≤ x4 then (if x4 < (x0.length : Int) then (rundlelaw26_long.l1 k x0 (wrap64 ((wrap64 ((wrap64 ((wrap64 ((wrap64 (x3 + (mn (((rd_T58 x0 x4).f3.f1).size : Int) 30001))) + (mn (((rd_T58 x0 x4).f3.f2).size : Int) 30001))) + (mn (((rd_T58 x0 x4).f3.f4).size : Int) 30001))) + (mn (((rd_T58 x0 x4).f3.f5).size : Int) 30001))) + (20 * (mn (((rd_T58 x0 x4).f3.f3).length : Int) 1501)))) x4 0 ((rd_T58 x0 x4).f3.f0) ((rd_T58 x0 x4).f3.f1) ((rd_T58 x0 x4).f3.f2) ((rd_T58 x0 x4).f3.f3) ((rd_T58 x0 x4).f3.f4) ((rd_T58 x0 x4).f3.f5) ((rd_T58 x0 x4).f3.f6) ((rd_T58 x0 x4).f3.f7) ((rd_T58 x0 x4).f3.f8) ((rd_T58 x0 x4).f3.f9) ((rd_T58 x0 x4).f3.f10)) else (none)) else (none)) else (some (decide (x3 > 30000)))
def rundlelaw26_long.l1 : Nat → List (S58) → Int → Int → Int → Int → ByteArray → ByteArray → List (S93) → ByteArray → ByteArray → Bool → Int → Int → Int → Int → Option (Bool)
 | 0, _, _, _, _, _, _, _, _, _, _, _, _, _, _, _ => none
 | k + 1, x0, x3, x4, x6, x347000, x347001, x347002, x347003, x347004, x347005, x347006, x347007, x347008, x347009, x347010 => if x6 < (x347003.length : Int) then (if x3 ≤ 30000 then (if 0 ≤ x6 then (rundlelaw26_long.l1 k x0 (wrap64 ((wrap64 (x3 + (mn (((rd_T93 x347003 x6).f0).size : Int) 30001))) + (mn (((rd_T93 x347003 x6).f1).size : Int) 30001))) x4 (wrap64 (x6 + 1)) x347000 x347001 x347002 x347003 x347004 x347005 x347006 x347007 x347008 x347009 x347010) else (none)) else (rundlelaw26_long.l0 k x0 x3 (wrap64 (x4 + 1)))) else (rundlelaw26_long.l0 k x0 x3 (wrap64 (x4 + 1)))
end
def rundlelaw26_long.f (k : Nat) (l0 : List (S58)) : Option (Bool) := if (l0.length : Int) > 60 then (some true) else (rundlelaw26_long.l0 k l0 0 0)
theorem rundlelaw26_long.mono_l : ∀ k, (∀ y0 y1 y2, LeO (rundlelaw26_long.l0 k y0 y1 y2) (rundlelaw26_long.l0 (k + 1) y0 y1 y2)) ∧ (∀ y0 y1 y2 y3, LeO (rundlelaw26_long.j1 k y0 y1 y2 y3) (rundlelaw26_long.j1 (k + 1) y0 y1 y2 y3)) ∧ (∀ y0 y1 y2 y3 y4 y5 y6 y7 y8 y9 y10 y11 y12 y13 y14, LeO (rundlelaw26_long.l1 k y0 y1 y2 y3 y4 y5 y6 y7 y8 y9 y10 y11 y12 y13 y14) (rundlelaw26_long.l1 (k + 1) y0 y1 y2 y3 y4 y5 y6 y7 y8 y9 y10 y11 y12 y13 y14))
 | 0 => ⟨fun _ _ _ r h => by simp [rundlelaw26_long.l0] at h, fun _ _ _ _ r h => by simp [rundlelaw26_long.j1] at h, fun _ _ _ _ _ _ _ _ _ _ _ _ _ _ _ r h => by simp [rundlelaw26_long.l1] at h⟩
 | k + 1 => by
  obtain ⟨ih0, ih1, ih2⟩ := rundlelaw26_long.mono_l k
  refine ⟨?_, ?_, ?_⟩
  ·
   intro y0 y1 y2
   unfold rundlelaw26_long.l0
   repeat' first
   | (with_reducible exact ih0 _ _ _)
   | (with_reducible exact ih1 _ _ _ _)
   | (with_reducible exact ih2 _ _ _ _ _ _ _ _ _ _ _ _ _ _ _)
   | (with_reducible exact LeO.refl _)
   | (with_reducible exact LeO.none _)
   | (with_reducible refine LeO.ite ?_ ?_)
   | (with_reducible refine LeO.bind ?_ (fun _ => ?_))
   | exact ih0 _ _ _
   | exact ih1 _ _ _ _
   | exact ih2 _ _ _ _ _ _ _ _ _ _ _ _ _ _ _
   | exact LeO.none _
   | refine LeO.ite ?_ ?_
   | refine LeO.bind ?_ (fun _ => ?_)
  ·
   intro y0 y1 y2 y3
   unfold rundlelaw26_long.j1
   repeat' first
   | (with_reducible exact ih0 _ _ _)
   | (with_reducible exact ih1 _ _ _ _)
   | (with_reducible exact ih2 _ _ _ _ _ _ _ _ _ _ _ _ _ _ _)
   | (with_reducible exact LeO.refl _)
   | (with_reducible exact LeO.none _)
   | (with_reducible refine LeO.ite ?_ ?_)
   | (with_reducible refine LeO.bind ?_ (fun _ => ?_))
   | exact ih0 _ _ _
   | exact ih1 _ _ _ _
   | exact ih2 _ _ _ _ _ _ _ _ _ _ _ _ _ _ _
   | exact LeO.none _
   | refine LeO.ite ?_ ?_
   | refine LeO.bind ?_ (fun _ => ?_)
  ·
   intro y0 y1 y2 y3 y4 y5 y6 y7 y8 y9 y10 y11 y12 y13 y14
   unfold rundlelaw26_long.l1
   repeat' first
   | (with_reducible exact ih0 _ _ _)
   | (with_reducible exact ih1 _ _ _ _)
   | (with_reducible exact ih2 _ _ _ _ _ _ _ _ _ _ _ _ _ _ _)
   | (with_reducible exact LeO.refl _)
   | (with_reducible exact LeO.none _)
   | (with_reducible refine LeO.ite ?_ ?_)
   | (with_reducible refine LeO.bind ?_ (fun _ => ?_))
   | exact ih0 _ _ _
   | exact ih1 _ _ _ _
   | exact ih2 _ _ _ _ _ _ _ _ _ _ _ _ _ _ _
   | exact LeO.none _
   | refine LeO.ite ?_ ?_
   | refine LeO.bind ?_ (fun _ => ?_)
theorem rundlelaw26_long.mono : ∀ a0 k, LeO (rundlelaw26_long.f k a0) (rundlelaw26_long.f (k + 1) a0) := by
 intro a0 k
 obtain ⟨ih0, ih1, ih2⟩ := rundlelaw26_long.mono_l k
 unfold rundlelaw26_long.f
 repeat' first
   | (with_reducible exact ih0 _ _ _)
   | (with_reducible exact ih1 _ _ _ _)
   | (with_reducible exact ih2 _ _ _ _ _ _ _ _ _ _ _ _ _ _ _)
   | (with_reducible exact LeO.refl _)
   | (with_reducible exact LeO.none _)
   | (with_reducible refine LeO.ite ?_ ?_)
   | (with_reducible refine LeO.bind ?_ (fun _ => ?_))
   | exact ih0 _ _ _
   | exact ih1 _ _ _ _
   | exact ih2 _ _ _ _ _ _ _ _ _ _ _ _ _ _ _
   | exact LeO.none _
   | refine LeO.ite ?_ ?_
   | refine LeO.bind ?_ (fun _ => ?_)
set_option maxHeartbeats 8000000 in
set_option maxRecDepth 100000 in
theorem rundlelaw26_long.calls (k : Nat) (A0 : Option Addr) (c0 : Nat) (l0 : List (S58)) (r : Bool) (w : World) (hr0 : Kd.C k58 w A0 l0.length l0) (hc0 : l0.length ≤ c0) (h : rundlelaw26_long.f k l0 = some r) :
  Calls Tryz.prog 23 #[.slice A0 l0.length c0] w fun e w' => e = .returned (.bool r) ∧ Below w.heap.size w w' := by
 have hu52 := Tryz.underlying52
 have HR0 := Aside0.mk hr0
 have HC0 := Aside0.mk hc0
 clear hr0 hc0
 have HB := Aside0.mk (Below.refl w.heap.size w)
 have H : (if (l0.length : Int) > 60 then (some true) else (rundlelaw26_long.l0 k l0 0 0)) = some r := h
 clear h
 by_cases c2 : (l0.length : Int) > 60
 ·
  rw [if_pos c2] at H
  have c2b0 : decide (60 < (l0.length : Int)) = true := decide_eq_true c2
  have c2b1 : decide (60 < l0.length) = true := decide_eq_true (by omega)
  clear c2
  obtain rfl := Option.some.inj H
  go_enter Tryz.func23, Tryz.ntmps23
  go_wp2
  repeat (go_quiet (fail); try go_wp2)
  go_ret
  exact ⟨by first | rfl | (simp [errW_none, errW_some] <;> rfl) | (simp [*, errW_none, errW_some] <;> rfl), by repeat (first | (with_reducible first | exact HB.out | apply below_alloc | apply pw_below_drewN | apply below_drew1) | exact HB.out)⟩
 ·
  rw [if_neg c2] at H
  have c2b0 : decide (60 < (l0.length : Int)) = false := decide_eq_false c2
  have c2b1 : decide (60 < l0.length) = false := decide_eq_false (by omega)
  clear c2
  have H' := Aside0.mk H
  clear H
  go_enter Tryz.func23, Tryz.ntmps23
  go_wp2
  repeat (go_quiet (fail); try go_wp2)
  go_loopg [3, 4] k (fun kq v3 v4 w' => ∃ (x3_1 : Int) (x4_1 : Int), v3 = .int .i64 x3_1 ∧ v4 = .int .i64 x4_1 ∧ Aside0 (rundlelaw26_long.l0 kq l0 x3_1 x4_1 = some r) ∧ Aside0 (kq ≤ k) ∧ Aside0 (Below w.heap.size w w'))
  case atStart => exact ⟨(0), (0), (by first | rfl | (simp; done) | (simp [*]; done)), (by first | rfl | (simp; done) | (simp [*]; done)), H', ⟨Nat.le_refl _⟩, ⟨by repeat (first | (with_reducible first | exact HB.out | apply below_alloc | apply pw_below_drewN | apply below_drew1) | exact HB.out)⟩⟩
  case round =>
   clear H'
   try clear c2
   try clear c2b0
   try clear c2b1
   try clear p2
   obtain ⟨x3_1, x4_1, rfl, rfl, HA, HK1, HB⟩ := hrel
   cases gk with
   | zero => exact absurd HA.out (by simp [rundlelaw26_long.l0])
   | succ k1 =>
    have H := HA.out
    clear HA
    simp only [rundlelaw26_long.l0] at H
    have HC3 := Aside0.mk H
    clear H
    go_upto_region 5 with (fail)
    repeat (go_quiet (fail); go_upto_region 5 with (fail))
    go_cut [17] (fun v17 wc => ∃ (kq : Nat) (x17_2 : Bool), v17 = .bool x17_2 ∧ Aside0 (rundlelaw26_long.j1 kq l0 x3_1 x4_1 x17_2 = some r) ∧ Aside0 (kq ≤ k1) ∧ Aside0 (Below w.heap.size w wc))
    case first =>
     have H := HC3.out
     clear HC3
     by_cases c4 : x4_1 < (l0.length : Int)
     ·
      rw [if_pos c4] at H
      have c4b0 : decide (x4_1 < (l0.length : Int)) = true := decide_eq_true c4
      clear c4
      (first | rw [c4b0] | (simp only [i64_w, i32_w]; rw [c4b0]) | skip)
      have H' := Aside0.mk H
      clear H
      go_wp2
      repeat (go_quiet (fail); try go_wp2)
      go_meet
      case rel => exact ⟨_, (decide (x3_1 ≤ 30000)), (by first | rfl | (simp; done) | (simp [*]; done)), H', ⟨by have := HK1.out; first | omega | exact Nat.le_refl _⟩, ⟨by repeat (first | (with_reducible first | exact HB.out | apply below_alloc | apply pw_below_drewN | apply below_drew1) | exact HB.out)⟩⟩
     ·
      rw [if_neg c4] at H
      have c4b0 : decide (x4_1 < (l0.length : Int)) = false := decide_eq_false c4
      clear c4
      (first | rw [c4b0] | (simp only [i64_w, i32_w]; rw [c4b0]) | skip)
      have H' := Aside0.mk H
      clear H
      go_wp2
      repeat (go_quiet (fail); try go_wp2)
      go_meet
      case rel => exact ⟨_, (false), (by first | rfl | (simp; done) | (simp [*]; done)), H', ⟨by have := HK1.out; first | omega | exact Nat.le_refl _⟩, ⟨by repeat (first | (with_reducible first | exact HB.out | apply below_alloc | apply pw_below_drewN | apply below_drew1) | exact HB.out)⟩⟩
    case rest =>
     clear HC3
     try clear c2
     try clear c2b0
     try clear c2b1
     try clear p2
     try clear c4
     try clear c4b0
     try clear p2
     obtain ⟨kq, x17_2, rfl, HA, HJ2, HB⟩ := hcut
     cases kq with
     | zero => exact absurd HA.out (by simp [rundlelaw26_long.j1])
     | succ kj2 =>
      have H := HA.out
      clear HA
      simp only [rundlelaw26_long.j1] at H
      by_cases c5 : x17_2 = true
      ·
       subst c5
       have H1 : (if 0 ≤ x4_1 then (if x4_1 < (l0.length : Int) then (rundlelaw26_long.l1 kj2 l0 (wrap64 ((wrap64 ((wrap64 ((wrap64 ((wrap64 (x3_1 + (mn (((rd_T58 l0 x4_1).f3.f1).size : Int) 30001))) + (mn (((rd_T58 l0 x4_1).f3.f2).size : Int) 30001))) + (mn (((rd_T58 l0 x4_1).f3.f4).size : Int) 30001))) + (mn (((rd_T58 l0 x4_1).f3.f5).size : Int) 30001))) + (20 * (mn (((rd_T58 l0 x4_1).f3.f3).length : Int) 1501)))) x4_1 0 ((rd_T58 l0 x4_1).f3.f0) ((rd_T58 l0 x4_1).f3.f1) ((rd_T58 l0 x4_1).f3.f2) ((rd_T58 l0 x4_1).f3.f3) ((rd_T58 l0 x4_1).f3.f4) ((rd_T58 l0 x4_1).f3.f5) ((rd_T58 l0 x4_1).f3.f6) ((rd_T58 l0 x4_1).f3.f7) ((rd_T58 l0 x4_1).f3.f8) ((rd_T58 l0 x4_1).f3.f9) ((rd_T58 l0 x4_1).f3.f10)) else (none)) else (none)) = some r := by rw [if_pos rfl] at H; exact H
       clear H
       have H := H1
       clear H1
       by_cases c6 : 0 ≤ x4_1
       ·
        rw [if_pos c6] at H
        have c6b0 : decide (0 ≤ x4_1) = true := decide_eq_true c6
        clear c6
        by_cases c7 : x4_1 < (l0.length : Int)
        ·
         rw [if_pos c7] at H
         have c7b0 : decide (x4_1 < (l0.length : Int)) = true := decide_eq_true c7
         clear c7
         obtain ⟨ji8, hji8⟩ : ∃ j_ : Int, (mn (((rd_T58 l0 x4_1).f3.f1).size : Int) 30001) = j_ := ⟨_, rfl⟩
         replace H : (rundlelaw26_long.l1 kj2 l0 (wrap64 ((wrap64 ((wrap64 ((wrap64 ((wrap64 (x3_1 + (ji8))) + (mn (((rd_T58 l0 x4_1).f3.f2).size : Int) 30001))) + (mn (((rd_T58 l0 x4_1).f3.f4).size : Int) 30001))) + (mn (((rd_T58 l0 x4_1).f3.f5).size : Int) 30001))) + (20 * (mn (((rd_T58 l0 x4_1).f3.f3).length : Int) 1501)))) x4_1 0 ((rd_T58 l0 x4_1).f3.f0) ((rd_T58 l0 x4_1).f3.f1) ((rd_T58 l0 x4_1).f3.f2) ((rd_T58 l0 x4_1).f3.f3) ((rd_T58 l0 x4_1).f3.f4) ((rd_T58 l0 x4_1).f3.f5) ((rd_T58 l0 x4_1).f3.f6) ((rd_T58 l0 x4_1).f3.f7) ((rd_T58 l0 x4_1).f3.f8) ((rd_T58 l0 x4_1).f3.f9) ((rd_T58 l0 x4_1).f3.f10)) = some r := by first | (rw [hji8] at H; exact H) | (simp only [hji8] at H ⊢; exact H)
         have hji8_ : (if 30001 < (((rd_T58 l0 x4_1).f3.f1).size : Int) then 30001 else (((rd_T58 l0 x4_1).f3.f1).size : Int)) = ji8 := hji8
         obtain ⟨ji9, hji9⟩ : ∃ j_ : Int, (mn (((rd_T58 l0 x4_1).f3.f2).size : Int) 30001) = j_ := ⟨_, rfl⟩
         replace H : (rundlelaw26_long.l1 kj2 l0 (wrap64 ((wrap64 ((wrap64 ((wrap64 ((wrap64 (x3_1 + (ji8))) + (ji9))) + (mn (((rd_T58 l0 x4_1).f3.f4).size : Int) 30001))) + (mn (((rd_T58 l0 x4_1).f3.f5).size : Int) 30001))) + (20 * (mn (((rd_T58 l0 x4_1).f3.f3).length : Int) 1501)))) x4_1 0 ((rd_T58 l0 x4_1).f3.f0) ((rd_T58 l0 x4_1).f3.f1) ((rd_T58 l0 x4_1).f3.f2) ((rd_T58 l0 x4_1).f3.f3) ((rd_T58 l0 x4_1).f3.f4) ((rd_T58 l0 x4_1).f3.f5) ((rd_T58 l0 x4_1).f3.f6) ((rd_T58 l0 x4_1).f3.f7) ((rd_T58 l0 x4_1).f3.f8) ((rd_T58 l0 x4_1).f3.f9) ((rd_T58 l0 x4_1).f3.f10)) = some r := by first | (rw [hji9] at H; exact H) | (simp only [hji9] at H ⊢; exact H)
         have hji9_ : (if 30001 < (((rd_T58 l0 x4_1).f3.f2).size : Int) then 30001 else (((rd_T58 l0 x4_1).f3.f2).size : Int)) = ji9 := hji9
         obtain ⟨ji10, hji10⟩ : ∃ j_ : Int, (mn (((rd_T58 l0 x4_1).f3.f4).size : Int) 30001) = j_ := ⟨_, rfl⟩
         replace H : (rundlelaw26_long.l1 kj2 l0 (wrap64 ((wrap64 ((wrap64 ((wrap64 ((wrap64 (x3_1 + (ji8))) + (ji9))) + (ji10))) + (mn (((rd_T58 l0 x4_1).f3.f5).size : Int) 30001))) + (20 * (mn (((rd_T58 l0 x4_1).f3.f3).length : Int) 1501)))) x4_1 0 ((rd_T58 l0 x4_1).f3.f0) ((rd_T58 l0 x4_1).f3.f1) ((rd_T58 l0 x4_1).f3.f2) ((rd_T58 l0 x4_1).f3.f3) ((rd_T58 l0 x4_1).f3.f4) ((rd_T58 l0 x4_1).f3.f5) ((rd_T58 l0 x4_1).f3.f6) ((rd_T58 l0 x4_1).f3.f7) ((rd_T58 l0 x4_1).f3.f8) ((rd_T58 l0 x4_1).f3.f9) ((rd_T58 l0 x4_1).f3.f10)) = some r := by first | (rw [hji10] at H; exact H) | (simp only [hji10] at H ⊢; exact H)
         have hji10_ : (if 30001 < (((rd_T58 l0 x4_1).f3.f4).size : Int) then 30001 else (((rd_T58 l0 x4_1).f3.f4).size : Int)) = ji10 := hji10
         obtain ⟨ji11, hji11⟩ : ∃ j_ : Int, (mn (((rd_T58 l0 x4_1).f3.f5).size : Int) 30001) = j_ := ⟨_, rfl⟩
         replace H : (rundlelaw26_long.l1 kj2 l0 (wrap64 ((wrap64 ((wrap64 ((wrap64 ((wrap64 (x3_1 + (ji8))) + (ji9))) + (ji10))) + (ji11))) + (20 * (mn (((rd_T58 l0 x4_1).f3.f3).length : Int) 1501)))) x4_1 0 ((rd_T58 l0 x4_1).f3.f0) ((rd_T58 l0 x4_1).f3.f1) ((rd_T58 l0 x4_1).f3.f2) ((rd_T58 l0 x4_1).f3.f3) ((rd_T58 l0 x4_1).f3.f4) ((rd_T58 l0 x4_1).f3.f5) ((rd_T58 l0 x4_1).f3.f6) ((rd_T58 l0 x4_1).f3.f7) ((rd_T58 l0 x4_1).f3.f8) ((rd_T58 l0 x4_1).f3.f9) ((rd_T58 l0 x4_1).f3.f10)) = some r := by first | (rw [hji11] at H; exact H) | (simp only [hji11] at H ⊢; exact H)
         have hji11_ : (if 30001 < (((rd_T58 l0 x4_1).f3.f5).size : Int) then 30001 else (((rd_T58 l0 x4_1).f3.f5).size : Int)) = ji11 := hji11
         obtain ⟨ji12, hji12⟩ : ∃ j_ : Int, (mn (((rd_T58 l0 x4_1).f3.f3).length : Int) 1501) = j_ := ⟨_, rfl⟩
         replace H : (rundlelaw26_long.l1 kj2 l0 (wrap64 ((wrap64 ((wrap64 ((wrap64 ((wrap64 (x3_1 + (ji8))) + (ji9))) + (ji10))) + (ji11))) + (20 * (ji12)))) x4_1 0 ((rd_T58 l0 x4_1).f3.f0) ((rd_T58 l0 x4_1).f3.f1) ((rd_T58 l0 x4_1).f3.f2) ((rd_T58 l0 x4_1).f3.f3) ((rd_T58 l0 x4_1).f3.f4) ((rd_T58 l0 x4_1).f3.f5) ((rd_T58 l0 x4_1).f3.f6) ((rd_T58 l0 x4_1).f3.f7) ((rd_T58 l0 x4_1).f3.f8) ((rd_T58 l0 x4_1).f3.f9) ((rd_T58 l0 x4_1).f3.f10)) = some r := by first | (rw [hji12] at H; exact H) | (simp only [hji12] at H ⊢; exact H)
         have hji12_ : (if 1501 < (((rd_T58 l0 x4_1).f3.f3).length : Int) then 1501 else (((rd_T58 l0 x4_1).f3.f3).length : Int)) = ji12 := hji12
         have H' := Aside0.mk H
         clear H
         have p345 : 0 ≤ (x4_1 : Int) := of_decide_eq_true (by first | (with_reducible assumption) | assumption)
         have q345 : x4_1 < (l0.length : Int) := of_decide_eq_true (by first | (with_reducible assumption) | assumption)
         obtain ⟨ad345, A345_6, c345_6, e345, hx345_0, hx345_1, hx345_2, hx345_3, hx345_4, hx345_5, hx345_6, hx345_7, hx345_8, hx345_9, hx345_10, hx345_11, hx345_12, hx345_13, hl345_6, hi345_6⟩ := at_T58 HR0.out x4_1 p345 q345
         cases e345
         replace hx345_0 := (HB.out.cell (World.block_lt_of_cell? w _ hx345_0)).trans hx345_0
         replace hx345_1 := (HB.out.cell (World.block_lt_of_cell? w _ hx345_1)).trans hx345_1
         replace hx345_2 := (HB.out.cell (World.block_lt_of_cell? w _ hx345_2)).trans hx345_2
         replace hx345_3 := (HB.out.cell (World.block_lt_of_cell? w _ hx345_3)).trans hx345_3
         replace hx345_4 := (HB.out.cell (World.block_lt_of_cell? w _ hx345_4)).trans hx345_4
         replace hx345_5 := (HB.out.cell (World.block_lt_of_cell? w _ hx345_5)).trans hx345_5
         replace hx345_6 := (HB.out.cell (World.block_lt_of_cell? w _ hx345_6)).trans hx345_6
         replace hx345_7 := (HB.out.cell (World.block_lt_of_cell? w _ hx345_7)).trans hx345_7
         replace hx345_8 := (HB.out.cell (World.block_lt_of_cell? w _ hx345_8)).trans hx345_8
         replace hx345_9 := (HB.out.cell (World.block_lt_of_cell? w _ hx345_9)).trans hx345_9
         replace hx345_10 := (HB.out.cell (World.block_lt_of_cell? w _ hx345_10)).trans hx345_10
         replace hx345_11 := (HB.out.cell (World.block_lt_of_cell? w _ hx345_11)).trans hx345_11
         replace hx345_12 := (HB.out.cell (World.block_lt_of_cell? w _ hx345_12)).trans hx345_12
         replace hx345_13 := (HB.out.cell (World.block_lt_of_cell? w _ hx345_13)).trans hx345_13
         have HR345_6 := Aside0.mk hi345_6
         have HC345_6 := Aside0.mk hl345_6
         clear hi345_6 hl345_6
         replace p345 := eq_true p345
         replace q345 := eq_true q345
         go_wp2_with (first | ((with_reducible refine gate_dst (N := 5) rfl ?_); refine box_event ?hg (N := 5) ?hd (cs := #[.int .i64 0, .string (⟨#[]⟩ : ByteArray), .string (⟨#[]⟩ : ByteArray), .slice none 0 0, .string (⟨#[]⟩ : ByteArray), .string (⟨#[]⟩ : ByteArray), .bool false, .int .i64 0, .int .i64 0, .int .i64 0, .int .i64 0]) (t := 52) ?hr ?_; (case hd => rfl); (case hg => rfl); (case hr => first | (go_simp; done) | (go_simp; rfl)); intro gb346 hg w13 hbox hb; have n0_ := Aside0.mk (below_step (by repeat (first | (with_reducible first | exact HB.out | apply below_alloc | apply pw_below_drewN | apply below_drew1) | exact HB.out)) hb); have n1_ := Aside0.mk (hbox); have n2_ := Aside0.mk ((by rw [hg]; exact (below_size (by repeat (first | (with_reducible first | exact HB.out | apply below_alloc | apply pw_below_drewN | apply below_drew1) | exact HB.out))) : w.heap.size ≤ gb346)); have n3_ := Aside0.mk ((by rw [hg]; exact (below_size (by repeat (first | (with_reducible first | exact HB.out | apply below_alloc | apply pw_below_drewN | apply below_drew1) | exact HB.out))) : w.heap.size ≤ gb346)); clear HB; have HB := n0_; have BK346 := n1_; have GW346 := n2_; have GE346 := n3_; clear n0_ n1_ n2_ n3_; clear hb hbox hg; have hcz14_0 : w13.cell? ⟨gb346, 0, none⟩ = some (.int .i64 0) := (blk_cell BK346.out 0).trans rfl; have hcz14_1 : w13.cell? ⟨gb346, 1, none⟩ = some (.string (⟨#[]⟩ : ByteArray)) := (blk_cell BK346.out 1).trans rfl; have hcz14_2 : w13.cell? ⟨gb346, 2, none⟩ = some (.string (⟨#[]⟩ : ByteArray)) := (blk_cell BK346.out 2).trans rfl; have hcz14_3 : w13.cell? ⟨gb346, 3, none⟩ = some (.slice none 0 0) := (blk_cell BK346.out 3).trans rfl; have hcz14_4 : w13.cell? ⟨gb346, 4, none⟩ = some (.string (⟨#[]⟩ : ByteArray)) := (blk_cell BK346.out 4).trans rfl; have hcz14_5 : w13.cell? ⟨gb346, 5, none⟩ = some (.string (⟨#[]⟩ : ByteArray)) := (blk_cell BK346.out 5).trans rfl; have hcz14_6 : w13.cell? ⟨gb346, 6, none⟩ = some (.bool false) := (blk_cell BK346.out 6).trans rfl; have hcz14_7 : w13.cell? ⟨gb346, 7, none⟩ = some (.int .i64 0) := (blk_cell BK346.out 7).trans rfl; have hcz14_8 : w13.cell? ⟨gb346, 8, none⟩ = some (.int .i64 0) := (blk_cell BK346.out 8).trans rfl; have hcz14_9 : w13.cell? ⟨gb346, 9, none⟩ = some (.int .i64 0) := (blk_cell BK346.out 9).trans rfl; have hcz14_10 : w13.cell? ⟨gb346, 10, none⟩ = some (.int .i64 0) := (blk_cell BK346.out 10).trans rfl; have hfz14_0 := blk_frozen BK346.out 0; have hfz14_1 := blk_frozen BK346.out 1; have hfz14_2 := blk_frozen BK346.out 2; have hfz14_3 := blk_frozen BK346.out 3; have hfz14_4 := blk_frozen BK346.out 4; have hfz14_5 := blk_frozen BK346.out 5; have hfz14_6 := blk_frozen BK346.out 6; have hfz14_7 := blk_frozen BK346.out 7; have hfz14_8 := blk_frozen BK346.out 8; have hfz14_9 := blk_frozen BK346.out 9; have hfz14_10 := blk_frozen BK346.out 10))
         repeat (go_quiet (first | ((with_reducible refine gate_dst (N := 5) rfl ?_); refine box_event ?hg (N := 5) ?hd (cs := #[.int .i64 0, .string (⟨#[]⟩ : ByteArray), .string (⟨#[]⟩ : ByteArray), .slice none 0 0, .string (⟨#[]⟩ : ByteArray), .string (⟨#[]⟩ : ByteArray), .bool false, .int .i64 0, .int .i64 0, .int .i64 0, .int .i64 0]) (t := 52) ?hr ?_; (case hd => rfl); (case hg => rfl); (case hr => first | (go_simp; done) | (go_simp; rfl)); intro gb346 hg w13 hbox hb; have n0_ := Aside0.mk (below_step (by repeat (first | (with_reducible first | exact HB.out | apply below_alloc | apply pw_below_drewN | apply below_drew1) | exact HB.out)) hb); have n1_ := Aside0.mk (hbox); have n2_ := Aside0.mk ((by rw [hg]; exact (below_size (by repeat (first | (with_reducible first | exact HB.out | apply below_alloc | apply pw_below_drewN | apply below_drew1) | exact HB.out))) : w.heap.size ≤ gb346)); have n3_ := Aside0.mk ((by rw [hg]; exact (below_size (by repeat (first | (with_reducible first | exact HB.out | apply below_alloc | apply pw_below_drewN | apply below_drew1) | exact HB.out))) : w.heap.size ≤ gb346)); clear HB; have HB := n0_; have BK346 := n1_; have GW346 := n2_; have GE346 := n3_; clear n0_ n1_ n2_ n3_; clear hb hbox hg; have hcz14_0 : w13.cell? ⟨gb346, 0, none⟩ = some (.int .i64 0) := (blk_cell BK346.out 0).trans rfl; have hcz14_1 : w13.cell? ⟨gb346, 1, none⟩ = some (.string (⟨#[]⟩ : ByteArray)) := (blk_cell BK346.out 1).trans rfl; have hcz14_2 : w13.cell? ⟨gb346, 2, none⟩ = some (.string (⟨#[]⟩ : ByteArray)) := (blk_cell BK346.out 2).trans rfl; have hcz14_3 : w13.cell? ⟨gb346, 3, none⟩ = some (.slice none 0 0) := (blk_cell BK346.out 3).trans rfl; have hcz14_4 : w13.cell? ⟨gb346, 4, none⟩ = some (.string (⟨#[]⟩ : ByteArray)) := (blk_cell BK346.out 4).trans rfl; have hcz14_5 : w13.cell? ⟨gb346, 5, none⟩ = some (.string (⟨#[]⟩ : ByteArray)) := (blk_cell BK346.out 5).trans rfl; have hcz14_6 : w13.cell? ⟨gb346, 6, none⟩ = some (.bool false) := (blk_cell BK346.out 6).trans rfl; have hcz14_7 : w13.cell? ⟨gb346, 7, none⟩ = some (.int .i64 0) := (blk_cell BK346.out 7).trans rfl; have hcz14_8 : w13.cell? ⟨gb346, 8, none⟩ = some (.int .i64 0) := (blk_cell BK346.out 8).trans rfl; have hcz14_9 : w13.cell? ⟨gb346, 9, none⟩ = some (.int .i64 0) := (blk_cell BK346.out 9).trans rfl; have hcz14_10 : w13.cell? ⟨gb346, 10, none⟩ = some (.int .i64 0) := (blk_cell BK346.out 10).trans rfl; have hfz14_0 := blk_frozen BK346.out 0; have hfz14_1 := blk_frozen BK346.out 1; have hfz14_2 := blk_frozen BK346.out 2; have hfz14_3 := blk_frozen BK346.out 3; have hfz14_4 := blk_frozen BK346.out 4; have hfz14_5 := blk_frozen BK346.out 5; have hfz14_6 := blk_frozen BK346.out 6; have hfz14_7 := blk_frozen BK346.out 7; have hfz14_8 := blk_frozen BK346.out 8; have hfz14_9 := blk_frozen BK346.out 9; have hfz14_10 := blk_frozen BK346.out 10)); try go_wp2_with (first | ((with_reducible refine gate_dst (N := 5) rfl ?_); refine box_event ?hg (N := 5) ?hd (cs := #[.int .i64 0, .string (⟨#[]⟩ : ByteArray), .string (⟨#[]⟩ : ByteArray), .slice none 0 0, .string (⟨#[]⟩ : ByteArray), .string (⟨#[]⟩ : ByteArray), .bool false, .int .i64 0, .int .i64 0, .int .i64 0, .int .i64 0]) (t := 52) ?hr ?_; (case hd => rfl); (case hg => rfl); (case hr => first | (go_simp; done) | (go_simp; rfl)); intro gb346 hg w13 hbox hb; have n0_ := Aside0.mk (below_step (by repeat (first | (with_reducible first | exact HB.out | apply below_alloc | apply pw_below_drewN | apply below_drew1) | exact HB.out)) hb); have n1_ := Aside0.mk (hbox); have n2_ := Aside0.mk ((by rw [hg]; exact (below_size (by repeat (first | (with_reducible first | exact HB.out | apply below_alloc | apply pw_below_drewN | apply below_drew1) | exact HB.out))) : w.heap.size ≤ gb346)); have n3_ := Aside0.mk ((by rw [hg]; exact (below_size (by repeat (first | (with_reducible first | exact HB.out | apply below_alloc | apply pw_below_drewN | apply below_drew1) | exact HB.out))) : w.heap.size ≤ gb346)); clear HB; have HB := n0_; have BK346 := n1_; have GW346 := n2_; have GE346 := n3_; clear n0_ n1_ n2_ n3_; clear hb hbox hg; have hcz14_0 : w13.cell? ⟨gb346, 0, none⟩ = some (.int .i64 0) := (blk_cell BK346.out 0).trans rfl; have hcz14_1 : w13.cell? ⟨gb346, 1, none⟩ = some (.string (⟨#[]⟩ : ByteArray)) := (blk_cell BK346.out 1).trans rfl; have hcz14_2 : w13.cell? ⟨gb346, 2, none⟩ = some (.string (⟨#[]⟩ : ByteArray)) := (blk_cell BK346.out 2).trans rfl; have hcz14_3 : w13.cell? ⟨gb346, 3, none⟩ = some (.slice none 0 0) := (blk_cell BK346.out 3).trans rfl; have hcz14_4 : w13.cell? ⟨gb346, 4, none⟩ = some (.string (⟨#[]⟩ : ByteArray)) := (blk_cell BK346.out 4).trans rfl; have hcz14_5 : w13.cell? ⟨gb346, 5, none⟩ = some (.string (⟨#[]⟩ : ByteArray)) := (blk_cell BK346.out 5).trans rfl; have hcz14_6 : w13.cell? ⟨gb346, 6, none⟩ = some (.bool false) := (blk_cell BK346.out 6).trans rfl; have hcz14_7 : w13.cell? ⟨gb346, 7, none⟩ = some (.int .i64 0) := (blk_cell BK346.out 7).trans rfl; have hcz14_8 : w13.cell? ⟨gb346, 8, none⟩ = some (.int .i64 0) := (blk_cell BK346.out 8).trans rfl; have hcz14_9 : w13.cell? ⟨gb346, 9, none⟩ = some (.int .i64 0) := (blk_cell BK346.out 9).trans rfl; have hcz14_10 : w13.cell? ⟨gb346, 10, none⟩ = some (.int .i64 0) := (blk_cell BK346.out 10).trans rfl; have hfz14_0 := blk_frozen BK346.out 0; have hfz14_1 := blk_frozen BK346.out 1; have hfz14_2 := blk_frozen BK346.out 2; have hfz14_3 := blk_frozen BK346.out 3; have hfz14_4 := blk_frozen BK346.out 4; have hfz14_5 := blk_frozen BK346.out 5; have hfz14_6 := blk_frozen BK346.out 6; have hfz14_7 := blk_frozen BK346.out 7; have hfz14_8 := blk_frozen BK346.out 8; have hfz14_9 := blk_frozen BK346.out 9; have hfz14_10 := blk_frozen BK346.out 10)))
         go_loopg [3, 6] kj2 (fun kq v3 v6 w' => ∃ (x3_3 : Int) (x6_3 : Int), v3 = .int .i64 x3_3 ∧ v6 = .int .i64 x6_3 ∧ Aside0 (rundlelaw26_long.l1 kq l0 x3_3 x4_1 x6_3 ((rd_T58 l0 x4_1).f3.f0) ((rd_T58 l0 x4_1).f3.f1) ((rd_T58 l0 x4_1).f3.f2) ((rd_T58 l0 x4_1).f3.f3) ((rd_T58 l0 x4_1).f3.f4) ((rd_T58 l0 x4_1).f3.f5) ((rd_T58 l0 x4_1).f3.f6) ((rd_T58 l0 x4_1).f3.f7) ((rd_T58 l0 x4_1).f3.f8) ((rd_T58 l0 x4_1).f3.f9) ((rd_T58 l0 x4_1).f3.f10) = some r) ∧ Aside0 (kq ≤ kj2) ∧ Aside0 (w'.heap[gb346]? = some (.cells #[.int .i64 ((rd_T58 l0 x4_1).f3.f0), .string ((rd_T58 l0 x4_1).f3.f1), .string ((rd_T58 l0 x4_1).f3.f2), (.slice A345_6 ((rd_T58 l0 x4_1).f3.f3).length c345_6), .string ((rd_T58 l0 x4_1).f3.f4), .string ((rd_T58 l0 x4_1).f3.f5), .bool ((rd_T58 l0 x4_1).f3.f6), .int .i64 ((rd_T58 l0 x4_1).f3.f7), .int .i64 ((rd_T58 l0 x4_1).f3.f8), .int .i64 ((rd_T58 l0 x4_1).f3.f9), .int .i64 ((rd_T58 l0 x4_1).f3.f10)] 52 (0, 0))) ∧ Aside0 (Below w.heap.size w w'))
         case atStart => exact ⟨(wrap64 ((wrap64 ((wrap64 ((wrap64 ((wrap64 (x3_1 + (ji8))) + (ji9))) + (ji10))) + (ji11))) + (20 * (ji12)))), (0), (by first | rfl | (simp; done) | (simp only [← hji8, ← hji9, ← hji10, ← hji11, ← hji12] <;> (first | rfl | simp)) | (simp [*]; done)), (by first | rfl | (simp; done) | (simp [*]; done)), H', ⟨Nat.le_refl _⟩, ⟨by (with_reducible repeat (first | refine blk_drewN ?_ _ | refine blk_drew ?_ | refine blk_alloc ?_ _)); refine blk_put (cs := #[.int .i64 ((rd_T58 l0 x4_1).f3.f0), .string ((rd_T58 l0 x4_1).f3.f1), .string ((rd_T58 l0 x4_1).f3.f2), .slice A345_6 ((rd_T58 l0 x4_1).f3.f3).length c345_6, .string ((rd_T58 l0 x4_1).f3.f4), .string ((rd_T58 l0 x4_1).f3.f5), .bool ((rd_T58 l0 x4_1).f3.f6), .int .i64 ((rd_T58 l0 x4_1).f3.f7), .int .i64 ((rd_T58 l0 x4_1).f3.f8), .int .i64 ((rd_T58 l0 x4_1).f3.f9), .int .i64 0]) ?_ 10 _ rfl; (with_reducible repeat (first | refine blk_drewN ?_ _ | refine blk_drew ?_ | refine blk_alloc ?_ _)); refine blk_put (cs := #[.int .i64 ((rd_T58 l0 x4_1).f3.f0), .string ((rd_T58 l0 x4_1).f3.f1), .string ((rd_T58 l0 x4_1).f3.f2), .slice A345_6 ((rd_T58 l0 x4_1).f3.f3).length c345_6, .string ((rd_T58 l0 x4_1).f3.f4), .string ((rd_T58 l0 x4_1).f3.f5), .bool ((rd_T58 l0 x4_1).f3.f6), .int .i64 ((rd_T58 l0 x4_1).f3.f7), .int .i64 ((rd_T58 l0 x4_1).f3.f8), .int .i64 0, .int .i64 0]) ?_ 9 _ rfl; (with_reducible repeat (first | refine blk_drewN ?_ _ | refine blk_drew ?_ | refine blk_alloc ?_ _)); refine blk_put (cs := #[.int .i64 ((rd_T58 l0 x4_1).f3.f0), .string ((rd_T58 l0 x4_1).f3.f1), .string ((rd_T58 l0 x4_1).f3.f2), .slice A345_6 ((rd_T58 l0 x4_1).f3.f3).length c345_6, .string ((rd_T58 l0 x4_1).f3.f4), .string ((rd_T58 l0 x4_1).f3.f5), .bool ((rd_T58 l0 x4_1).f3.f6), .int .i64 ((rd_T58 l0 x4_1).f3.f7), .int .i64 0, .int .i64 0, .int .i64 0]) ?_ 8 _ rfl; (with_reducible repeat (first | refine blk_drewN ?_ _ | refine blk_drew ?_ | refine blk_alloc ?_ _)); refine blk_put (cs := #[.int .i64 ((rd_T58 l0 x4_1).f3.f0), .string ((rd_T58 l0 x4_1).f3.f1), .string ((rd_T58 l0 x4_1).f3.f2), .slice A345_6 ((rd_T58 l0 x4_1).f3.f3).length c345_6, .string ((rd_T58 l0 x4_1).f3.f4), .string ((rd_T58 l0 x4_1).f3.f5), .bool ((rd_T58 l0 x4_1).f3.f6), .int .i64 0, .int .i64 0, .int .i64 0, .int .i64 0]) ?_ 7 _ rfl; (with_reducible repeat (first | refine blk_drewN ?_ _ | refine blk_drew ?_ | refine blk_alloc ?_ _)); refine blk_put (cs := #[.int .i64 ((rd_T58 l0 x4_1).f3.f0), .string ((rd_T58 l0 x4_1).f3.f1), .string ((rd_T58 l0 x4_1).f3.f2), .slice A345_6 ((rd_T58 l0 x4_1).f3.f3).length c345_6, .string ((rd_T58 l0 x4_1).f3.f4), .string ((rd_T58 l0 x4_1).f3.f5), .bool false, .int .i64 0, .int .i64 0, .int .i64 0, .int .i64 0]) ?_ 6 _ rfl; (with_reducible repeat (first | refine blk_drewN ?_ _ | refine blk_drew ?_ | refine blk_alloc ?_ _)); refine blk_put (cs := #[.int .i64 ((rd_T58 l0 x4_1).f3.f0), .string ((rd_T58 l0 x4_1).f3.f1), .string ((rd_T58 l0 x4_1).f3.f2), .slice A345_6 ((rd_T58 l0 x4_1).f3.f3).length c345_6, .string ((rd_T58 l0 x4_1).f3.f4), .string (⟨#[]⟩ : ByteArray), .bool false, .int .i64 0, .int .i64 0, .int .i64 0, .int .i64 0]) ?_ 5 _ rfl; (with_reducible repeat (first | refine blk_drewN ?_ _ | refine blk_drew ?_ | refine blk_alloc ?_ _)); refine blk_put (cs := #[.int .i64 ((rd_T58 l0 x4_1).f3.f0), .string ((rd_T58 l0 x4_1).f3.f1), .string ((rd_T58 l0 x4_1).f3.f2), .slice A345_6 ((rd_T58 l0 x4_1).f3.f3).length c345_6, .string (⟨#[]⟩ : ByteArray), .string (⟨#[]⟩ : ByteArray), .bool false, .int .i64 0, .int .i64 0, .int .i64 0, .int .i64 0]) ?_ 4 _ rfl; (with_reducible repeat (first | refine blk_drewN ?_ _ | refine blk_drew ?_ | refine blk_alloc ?_ _)); refine blk_put (cs := #[.int .i64 ((rd_T58 l0 x4_1).f3.f0), .string ((rd_T58 l0 x4_1).f3.f1), .string ((rd_T58 l0 x4_1).f3.f2), .slice none 0 0, .string (⟨#[]⟩ : ByteArray), .string (⟨#[]⟩ : ByteArray), .bool false, .int .i64 0, .int .i64 0, .int .i64 0, .int .i64 0]) ?_ 3 _ rfl; (with_reducible repeat (first | refine blk_drewN ?_ _ | refine blk_drew ?_ | refine blk_alloc ?_ _)); refine blk_put (cs := #[.int .i64 ((rd_T58 l0 x4_1).f3.f0), .string ((rd_T58 l0 x4_1).f3.f1), .string (⟨#[]⟩ : ByteArray), .slice none 0 0, .string (⟨#[]⟩ : ByteArray), .string (⟨#[]⟩ : ByteArray), .bool false, .int .i64 0, .int .i64 0, .int .i64 0, .int .i64 0]) ?_ 2 _ rfl; (with_reducible repeat (first | refine blk_drewN ?_ _ | refine blk_drew ?_ | refine blk_alloc ?_ _)); refine blk_put (cs := #[.int .i64 ((rd_T58 l0 x4_1).f3.f0), .string (⟨#[]⟩ : ByteArray), .string (⟨#[]⟩ : ByteArray), .slice none 0 0, .string (⟨#[]⟩ : ByteArray), .string (⟨#[]⟩ : ByteArray), .bool false, .int .i64 0, .int .i64 0, .int .i64 0, .int .i64 0]) ?_ 1 _ rfl; (with_reducible repeat (first | refine blk_drewN ?_ _ | refine blk_drew ?_ | refine blk_alloc ?_ _)); refine blk_put (cs := #[.int .i64 0, .string (⟨#[]⟩ : ByteArray), .string (⟨#[]⟩ : ByteArray), .slice none 0 0, .string (⟨#[]⟩ : ByteArray), .string (⟨#[]⟩ : ByteArray), .bool false, .int .i64 0, .int .i64 0, .int .i64 0, .int .i64 0]) ?_ 0 _ rfl; (with_reducible repeat (first | refine blk_drewN ?_ _ | refine blk_drew ?_ | refine blk_alloc ?_ _)); exact BK346.out⟩, ⟨by repeat (first | (with_reducible first | exact HB.out | apply below_alloc | apply pw_below_drewN | apply below_drew1 | refine below_set ?_ GE346.out) | exact HB.out)⟩⟩
         case round =>
          clear H'
          try clear c2
          try clear c2b0
          try clear c2b1
          try clear p2
          try clear c3
          try clear p3
          try clear q3
          try clear hx3
          try clear c4
          try clear c4b0
          try clear c5
          try clear c6
          try clear c6b0
          try clear p6
          try clear c7
          try clear c7b0
          try clear hcz14_0
          try clear hcz14_1
          try clear hcz14_10
          try clear hcz14_2
          try clear hcz14_3
          try clear hcz14_4
          try clear hcz14_5
          try clear hcz14_6
          try clear hcz14_7
          try clear hcz14_8
          try clear hcz14_9
          try clear hfz14_0
          try clear hfz14_1
          try clear hfz14_10
          try clear hfz14_2
          try clear hfz14_3
          try clear hfz14_4
          try clear hfz14_5
          try clear hfz14_6
          try clear hfz14_7
          try clear hfz14_8
          try clear hfz14_9
          try clear hx345_0
          try clear hx345_1
          try clear hx345_10
          try clear hx345_11
          try clear hx345_12
          try clear hx345_13
          try clear hx345_2
          try clear hx345_3
          try clear hx345_4
          try clear hx345_5
          try clear hx345_6
          try clear hx345_7
          try clear hx345_8
          try clear hx345_9
          try clear p2
          try clear p345
          try clear q345
          obtain ⟨x3_3, x6_3, rfl, rfl, HA, HK3, BK346, HB⟩ := hrel
          cases gk with
          | zero => exact absurd HA.out (by simp [rundlelaw26_long.l1])
          | succ k3 =>
           have H := HA.out
           clear HA
           simp only [rundlelaw26_long.l1] at H
           by_cases c15 : x6_3 < (((rd_T58 l0 x4_1).f3.f3).length : Int)
           ·
            rw [if_pos c15] at H
            have c15b0 : decide (x6_3 < (((rd_T58 l0 x4_1).f3.f3).length : Int)) = true := decide_eq_true c15
            clear c15
            by_cases c16 : x3_3 ≤ 30000
            ·
             rw [if_pos c16] at H
             have c16b0 : decide (x3_3 ≤ 30000) = true := decide_eq_true c16
             clear c16
             by_cases c17 : 0 ≤ x6_3
             ·
              rw [if_pos c17] at H
              have c17b0 : decide (0 ≤ x6_3) = true := decide_eq_true c17
              clear c17
              obtain ⟨ji18, hji18⟩ : ∃ j_ : Int, (mn (((rd_T93 ((rd_T58 l0 x4_1).f3.f3) x6_3).f0).size : Int) 30001) = j_ := ⟨_, rfl⟩
              replace H : (rundlelaw26_long.l1 k3 l0 (wrap64 ((wrap64 (x3_3 + (ji18))) + (mn (((rd_T93 ((rd_T58 l0 x4_1).f3.f3) x6_3).f1).size : Int) 30001))) x4_1 (wrap64 (x6_3 + 1)) ((rd_T58 l0 x4_1).f3.f0) ((rd_T58 l0 x4_1).f3.f1) ((rd_T58 l0 x4_1).f3.f2) ((rd_T58 l0 x4_1).f3.f3) ((rd_T58 l0 x4_1).f3.f4) ((rd_T58 l0 x4_1).f3.f5) ((rd_T58 l0 x4_1).f3.f6) ((rd_T58 l0 x4_1).f3.f7) ((rd_T58 l0 x4_1).f3.f8) ((rd_T58 l0 x4_1).f3.f9) ((rd_T58 l0 x4_1).f3.f10)) = some r := by first | (rw [hji18] at H; exact H) | (simp only [hji18] at H ⊢; exact H)
              have hji18_ : (if 30001 < (((rd_T93 ((rd_T58 l0 x4_1).f3.f3) x6_3).f0).size : Int) then 30001 else (((rd_T93 ((rd_T58 l0 x4_1).f3.f3) x6_3).f0).size : Int)) = ji18 := hji18
              obtain ⟨ji19, hji19⟩ : ∃ j_ : Int, (mn (((rd_T93 ((rd_T58 l0 x4_1).f3.f3) x6_3).f1).size : Int) 30001) = j_ := ⟨_, rfl⟩
              replace H : (rundlelaw26_long.l1 k3 l0 (wrap64 ((wrap64 (x3_3 + (ji18))) + (ji19))) x4_1 (wrap64 (x6_3 + 1)) ((rd_T58 l0 x4_1).f3.f0) ((rd_T58 l0 x4_1).f3.f1) ((rd_T58 l0 x4_1).f3.f2) ((rd_T58 l0 x4_1).f3.f3) ((rd_T58 l0 x4_1).f3.f4) ((rd_T58 l0 x4_1).f3.f5) ((rd_T58 l0 x4_1).f3.f6) ((rd_T58 l0 x4_1).f3.f7) ((rd_T58 l0 x4_1).f3.f8) ((rd_T58 l0 x4_1).f3.f9) ((rd_T58 l0 x4_1).f3.f10)) = some r := by first | (rw [hji19] at H; exact H) | (simp only [hji19] at H ⊢; exact H)
              have hji19_ : (if 30001 < (((rd_T93 ((rd_T58 l0 x4_1).f3.f3) x6_3).f1).size : Int) then 30001 else (((rd_T93 ((rd_T58 l0 x4_1).f3.f3) x6_3).f1).size : Int)) = ji19 := hji19
              have H' := Aside0.mk H
              clear H
              have hcz20_0 : wr.cell? ⟨gb346, 0, none⟩ = some (.int .i64 ((rd_T58 l0 x4_1).f3.f0)) := (blk_cell BK346.out 0).trans rfl
              have hcz20_1 : wr.cell? ⟨gb346, 1, none⟩ = some (.string ((rd_T58 l0 x4_1).f3.f1)) := (blk_cell BK346.out 1).trans rfl
              have hcz20_2 : wr.cell? ⟨gb346, 2, none⟩ = some (.string ((rd_T58 l0 x4_1).f3.f2)) := (blk_cell BK346.out 2).trans rfl
              have hcz20_3 : wr.cell? ⟨gb346, 3, none⟩ = some (.slice A345_6 ((rd_T58 l0 x4_1).f3.f3).length c345_6) := (blk_cell BK346.out 3).trans rfl
              have hcz20_4 : wr.cell? ⟨gb346, 4, none⟩ = some (.string ((rd_T58 l0 x4_1).f3.f4)) := (blk_cell BK346.out 4).trans rfl
              have hcz20_5 : wr.cell? ⟨gb346, 5, none⟩ = some (.string ((rd_T58 l0 x4_1).f3.f5)) := (blk_cell BK346.out 5).trans rfl
              have hcz20_6 : wr.cell? ⟨gb346, 6, none⟩ = some (.bool ((rd_T58 l0 x4_1).f3.f6)) := (blk_cell BK346.out 6).trans rfl
              have hcz20_7 : wr.cell? ⟨gb346, 7, none⟩ = some (.int .i64 ((rd_T58 l0 x4_1).f3.f7)) := (blk_cell BK346.out 7).trans rfl
              have hcz20_8 : wr.cell? ⟨gb346, 8, none⟩ = some (.int .i64 ((rd_T58 l0 x4_1).f3.f8)) := (blk_cell BK346.out 8).trans rfl
              have hcz20_9 : wr.cell? ⟨gb346, 9, none⟩ = some (.int .i64 ((rd_T58 l0 x4_1).f3.f9)) := (blk_cell BK346.out 9).trans rfl
              have hcz20_10 : wr.cell? ⟨gb346, 10, none⟩ = some (.int .i64 ((rd_T58 l0 x4_1).f3.f10)) := (blk_cell BK346.out 10).trans rfl
              have hfz20_0 := blk_frozen BK346.out 0
              have hfz20_1 := blk_frozen BK346.out 1
              have hfz20_2 := blk_frozen BK346.out 2
              have hfz20_3 := blk_frozen BK346.out 3
              have hfz20_4 := blk_frozen BK346.out 4
              have hfz20_5 := blk_frozen BK346.out 5
              have hfz20_6 := blk_frozen BK346.out 6
              have hfz20_7 := blk_frozen BK346.out 7
              have hfz20_8 := blk_frozen BK346.out 8
              have hfz20_9 := blk_frozen BK346.out 9
              have hfz20_10 := blk_frozen BK346.out 10
              have p347 : 0 ≤ (x6_3 : Int) := of_decide_eq_true (by first | (with_reducible assumption) | assumption)
              have q347 : x6_3 < (((rd_T58 l0 x4_1).f3.f3).length : Int) := of_decide_eq_true (by first | (with_reducible assumption) | assumption)
              obtain ⟨ad347, e347, hx347_0, hx347_1, hx347_2⟩ := at_T93 HR345_6.out x6_3 p347 q347
              cases e347
              replace hx347_0 := (HB.out.cell (World.block_lt_of_cell? w _ hx347_0)).trans hx347_0
              replace hx347_1 := (HB.out.cell (World.block_lt_of_cell? w _ hx347_1)).trans hx347_1
              replace hx347_2 := (HB.out.cell (World.block_lt_of_cell? w _ hx347_2)).trans hx347_2
              replace p347 := eq_true p347
              replace q347 := eq_true q347
              have p348 : 0 ≤ (x6_3 : Int) := of_decide_eq_true (by first | (with_reducible assumption) | assumption)
              have q348 : x6_3 < (((rd_T58 l0 x4_1).f3.f3).length : Int) := of_decide_eq_true (by first | (with_reducible assumption) | assumption)
              obtain ⟨ad348, e348, hx348_0, hx348_1, hx348_2⟩ := at_T93 HR345_6.out x6_3 p348 q348
              obtain rfl : ad347 = ad348 := (by injection e348)
              replace hx348_0 := (HB.out.cell (World.block_lt_of_cell? w _ hx348_0)).trans hx348_0
              replace hx348_1 := (HB.out.cell (World.block_lt_of_cell? w _ hx348_1)).trans hx348_1
              replace hx348_2 := (HB.out.cell (World.block_lt_of_cell? w _ hx348_2)).trans hx348_2
              replace p348 := eq_true p348
              replace q348 := eq_true q348
              go_wp2
              repeat (go_quiet (fail); try go_wp2)
              go_roundg k3
              case measure => have := HK1.out; have := HJ2.out; have := HK3.out; omega
              case rel => exact ⟨(wrap64 ((wrap64 (x3_3 + (ji18))) + (ji19))), (wrap64 (x6_3 + 1)), (by first | rfl | (simp; done) | (simp only [← hji18, ← hji19] <;> (first | rfl | simp)) | (simp [*]; done)), (by first | rfl | (simp; done) | (simp [*]; done)), H', ⟨by have := HK1.out; have := HJ2.out; have := HK3.out; omega⟩, ⟨by (with_reducible repeat (first | refine blk_drewN ?_ _ | refine blk_drew ?_ | refine blk_alloc ?_ _)); exact BK346.out⟩, ⟨by repeat (first | (with_reducible first | exact HB.out | apply below_alloc | apply pw_below_drewN | apply below_drew1 | refine below_set ?_ GE346.out) | exact HB.out)⟩⟩
             ·
              rw [if_neg c17] at H
              exact absurd H (by simp)
            ·
             rw [if_neg c16] at H
             have c16b0 : decide (x3_3 ≤ 30000) = false := decide_eq_false c16
             clear c16
             have H' := Aside0.mk H
             clear H
             have hcz21_0 : wr.cell? ⟨gb346, 0, none⟩ = some (.int .i64 ((rd_T58 l0 x4_1).f3.f0)) := (blk_cell BK346.out 0).trans rfl
             have hcz21_1 : wr.cell? ⟨gb346, 1, none⟩ = some (.string ((rd_T58 l0 x4_1).f3.f1)) := (blk_cell BK346.out 1).trans rfl
             have hcz21_2 : wr.cell? ⟨gb346, 2, none⟩ = some (.string ((rd_T58 l0 x4_1).f3.f2)) := (blk_cell BK346.out 2).trans rfl
             have hcz21_3 : wr.cell? ⟨gb346, 3, none⟩ = some (.slice A345_6 ((rd_T58 l0 x4_1).f3.f3).length c345_6) := (blk_cell BK346.out 3).trans rfl
             have hcz21_4 : wr.cell? ⟨gb346, 4, none⟩ = some (.string ((rd_T58 l0 x4_1).f3.f4)) := (blk_cell BK346.out 4).trans rfl
             have hcz21_5 : wr.cell? ⟨gb346, 5, none⟩ = some (.string ((rd_T58 l0 x4_1).f3.f5)) := (blk_cell BK346.out 5).trans rfl
             have hcz21_6 : wr.cell? ⟨gb346, 6, none⟩ = some (.bool ((rd_T58 l0 x4_1).f3.f6)) := (blk_cell BK346.out 6).trans rfl
             have hcz21_7 : wr.cell? ⟨gb346, 7, none⟩ = some (.int .i64 ((rd_T58 l0 x4_1).f3.f7)) := (blk_cell BK346.out 7).trans rfl
             have hcz21_8 : wr.cell? ⟨gb346, 8, none⟩ = some (.int .i64 ((rd_T58 l0 x4_1).f3.f8)) := (blk_cell BK346.out 8).trans rfl
             have hcz21_9 : wr.cell? ⟨gb346, 9, none⟩ = some (.int .i64 ((rd_T58 l0 x4_1).f3.f9)) := (blk_cell BK346.out 9).trans rfl
             have hcz21_10 : wr.cell? ⟨gb346, 10, none⟩ = some (.int .i64 ((rd_T58 l0 x4_1).f3.f10)) := (blk_cell BK346.out 10).trans rfl
             have hfz21_0 := blk_frozen BK346.out 0
             have hfz21_1 := blk_frozen BK346.out 1
             have hfz21_2 := blk_frozen BK346.out 2
             have hfz21_3 := blk_frozen BK346.out 3
             have hfz21_4 := blk_frozen BK346.out 4
             have hfz21_5 := blk_frozen BK346.out 5
             have hfz21_6 := blk_frozen BK346.out 6
             have hfz21_7 := blk_frozen BK346.out 7
             have hfz21_8 := blk_frozen BK346.out 8
             have hfz21_9 := blk_frozen BK346.out 9
             have hfz21_10 := blk_frozen BK346.out 10
             go_wp2
             repeat (go_quiet (fail); try go_wp2)
             go_roundg k3
             case measure => have := HK1.out; have := HJ2.out; have := HK3.out; omega
             case rel => exact ⟨(x3_3), (wrap64 (x4_1 + 1)), (by first | rfl | (simp; done) | (simp [*]; done)), (by first | rfl | (simp; done) | (simp [*]; done)), H', ⟨by have := HK1.out; have := HJ2.out; have := HK3.out; omega⟩, ⟨by repeat (first | (with_reducible first | exact HB.out | apply below_alloc | apply pw_below_drewN | apply below_drew1 | refine below_set ?_ GE346.out) | exact HB.out)⟩⟩
           ·
            rw [if_neg c15] at H
            have c15b0 : decide (x6_3 < (((rd_T58 l0 x4_1).f3.f3).length : Int)) = false := decide_eq_false c15
            clear c15
            have H' := Aside0.mk H
            clear H
            have hcz22_0 : wr.cell? ⟨gb346, 0, none⟩ = some (.int .i64 ((rd_T58 l0 x4_1).f3.f0)) := (blk_cell BK346.out 0).trans rfl
            have hcz22_1 : wr.cell? ⟨gb346, 1, none⟩ = some (.string ((rd_T58 l0 x4_1).f3.f1)) := (blk_cell BK346.out 1).trans rfl
            have hcz22_2 : wr.cell? ⟨gb346, 2, none⟩ = some (.string ((rd_T58 l0 x4_1).f3.f2)) := (blk_cell BK346.out 2).trans rfl
            have hcz22_3 : wr.cell? ⟨gb346, 3, none⟩ = some (.slice A345_6 ((rd_T58 l0 x4_1).f3.f3).length c345_6) := (blk_cell BK346.out 3).trans rfl
            have hcz22_4 : wr.cell? ⟨gb346, 4, none⟩ = some (.string ((rd_T58 l0 x4_1).f3.f4)) := (blk_cell BK346.out 4).trans rfl
            have hcz22_5 : wr.cell? ⟨gb346, 5, none⟩ = some (.string ((rd_T58 l0 x4_1).f3.f5)) := (blk_cell BK346.out 5).trans rfl
            have hcz22_6 : wr.cell? ⟨gb346, 6, none⟩ = some (.bool ((rd_T58 l0 x4_1).f3.f6)) := (blk_cell BK346.out 6).trans rfl
            have hcz22_7 : wr.cell? ⟨gb346, 7, none⟩ = some (.int .i64 ((rd_T58 l0 x4_1).f3.f7)) := (blk_cell BK346.out 7).trans rfl
            have hcz22_8 : wr.cell? ⟨gb346, 8, none⟩ = some (.int .i64 ((rd_T58 l0 x4_1).f3.f8)) := (blk_cell BK346.out 8).trans rfl
            have hcz22_9 : wr.cell? ⟨gb346, 9, none⟩ = some (.int .i64 ((rd_T58 l0 x4_1).f3.f9)) := (blk_cell BK346.out 9).trans rfl
            have hcz22_10 : wr.cell? ⟨gb346, 10, none⟩ = some (.int .i64 ((rd_T58 l0 x4_1).f3.f10)) := (blk_cell BK346.out 10).trans rfl
            have hfz22_0 := blk_frozen BK346.out 0
            have hfz22_1 := blk_frozen BK346.out 1
            have hfz22_2 := blk_frozen BK346.out 2
            have hfz22_3 := blk_frozen BK346.out 3
            have hfz22_4 := blk_frozen BK346.out 4
            have hfz22_5 := blk_frozen BK346.out 5
            have hfz22_6 := blk_frozen BK346.out 6
            have hfz22_7 := blk_frozen BK346.out 7
            have hfz22_8 := blk_frozen BK346.out 8
            have hfz22_9 := blk_frozen BK346.out 9
            have hfz22_10 := blk_frozen BK346.out 10
            go_wp2
            repeat (go_quiet (fail); try go_wp2)
            go_roundg k3
            case measure => have := HK1.out; have := HJ2.out; have := HK3.out; omega
            case rel => exact ⟨(x3_3), (wrap64 (x4_1 + 1)), (by first | rfl | (simp; done) | (simp [*]; done)), (by first | rfl | (simp; done) | (simp [*]; done)), H', ⟨by have := HK1.out; have := HJ2.out; have := HK3.out; omega⟩, ⟨by repeat (first | (with_reducible first | exact HB.out | apply below_alloc | apply pw_below_drewN | apply below_drew1 | refine below_set ?_ GE346.out) | exact HB.out)⟩⟩
        ·
         rw [if_neg c7] at H
         exact absurd H (by simp)
       ·
        rw [if_neg c6] at H
        exact absurd H (by simp)
      ·
       replace c5 := Bool.eq_false_iff.mpr c5
       subst c5
       have H1 : (some (decide (x3_1 > 30000))) = some r := by rw [if_neg (show ¬ (false = true) by decide)] at H; exact H
       clear H
       have H := H1
       clear H1
       obtain rfl := Option.some.inj H
       go_wp2
       repeat (go_quiet (fail); try go_wp2)
       go_ret
       exact ⟨by first | rfl | (simp [errW_none, errW_some] <;> rfl) | (simp [*, errW_none, errW_some] <;> rfl), by repeat (first | (with_reducible first | exact HB.out | apply below_alloc | apply pw_below_drewN | apply below_drew1) | exact HB.out)⟩

/-! ### rundlelaw26_digits: function 51 -/
def rundlelaw26_digits.l0 : Nat → List Int → Int → Option (Bool)
 | 0, _, _ => none
 | k + 1, x0, x3 => if x3 < (x0.length : Int) then (if 0 ≤ x3 then (if (rd x0 x3) > 999999999999999 then (some false) else (if (rd x0 x3) < (-999999999999999) then (some false) else (rundlelaw26_digits.l0 k x0 (wrap64 (x3 + 1))))) else (none)) else (some true)
def rundlelaw26_digits.f (k : Nat) (l0 : List Int) : Option (Bool) := rundlelaw26_digits.l0 k l0 0
theorem rundlelaw26_digits.mono_l : ∀ k, (∀ y0 y1, LeO (rundlelaw26_digits.l0 k y0 y1) (rundlelaw26_digits.l0 (k + 1) y0 y1))
 | 0 => fun _ _ r h => by simp [rundlelaw26_digits.l0] at h
 | k + 1 => by
  have ih0 := rundlelaw26_digits.mono_l k
  ·
   intro y0 y1
   unfold rundlelaw26_digits.l0
   repeat' first
   | (with_reducible exact ih0 _ _)
   | (with_reducible exact LeO.refl _)
   | (with_reducible exact LeO.none _)
   | (with_reducible refine LeO.ite ?_ ?_)
   | (with_reducible refine LeO.bind ?_ (fun _ => ?_))
   | exact ih0 _ _
   | exact LeO.none _
   | refine LeO.ite ?_ ?_
   | refine LeO.bind ?_ (fun _ => ?_)
theorem rundlelaw26_digits.mono : ∀ a0 k, LeO (rundlelaw26_digits.f k a0) (rundlelaw26_digits.f (k + 1) a0) := by
 intro a0 k
 have ih0 := rundlelaw26_digits.mono_l k
 unfold rundlelaw26_digits.f
 repeat' first
   | (with_reducible exact ih0 _ _)
   | (with_reducible exact LeO.refl _)
   | (with_reducible exact LeO.none _)
   | (with_reducible refine LeO.ite ?_ ?_)
   | (with_reducible refine LeO.bind ?_ (fun _ => ?_))
   | exact ih0 _ _
   | exact LeO.none _
   | refine LeO.ite ?_ ?_
   | refine LeO.bind ?_ (fun _ => ?_)
set_option maxHeartbeats 8000000 in
set_option maxRecDepth 100000 in
theorem rundlelaw26_digits.calls (k : Nat) (A0 : Option Addr) (c0 : Nat) (l0 : List Int) (r : Bool) (w : World) (hr0 : Kd.C (Kd.int .i64) w A0 l0.length l0) (hc0 : l0.length ≤ c0) (h : rundlelaw26_digits.f k l0 = some r) :
  Calls Tryz.prog 51 #[.slice A0 l0.length c0] w fun e w' => e = .returned (.bool r) ∧ Drawn0 w w' := by
 have HR0 := Aside0.mk hr0
 have HC0 := Aside0.mk hc0
 clear hr0 hc0
 have H : (rundlelaw26_digits.l0 k l0 0) = some r := h
 clear h
 have H' := Aside0.mk H
 clear H
 go_enter Tryz.func51, Tryz.ntmps51
 go_wp2
 go_loopg [3] k (fun kq v3 w' => ∃ (x3_1 : Int), v3 = .int .i64 x3_1 ∧ Aside0 (rundlelaw26_digits.l0 kq l0 x3_1 = some r) ∧ Aside0 (kq ≤ k) ∧ Drawn0 w w')
 case atStart => exact ⟨(0), (by first | rfl | (simp; done) | (simp [*]; done)), H', ⟨Nat.le_refl _⟩, by repeat (first | exact Drawn0.refl _ | apply Drawn0.step)⟩
 case round =>
  clear H'
  obtain ⟨x3_1, rfl, HA, HK1, ⟨m1, rfl⟩⟩ := hrel
  cases gk with
  | zero => exact absurd HA.out (by simp [rundlelaw26_digits.l0])
  | succ k1 =>
   have H := HA.out
   clear HA
   simp only [rundlelaw26_digits.l0] at H
   by_cases c2 : x3_1 < (l0.length : Int)
   ·
    rw [if_pos c2] at H
    have c2b0 : decide (x3_1 < (l0.length : Int)) = true := decide_eq_true c2
    clear c2
    by_cases c3 : 0 ≤ x3_1
    ·
     rw [if_pos c3] at H
     have c3b0 : decide (0 ≤ x3_1) = true := decide_eq_true c3
     clear c3
     by_cases c4 : (rd l0 x3_1) > 999999999999999
     ·
      rw [if_pos c4] at H
      have c4b0 : decide (999999999999999 < (rd l0 x3_1)) = true := decide_eq_true c4
      clear c4
      obtain rfl := Option.some.inj H
      have p349 : 0 ≤ (x3_1 : Int) := of_decide_eq_true (by first | (with_reducible assumption) | assumption)
      have q349 : x3_1 < (l0.length : Int) := of_decide_eq_true (by first | (with_reducible assumption) | assumption)
      obtain ⟨ad349, e349, hx349_0⟩ := Kd.at_int HR0.out x3_1 p349 q349
      cases e349
      replace p349 := eq_true p349
      replace q349 := eq_true q349
      go_wp2
      go_ret
      exact ⟨by first | rfl | (simp; done) | (simp [*]; done), by repeat (first | exact Drawn0.refl _ | apply Drawn0.step)⟩
     ·
      rw [if_neg c4] at H
      have c4b0 : decide (999999999999999 < (rd l0 x3_1)) = false := decide_eq_false c4
      clear c4
      by_cases c5 : (rd l0 x3_1) < (-999999999999999)
      ·
       rw [if_pos c5] at H
       have c5b0 : decide ((rd l0 x3_1) < (-999999999999999)) = true := decide_eq_true c5
       clear c5
       obtain rfl := Option.some.inj H
       have p349 : 0 ≤ (x3_1 : Int) := of_decide_eq_true (by first | (with_reducible assumption) | assumption)
       have q349 : x3_1 < (l0.length : Int) := of_decide_eq_true (by first | (with_reducible assumption) | assumption)
       obtain ⟨ad349, e349, hx349_0⟩ := Kd.at_int HR0.out x3_1 p349 q349
       cases e349
       replace p349 := eq_true p349
       replace q349 := eq_true q349
       have p350 : 0 ≤ (x3_1 : Int) := of_decide_eq_true (by first | (with_reducible assumption) | assumption)
       have q350 : x3_1 < (l0.length : Int) := of_decide_eq_true (by first | (with_reducible assumption) | assumption)
       obtain ⟨ad350, e350, hx350_0⟩ := Kd.at_int HR0.out x3_1 p350 q350
       obtain rfl : ad349 = ad350 := (by injection e350)
       replace p350 := eq_true p350
       replace q350 := eq_true q350
       go_wp2
       go_ret
       exact ⟨by first | rfl | (simp; done) | (simp [*]; done), by repeat (first | exact Drawn0.refl _ | apply Drawn0.step)⟩
      ·
       rw [if_neg c5] at H
       have c5b0 : decide ((rd l0 x3_1) < (-999999999999999)) = false := decide_eq_false c5
       clear c5
       have H' := Aside0.mk H
       clear H
       have p349 : 0 ≤ (x3_1 : Int) := of_decide_eq_true (by first | (with_reducible assumption) | assumption)
       have q349 : x3_1 < (l0.length : Int) := of_decide_eq_true (by first | (with_reducible assumption) | assumption)
       obtain ⟨ad349, e349, hx349_0⟩ := Kd.at_int HR0.out x3_1 p349 q349
       cases e349
       replace p349 := eq_true p349
       replace q349 := eq_true q349
       have p350 : 0 ≤ (x3_1 : Int) := of_decide_eq_true (by first | (with_reducible assumption) | assumption)
       have q350 : x3_1 < (l0.length : Int) := of_decide_eq_true (by first | (with_reducible assumption) | assumption)
       obtain ⟨ad350, e350, hx350_0⟩ := Kd.at_int HR0.out x3_1 p350 q350
       obtain rfl : ad349 = ad350 := (by injection e350)
       replace p350 := eq_true p350
       replace q350 := eq_true q350
       go_wp2
       go_roundg k1
       case measure => have := HK1.out; omega
       case rel => exact ⟨(wrap64 (x3_1 + 1)), (by first | rfl | (simp; done) | (simp [*]; done)), H', ⟨by have := HK1.out; omega⟩, by repeat (first | exact Drawn0.refl _ | apply Drawn0.step)⟩
    ·
     rw [if_neg c3] at H
     exact absurd H (by simp)
   ·
    rw [if_neg c2] at H
    have c2b0 : decide (x3_1 < (l0.length : Int)) = false := decide_eq_false c2
    clear c2
    obtain rfl := Option.some.inj H
    go_wp2
    go_ret
    exact ⟨by first | rfl | (simp; done) | (simp [*]; done), by repeat (first | exact Drawn0.refl _ | apply Drawn0.step)⟩

/-! ### rundlelaw26_number: function 28 -/
def rundlelaw26_number.f (a0 : Bool) : Option (Int) := if a0 = true then (some 1) else (some 0)
set_option maxHeartbeats 8000000 in
set_option maxRecDepth 100000 in
theorem rundlelaw26_number.calls (a0 : Bool) (r : Int) (w : World) (h : rundlelaw26_number.f a0 = some r) :
  Calls Tryz.prog 28 #[.bool a0] w fun e w' => e = .returned (.int .i64 r) ∧ Drawn0 w w' := by
 have H : (if a0 = true then (some 1) else (some 0)) = some r := h
 clear h
 by_cases c2 : a0 = true
 ·
  subst c2
  have H1 : (some 1) = some r := by rw [if_pos rfl] at H; exact H
  clear H
  have H := H1
  clear H1
  obtain rfl := Option.some.inj H
  go_enter Tryz.func28, Tryz.ntmps28
  go_wp2
  go_ret
  exact ⟨by first | rfl | (simp; done) | (simp [*]; done), by repeat (first | exact Drawn0.refl _ | apply Drawn0.step)⟩
 ·
  replace c2 := Bool.eq_false_iff.mpr c2
  subst c2
  have H1 : (some 0) = some r := by rw [if_neg (show ¬ (false = true) by decide)] at H; exact H
  clear H
  have H := H1
  clear H1
  obtain rfl := Option.some.inj H
  go_enter Tryz.func28, Tryz.ntmps28
  go_wp2
  go_ret
  exact ⟨by first | rfl | (simp; done) | (simp [*]; done), by repeat (first | exact Drawn0.refl _ | apply Drawn0.step)⟩

end Go.Proofs.YtlkbeddlmbghkaaGreatDoor.PR
