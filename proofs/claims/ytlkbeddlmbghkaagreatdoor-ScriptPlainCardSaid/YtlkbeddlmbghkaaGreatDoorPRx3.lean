/- Functions with the same answers as the Go functions named, and that the Go code comes to just these; written by a program of this work, out of the kit's print. -/
import Derived.Test.YtlkbeddlmbghkaaGreatDoorPRx0
import Derived.Test.YtlkbeddlmbghkaaGreatDoorPRx2
import Derived.Test.YtlkbeddlmbghkaaGreatDoorClsL
import Derived.Test.YtlkbeddlmbghkaaGreatDoorRng
namespace Go.Proofs.YtlkbeddlmbghkaaGreatDoor.PR
open Go.RowKit Go.Proofs.YtlkbeddlmbghkaaGreatDoorW.PrintWords Go.Proofs.YtlkbeddlmbghkaaGreatDoorW.PrintLast Go.Proofs.YtlkbeddlmbghkaaGreatDoorW.PrintMore
attribute [local go_sem] Wd.one Wd.run_store Go.Lib.run_max_strs max2_int min2_int max_two min_two max_three min_three max_four min_four   -- for this text's walks alone
set_option linter.unusedVariables false
set_option linter.unusedSimpArgs false

/-! ### runes_Unquote: function 89 -/
mutual
def runes_Unquote.j0 : Nat → ByteArray → Bool → Option (ByteArray × Bool)
 | 0, _, _ => none
 | k + 1, x0, x30 => if x30 = true then (some ((⟨#[]⟩ : ByteArray), false)) else (if 1 ≤ (wrap64 ((x0.size : Int) - 1)) then (if (wrap64 ((x0.size : Int) - 1)) ≤ (x0.size : Int) then (runes_Unquote.l0 k ([] : List Int) (x0.extract 1 ((wrap64 ((x0.size : Int) - 1)) : Int).toNat) 0) else (none)) else (none))
def runes_Unquote.l0 : Nat → List Int → ByteArray → Int → Option (ByteArray × Bool)
 | 0, _, _, _ => none
 | k + 1, x4, x5, x6 => if x6 < (x5.size : Int) then (if 0 ≤ x6 then (if (bt x5 x6) = 34 then (runes_Unquote.j2 k x4 x5 x6 (bt x5 x6) true) else (if (bt x5 x6) < 32 then (runes_Unquote.j2 k x4 x5 x6 (bt x5 x6) true) else (runes_Unquote.j2 k x4 x5 x6 (bt x5 x6) ((bt x5 x6) == 127)))) else (none)) else (some (strOfNums x4, true))
def runes_Unquote.j2 : Nat → List Int → ByteArray → Int → Int → Bool → Option (ByteArray × Bool)
 | 0, _, _, _, _, _ => none
 | k + 1, x4, x5, x6, x7, x45 => if x45 = true then (some ((⟨#[]⟩ : ByteArray), false)) else (if x7 = 92 then (if 0 ≤ (wrap64 (x6 + 1)) then (if (wrap64 (x6 + 1)) ≤ (x5.size : Int) then ((runes_turned.f k (x5.extract ((wrap64 (x6 + 1)) : Int).toNat x5.size)).bind fun bt104 => (if bt104.2 = 0 then (some ((⟨#[]⟩ : ByteArray), false)) else (if x4.length < 140737488355328 then (runes_Unquote.l0 k (x4 ++ [bt104.1]) x5 (wrap64 ((wrap64 (x6 + bt104.2)) + 1))) else (none)))) else (none)) else (none)) else (if x4.length < 140737488355328 then (runes_Unquote.l0 k (x4 ++ [x7]) x5 (wrap64 (x6 + 1))) else (none)))
end
def runes_Unquote.f (k : Nat) (a0 : ByteArray) : Option (ByteArray × Bool) := if (a0.size : Int) < 2 then (runes_Unquote.j0 k a0 true) else (if 0 < (a0.size : Int) then (if (bt a0 0) = 34 then (if 0 ≤ (wrap64 ((a0.size : Int) - 1)) then (if (wrap64 ((a0.size : Int) - 1)) < (a0.size : Int) then (if (bt a0 (wrap64 ((a0.size : Int) - 1))) = 34 then ((runes_Right.f a0).bind fun t103 => (runes_Unquote.j0 k a0 (decide (t103 ≥ 0)))) else (runes_Unquote.j0 k a0 true)) else (none)) else (none)) else (runes_Unquote.j0 k a0 true)) else (none))
theorem runes_Unquote.mono_l : ∀ k, (∀ y0 y1, LeO (runes_Unquote.j0 k y0 y1) (runes_Unquote.j0 (k + 1) y0 y1)) ∧ (∀ y0 y1 y2, LeO (runes_Unquote.l0 k y0 y1 y2) (runes_Unquote.l0 (k + 1) y0 y1 y2)) ∧ (∀ y0 y1 y2 y3 y4, LeO (runes_Unquote.j2 k y0 y1 y2 y3 y4) (runes_Unquote.j2 (k + 1) y0 y1 y2 y3 y4))
 | 0 => ⟨fun _ _ r h => by simp [runes_Unquote.j0] at h, fun _ _ _ r h => by simp [runes_Unquote.l0] at h, fun _ _ _ _ _ r h => by simp [runes_Unquote.j2] at h⟩
 | k + 1 => by
  obtain ⟨ih0, ih1, ih2⟩ := runes_Unquote.mono_l k
  refine ⟨?_, ?_, ?_⟩
  ·
   intro y0 y1
   unfold runes_Unquote.j0
   repeat' first
   | (with_reducible exact ih0 _ _)
   | (with_reducible exact ih1 _ _ _)
   | (with_reducible exact ih2 _ _ _ _ _)
   | (with_reducible exact runes_turned.mono _ _)
   | (with_reducible exact LeO.refl _)
   | (with_reducible exact LeO.none _)
   | (with_reducible refine LeO.ite ?_ ?_)
   | (with_reducible refine LeO.bind ?_ (fun _ => ?_))
   | exact ih0 _ _
   | exact ih1 _ _ _
   | exact ih2 _ _ _ _ _
   | exact runes_turned.mono _ _
   | exact LeO.none _
   | refine LeO.ite ?_ ?_
   | refine LeO.bind ?_ (fun _ => ?_)
  ·
   intro y0 y1 y2
   unfold runes_Unquote.l0
   repeat' first
   | (with_reducible exact ih0 _ _)
   | (with_reducible exact ih1 _ _ _)
   | (with_reducible exact ih2 _ _ _ _ _)
   | (with_reducible exact runes_turned.mono _ _)
   | (with_reducible exact LeO.refl _)
   | (with_reducible exact LeO.none _)
   | (with_reducible refine LeO.ite ?_ ?_)
   | (with_reducible refine LeO.bind ?_ (fun _ => ?_))
   | exact ih0 _ _
   | exact ih1 _ _ _
   | exact ih2 _ _ _ _ _
   | exact runes_turned.mono _ _
   | exact LeO.none _
   | refine LeO.ite ?_ ?_
   | refine LeO.bind ?_ (fun _ => ?_)
  ·
   intro y0 y1 y2 y3 y4
   unfold runes_Unquote.j2
   repeat' first
   | (with_reducible exact ih0 _ _)
   | (with_reducible exact ih1 _ _ _)
   | (with_reducible exact ih2 _ _ _ _ _)
   | (with_reducible exact runes_turned.mono _ _)
   | (with_reducible exact LeO.refl _)
   | (with_reducible exact LeO.none _)
   | (with_reducible refine LeO.ite ?_ ?_)
   | (with_reducible refine LeO.bind ?_ (fun _ => ?_))
   | exact ih0 _ _
   | exact ih1 _ _ _
   | exact ih2 _ _ _ _ _
   | exact runes_turned.mono _ _
   | exact LeO.none _
   | refine LeO.ite ?_ ?_
   | refine LeO.bind ?_ (fun _ => ?_)
theorem runes_Unquote.mono : ∀ a0 k, LeO (runes_Unquote.f k a0) (runes_Unquote.f (k + 1) a0) := by
 intro a0 k
 obtain ⟨ih0, ih1, ih2⟩ := runes_Unquote.mono_l k
 unfold runes_Unquote.f
 repeat' first
   | (with_reducible exact ih0 _ _)
   | (with_reducible exact ih1 _ _ _)
   | (with_reducible exact ih2 _ _ _ _ _)
   | (with_reducible exact runes_turned.mono _ _)
   | (with_reducible exact LeO.refl _)
   | (with_reducible exact LeO.none _)
   | (with_reducible refine LeO.ite ?_ ?_)
   | (with_reducible refine LeO.bind ?_ (fun _ => ?_))
   | exact ih0 _ _
   | exact ih1 _ _ _
   | exact ih2 _ _ _ _ _
   | exact runes_turned.mono _ _
   | exact LeO.none _
   | refine LeO.ite ?_ ?_
   | refine LeO.bind ?_ (fun _ => ?_)
set_option maxHeartbeats 8000000 in
set_option maxRecDepth 100000 in
theorem runes_Unquote.calls (k : Nat) (a0 : ByteArray) (r1 : ByteArray) (r2 : Bool) (w : World) (h : runes_Unquote.f k a0 = some (r1, r2)) :
  Calls Tryz.prog 89 #[.string a0] w fun e w' => e = .returned (.tuple #[.string r1, .bool r2]) ∧ Below w.heap.size w w' := by
 have HB := Aside0.mk (Below.refl w.heap.size w)
 have H : (if (a0.size : Int) < 2 then (runes_Unquote.j0 k a0 true) else (if 0 < (a0.size : Int) then (if (bt a0 0) = 34 then (if 0 ≤ (wrap64 ((a0.size : Int) - 1)) then (if (wrap64 ((a0.size : Int) - 1)) < (a0.size : Int) then (if (bt a0 (wrap64 ((a0.size : Int) - 1))) = 34 then ((runes_Right.f a0).bind fun t103 => (runes_Unquote.j0 k a0 (decide (t103 ≥ 0)))) else (runes_Unquote.j0 k a0 true)) else (none)) else (none)) else (runes_Unquote.j0 k a0 true)) else (none))) = some (r1, r2) := h
 clear h
 have HC2 := Aside0.mk H
 clear H
 go_enter Tryz.func89, Tryz.ntmps89
 go_upto_region 1 with (fail)
 go_cut [30] (fun v30 wc => ∃ (kq : Nat) (x30_1 : Bool), v30 = .bool x30_1 ∧ Aside0 (runes_Unquote.j0 kq a0 x30_1 = some (r1, r2)) ∧ Aside0 (kq ≤ k) ∧ Aside0 (Below w.heap.size w wc))
 case first =>
  have H := HC2.out
  clear HC2
  by_cases c3 : (a0.size : Int) < 2
  ·
   rw [if_pos c3] at H
   have c3b0 : decide ((a0.size : Int) < 2) = true := decide_eq_true c3
   have c3b1 : decide (a0.size < 2) = true := decide_eq_true (by omega)
   clear c3
   (first | rw [c3b0] | (simp only [i64_w, i32_w]; rw [c3b0]) | skip)
   have H' := Aside0.mk H
   clear H
   go_wp2
   go_meet
   case rel => exact ⟨_, (true), (by first | rfl | (simp; done) | (simp [*]; done)), H', ⟨by first | omega | exact Nat.le_refl _⟩, ⟨by repeat (first | (with_reducible first | exact HB.out | apply below_alloc | apply pw_below_drewN | apply below_drew1) | exact HB.out)⟩⟩
  ·
   rw [if_neg c3] at H
   have c3b0 : decide ((a0.size : Int) < 2) = false := decide_eq_false c3
   have c3b1 : decide (a0.size < 2) = false := decide_eq_false (by omega)
   clear c3
   (first | rw [c3b0] | (simp only [i64_w, i32_w]; rw [c3b0]) | skip)
   by_cases c4 : 0 < (a0.size : Int)
   ·
    rw [if_pos c4] at H
    have c4b0 : decide (0 < (a0.size : Int)) = true := decide_eq_true c4
    have c4b1 : decide (0 < a0.size) = true := decide_eq_true (by omega)
    clear c4
    by_cases c6 : (bt a0 0) = 34
    ·
     rw [if_pos c6] at H
     have c6b0 : ((bt a0 0) == 34) = true := beq_iff_eq.mpr c6
     have c6b1 : ((bt a0 0) != 34) = false := bne_eq_false_iff_eq.mpr c6
     clear c6
     obtain ⟨ji7, hji7⟩ : ∃ j_ : Int, (wrap64 ((a0.size : Int) - 1)) = j_ := ⟨_, rfl⟩
     replace H : (if 0 ≤ (ji7) then (if (ji7) < (a0.size : Int) then (if (bt a0 (ji7)) = 34 then ((runes_Right.f a0).bind fun t103 => (runes_Unquote.j0 k a0 (decide (t103 ≥ 0)))) else (runes_Unquote.j0 k a0 true)) else (none)) else (none)) = some (r1, r2) := by first | (rw [hji7] at H; exact H) | (simp only [hji7] at H ⊢; exact H)
     have hji7w : (IntKind.i64.wrap ((a0.size : Int) - 1)) = ji7 := (i64_w _).trans hji7
     by_cases c8 : 0 ≤ (ji7)
     ·
      rw [if_pos c8] at H
      have c8b0 : decide (0 ≤ (ji7)) = true := decide_eq_true c8
      clear c8
      by_cases c9 : (ji7) < (a0.size : Int)
      ·
       rw [if_pos c9] at H
       have c9b0 : decide ((ji7) < (a0.size : Int)) = true := decide_eq_true c9
       clear c9
       by_cases c11 : (bt a0 (ji7)) = 34
       ·
        rw [if_pos c11] at H
        have c11b0 : ((bt a0 (ji7)) == 34) = true := beq_iff_eq.mpr c11
        have c11b1 : ((bt a0 (ji7)) != 34) = false := bne_eq_false_iff_eq.mpr c11
        clear c11
        replace H := Option.bind_eq_some_iff.mp H
        obtain ⟨t103, A120, H⟩ := H
        replace H : (runes_Unquote.j0 k a0 (decide (t103 ≥ 0))) = some (r1, r2) := H
        have A12 := Aside0.mk A120
        clear A120
        have H' := Aside0.mk H
        clear H
        have p5 : 0 ≤ (0 : Int) := (by omega)
        have q5 : 0 < a0.size := (by have : (0 : Int) < (a0.size : Int) := of_decide_eq_true (by first | (with_reducible assumption) | assumption); omega)
        have hx5 : ∀ h : 0 < a0.size, ((a0[0]'h).toNat : Int) = bt a0 0 := bt_at a0 0
        clear p5
        have qi5 : (0 < (a0.size : Int)) = True := eq_true (of_decide_eq_true (by first | (with_reducible assumption) | assumption))
        replace q5 := eq_true q5
        have p10 : 0 ≤ ((ji7) : Int) := of_decide_eq_true (by first | (with_reducible assumption) | assumption)
        have q10 : (ji7) < (a0.size : Int) := of_decide_eq_true (by first | (with_reducible assumption) | assumption)
        have hx10 := bt_at a0 (ji7)
        replace p10 := eq_true p10
        replace q10 := eq_true q10
        go_wp2_with (first | (go_at_call 109; (with_reducible refine (runes_Right.calls a0 t103 _ A12.out).mono ?_); rintro e w13 ⟨rfl, hb⟩; have n0_ := Aside0.mk (below_step (by repeat (first | (with_reducible first | exact HB.out | apply below_alloc | apply pw_below_drewN | apply below_drew1) | exact HB.out)) hb); clear HB; have HB := n0_; clear n0_; (try clear hb); (try clear hb2); (try clear hk); (try clear hi)))
        go_meet
        case rel => exact ⟨_, (decide (t103 ≥ 0)), (by first | rfl | (simp; done) | (simp [*]; done)), H', ⟨by first | omega | exact Nat.le_refl _⟩, ⟨by repeat (first | (with_reducible first | exact HB.out | apply below_alloc | apply pw_below_drewN | apply below_drew1) | exact HB.out)⟩⟩
       ·
        rw [if_neg c11] at H
        have c11b0 : ((bt a0 (ji7)) == 34) = false := beq_eq_false_iff_ne.mpr c11
        have c11b1 : ((bt a0 (ji7)) != 34) = true := bne_iff_ne.mpr c11
        have H' := Aside0.mk H
        clear H
        have p5 : 0 ≤ (0 : Int) := (by omega)
        have q5 : 0 < a0.size := (by have : (0 : Int) < (a0.size : Int) := of_decide_eq_true (by first | (with_reducible assumption) | assumption); omega)
        have hx5 : ∀ h : 0 < a0.size, ((a0[0]'h).toNat : Int) = bt a0 0 := bt_at a0 0
        clear p5
        have qi5 : (0 < (a0.size : Int)) = True := eq_true (of_decide_eq_true (by first | (with_reducible assumption) | assumption))
        replace q5 := eq_true q5
        have p10 : 0 ≤ ((ji7) : Int) := of_decide_eq_true (by first | (with_reducible assumption) | assumption)
        have q10 : (ji7) < (a0.size : Int) := of_decide_eq_true (by first | (with_reducible assumption) | assumption)
        have hx10 := bt_at a0 (ji7)
        replace p10 := eq_true p10
        replace q10 := eq_true q10
        go_wp2
        go_meet
        case rel => exact ⟨_, (true), (by first | rfl | (simp; done) | (simp [*]; done)), H', ⟨by first | omega | exact Nat.le_refl _⟩, ⟨by repeat (first | (with_reducible first | exact HB.out | apply below_alloc | apply pw_below_drewN | apply below_drew1) | exact HB.out)⟩⟩
      ·
       rw [if_neg c9] at H
       exact absurd H (by simp)
     ·
      rw [if_neg c8] at H
      exact absurd H (by simp)
    ·
     rw [if_neg c6] at H
     have c6b0 : ((bt a0 0) == 34) = false := beq_eq_false_iff_ne.mpr c6
     have c6b1 : ((bt a0 0) != 34) = true := bne_iff_ne.mpr c6
     have H' := Aside0.mk H
     clear H
     have p5 : 0 ≤ (0 : Int) := (by omega)
     have q5 : 0 < a0.size := (by have : (0 : Int) < (a0.size : Int) := of_decide_eq_true (by first | (with_reducible assumption) | assumption); omega)
     have hx5 : ∀ h : 0 < a0.size, ((a0[0]'h).toNat : Int) = bt a0 0 := bt_at a0 0
     clear p5
     have qi5 : (0 < (a0.size : Int)) = True := eq_true (of_decide_eq_true (by first | (with_reducible assumption) | assumption))
     replace q5 := eq_true q5
     go_wp2
     go_meet
     case rel => exact ⟨_, (true), (by first | rfl | (simp; done) | (simp [*]; done)), H', ⟨by first | omega | exact Nat.le_refl _⟩, ⟨by repeat (first | (with_reducible first | exact HB.out | apply below_alloc | apply pw_below_drewN | apply below_drew1) | exact HB.out)⟩⟩
   ·
    rw [if_neg c4] at H
    exact absurd H (by simp)
 case rest =>
  clear HC2
  try clear c1
  try clear p1
  try clear q1
  try clear hx1
  try clear p2
  try clear c3
  try clear c3b0
  try clear c3b1
  try clear c4
  try clear c4b0
  try clear c4b1
  try clear p5
  try clear q5
  try clear hx5
  try clear qi5
  try clear c6
  try clear c6b0
  try clear c6b1
  try clear p6
  try clear c8
  try clear c8b0
  try clear c9
  try clear c9b0
  try clear p10
  try clear q10
  try clear hx10
  try clear c11
  try clear c11b0
  try clear c11b1
  try clear p10
  try clear p5
  try clear q10
  try clear q5
  obtain ⟨kq, x30_1, rfl, HA, HJ1, HB⟩ := hcut
  cases kq with
  | zero => exact absurd HA.out (by simp [runes_Unquote.j0])
  | succ kj1 =>
   have H := HA.out
   clear HA
   simp only [runes_Unquote.j0] at H
   by_cases c14 : x30_1 = true
   ·
    subst c14
    have H1 : (some ((⟨#[]⟩ : ByteArray), false)) = some (r1, r2) := by rw [if_pos rfl] at H; exact H
    clear H
    have H := H1
    clear H1
    simp only [Option.some.injEq, Prod.mk.injEq] at H
    obtain ⟨rfl, rfl⟩ := H
    go_wp2
    go_ret2
    exact ⟨by first | rfl | (simp [errW_none, errW_some] <;> rfl) | (simp [*, errW_none, errW_some] <;> rfl), by repeat (first | (with_reducible first | exact HB.out | apply below_alloc | apply pw_below_drewN | apply below_drew1) | exact HB.out)⟩
   ·
    replace c14 := Bool.eq_false_iff.mpr c14
    subst c14
    have H1 : (if 1 ≤ (wrap64 ((a0.size : Int) - 1)) then (if (wrap64 ((a0.size : Int) - 1)) ≤ (a0.size : Int) then (runes_Unquote.l0 kj1 ([] : List Int) (a0.extract 1 ((wrap64 ((a0.size : Int) - 1)) : Int).toNat) 0) else (none)) else (none)) = some (r1, r2) := by rw [if_neg (show ¬ (false = true) by decide)] at H; exact H
    clear H
    have H := H1
    clear H1
    by_cases c15 : 1 ≤ (wrap64 ((a0.size : Int) - 1))
    ·
     rw [if_pos c15] at H
     have c15b0 := eq_true c15
     have c15b1 : decide (1 ≤ (wrap64 ((a0.size : Int) - 1))) = true := decide_eq_true c15
     clear c15
     by_cases c16 : (wrap64 ((a0.size : Int) - 1)) ≤ (a0.size : Int)
     ·
      rw [if_pos c16] at H
      have c16b0 := eq_true c16
      have c16b1 : decide ((wrap64 ((a0.size : Int) - 1)) ≤ (a0.size : Int)) = true := decide_eq_true c16
      clear c16
      have H' := Aside0.mk H
      clear H
      go_wp2
      generalize hXS : a0.extract 1 ((wrap64 ((a0.size : Int) - 1)) : Int).toNat = XS at *
      clear hXS
      go_loopg [4, 6] kj1 (fun kq v4 v6 w' => ∃ (x4_2 : List Int) (x6_2 : Int), v6 = .int .i64 x6_2 ∧ Aside0 (runes_Unquote.l0 kq x4_2 XS x6_2 = some (r1, r2)) ∧ Aside0 (kq ≤ kj1) ∧ Aside0 (Kd.R (Kd.int .u8) 5 w' w.heap.size (fun _ => True) v4 x4_2) ∧ Aside0 (Below w.heap.size w w'))
      case atStart => exact ⟨(([] : List Int)), (0), (by first | rfl | (simp; done) | (simp [*]; done)), H', ⟨Nat.le_refl _⟩, ⟨by first | exact Kd.R_nil _ _ _ _ _ | exact Kd.N_nil _ _ _ _ _ | exact Kd.V_nil _ _ _ _ _ | exact Kd.Q_nil _ _ _ _ _ | exact Kd.S_nil _ _ _ _ _⟩, ⟨by repeat (first | (with_reducible first | exact HB.out | apply below_alloc | apply pw_below_drewN | apply below_drew1) | exact HB.out)⟩⟩
      case round =>
       clear H'
       try clear c1
       try clear p1
       try clear q1
       try clear hx1
       try clear p2
       try clear c3
       try clear c3b0
       try clear c3b1
       try clear c4
       try clear c4b0
       try clear c4b1
       try clear p5
       try clear q5
       try clear hx5
       try clear qi5
       try clear c6
       try clear c6b0
       try clear c6b1
       try clear p6
       try clear c8
       try clear c8b0
       try clear c9
       try clear c9b0
       try clear p10
       try clear q10
       try clear hx10
       try clear c11
       try clear c11b0
       try clear c11b1
       try clear c14
       try clear c15
       try clear c15b0
       try clear c15b1
       try clear c16
       try clear c16b0
       try clear c16b1
       try clear p1
       try clear p10
       try clear p2
       try clear p5
       try clear p6
       try clear q1
       try clear q10
       try clear q5
       obtain ⟨x4_2, x6_2, rfl, HA, HK2, HO_4, HB⟩ := hrel
       cases gk with
       | zero => exact absurd HA.out (by simp [runes_Unquote.l0])
       | succ k2 =>
        have H := HA.out
        clear HA
        simp only [runes_Unquote.l0] at H
        by_cases c17 : x6_2 < (XS.size : Int)
        ·
         rw [if_pos c17] at H
         have c17b0 : decide (x6_2 < (XS.size : Int)) = true := decide_eq_true c17
         clear c17
         by_cases c18 : 0 ≤ x6_2
         ·
          rw [if_pos c18] at H
          have c18b0 : decide (0 ≤ x6_2) = true := decide_eq_true c18
          clear c18
          have HC20 := Aside0.mk H
          clear H
          have p19 : 0 ≤ (x6_2 : Int) := of_decide_eq_true (by first | (with_reducible assumption) | assumption)
          have q19 : x6_2 < (XS.size : Int) := of_decide_eq_true (by first | (with_reducible assumption) | assumption)
          have hx19 := bt_at XS x6_2
          replace p19 := eq_true p19
          replace q19 := eq_true q19
          go_upto_region 9 with (fail)
          go_cut [45] (fun v45 wc => ∃ (kq : Nat) (x45_19 : Bool), v45 = .bool x45_19 ∧ Aside0 (runes_Unquote.j2 kq x4_2 XS x6_2 (bt XS x6_2) x45_19 = some (r1, r2)) ∧ Aside0 (kq ≤ k2) ∧ Aside0 (Kd.R (Kd.int .u8) 5 wc w.heap.size (fun _ => True) u4 x4_2) ∧ Aside0 (Below w.heap.size w wc))
          case first =>
           have H := HC20.out
           clear HC20
           by_cases c21 : (bt XS x6_2) = 34
           ·
            rw [if_pos c21] at H
            have c21b0 : ((bt XS x6_2) == 34) = true := beq_iff_eq.mpr c21
            have c21b1 : ((bt XS x6_2) != 34) = false := bne_eq_false_iff_eq.mpr c21
            clear c21
            (first | rw [c21b0] | (simp only [i64_w, i32_w]; rw [c21b0]) | skip)
            have H' := Aside0.mk H
            clear H
            go_wp2
            go_meet
            case rel => exact ⟨_, (true), (by first | rfl | (simp; done) | (simp [*]; done)), H', ⟨by have := HJ1.out; have := HK2.out; first | omega | exact Nat.le_refl _⟩, ⟨by (with_reducible repeat (first | apply Kd.R_alloc | apply Kd.R_drewN | apply Kd.R_drew)); exact HO_4.out⟩, ⟨by repeat (first | (with_reducible first | exact HB.out | apply below_alloc | apply pw_below_drewN | apply below_drew1) | exact HB.out)⟩⟩
           ·
            rw [if_neg c21] at H
            have c21b0 : ((bt XS x6_2) == 34) = false := beq_eq_false_iff_ne.mpr c21
            have c21b1 : ((bt XS x6_2) != 34) = true := bne_iff_ne.mpr c21
            (first | rw [c21b0] | (simp only [i64_w, i32_w]; rw [c21b0]) | skip)
            by_cases c22 : (bt XS x6_2) < 32
            ·
             rw [if_pos c22] at H
             have c22b0 : decide ((bt XS x6_2) < 32) = true := decide_eq_true c22
             clear c22
             have H' := Aside0.mk H
             clear H
             go_wp2
             go_meet
             case rel => exact ⟨_, (true), (by first | rfl | (simp; done) | (simp [*]; done)), H', ⟨by have := HJ1.out; have := HK2.out; first | omega | exact Nat.le_refl _⟩, ⟨by (with_reducible repeat (first | apply Kd.R_alloc | apply Kd.R_drewN | apply Kd.R_drew)); exact HO_4.out⟩, ⟨by repeat (first | (with_reducible first | exact HB.out | apply below_alloc | apply pw_below_drewN | apply below_drew1) | exact HB.out)⟩⟩
            ·
             rw [if_neg c22] at H
             have c22b0 : decide ((bt XS x6_2) < 32) = false := decide_eq_false c22
             clear c22
             have H' := Aside0.mk H
             clear H
             go_wp2
             go_meet
             case rel => exact ⟨_, (((bt XS x6_2) == 127)), (by first | rfl | (simp; done) | (simp [*]; done)), H', ⟨by have := HJ1.out; have := HK2.out; first | omega | exact Nat.le_refl _⟩, ⟨by (with_reducible repeat (first | apply Kd.R_alloc | apply Kd.R_drewN | apply Kd.R_drew)); exact HO_4.out⟩, ⟨by repeat (first | (with_reducible first | exact HB.out | apply below_alloc | apply pw_below_drewN | apply below_drew1) | exact HB.out)⟩⟩
          case rest =>
           clear HC20
           try clear c1
           try clear p1
           try clear q1
           try clear hx1
           try clear c2
           try clear p2
           try clear c3
           try clear c3b0
           try clear c3b1
           try clear c4
           try clear c4b0
           try clear c4b1
           try clear p5
           try clear q5
           try clear hx5
           try clear qi5
           try clear c6
           try clear c6b0
           try clear c6b1
           try clear p6
           try clear c8
           try clear c8b0
           try clear c9
           try clear c9b0
           try clear p10
           try clear q10
           try clear hx10
           try clear c11
           try clear c11b0
           try clear c11b1
           try clear c14
           try clear c15
           try clear c15b0
           try clear c15b1
           try clear c16
           try clear c16b0
           try clear c16b1
           try clear c17
           try clear c17b0
           try clear c18
           try clear c18b0
           try clear p19
           try clear q19
           try clear hx19
           try clear c21
           try clear c21b0
           try clear c21b1
           try clear c22
           try clear c22b0
           try clear p1
           try clear p10
           try clear p19
           try clear p2
           try clear p5
           try clear p6
           try clear q1
           try clear q10
           try clear q19
           try clear q5
           obtain ⟨kq, x45_19, rfl, HA, HJ19, HO_4, HB⟩ := hcut
           cases kq with
           | zero => exact absurd HA.out (by simp [runes_Unquote.j2])
           | succ kj19 =>
            have H := HA.out
            clear HA
            simp only [runes_Unquote.j2] at H
            by_cases c23 : x45_19 = true
            ·
             subst c23
             have H1 : (some ((⟨#[]⟩ : ByteArray), false)) = some (r1, r2) := by rw [if_pos rfl] at H; exact H
             clear H
             have H := H1
             clear H1
             simp only [Option.some.injEq, Prod.mk.injEq] at H
             obtain ⟨rfl, rfl⟩ := H
             go_wp2
             go_ret2
             exact ⟨by first | rfl | (simp [errW_none, errW_some] <;> rfl) | (simp [*, errW_none, errW_some] <;> rfl), by repeat (first | (with_reducible first | exact HB.out | apply below_alloc | apply pw_below_drewN | apply below_drew1) | exact HB.out)⟩
            ·
             replace c23 := Bool.eq_false_iff.mpr c23
             subst c23
             have H1 : (if (bt XS x6_2) = 92 then (if 0 ≤ (wrap64 (x6_2 + 1)) then (if (wrap64 (x6_2 + 1)) ≤ (XS.size : Int) then ((runes_turned.f kj19 (XS.extract ((wrap64 (x6_2 + 1)) : Int).toNat XS.size)).bind fun bt104 => (if bt104.2 = 0 then (some ((⟨#[]⟩ : ByteArray), false)) else (if x4_2.length < 140737488355328 then (runes_Unquote.l0 kj19 (x4_2 ++ [bt104.1]) XS (wrap64 ((wrap64 (x6_2 + bt104.2)) + 1))) else (none)))) else (none)) else (none)) else (if x4_2.length < 140737488355328 then (runes_Unquote.l0 kj19 (x4_2 ++ [(bt XS x6_2)]) XS (wrap64 (x6_2 + 1))) else (none))) = some (r1, r2) := by rw [if_neg (show ¬ (false = true) by decide)] at H; exact H
             clear H
             have H := H1
             clear H1
             by_cases c24 : (bt XS x6_2) = 92
             ·
              rw [if_pos c24] at H
              have c24b0 : ((bt XS x6_2) == 92) = true := beq_iff_eq.mpr c24
              have c24b1 : ((bt XS x6_2) != 92) = false := bne_eq_false_iff_eq.mpr c24
              clear c24
              obtain ⟨ji25, hji25⟩ : ∃ j_ : Int, (wrap64 (x6_2 + 1)) = j_ := ⟨_, rfl⟩
              replace H : (if 0 ≤ (ji25) then (if (ji25) ≤ (XS.size : Int) then ((runes_turned.f kj19 (XS.extract ((ji25) : Int).toNat XS.size)).bind fun bt104 => (if bt104.2 = 0 then (some ((⟨#[]⟩ : ByteArray), false)) else (if x4_2.length < 140737488355328 then (runes_Unquote.l0 kj19 (x4_2 ++ [bt104.1]) XS (wrap64 ((wrap64 (x6_2 + bt104.2)) + 1))) else (none)))) else (none)) else (none)) = some (r1, r2) := by first | (rw [hji25] at H; exact H) | (simp only [hji25] at H ⊢; exact H)
              have hji25w : (IntKind.i64.wrap (x6_2 + 1)) = ji25 := (i64_w _).trans hji25
              by_cases c26 : 0 ≤ (ji25)
              ·
               rw [if_pos c26] at H
               have c26b0 := eq_true c26
               have c26b1 : decide (0 ≤ (ji25)) = true := decide_eq_true c26
               clear c26
               by_cases c27 : (ji25) ≤ (XS.size : Int)
               ·
                rw [if_pos c27] at H
                have c27b0 := eq_true c27
                have c27b1 : decide ((ji25) ≤ (XS.size : Int)) = true := decide_eq_true c27
                clear c27
                replace H := Option.bind_eq_some_iff.mp H
                obtain ⟨⟨t104, t105⟩, A280, H⟩ := H
                replace H : (if t105 = 0 then (some ((⟨#[]⟩ : ByteArray), false)) else (if x4_2.length < 140737488355328 then (runes_Unquote.l0 kj19 (x4_2 ++ [t104]) XS (wrap64 ((wrap64 (x6_2 + t105)) + 1))) else (none))) = some (r1, r2) := H
                have A28 := Aside0.mk A280
                clear A280
                by_cases c29 : t105 = 0
                ·
                 rw [if_pos c29] at H
                 have c29b0 : (t105 == 0) = true := beq_iff_eq.mpr c29
                 have c29b1 : (t105 != 0) = false := bne_eq_false_iff_eq.mpr c29
                 clear c29
                 simp only [Option.some.injEq, Prod.mk.injEq] at H
                 obtain ⟨rfl, rfl⟩ := H
                 go_wp2_with (first | ((with_reducible refine gate_callee (f := 110) rfl ?_); refine goesL_ (some 64) rfl rfl Tryz.func110 (by kernel_rfl) rfl #[.string (XS.extract ((ji25) : Int).toNat XS.size)] rfl (by (try simp only [List.map_toArray, List.map_cons, List.map_nil]); first | done | (simp only [hji25]; rfl) | rfl | (simp only [List.length_drop, List.length_take]; rfl)) ?_; (with_reducible refine (runes_turned.calls kj19 (XS.extract ((ji25) : Int).toNat XS.size) t104 t105 _ A28.out).mono ?_); rintro e w' ⟨rfl, ⟨nd, rfl⟩⟩; refine ⟨_, rfl, ?_⟩))
                 go_ret2
                 exact ⟨by first | rfl | (simp [errW_none, errW_some] <;> rfl) | (simp only [← hji25]; first | rfl | (simp [errW_none, errW_some] <;> rfl)) | (simp [*, errW_none, errW_some] <;> rfl), by repeat (first | (with_reducible first | exact HB.out | apply below_alloc | apply pw_below_drewN | apply below_drew1) | exact HB.out)⟩
                ·
                 rw [if_neg c29] at H
                 have c29b0 : (t105 == 0) = false := beq_eq_false_iff_ne.mpr c29
                 have c29b1 : (t105 != 0) = true := bne_iff_ne.mpr c29
                 by_cases c30 : x4_2.length < 140737488355328
                 ·
                  rw [if_pos c30] at H
                  have LMc30 := Aside0.mk c30
                  clear c30
                  obtain ⟨y106, hy106⟩ : ∃ y_ : List Int, y_ = (x4_2 ++ [t104]) := ⟨_, rfl⟩
                  replace H : (runes_Unquote.l0 kj19 y106 XS (wrap64 ((wrap64 (x6_2 + t105)) + 1))) = some (r1, r2) := by first | (rw [hy106]; with_reducible exact H) | (have H2_ := (Option.bind_some _ _).symm.trans H; rw [hy106]; with_reducible exact H2_) | (have H2_ := (Option.bind_some _ _).symm.trans H; with_reducible exact H2_) | with_reducible exact H | (rw [hy106]; exact H) | exact H
                  have Ny106 := Aside0.mk hy106
                  clear hy106
                  have H' := Aside0.mk H
                  clear H
                  go_wp2_with (first | ((with_reducible refine gate_callee (f := 110) rfl ?_); refine goesL_ (some 64) rfl rfl Tryz.func110 (by kernel_rfl) rfl #[.string (XS.extract ((ji25) : Int).toNat XS.size)] rfl (by (try simp only [List.map_toArray, List.map_cons, List.map_nil]); first | done | (simp only [hji25]; rfl) | rfl | (simp only [List.length_drop, List.length_take]; rfl)) ?_; (with_reducible refine (runes_turned.calls kj19 (XS.extract ((ji25) : Int).toNat XS.size) t104 t105 _ A28.out).mono ?_); rintro e w' ⟨rfl, ⟨nd, rfl⟩⟩; refine ⟨_, rfl, ?_⟩) | ((with_reducible refine gate_builtin (b := .append) (xs := #[.tmp 73, .tmp 75]) rfl ?_); (try (refine gate_guard (by rfl) ?_; dsimp only)); at_builtin; refine Kd.R_append (Kd.int .u8) (w0 := w) w.heap.size rfl (.tmp 73) (.tmp 75) 102 5 (.int .u8 0) 1 rfl Tryz.underlying102 info5 rfl (by decide) (by omega) u4 x4_2 t104 [.int .u8 t104] (fun _ => True) (fun _ => False) rfl rfl ?aP (fun _ hk => hk.elim) ?aF ?aO ?aB ?aS ?aL ?_; (case aP => exact rfl); (case aB => exact (by repeat (first | (with_reducible first | exact HB.out | apply below_alloc | apply pw_below_drewN | apply below_drew1) | exact HB.out))); (case aF => exact (fun _ _ => trivial)); (case aO => exact (by (with_reducible repeat (first | apply Kd.R_alloc | apply Kd.R_drewN | apply Kd.R_drew)); exact HO_4.out)); (case aS => exact (below_size (by repeat (first | (with_reducible first | exact HB.out | apply below_alloc | apply pw_below_drewN | apply below_drew1) | exact HB.out)))); (case aL => have := LMc30.out; omega); intro v107 w31 ho hb hg hat; rw [← Ny106.out] at ho; have n0_ := Aside0.mk (hb); have n1_ := Aside0.mk (ho); clear HB; clear HO_4; have HB := n0_; have HO108 := n1_; clear n0_ n1_; clear ho hb hg hat))
                  go_roundg kj19
                  case measure => have := HJ1.out; have := HK2.out; have := HJ19.out; omega
                  case rel => exact ⟨(y106), (wrap64 ((wrap64 (x6_2 + t105)) + 1)), (by first | rfl | (simp; done) | (simp [*]; done)), H', ⟨by have := HJ1.out; have := HK2.out; have := HJ19.out; omega⟩, ⟨by (with_reducible repeat (first | apply Kd.R_alloc | apply Kd.R_drewN | apply Kd.R_drew)); exact HO108.out⟩, ⟨by repeat (first | (with_reducible first | exact HB.out | apply below_alloc | apply pw_below_drewN | apply below_drew1) | exact HB.out)⟩⟩
                 ·
                  rw [if_neg c30] at H
                  exact absurd H (by simp)
               ·
                rw [if_neg c27] at H
                exact absurd H (by simp)
              ·
               rw [if_neg c26] at H
               exact absurd H (by simp)
             ·
              rw [if_neg c24] at H
              have c24b0 : ((bt XS x6_2) == 92) = false := beq_eq_false_iff_ne.mpr c24
              have c24b1 : ((bt XS x6_2) != 92) = true := bne_iff_ne.mpr c24
              by_cases c32 : x4_2.length < 140737488355328
              ·
               rw [if_pos c32] at H
               have LMc32 := Aside0.mk c32
               clear c32
               obtain ⟨y109, hy109⟩ : ∃ y_ : List Int, y_ = (x4_2 ++ [(bt XS x6_2)]) := ⟨_, rfl⟩
               replace H : (runes_Unquote.l0 kj19 y109 XS (wrap64 (x6_2 + 1))) = some (r1, r2) := by first | (rw [hy109]; with_reducible exact H) | (have H2_ := (Option.bind_some _ _).symm.trans H; rw [hy109]; with_reducible exact H2_) | (have H2_ := (Option.bind_some _ _).symm.trans H; with_reducible exact H2_) | with_reducible exact H | (rw [hy109]; exact H) | exact H
               have Ny109 := Aside0.mk hy109
               clear hy109
               have H' := Aside0.mk H
               clear H
               go_wp2_with (first | ((with_reducible refine gate_builtin (b := .append) (xs := #[.tmp 73, .tmp 75]) rfl ?_); (try (refine gate_guard (by rfl) ?_; dsimp only)); at_builtin; refine Kd.R_append (Kd.int .u8) (w0 := w) w.heap.size rfl (.tmp 73) (.tmp 75) 102 5 (.int .u8 0) 1 rfl Tryz.underlying102 info5 rfl (by decide) (by omega) u4 x4_2 (bt XS x6_2) [.int .u8 (bt XS x6_2)] (fun _ => True) (fun _ => False) rfl rfl ?aP (fun _ hk => hk.elim) ?aF ?aO ?aB ?aS ?aL ?_; (case aP => exact rfl); (case aB => exact (by repeat (first | (with_reducible first | exact HB.out | apply below_alloc | apply pw_below_drewN | apply below_drew1) | exact HB.out))); (case aF => exact (fun _ _ => trivial)); (case aO => exact (by (with_reducible repeat (first | apply Kd.R_alloc | apply Kd.R_drewN | apply Kd.R_drew)); exact HO_4.out)); (case aS => exact (below_size (by repeat (first | (with_reducible first | exact HB.out | apply below_alloc | apply pw_below_drewN | apply below_drew1) | exact HB.out)))); (case aL => have := LMc32.out; omega); intro v110 w33 ho hb hg hat; rw [← Ny109.out] at ho; have n0_ := Aside0.mk (hb); have n1_ := Aside0.mk (ho); clear HB; clear HO_4; have HB := n0_; have HO111 := n1_; clear n0_ n1_; clear ho hb hg hat))
               go_roundg kj19
               case measure => have := HJ1.out; have := HK2.out; have := HJ19.out; omega
               case rel => exact ⟨(y109), (wrap64 (x6_2 + 1)), (by first | rfl | (simp; done) | (simp [*]; done)), H', ⟨by have := HJ1.out; have := HK2.out; have := HJ19.out; omega⟩, ⟨by (with_reducible repeat (first | apply Kd.R_alloc | apply Kd.R_drewN | apply Kd.R_drew)); exact HO111.out⟩, ⟨by repeat (first | (with_reducible first | exact HB.out | apply below_alloc | apply pw_below_drewN | apply below_drew1) | exact HB.out)⟩⟩
              ·
               rw [if_neg c32] at H
               exact absurd H (by simp)
         ·
          rw [if_neg c18] at H
          exact absurd H (by simp)
        ·
         rw [if_neg c17] at H
         have c17b0 : decide (x6_2 < (XS.size : Int)) = false := decide_eq_false c17
         clear c17
         simp only [Option.some.injEq, Prod.mk.injEq] at H
         obtain ⟨rfl, rfl⟩ := H
         have hcv34 := own_string (P := Tryz.prog) Tryz.underlying102 Tryz.underlying5 Tryz.underlying9 (Kd.own_of_R HO_4.out)
         go_wp2
         go_ret2
         exact ⟨by first | rfl | (simp [errW_none, errW_some] <;> rfl) | (simp [*, errW_none, errW_some] <;> rfl), by repeat (first | (with_reducible first | exact HB.out | apply below_alloc | apply pw_below_drewN | apply below_drew1) | exact HB.out)⟩
     ·
      rw [if_neg c16] at H
      exact absurd H (by simp)
    ·
     rw [if_neg c15] at H
     exact absurd H (by simp)

/-! ### lex_blank: function 90 -/
def lex_blank.f (a0 : Int) : Option (Bool) := (runes_Class.f (wrap32 (a0))).bind fun t112 => (some (t112 == 3))
set_option maxHeartbeats 8000000 in
set_option maxRecDepth 100000 in
theorem lex_blank.calls (a0 : Int) (r : Bool) (w : World) (h : lex_blank.f a0 = some r) :
  Calls Tryz.prog 90 #[.int .u8 a0] w fun e w' => e = .returned (.bool r) ∧ Drawn0 w w' := by
 have H : ((runes_Class.f (wrap32 (a0))).bind fun t112 => (some (t112 == 3))) = some r := h
 clear h
 replace H := Option.bind_eq_some_iff.mp H
 obtain ⟨t112, A20, H⟩ := H
 replace H : (some (t112 == 3)) = some r := H
 have A2 := Aside0.mk A20
 clear A20
 obtain rfl := Option.some.inj H
 go_enter Tryz.func90, Tryz.ntmps90
 go_wp2_with (first | ((with_reducible refine gate_callee (f := 73) rfl ?_); refine goesL_ (some 5) rfl rfl Tryz.func73 (by kernel_rfl) rfl #[.int .i32 (wrap32 (a0))] rfl (by (try simp only [List.map_toArray, List.map_cons, List.map_nil]); first | done | rfl | (simp only [List.length_drop, List.length_take]; rfl)) ?_; (with_reducible refine (runes_Class.calls (wrap32 (a0)) t112 _ A2.out).mono ?_); rintro e w' ⟨rfl, ⟨nd, rfl⟩⟩; refine ⟨_, rfl, ?_⟩))
 go_ret
 exact ⟨by first | rfl | (simp; done) | (simp [*]; done), by repeat (first | exact Drawn0.refl _ | apply Drawn0.step)⟩

/-! ### lex_bare: function 91 -/
def lex_bare.l0 : Nat → ByteArray → Int → Option (Int)
 | 0, _, _ => none
 | k + 1, x0, x3 => if x3 < (x0.size : Int) then (if 0 ≤ x3 then ((lex_blank.f (bt x0 x3)).bind fun t113 => (if t113 = true then (some x3) else (lex_bare.l0 k x0 (wrap64 (x3 + 1))))) else (none)) else (some x3)
def lex_bare.f (k : Nat) (a0 : ByteArray) : Option (Int) := lex_bare.l0 k a0 0
theorem lex_bare.mono_l : ∀ k, (∀ y0 y1, LeO (lex_bare.l0 k y0 y1) (lex_bare.l0 (k + 1) y0 y1))
 | 0 => fun _ _ r h => by simp [lex_bare.l0] at h
 | k + 1 => by
  have ih0 := lex_bare.mono_l k
  ·
   intro y0 y1
   unfold lex_bare.l0
   repeat' first
   | (with_reducible exact ih0 _ _)
   | (with_reducible exact LeO.refl _)
   | (with_reducible exact LeO.none _)
   | (with_reducible refine LeO.ite ?_ ?_)
   | (with_reducible refine LeO.bind ?_ (fun _ => ?_))
   | exact ih0 _ _
   | exact LeO.none _
   | refine LeO.ite ?_ ?_
   | refine LeO.bind ?_ (fun _ => ?_)
theorem lex_bare.mono : ∀ a0 k, LeO (lex_bare.f k a0) (lex_bare.f (k + 1) a0) := by
 intro a0 k
 have ih0 := lex_bare.mono_l k
 unfold lex_bare.f
 repeat' first
   | (with_reducible exact ih0 _ _)
   | (with_reducible exact LeO.refl _)
   | (with_reducible exact LeO.none _)
   | (with_reducible refine LeO.ite ?_ ?_)
   | (with_reducible refine LeO.bind ?_ (fun _ => ?_))
   | exact ih0 _ _
   | exact LeO.none _
   | refine LeO.ite ?_ ?_
   | refine LeO.bind ?_ (fun _ => ?_)
set_option maxHeartbeats 8000000 in
set_option maxRecDepth 100000 in
theorem lex_bare.calls (k : Nat) (a0 : ByteArray) (r : Int) (w : World) (h : lex_bare.f k a0 = some r) :
  Calls Tryz.prog 91 #[.string a0] w fun e w' => e = .returned (.int .i64 r) ∧ Drawn0 w w' := by
 have H : (lex_bare.l0 k a0 0) = some r := h
 clear h
 have H' := Aside0.mk H
 clear H
 go_enter Tryz.func91, Tryz.ntmps91
 go_wp2
 go_loopg [3] k (fun kq v3 w' => ∃ (x3_1 : Int), v3 = .int .i64 x3_1 ∧ Aside0 (lex_bare.l0 kq a0 x3_1 = some r) ∧ Aside0 (kq ≤ k) ∧ Drawn0 w w')
 case atStart => exact ⟨(0), (by first | rfl | (simp; done) | (simp [*]; done)), H', ⟨Nat.le_refl _⟩, by repeat (first | exact Drawn0.refl _ | apply Drawn0.step)⟩
 case round =>
  clear H'
  obtain ⟨x3_1, rfl, HA, HK1, ⟨m1, rfl⟩⟩ := hrel
  cases gk with
  | zero => exact absurd HA.out (by simp [lex_bare.l0])
  | succ k1 =>
   have H := HA.out
   clear HA
   simp only [lex_bare.l0] at H
   by_cases c2 : x3_1 < (a0.size : Int)
   ·
    rw [if_pos c2] at H
    have c2b0 : decide (x3_1 < (a0.size : Int)) = true := decide_eq_true c2
    clear c2
    by_cases c3 : 0 ≤ x3_1
    ·
     rw [if_pos c3] at H
     have c3b0 : decide (0 ≤ x3_1) = true := decide_eq_true c3
     clear c3
     replace H := Option.bind_eq_some_iff.mp H
     obtain ⟨t113, A50, H⟩ := H
     replace H : (if t113 = true then (some x3_1) else (lex_bare.l0 k1 a0 (wrap64 (x3_1 + 1)))) = some r := H
     have A5 := Aside0.mk A50
     clear A50
     by_cases c6 : t113 = true
     ·
      subst c6
      have H1 : (some x3_1) = some r := by rw [if_pos rfl] at H; exact H
      clear H
      have H := H1
      clear H1
      obtain rfl := Option.some.inj H
      have p4 : 0 ≤ (x3_1 : Int) := of_decide_eq_true (by first | (with_reducible assumption) | assumption)
      have q4 : x3_1 < (a0.size : Int) := of_decide_eq_true (by first | (with_reducible assumption) | assumption)
      have hx4 := bt_at a0 x3_1
      replace p4 := eq_true p4
      replace q4 := eq_true q4
      go_wp2_with (first | (go_at_call 90; (with_reducible refine (lex_blank.calls (bt a0 x3_1) true _ A5.out).mono ?_); rintro e w' ⟨rfl, ⟨nd, rfl⟩⟩))
      go_ret
      exact ⟨by first | rfl | (simp; done) | (simp [*]; done), by repeat (first | exact Drawn0.refl _ | apply Drawn0.step)⟩
     ·
      replace c6 := Bool.eq_false_iff.mpr c6
      subst c6
      have H1 : (lex_bare.l0 k1 a0 (wrap64 (x3_1 + 1))) = some r := by rw [if_neg (show ¬ (false = true) by decide)] at H; exact H
      clear H
      have H := H1
      clear H1
      have H' := Aside0.mk H
      clear H
      have p4 : 0 ≤ (x3_1 : Int) := of_decide_eq_true (by first | (with_reducible assumption) | assumption)
      have q4 : x3_1 < (a0.size : Int) := of_decide_eq_true (by first | (with_reducible assumption) | assumption)
      have hx4 := bt_at a0 x3_1
      replace p4 := eq_true p4
      replace q4 := eq_true q4
      go_wp2_with (first | (go_at_call 90; (with_reducible refine (lex_blank.calls (bt a0 x3_1) false _ A5.out).mono ?_); rintro e w' ⟨rfl, ⟨nd, rfl⟩⟩))
      go_roundg k1
      case measure => have := HK1.out; omega
      case rel => exact ⟨(wrap64 (x3_1 + 1)), (by first | rfl | (simp; done) | (simp [*]; done)), H', ⟨by have := HK1.out; omega⟩, by repeat (first | exact Drawn0.refl _ | apply Drawn0.step)⟩
    ·
     rw [if_neg c3] at H
     exact absurd H (by simp)
   ·
    rw [if_neg c2] at H
    have c2b0 : decide (x3_1 < (a0.size : Int)) = false := decide_eq_false c2
    clear c2
    obtain rfl := Option.some.inj H
    go_wp2
    go_ret
    exact ⟨by first | rfl | (simp; done) | (simp [*]; done), by repeat (first | exact Drawn0.refl _ | apply Drawn0.step)⟩

end Go.Proofs.YtlkbeddlmbghkaaGreatDoor.PR
