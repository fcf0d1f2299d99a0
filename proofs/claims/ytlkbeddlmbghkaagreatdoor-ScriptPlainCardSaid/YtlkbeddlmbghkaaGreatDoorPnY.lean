/- rundlelaw26.plain, a way. -/
import Derived.Test.YtlkbeddlmbghkaaGreatDoorPnH
namespace Go.Proofs.YtlkbeddlmbghkaaGreatDoor.PR
open Go Go.Proofs Go.RowKit Go.Proofs.YtlkbeddlmbghkaaGreatDoorW.PrintWords Go.Proofs.YtlkbeddlmbghkaaGreatDoorW.PrintLast Go.Proofs.YtlkbeddlmbghkaaGreatDoorW.PrintMore Go.Proofs.YtlkbeddlmbghkaaGreatDoor.Lx
set_option linter.unusedVariables false
set_option linter.unusedSimpArgs false
set_option maxRecDepth 100000

set_option maxHeartbeats 64000000 in
theorem plainkn_at (x : StepT) (A : Option Addr) (c : Nat) (w : World) (hc : x.f3.f3.length ≤ c) (hA : Kd.C k93 w A x.f3.f3.length x.f3.f3) (hl : x.f3.f3.length ≤ 1500) (hd : x.f0 = 1 ∨ x.f0 = 2) (hk : x.f3.f0 < 1 ∨ 10 < x.f3.f0) :
    Calls Tryz.prog 25 #[.agg (stepV x (.slice A x.f3.f3.length c))] w fun e w' => ∃ b, e = .returned (.bool b) ∧ (b = true ↔ PlainS x) ∧ Below w.heap.size w w' := by
  have hu58 := Tryz.underlying58
  have hu52 := Tryz.underlying52
  have HCC := Aside0.mk hc
  have HA := Aside0.mk hA
  have HLL := Aside0.mk hl
  have HD := Aside0.mk hd
  have HKK := Aside0.mk hk
  clear hc hA hl hd hk
  go_enter Tryz.func25, Tryz.ntmps25
  go_upto_region 1 with (fail)
  have B1 := Aside0.mk (blk_new w (.cells (stepV x (.slice A x.f3.f3.length c)) 58))
  have ab1 : Below w.heap.size w (w.alloc (.cells (stepV x (.slice A x.f3.f3.length c)) 58)) := (Below.refl _ _).alloc (Nat.le_refl _) _
  change Code.wp _ _ _ _ (w.alloc (.cells (stepV x (.slice A x.f3.f3.length c)) 58))
  obtain ⟨p, hp⟩ : ∃ p, p = w.heap.size := ⟨_, rfl⟩
  rw [← hp] at B1 ⊢
  have HP : Aside0 (w.heap.size ≤ p) := ⟨by omega⟩
  have HB1 := Aside0.mk ab1
  generalize (w.alloc (.cells (stepV x (.slice A x.f3.f3.length c)) 58)) = w1 at *
  clear ab1 hp
  have c1 : w1.cell? ⟨p, 1, none⟩ = some (.int .i64 x.f1) := (blk_cell B1.out 1).trans rfl
  have c2 : w1.cell? ⟨p, 2, none⟩ = some (.int .i64 x.f2) := (blk_cell B1.out 2).trans rfl
  have c10 : w1.cell? ⟨p, 10, none⟩ = some (.int .i64 x.f3.f7) := (blk_cell B1.out 10).trans rfl
  have c11 : w1.cell? ⟨p, 11, none⟩ = some (.int .i64 x.f3.f8) := (blk_cell B1.out 11).trans rfl
  have c12 : w1.cell? ⟨p, 12, none⟩ = some (.int .i64 x.f3.f9) := (blk_cell B1.out 12).trans rfl
  have c13 : w1.cell? ⟨p, 13, none⟩ = some (.int .i64 x.f3.f10) := (blk_cell B1.out 13).trans rfl
  go_wp2_with (fail)
  have ab2 : Below w1.heap.size w1 (w1.alloc (.cells #[.int .i64 x.f1, .int .i64 x.f2, .int .i64 x.f3.f7, .int .i64 x.f3.f8, .int .i64 x.f3.f9, .int .i64 x.f3.f10] 3)) := (Below.refl _ _).alloc (Nat.le_refl _) _
  have B2 := Aside0.mk (blk_below B1.out ab2)
  have HB2 := Aside0.mk (HB1.out.trans (ab2.mono HB1.out.size))
  refine (digits_at x.f1 x.f2 x.f3.f7 x.f3.f8 x.f3.f9 x.f3.f10 w1.heap.size 0 _ (blk_new w1 _)).mono ?_
  rintro e w3 ⟨r, rfl, hr, hb3⟩
  have B3 := Aside0.mk (blk_below B2.out hb3)
  have HB3 := Aside0.mk (HB2.out.trans (hb3.mono HB2.out.size))
  clear ab2 hb3 c1 c2 c10 c11 c12 c13 B1 B2 HB1 HB2
  cases r with
  | false =>
    have HN0 : Aside0 (¬PlainS x) := ⟨fun h => by have := hr.2 ⟨h.1.1, h.1.2.1, h.1.2.2.1, h.1.2.2.2.1, h.1.2.2.2.2.1, h.1.2.2.2.2.2⟩; cases this⟩
    clear hr
    go_wp2_with (fail)
    go_ret
    exact ⟨false, rfl, ⟨fun h => (by cases h), fun h => absurd h HN0.out⟩, HB3.out⟩
  | true =>
  have HDG : Aside0 (digS x) := ⟨by have h := hr.1 rfl; exact ⟨h.1, h.2.1, h.2.2.1, h.2.2.2.1, h.2.2.2.2.1, h.2.2.2.2.2⟩⟩
  clear hr
  have c0 : w3.cell? ⟨p, 0, none⟩ = some (.int .i64 x.f0) := (blk_cell B3.out 0).trans rfl
  go_upto_region 4 with (fail)
  have ab4 : Below w3.heap.size w3 (w3.alloc (.cells #[.int .i64 x.f0, .int .i64 0, .int .i64 0, .int .i64 0, .string ⟨#[]⟩, .string ⟨#[]⟩, .slice none 0 0, .string ⟨#[]⟩, .string ⟨#[]⟩, .bool false, .int .i64 0, .int .i64 0, .int .i64 0, .int .i64 0] 58)) := (Below.refl _ _).alloc (Nat.le_refl _) _
  have PS4 : Aside0 (PsAt w p w3.heap.size (stepV x (.slice A x.f3.f3.length c)) #[.int .i64 x.f0, .int .i64 0, .int .i64 0, .int .i64 0, .string ⟨#[]⟩, .string ⟨#[]⟩, .slice none 0 0, .string ⟨#[]⟩, .string ⟨#[]⟩, .bool false, .int .i64 0, .int .i64 0, .int .i64 0, .int .i64 0] (w3.alloc (.cells #[.int .i64 x.f0, .int .i64 0, .int .i64 0, .int .i64 0, .string ⟨#[]⟩, .string ⟨#[]⟩, .slice none 0 0, .string ⟨#[]⟩, .string ⟨#[]⟩, .bool false, .int .i64 0, .int .i64 0, .int .i64 0, .int .i64 0] 58))) := ⟨HB3.out.trans (ab4.mono HB3.out.size), blk_below B3.out ab4, blk_new w3 _⟩
  have hps := blk_lt B3.out
  change Code.wp _ _ _ _ (w3.alloc (.cells #[.int .i64 x.f0, .int .i64 0, .int .i64 0, .int .i64 0, .string ⟨#[]⟩, .string ⟨#[]⟩, .slice none 0 0, .string ⟨#[]⟩, .string ⟨#[]⟩, .bool false, .int .i64 0, .int .i64 0, .int .i64 0, .int .i64 0] 58))
  obtain ⟨s, hs⟩ : ∃ s, s = w3.heap.size := ⟨_, rfl⟩
  rw [← hs] at PS4 hps ⊢
  generalize (w3.alloc (.cells #[.int .i64 x.f0, .int .i64 0, .int .i64 0, .int .i64 0, .string ⟨#[]⟩, .string ⟨#[]⟩, .slice none 0 0, .string ⟨#[]⟩, .string ⟨#[]⟩, .bool false, .int .i64 0, .int .i64 0, .int .i64 0, .int .i64 0] 58)) = w4 at *
  have HS : Aside0 (p ≠ s ∧ w.heap.size ≤ s ∧ p < s) := ⟨by have := HP.out; omega⟩
  clear ab4 hs hps c0 B3 HB3
  have c0 : w4.cell? ⟨p, 0, none⟩ = some (.int .i64 x.f0) := (blk_cell PS4.out.2.1 0).trans rfl
  rcases HD.out with h1 | h1
  all_goals (
    (first
      | (have e1 : (x.f0 == 1) = true := beq_iff_eq.2 h1
         have g1 : (x.f0 = 1) = True := eq_true h1
         have e2 : True := trivial
         have g2 : True := trivial)
      | (have e1 : (x.f0 == 1) = false := beq_eq_false_iff_ne.2 (by omega)
         have g1 : (x.f0 = 1) = False := eq_false (by omega)
         have e2 : (x.f0 == 2) = true := beq_iff_eq.2 h1
         have g2 : (x.f0 = 2) = True := eq_true h1))
    clear h1
    go_upto_region 8 with (fail)
    clear e1 g1 e2 g2 c0
    have c3 : w4.cell? ⟨p, 3, none⟩ = some (.int .i64 x.f3.f0) := (blk_cell PS4.out.2.1 3).trans rfl
    go_upto_region 9 with (fail)
    have ab5 : Below w4.heap.size w4 (w4.alloc (.cells #[.int .i64 x.f3.f0, .string ⟨#[]⟩, .string ⟨#[]⟩, .slice none 0 0, .string ⟨#[]⟩, .string ⟨#[]⟩, .bool false, .int .i64 0, .int .i64 0, .int .i64 0, .int .i64 0] 52)) := (Below.refl _ _).alloc (Nat.le_refl _) _
    have P5 : Aside0 (PlAt w p s w4.heap.size (stepV x (.slice A x.f3.f3.length c)) #[.int .i64 x.f0, .int .i64 0, .int .i64 0, .int .i64 0, .string ⟨#[]⟩, .string ⟨#[]⟩, .slice none 0 0, .string ⟨#[]⟩, .string ⟨#[]⟩, .bool false, .int .i64 0, .int .i64 0, .int .i64 0, .int .i64 0] #[.int .i64 x.f3.f0, .string ⟨#[]⟩, .string ⟨#[]⟩, .slice none 0 0, .string ⟨#[]⟩, .string ⟨#[]⟩, .bool false, .int .i64 0, .int .i64 0, .int .i64 0, .int .i64 0] (w4.alloc (.cells #[.int .i64 x.f3.f0, .string ⟨#[]⟩, .string ⟨#[]⟩, .slice none 0 0, .string ⟨#[]⟩, .string ⟨#[]⟩, .bool false, .int .i64 0, .int .i64 0, .int .i64 0, .int .i64 0] 52))) := ⟨PS4.out.below ab5, blk_new w4 _⟩
    have hsc := blk_lt PS4.out.2.2
    change Code.wp _ _ _ _ (w4.alloc (.cells #[.int .i64 x.f3.f0, .string ⟨#[]⟩, .string ⟨#[]⟩, .slice none 0 0, .string ⟨#[]⟩, .string ⟨#[]⟩, .bool false, .int .i64 0, .int .i64 0, .int .i64 0, .int .i64 0] 52))
    obtain ⟨g, hg⟩ : ∃ g, g = w4.heap.size := ⟨_, rfl⟩
    rw [← hg] at P5 hsc ⊢
    have hpg : p ≠ g := by have := HS.out; omega
    have hsg : s ≠ g := by omega
    have HG : Aside0 (w.heap.size ≤ g ∧ p ≠ g ∧ s ≠ g) := ⟨by have := HS.out; omega⟩
    generalize (w4.alloc (.cells #[.int .i64 x.f3.f0, .string ⟨#[]⟩, .string ⟨#[]⟩, .slice none 0 0, .string ⟨#[]⟩, .string ⟨#[]⟩, .bool false, .int .i64 0, .int .i64 0, .int .i64 0, .int .i64 0] 52)) = w5 at *
    clear ab5 hg hsc c3 PS4
    have d0 : w5.cell? ⟨g, 0, none⟩ = some (.int .i64 x.f3.f0) := (blk_cell P5.out.2 0).trans rfl
    have e1 : (x.f3.f0 == 1) = false := beq_eq_false_iff_ne.2 (by have := HKK.out; omega)
    have n1 : (x.f3.f0 = 1) = False := eq_false (by have := HKK.out; omega)
    have e2 : (x.f3.f0 == 2) = false := beq_eq_false_iff_ne.2 (by have := HKK.out; omega)
    have n2 : (x.f3.f0 = 2) = False := eq_false (by have := HKK.out; omega)
    have e3 : (x.f3.f0 == 3) = false := beq_eq_false_iff_ne.2 (by have := HKK.out; omega)
    have n3 : (x.f3.f0 = 3) = False := eq_false (by have := HKK.out; omega)
    have e4 : (x.f3.f0 == 4) = false := beq_eq_false_iff_ne.2 (by have := HKK.out; omega)
    have n4 : (x.f3.f0 = 4) = False := eq_false (by have := HKK.out; omega)
    have e5 : (x.f3.f0 == 5) = false := beq_eq_false_iff_ne.2 (by have := HKK.out; omega)
    have n5 : (x.f3.f0 = 5) = False := eq_false (by have := HKK.out; omega)
    have e8 : (x.f3.f0 == 8) = false := beq_eq_false_iff_ne.2 (by have := HKK.out; omega)
    have n8 : (x.f3.f0 = 8) = False := eq_false (by have := HKK.out; omega)
    have e7 : (x.f3.f0 == 7) = false := beq_eq_false_iff_ne.2 (by have := HKK.out; omega)
    have n7 : (x.f3.f0 = 7) = False := eq_false (by have := HKK.out; omega)
    have e9 : (x.f3.f0 == 9) = false := beq_eq_false_iff_ne.2 (by have := HKK.out; omega)
    have n9 : (x.f3.f0 = 9) = False := eq_false (by have := HKK.out; omega)
    have e6 : (x.f3.f0 == 6) = false := beq_eq_false_iff_ne.2 (by have := HKK.out; omega)
    have n6 : (x.f3.f0 = 6) = False := eq_false (by have := HKK.out; omega)
    have e10 : (x.f3.f0 == 10) = false := beq_eq_false_iff_ne.2 (by have := HKK.out; omega)
    have n10 : (x.f3.f0 = 10) = False := eq_false (by have := HKK.out; omega)
    have HNO : Aside0 (¬PlainS x) := ⟨plain_no (by unfold stepN; rw [callN_none x.f3 HKK.out]; have := HD.out; rcases this with this | this <;> simp [this])⟩
    go_wp2_with (fail)
    go_ret
    exact ⟨false, rfl, ⟨fun h => (by cases h), fun h => absurd h HNO.out⟩, P5.out.1.1⟩
  )
end Go.Proofs.YtlkbeddlmbghkaaGreatDoor.PR

namespace Go.Proofs.YtlkbeddlmbghkaaGreatDoor.PR
open Go Go.Proofs Go.RowKit Go.Proofs.YtlkbeddlmbghkaaGreatDoorW.PrintWords Go.Proofs.YtlkbeddlmbghkaaGreatDoorW.PrintLast Go.Proofs.YtlkbeddlmbghkaaGreatDoorW.PrintMore Go.Proofs.YtlkbeddlmbghkaaGreatDoor.Lx
set_option linter.unusedVariables false
set_option linter.unusedSimpArgs false
set_option maxRecDepth 100000

set_option maxHeartbeats 64000000 in
theorem plaink1_at (x : StepT) (A : Option Addr) (c : Nat) (w : World) (hc : x.f3.f3.length ≤ c) (hA : Kd.C k93 w A x.f3.f3.length x.f3.f3) (hl : x.f3.f3.length ≤ 1500) (hd : x.f0 = 1 ∨ x.f0 = 2) (hk : x.f3.f0 = 1) :
    Calls Tryz.prog 25 #[.agg (stepV x (.slice A x.f3.f3.length c))] w fun e w' => ∃ b, e = .returned (.bool b) ∧ (b = true ↔ PlainS x) ∧ Below w.heap.size w w' := by
  have hu58 := Tryz.underlying58
  have hu52 := Tryz.underlying52
  have HCC := Aside0.mk hc
  have HA := Aside0.mk hA
  have HLL := Aside0.mk hl
  have HD := Aside0.mk hd
  have HKK := Aside0.mk hk
  clear hc hA hl hd hk
  go_enter Tryz.func25, Tryz.ntmps25
  go_upto_region 1 with (fail)
  have B1 := Aside0.mk (blk_new w (.cells (stepV x (.slice A x.f3.f3.length c)) 58))
  have ab1 : Below w.heap.size w (w.alloc (.cells (stepV x (.slice A x.f3.f3.length c)) 58)) := (Below.refl _ _).alloc (Nat.le_refl _) _
  change Code.wp _ _ _ _ (w.alloc (.cells (stepV x (.slice A x.f3.f3.length c)) 58))
  obtain ⟨p, hp⟩ : ∃ p, p = w.heap.size := ⟨_, rfl⟩
  rw [← hp] at B1 ⊢
  have HP : Aside0 (w.heap.size ≤ p) := ⟨by omega⟩
  have HB1 := Aside0.mk ab1
  generalize (w.alloc (.cells (stepV x (.slice A x.f3.f3.length c)) 58)) = w1 at *
  clear ab1 hp
  have c1 : w1.cell? ⟨p, 1, none⟩ = some (.int .i64 x.f1) := (blk_cell B1.out 1).trans rfl
  have c2 : w1.cell? ⟨p, 2, none⟩ = some (.int .i64 x.f2) := (blk_cell B1.out 2).trans rfl
  have c10 : w1.cell? ⟨p, 10, none⟩ = some (.int .i64 x.f3.f7) := (blk_cell B1.out 10).trans rfl
  have c11 : w1.cell? ⟨p, 11, none⟩ = some (.int .i64 x.f3.f8) := (blk_cell B1.out 11).trans rfl
  have c12 : w1.cell? ⟨p, 12, none⟩ = some (.int .i64 x.f3.f9) := (blk_cell B1.out 12).trans rfl
  have c13 : w1.cell? ⟨p, 13, none⟩ = some (.int .i64 x.f3.f10) := (blk_cell B1.out 13).trans rfl
  go_wp2_with (fail)
  have ab2 : Below w1.heap.size w1 (w1.alloc (.cells #[.int .i64 x.f1, .int .i64 x.f2, .int .i64 x.f3.f7, .int .i64 x.f3.f8, .int .i64 x.f3.f9, .int .i64 x.f3.f10] 3)) := (Below.refl _ _).alloc (Nat.le_refl _) _
  have B2 := Aside0.mk (blk_below B1.out ab2)
  have HB2 := Aside0.mk (HB1.out.trans (ab2.mono HB1.out.size))
  refine (digits_at x.f1 x.f2 x.f3.f7 x.f3.f8 x.f3.f9 x.f3.f10 w1.heap.size 0 _ (blk_new w1 _)).mono ?_
  rintro e w3 ⟨r, rfl, hr, hb3⟩
  have B3 := Aside0.mk (blk_below B2.out hb3)
  have HB3 := Aside0.mk (HB2.out.trans (hb3.mono HB2.out.size))
  clear ab2 hb3 c1 c2 c10 c11 c12 c13 B1 B2 HB1 HB2
  cases r with
  | false =>
    have HN0 : Aside0 (¬PlainS x) := ⟨fun h => by have := hr.2 ⟨h.1.1, h.1.2.1, h.1.2.2.1, h.1.2.2.2.1, h.1.2.2.2.2.1, h.1.2.2.2.2.2⟩; cases this⟩
    clear hr
    go_wp2_with (fail)
    go_ret
    exact ⟨false, rfl, ⟨fun h => (by cases h), fun h => absurd h HN0.out⟩, HB3.out⟩
  | true =>
  have HDG : Aside0 (digS x) := ⟨by have h := hr.1 rfl; exact ⟨h.1, h.2.1, h.2.2.1, h.2.2.2.1, h.2.2.2.2.1, h.2.2.2.2.2⟩⟩
  clear hr
  have c0 : w3.cell? ⟨p, 0, none⟩ = some (.int .i64 x.f0) := (blk_cell B3.out 0).trans rfl
  go_upto_region 4 with (fail)
  have ab4 : Below w3.heap.size w3 (w3.alloc (.cells #[.int .i64 x.f0, .int .i64 0, .int .i64 0, .int .i64 0, .string ⟨#[]⟩, .string ⟨#[]⟩, .slice none 0 0, .string ⟨#[]⟩, .string ⟨#[]⟩, .bool false, .int .i64 0, .int .i64 0, .int .i64 0, .int .i64 0] 58)) := (Below.refl _ _).alloc (Nat.le_refl _) _
  have PS4 : Aside0 (PsAt w p w3.heap.size (stepV x (.slice A x.f3.f3.length c)) #[.int .i64 x.f0, .int .i64 0, .int .i64 0, .int .i64 0, .string ⟨#[]⟩, .string ⟨#[]⟩, .slice none 0 0, .string ⟨#[]⟩, .string ⟨#[]⟩, .bool false, .int .i64 0, .int .i64 0, .int .i64 0, .int .i64 0] (w3.alloc (.cells #[.int .i64 x.f0, .int .i64 0, .int .i64 0, .int .i64 0, .string ⟨#[]⟩, .string ⟨#[]⟩, .slice none 0 0, .string ⟨#[]⟩, .string ⟨#[]⟩, .bool false, .int .i64 0, .int .i64 0, .int .i64 0, .int .i64 0] 58))) := ⟨HB3.out.trans (ab4.mono HB3.out.size), blk_below B3.out ab4, blk_new w3 _⟩
  have hps := blk_lt B3.out
  change Code.wp _ _ _ _ (w3.alloc (.cells #[.int .i64 x.f0, .int .i64 0, .int .i64 0, .int .i64 0, .string ⟨#[]⟩, .string ⟨#[]⟩, .slice none 0 0, .string ⟨#[]⟩, .string ⟨#[]⟩, .bool false, .int .i64 0, .int .i64 0, .int .i64 0, .int .i64 0] 58))
  obtain ⟨s, hs⟩ : ∃ s, s = w3.heap.size := ⟨_, rfl⟩
  rw [← hs] at PS4 hps ⊢
  generalize (w3.alloc (.cells #[.int .i64 x.f0, .int .i64 0, .int .i64 0, .int .i64 0, .string ⟨#[]⟩, .string ⟨#[]⟩, .slice none 0 0, .string ⟨#[]⟩, .string ⟨#[]⟩, .bool false, .int .i64 0, .int .i64 0, .int .i64 0, .int .i64 0] 58)) = w4 at *
  have HS : Aside0 (p ≠ s ∧ w.heap.size ≤ s ∧ p < s) := ⟨by have := HP.out; omega⟩
  clear ab4 hs hps c0 B3 HB3
  have c0 : w4.cell? ⟨p, 0, none⟩ = some (.int .i64 x.f0) := (blk_cell PS4.out.2.1 0).trans rfl
  rcases HD.out with h1 | h1
  all_goals (
    (first
      | (have e1 : (x.f0 == 1) = true := beq_iff_eq.2 h1
         have g1 : (x.f0 = 1) = True := eq_true h1
         have e2 : True := trivial
         have g2 : True := trivial)
      | (have e1 : (x.f0 == 1) = false := beq_eq_false_iff_ne.2 (by omega)
         have g1 : (x.f0 = 1) = False := eq_false (by omega)
         have e2 : (x.f0 == 2) = true := beq_iff_eq.2 h1
         have g2 : (x.f0 = 2) = True := eq_true h1))
    clear h1
    go_upto_region 8 with (fail)
    clear e1 g1 e2 g2 c0
    have c3 : w4.cell? ⟨p, 3, none⟩ = some (.int .i64 1) := (blk_cell PS4.out.2.1 3).trans (by rw [← HKK.out]; rfl)
    go_upto_region 9 with (fail)
    have ab5 : Below w4.heap.size w4 (w4.alloc (.cells #[.int .i64 1, .string ⟨#[]⟩, .string ⟨#[]⟩, .slice none 0 0, .string ⟨#[]⟩, .string ⟨#[]⟩, .bool false, .int .i64 0, .int .i64 0, .int .i64 0, .int .i64 0] 52)) := (Below.refl _ _).alloc (Nat.le_refl _) _
    have P5 : Aside0 (PlAt w p s w4.heap.size (stepV x (.slice A x.f3.f3.length c)) #[.int .i64 x.f0, .int .i64 0, .int .i64 0, .int .i64 0, .string ⟨#[]⟩, .string ⟨#[]⟩, .slice none 0 0, .string ⟨#[]⟩, .string ⟨#[]⟩, .bool false, .int .i64 0, .int .i64 0, .int .i64 0, .int .i64 0] #[.int .i64 1, .string ⟨#[]⟩, .string ⟨#[]⟩, .slice none 0 0, .string ⟨#[]⟩, .string ⟨#[]⟩, .bool false, .int .i64 0, .int .i64 0, .int .i64 0, .int .i64 0] (w4.alloc (.cells #[.int .i64 1, .string ⟨#[]⟩, .string ⟨#[]⟩, .slice none 0 0, .string ⟨#[]⟩, .string ⟨#[]⟩, .bool false, .int .i64 0, .int .i64 0, .int .i64 0, .int .i64 0] 52))) := ⟨PS4.out.below ab5, blk_new w4 _⟩
    have hsc := blk_lt PS4.out.2.2
    change Code.wp _ _ _ _ (w4.alloc (.cells #[.int .i64 1, .string ⟨#[]⟩, .string ⟨#[]⟩, .slice none 0 0, .string ⟨#[]⟩, .string ⟨#[]⟩, .bool false, .int .i64 0, .int .i64 0, .int .i64 0, .int .i64 0] 52))
    obtain ⟨g, hg⟩ : ∃ g, g = w4.heap.size := ⟨_, rfl⟩
    rw [← hg] at P5 hsc ⊢
    have hpg : p ≠ g := by have := HS.out; omega
    have hsg : s ≠ g := by omega
    have HG : Aside0 (w.heap.size ≤ g ∧ p ≠ g ∧ s ≠ g) := ⟨by have := HS.out; omega⟩
    generalize (w4.alloc (.cells #[.int .i64 1, .string ⟨#[]⟩, .string ⟨#[]⟩, .slice none 0 0, .string ⟨#[]⟩, .string ⟨#[]⟩, .bool false, .int .i64 0, .int .i64 0, .int .i64 0, .int .i64 0] 52)) = w5 at *
    clear ab5 hg hsc c3 PS4
    have d0 : w5.cell? ⟨g, 0, none⟩ = some (.int .i64 1) := (blk_cell P5.out.2 0).trans rfl
    go_upto_region 12 with (fail)
    clear d0
    have c4 : w5.cell? ⟨p, 4, none⟩ = some (.string x.f3.f1) := (blk_cell P5.out.1.2.1 4).trans rfl
    have d1 : w5.cell? ⟨g, 1, none⟩ = some (.string ⟨#[]⟩) := (blk_cell P5.out.2 1).trans rfl
    have df1 : w5.frozen? ⟨g, 1, none⟩ = false := blk_frozen P5.out.2 1
    go_upto_region 37 with (fail)
    have P6 := (P5.out).putC HG.out.2.1 HG.out.2.2 HG.out.1 1 (.string x.f3.f1) (cc' := #[.int .i64 1, .string x.f3.f1, .string ⟨#[]⟩, .slice none 0 0, .string ⟨#[]⟩, .string ⟨#[]⟩, .bool false, .int .i64 0, .int .i64 0, .int .i64 0, .int .i64 0]) rfl
    refine wp_world (PlAt w p s g (stepV x (.slice A x.f3.f3.length c)) #[.int .i64 x.f0, .int .i64 0, .int .i64 0, .int .i64 0, .string ⟨#[]⟩, .string ⟨#[]⟩, .slice none 0 0, .string ⟨#[]⟩, .string ⟨#[]⟩, .bool false, .int .i64 0, .int .i64 0, .int .i64 0, .int .i64 0] #[.int .i64 1, .string x.f3.f1, .string ⟨#[]⟩, .slice none 0 0, .string ⟨#[]⟩, .string ⟨#[]⟩, .bool false, .int .i64 0, .int .i64 0, .int .i64 0, .int .i64 0]) P6 ?_
    clear P6 P5 c4 d1 df1
    intro w6 P6
    have P6 := Aside0.mk P6
    have c1 : w6.cell? ⟨p, 1, none⟩ = some (.int .i64 x.f1) := (blk_cell P6.out.1.2.1 1).trans rfl
    obtain ⟨d0, d1, d2, d3, d4, d5, d6, d7, d8, d9, d10⟩ := cells11 P6.out.2
    obtain ⟨m0, m1, m2, m3, m4, m5, m6, m7, m8, m9, m10, m11, m12, m13⟩ := cells14 P6.out.1.2.2
    obtain ⟨mf0, mf1, mf2, mf3, mf4, mf5, mf6, mf7, mf8, mf9, mf10, mf11, mf12, mf13⟩ := frz14 P6.out.1.2.2
    clear m0 m2 mf0 mf2
    have hps : p ≠ s := HS.out.1
    have hgs : g ≠ s := fun h => HG.out.2.2 h.symm
    refine start_ (n := 7) (S := fun w' => w'.cell? ⟨p, 1, none⟩ = some (.int .i64 x.f1) ∧ w'.cell? ⟨g, 0, none⟩ = some (.int .i64 1) ∧ w'.cell? ⟨g, 1, none⟩ = some (.string x.f3.f1) ∧ w'.cell? ⟨g, 2, none⟩ = some (.string ⟨#[]⟩) ∧ w'.cell? ⟨g, 3, none⟩ = some (.slice none 0 0) ∧ w'.cell? ⟨g, 4, none⟩ = some (.string ⟨#[]⟩) ∧ w'.cell? ⟨g, 5, none⟩ = some (.string ⟨#[]⟩) ∧ w'.cell? ⟨g, 6, none⟩ = some (.bool false) ∧ w'.cell? ⟨g, 7, none⟩ = some (.int .i64 0) ∧ w'.cell? ⟨g, 8, none⟩ = some (.int .i64 0) ∧ w'.cell? ⟨g, 9, none⟩ = some (.int .i64 0) ∧ w'.cell? ⟨g, 10, none⟩ = some (.int .i64 0)) (ds := []) #[false, false, false, false, false, false, false] (by kernel_rfl) rfl rfl ⟨c1, d0, d1, d2, d3, d4, d5, d6, d7, d8, d9, d10⟩ (fun hHeld => ?_)
    refine pure_ (i := 0) (N := some 165) (v := ?_) (a' := ?_) #[true, false, false, false, false, false, false] rfl rfl (by kernel_rfl) (fun _ _ _ h => h) (Or.inl ⟨by rfl, ?_⟩) ?_ ?_
    rotate_left
    · intro w'
      go_simp
      with_reducible rfl
    rotate_left
    · simp only [Act.put, List.setIfInBounds_toArray, List.set_cons_zero, List.set_cons_succ, i64_w, i32_w]
      rfl
    refine take_ (i := 1) (N := some 166) (v := ?_) (a' := ?_) #[true, true, false, false, false, false, false] rfl rfl (by kernel_rfl) (fun _ _ _ h => h) (Or.inl ⟨by rfl, ?_⟩) hHeld ?_ ?_
    rotate_left
    · rintro w' ⟨s0, s1, s2, s3, s4, s5, s6, s7, s8, s9, s10, s11⟩
      go_simp
      with_reducible rfl
    rotate_left
    · simp only [Act.put, List.setIfInBounds_toArray, List.set_cons_zero, List.set_cons_succ, i64_w, i32_w]
      rfl
    refine take_ (i := 2) (N := some 167) (v := ?_) (a' := ?_) #[true, true, true, false, false, false, false] rfl rfl (by kernel_rfl) (fun _ _ _ h => h) (Or.inl ⟨by rfl, ?_⟩) hHeld ?_ ?_
    rotate_left
    · rintro w' ⟨s0, s1, s2, s3, s4, s5, s6, s7, s8, s9, s10, s11⟩
      go_simp
      with_reducible rfl
    rotate_left
    · simp only [Act.put, List.setIfInBounds_toArray, List.set_cons_zero, List.set_cons_succ, i64_w, i32_w]
      rfl
    refine pure_ (i := 3) (N := some 168) (v := ?_) (a' := ?_) #[true, true, true, true, false, false, false] rfl rfl (by kernel_rfl) (fun _ _ _ h => h) (Or.inl ⟨by rfl, ?_⟩) ?_ ?_
    rotate_left
    · intro w'
      go_simp
      with_reducible rfl
    rotate_left
    · simp only [Act.put, List.setIfInBounds_toArray, List.set_cons_zero, List.set_cons_succ, i64_w, i32_w]
      rfl
    refine one_ (i := 4) (N := none) #[true, true, true, true, true, false, false] rfl rfl (by kernel_rfl) (by decide) (fun K hK => ?_)
    refine skip_ (w1 := ?_) (by rfl) rfl ?_ ?_
    rotate_left
    · go_simp
      rfl
    refine hK.out _ _ ⟨(far2 hps hHeld.1), (far2 hgs hHeld.2.1), (far2 hgs hHeld.2.2.1), (far2 hgs hHeld.2.2.2.1), (far2 hgs hHeld.2.2.2.2.1), (far2 hgs hHeld.2.2.2.2.2.1), (far2 hgs hHeld.2.2.2.2.2.2.1), (far2 hgs hHeld.2.2.2.2.2.2.2.1), (far2 hgs hHeld.2.2.2.2.2.2.2.2.1), (far2 hgs hHeld.2.2.2.2.2.2.2.2.2.1), (far2 hgs hHeld.2.2.2.2.2.2.2.2.2.2.1), (far2 hgs hHeld.2.2.2.2.2.2.2.2.2.2.2)⟩ (fun hHeld => ?_)
    clear hK K
    refine pure_ (i := 5) (N := some 169) (v := ?_) (a' := ?_) #[true, true, true, true, true, true, false] rfl rfl (by kernel_rfl) (fun _ _ _ h => h) (Or.inl ⟨by rfl, ?_⟩) ?_ ?_
    rotate_left
    · intro w'
      go_simp
      with_reducible rfl
    rotate_left
    · simp only [Act.put, List.setIfInBounds_toArray, List.set_cons_zero, List.set_cons_succ, i64_w, i32_w]
      rfl
    refine one_ (i := 6) (N := none) #[true, true, true, true, true, true, true] rfl rfl (by kernel_rfl) (by decide) (fun K hK => ?_)
    refine skip_ (w1 := ?_) (by rfl) rfl ?_ ?_
    rotate_left
    · go_simp
      rfl
    refine hK.out _ _ ⟨(far11d hps hHeld.1), (far11d hgs hHeld.2.1), (far11d hgs hHeld.2.2.1), (far11d hgs hHeld.2.2.2.1), (far11d hgs hHeld.2.2.2.2.1), (far11d hgs hHeld.2.2.2.2.2.1), (far11d hgs hHeld.2.2.2.2.2.2.1), (far11d hgs hHeld.2.2.2.2.2.2.2.1), (far11d hgs hHeld.2.2.2.2.2.2.2.2.1), (far11d hgs hHeld.2.2.2.2.2.2.2.2.2.1), (far11d hgs hHeld.2.2.2.2.2.2.2.2.2.2.1), (far11d hgs hHeld.2.2.2.2.2.2.2.2.2.2.2)⟩ (fun hHeld => ?_)
    clear hK K
    refine done_ (by kernel_rfl) ?_
    go_upto_region 43 with (fail)
    have P7 := P6.out.putS HS.out.1 hgs HS.out.2.1 1 (.int .i64 x.f1) (cs' := #[.int .i64 x.f0, .int .i64 x.f1, .int .i64 0, .int .i64 0, .string ⟨#[]⟩, .string ⟨#[]⟩, .slice none 0 0, .string ⟨#[]⟩, .string ⟨#[]⟩, .bool false, .int .i64 0, .int .i64 0, .int .i64 0, .int .i64 0]) rfl
    have P7 := P7.fill (C := .int .i64 x.f1) (v0 := .int .i64 1) (v1 := .string x.f3.f1) (v2 := .string ⟨#[]⟩) (v3 := .slice none 0 0) (v4 := .string ⟨#[]⟩) (v5 := .string ⟨#[]⟩) (v6 := .bool false) (v7 := .int .i64 0) (v8 := .int .i64 0) (v9 := .int .i64 0) (v10 := .int .i64 0) HS.out.1 hgs HS.out.2.1
    have P7 := P7.drew
    refine wp_world (PlAt w p s g (stepV x (.slice A x.f3.f3.length c)) #[.int .i64 x.f0, .int .i64 x.f1, .int .i64 0, .int .i64 1, .string x.f3.f1, .string ⟨#[]⟩, .slice none 0 0, .string ⟨#[]⟩, .string ⟨#[]⟩, .bool false, .int .i64 0, .int .i64 0, .int .i64 0, .int .i64 0] #[.int .i64 1, .string x.f3.f1, .string ⟨#[]⟩, .slice none 0 0, .string ⟨#[]⟩, .string ⟨#[]⟩, .bool false, .int .i64 0, .int .i64 0, .int .i64 0, .int .i64 0]) P7 ?_
    clear P7 P6 c1 d0 d1 d2 d3 d4 d5 d6 d7 d8 d9 d10 m1 mf1 m3 mf3 m4 mf4 m5 mf5 m6 mf6 m7 mf7 m8 mf8 m9 mf9 m10 mf10 m11 mf11 m12 mf12 m13 mf13
    intro w7 P7
    have P7 := Aside0.mk P7
    obtain ⟨c0, c1, c2, c3, c4, c5, c6, c7, c8, c9, c10, c11, c12, c13⟩ := cells14 P7.out.1.2.1
    obtain ⟨m0, m1, m2, m3, m4, m5, m6, m7, m8, m9, m10, m11, m12, m13⟩ := cells14 P7.out.1.2.2
    go_wp2_with (fail)
    refine (same_at x (⟨x.f0, x.f1, 0, { z52 with f0 := 1, f1 := x.f3.f1 }⟩) A none c 0 w7 (Kd.C_below HA.out P7.out.1.1) (⟨rfl, Nat.zero_le _, fun h => absurd h (Nat.lt_irrefl 0)⟩) HCC.out (Nat.le_refl _) (by have := HLL.out; omega)).mono ?_
    rintro e w9 ⟨b, rfl, hb, hb9⟩
    have HB9 := Aside0.mk (P7.out.1.1.trans (hb9.mono P7.out.1.1.size))
    have HIF := Aside0.mk hb
    clear hb hb9 c0 m0 c1 m1 c2 m2 c3 m3 c4 m4 c5 m5 c6 m6 c7 m7 c8 m8 c9 m9 c10 m10 c11 m11 c12 m12 c13 m13
    go_wp2_with (fail)
    go_ret
    exact ⟨b, rfl, HIF.out.trans ((plain_iff HDG.out (show stepN x = some (⟨x.f0, x.f1, 0, { z52 with f0 := 1, f1 := x.f3.f1 }⟩) by unfold stepN; rw [show callN x.f3 = some ({ z52 with f0 := 1, f1 := x.f3.f1 }) from callN_1 x.f3 HKK.out]; have := HD.out; rcases this with this | this <;> simp [this])).symm), HB9.out⟩
  )
end Go.Proofs.YtlkbeddlmbghkaaGreatDoor.PR

namespace Go.Proofs.YtlkbeddlmbghkaaGreatDoor.PR
open Go Go.Proofs Go.RowKit Go.Proofs.YtlkbeddlmbghkaaGreatDoorW.PrintWords Go.Proofs.YtlkbeddlmbghkaaGreatDoorW.PrintLast Go.Proofs.YtlkbeddlmbghkaaGreatDoorW.PrintMore Go.Proofs.YtlkbeddlmbghkaaGreatDoor.Lx
set_option linter.unusedVariables false
set_option linter.unusedSimpArgs false
set_option maxRecDepth 100000

set_option maxHeartbeats 64000000 in
theorem plaink6_at (x : StepT) (A : Option Addr) (c : Nat) (w : World) (hc : x.f3.f3.length ≤ c) (hA : Kd.C k93 w A x.f3.f3.length x.f3.f3) (hl : x.f3.f3.length ≤ 1500) (hd : x.f0 = 1 ∨ x.f0 = 2) (hk : x.f3.f0 = 6) :
    Calls Tryz.prog 25 #[.agg (stepV x (.slice A x.f3.f3.length c))] w fun e w' => ∃ b, e = .returned (.bool b) ∧ (b = true ↔ PlainS x) ∧ Below w.heap.size w w' := by
  have hu58 := Tryz.underlying58
  have hu52 := Tryz.underlying52
  have HCC := Aside0.mk hc
  have HA := Aside0.mk hA
  have HLL := Aside0.mk hl
  have HD := Aside0.mk hd
  have HKK := Aside0.mk hk
  clear hc hA hl hd hk
  go_enter Tryz.func25, Tryz.ntmps25
  go_upto_region 1 with (fail)
  have B1 := Aside0.mk (blk_new w (.cells (stepV x (.slice A x.f3.f3.length c)) 58))
  have ab1 : Below w.heap.size w (w.alloc (.cells (stepV x (.slice A x.f3.f3.length c)) 58)) := (Below.refl _ _).alloc (Nat.le_refl _) _
  change Code.wp _ _ _ _ (w.alloc (.cells (stepV x (.slice A x.f3.f3.length c)) 58))
  obtain ⟨p, hp⟩ : ∃ p, p = w.heap.size := ⟨_, rfl⟩
  rw [← hp] at B1 ⊢
  have HP : Aside0 (w.heap.size ≤ p) := ⟨by omega⟩
  have HB1 := Aside0.mk ab1
  generalize (w.alloc (.cells (stepV x (.slice A x.f3.f3.length c)) 58)) = w1 at *
  clear ab1 hp
  have c1 : w1.cell? ⟨p, 1, none⟩ = some (.int .i64 x.f1) := (blk_cell B1.out 1).trans rfl
  have c2 : w1.cell? ⟨p, 2, none⟩ = some (.int .i64 x.f2) := (blk_cell B1.out 2).trans rfl
  have c10 : w1.cell? ⟨p, 10, none⟩ = some (.int .i64 x.f3.f7) := (blk_cell B1.out 10).trans rfl
  have c11 : w1.cell? ⟨p, 11, none⟩ = some (.int .i64 x.f3.f8) := (blk_cell B1.out 11).trans rfl
  have c12 : w1.cell? ⟨p, 12, none⟩ = some (.int .i64 x.f3.f9) := (blk_cell B1.out 12).trans rfl
  have c13 : w1.cell? ⟨p, 13, none⟩ = some (.int .i64 x.f3.f10) := (blk_cell B1.out 13).trans rfl
  go_wp2_with (fail)
  have ab2 : Below w1.heap.size w1 (w1.alloc (.cells #[.int .i64 x.f1, .int .i64 x.f2, .int .i64 x.f3.f7, .int .i64 x.f3.f8, .int .i64 x.f3.f9, .int .i64 x.f3.f10] 3)) := (Below.refl _ _).alloc (Nat.le_refl _) _
  have B2 := Aside0.mk (blk_below B1.out ab2)
  have HB2 := Aside0.mk (HB1.out.trans (ab2.mono HB1.out.size))
  refine (digits_at x.f1 x.f2 x.f3.f7 x.f3.f8 x.f3.f9 x.f3.f10 w1.heap.size 0 _ (blk_new w1 _)).mono ?_
  rintro e w3 ⟨r, rfl, hr, hb3⟩
  have B3 := Aside0.mk (blk_below B2.out hb3)
  have HB3 := Aside0.mk (HB2.out.trans (hb3.mono HB2.out.size))
  clear ab2 hb3 c1 c2 c10 c11 c12 c13 B1 B2 HB1 HB2
  cases r with
  | false =>
    have HN0 : Aside0 (¬PlainS x) := ⟨fun h => by have := hr.2 ⟨h.1.1, h.1.2.1, h.1.2.2.1, h.1.2.2.2.1, h.1.2.2.2.2.1, h.1.2.2.2.2.2⟩; cases this⟩
    clear hr
    go_wp2_with (fail)
    go_ret
    exact ⟨false, rfl, ⟨fun h => (by cases h), fun h => absurd h HN0.out⟩, HB3.out⟩
  | true =>
  have HDG : Aside0 (digS x) := ⟨by have h := hr.1 rfl; exact ⟨h.1, h.2.1, h.2.2.1, h.2.2.2.1, h.2.2.2.2.1, h.2.2.2.2.2⟩⟩
  clear hr
  have c0 : w3.cell? ⟨p, 0, none⟩ = some (.int .i64 x.f0) := (blk_cell B3.out 0).trans rfl
  go_upto_region 4 with (fail)
  have ab4 : Below w3.heap.size w3 (w3.alloc (.cells #[.int .i64 x.f0, .int .i64 0, .int .i64 0, .int .i64 0, .string ⟨#[]⟩, .string ⟨#[]⟩, .slice none 0 0, .string ⟨#[]⟩, .string ⟨#[]⟩, .bool false, .int .i64 0, .int .i64 0, .int .i64 0, .int .i64 0] 58)) := (Below.refl _ _).alloc (Nat.le_refl _) _
  have PS4 : Aside0 (PsAt w p w3.heap.size (stepV x (.slice A x.f3.f3.length c)) #[.int .i64 x.f0, .int .i64 0, .int .i64 0, .int .i64 0, .string ⟨#[]⟩, .string ⟨#[]⟩, .slice none 0 0, .string ⟨#[]⟩, .string ⟨#[]⟩, .bool false, .int .i64 0, .int .i64 0, .int .i64 0, .int .i64 0] (w3.alloc (.cells #[.int .i64 x.f0, .int .i64 0, .int .i64 0, .int .i64 0, .string ⟨#[]⟩, .string ⟨#[]⟩, .slice none 0 0, .string ⟨#[]⟩, .string ⟨#[]⟩, .bool false, .int .i64 0, .int .i64 0, .int .i64 0, .int .i64 0] 58))) := ⟨HB3.out.trans (ab4.mono HB3.out.size), blk_below B3.out ab4, blk_new w3 _⟩
  have hps := blk_lt B3.out
  change Code.wp _ _ _ _ (w3.alloc (.cells #[.int .i64 x.f0, .int .i64 0, .int .i64 0, .int .i64 0, .string ⟨#[]⟩, .string ⟨#[]⟩, .slice none 0 0, .string ⟨#[]⟩, .string ⟨#[]⟩, .bool false, .int .i64 0, .int .i64 0, .int .i64 0, .int .i64 0] 58))
  obtain ⟨s, hs⟩ : ∃ s, s = w3.heap.size := ⟨_, rfl⟩
  rw [← hs] at PS4 hps ⊢
  generalize (w3.alloc (.cells #[.int .i64 x.f0, .int .i64 0, .int .i64 0, .int .i64 0, .string ⟨#[]⟩, .string ⟨#[]⟩, .slice none 0 0, .string ⟨#[]⟩, .string ⟨#[]⟩, .bool false, .int .i64 0, .int .i64 0, .int .i64 0, .int .i64 0] 58)) = w4 at *
  have HS : Aside0 (p ≠ s ∧ w.heap.size ≤ s ∧ p < s) := ⟨by have := HP.out; omega⟩
  clear ab4 hs hps c0 B3 HB3
  have c0 : w4.cell? ⟨p, 0, none⟩ = some (.int .i64 x.f0) := (blk_cell PS4.out.2.1 0).trans rfl
  rcases HD.out with h1 | h1
  all_goals (
    (first
      | (have e1 : (x.f0 == 1) = true := beq_iff_eq.2 h1
         have g1 : (x.f0 = 1) = True := eq_true h1
         have e2 : True := trivial
         have g2 : True := trivial)
      | (have e1 : (x.f0 == 1) = false := beq_eq_false_iff_ne.2 (by omega)
         have g1 : (x.f0 = 1) = False := eq_false (by omega)
         have e2 : (x.f0 == 2) = true := beq_iff_eq.2 h1
         have g2 : (x.f0 = 2) = True := eq_true h1))
    clear h1
    go_upto_region 8 with (fail)
    clear e1 g1 e2 g2 c0
    have c3 : w4.cell? ⟨p, 3, none⟩ = some (.int .i64 6) := (blk_cell PS4.out.2.1 3).trans (by rw [← HKK.out]; rfl)
    go_upto_region 9 with (fail)
    have ab5 : Below w4.heap.size w4 (w4.alloc (.cells #[.int .i64 6, .string ⟨#[]⟩, .string ⟨#[]⟩, .slice none 0 0, .string ⟨#[]⟩, .string ⟨#[]⟩, .bool false, .int .i64 0, .int .i64 0, .int .i64 0, .int .i64 0] 52)) := (Below.refl _ _).alloc (Nat.le_refl _) _
    have P5 : Aside0 (PlAt w p s w4.heap.size (stepV x (.slice A x.f3.f3.length c)) #[.int .i64 x.f0, .int .i64 0, .int .i64 0, .int .i64 0, .string ⟨#[]⟩, .string ⟨#[]⟩, .slice none 0 0, .string ⟨#[]⟩, .string ⟨#[]⟩, .bool false, .int .i64 0, .int .i64 0, .int .i64 0, .int .i64 0] #[.int .i64 6, .string ⟨#[]⟩, .string ⟨#[]⟩, .slice none 0 0, .string ⟨#[]⟩, .string ⟨#[]⟩, .bool false, .int .i64 0, .int .i64 0, .int .i64 0, .int .i64 0] (w4.alloc (.cells #[.int .i64 6, .string ⟨#[]⟩, .string ⟨#[]⟩, .slice none 0 0, .string ⟨#[]⟩, .string ⟨#[]⟩, .bool false, .int .i64 0, .int .i64 0, .int .i64 0, .int .i64 0] 52))) := ⟨PS4.out.below ab5, blk_new w4 _⟩
    have hsc := blk_lt PS4.out.2.2
    change Code.wp _ _ _ _ (w4.alloc (.cells #[.int .i64 6, .string ⟨#[]⟩, .string ⟨#[]⟩, .slice none 0 0, .string ⟨#[]⟩, .string ⟨#[]⟩, .bool false, .int .i64 0, .int .i64 0, .int .i64 0, .int .i64 0] 52))
    obtain ⟨g, hg⟩ : ∃ g, g = w4.heap.size := ⟨_, rfl⟩
    rw [← hg] at P5 hsc ⊢
    have hpg : p ≠ g := by have := HS.out; omega
    have hsg : s ≠ g := by omega
    have HG : Aside0 (w.heap.size ≤ g ∧ p ≠ g ∧ s ≠ g) := ⟨by have := HS.out; omega⟩
    generalize (w4.alloc (.cells #[.int .i64 6, .string ⟨#[]⟩, .string ⟨#[]⟩, .slice none 0 0, .string ⟨#[]⟩, .string ⟨#[]⟩, .bool false, .int .i64 0, .int .i64 0, .int .i64 0, .int .i64 0] 52)) = w5 at *
    clear ab5 hg hsc c3 PS4
    have d0 : w5.cell? ⟨g, 0, none⟩ = some (.int .i64 6) := (blk_cell P5.out.2 0).trans rfl
    go_upto_region 37 with (fail)
    clear d0
    have P6 := P5
    generalize w5 = w6 at *
    have c1 : w6.cell? ⟨p, 1, none⟩ = some (.int .i64 x.f1) := (blk_cell P6.out.1.2.1 1).trans rfl
    obtain ⟨d0, d1, d2, d3, d4, d5, d6, d7, d8, d9, d10⟩ := cells11 P6.out.2
    obtain ⟨m0, m1, m2, m3, m4, m5, m6, m7, m8, m9, m10, m11, m12, m13⟩ := cells14 P6.out.1.2.2
    obtain ⟨mf0, mf1, mf2, mf3, mf4, mf5, mf6, mf7, mf8, mf9, mf10, mf11, mf12, mf13⟩ := frz14 P6.out.1.2.2
    clear m0 m2 mf0 mf2
    have hps : p ≠ s := HS.out.1
    have hgs : g ≠ s := fun h => HG.out.2.2 h.symm
    refine start_ (n := 7) (S := fun w' => w'.cell? ⟨p, 1, none⟩ = some (.int .i64 x.f1) ∧ w'.cell? ⟨g, 0, none⟩ = some (.int .i64 6) ∧ w'.cell? ⟨g, 1, none⟩ = some (.string ⟨#[]⟩) ∧ w'.cell? ⟨g, 2, none⟩ = some (.string ⟨#[]⟩) ∧ w'.cell? ⟨g, 3, none⟩ = some (.slice none 0 0) ∧ w'.cell? ⟨g, 4, none⟩ = some (.string ⟨#[]⟩) ∧ w'.cell? ⟨g, 5, none⟩ = some (.string ⟨#[]⟩) ∧ w'.cell? ⟨g, 6, none⟩ = some (.bool false) ∧ w'.cell? ⟨g, 7, none⟩ = some (.int .i64 0) ∧ w'.cell? ⟨g, 8, none⟩ = some (.int .i64 0) ∧ w'.cell? ⟨g, 9, none⟩ = some (.int .i64 0) ∧ w'.cell? ⟨g, 10, none⟩ = some (.int .i64 0)) (ds := []) #[false, false, false, false, false, false, false] (by kernel_rfl) rfl rfl ⟨c1, d0, d1, d2, d3, d4, d5, d6, d7, d8, d9, d10⟩ (fun hHeld => ?_)
    refine pure_ (i := 0) (N := some 165) (v := ?_) (a' := ?_) #[true, false, false, false, false, false, false] rfl rfl (by kernel_rfl) (fun _ _ _ h => h) (Or.inl ⟨by rfl, ?_⟩) ?_ ?_
    rotate_left
    · intro w'
      go_simp
      with_reducible rfl
    rotate_left
    · simp only [Act.put, List.setIfInBounds_toArray, List.set_cons_zero, List.set_cons_succ, i64_w, i32_w]
      rfl
    refine take_ (i := 1) (N := some 166) (v := ?_) (a' := ?_) #[true, true, false, false, false, false, false] rfl rfl (by kernel_rfl) (fun _ _ _ h => h) (Or.inl ⟨by rfl, ?_⟩) hHeld ?_ ?_
    rotate_left
    · rintro w' ⟨s0, s1, s2, s3, s4, s5, s6, s7, s8, s9, s10, s11⟩
      go_simp
      with_reducible rfl
    rotate_left
    · simp only [Act.put, List.setIfInBounds_toArray, List.set_cons_zero, List.set_cons_succ, i64_w, i32_w]
      rfl
    refine take_ (i := 2) (N := some 167) (v := ?_) (a' := ?_) #[true, true, true, false, false, false, false] rfl rfl (by kernel_rfl) (fun _ _ _ h => h) (Or.inl ⟨by rfl, ?_⟩) hHeld ?_ ?_
    rotate_left
    · rintro w' ⟨s0, s1, s2, s3, s4, s5, s6, s7, s8, s9, s10, s11⟩
      go_simp
      with_reducible rfl
    rotate_left
    · simp only [Act.put, List.setIfInBounds_toArray, List.set_cons_zero, List.set_cons_succ, i64_w, i32_w]
      rfl
    refine pure_ (i := 3) (N := some 168) (v := ?_) (a' := ?_) #[true, true, true, true, false, false, false] rfl rfl (by kernel_rfl) (fun _ _ _ h => h) (Or.inl ⟨by rfl, ?_⟩) ?_ ?_
    rotate_left
    · intro w'
      go_simp
      with_reducible rfl
    rotate_left
    · simp only [Act.put, List.setIfInBounds_toArray, List.set_cons_zero, List.set_cons_succ, i64_w, i32_w]
      rfl
    refine one_ (i := 4) (N := none) #[true, true, true, true, true, false, false] rfl rfl (by kernel_rfl) (by decide) (fun K hK => ?_)
    refine skip_ (w1 := ?_) (by rfl) rfl ?_ ?_
    rotate_left
    · go_simp
      rfl
    refine hK.out _ _ ⟨(far2 hps hHeld.1), (far2 hgs hHeld.2.1), (far2 hgs hHeld.2.2.1), (far2 hgs hHeld.2.2.2.1), (far2 hgs hHeld.2.2.2.2.1), (far2 hgs hHeld.2.2.2.2.2.1), (far2 hgs hHeld.2.2.2.2.2.2.1), (far2 hgs hHeld.2.2.2.2.2.2.2.1), (far2 hgs hHeld.2.2.2.2.2.2.2.2.1), (far2 hgs hHeld.2.2.2.2.2.2.2.2.2.1), (far2 hgs hHeld.2.2.2.2.2.2.2.2.2.2.1), (far2 hgs hHeld.2.2.2.2.2.2.2.2.2.2.2)⟩ (fun hHeld => ?_)
    clear hK K
    refine pure_ (i := 5) (N := some 169) (v := ?_) (a' := ?_) #[true, true, true, true, true, true, false] rfl rfl (by kernel_rfl) (fun _ _ _ h => h) (Or.inl ⟨by rfl, ?_⟩) ?_ ?_
    rotate_left
    · intro w'
      go_simp
      with_reducible rfl
    rotate_left
    · simp only [Act.put, List.setIfInBounds_toArray, List.set_cons_zero, List.set_cons_succ, i64_w, i32_w]
      rfl
    refine one_ (i := 6) (N := none) #[true, true, true, true, true, true, true] rfl rfl (by kernel_rfl) (by decide) (fun K hK => ?_)
    refine skip_ (w1 := ?_) (by rfl) rfl ?_ ?_
    rotate_left
    · go_simp
      rfl
    refine hK.out _ _ ⟨(far11d hps hHeld.1), (far11d hgs hHeld.2.1), (far11d hgs hHeld.2.2.1), (far11d hgs hHeld.2.2.2.1), (far11d hgs hHeld.2.2.2.2.1), (far11d hgs hHeld.2.2.2.2.2.1), (far11d hgs hHeld.2.2.2.2.2.2.1), (far11d hgs hHeld.2.2.2.2.2.2.2.1), (far11d hgs hHeld.2.2.2.2.2.2.2.2.1), (far11d hgs hHeld.2.2.2.2.2.2.2.2.2.1), (far11d hgs hHeld.2.2.2.2.2.2.2.2.2.2.1), (far11d hgs hHeld.2.2.2.2.2.2.2.2.2.2.2)⟩ (fun hHeld => ?_)
    clear hK K
    refine done_ (by kernel_rfl) ?_
    go_upto_region 43 with (fail)
    have P7 := P6.out.putS HS.out.1 hgs HS.out.2.1 1 (.int .i64 x.f1) (cs' := #[.int .i64 x.f0, .int .i64 x.f1, .int .i64 0, .int .i64 0, .string ⟨#[]⟩, .string ⟨#[]⟩, .slice none 0 0, .string ⟨#[]⟩, .string ⟨#[]⟩, .bool false, .int .i64 0, .int .i64 0, .int .i64 0, .int .i64 0]) rfl
    have P7 := P7.fill (C := .int .i64 x.f1) (v0 := .int .i64 6) (v1 := .string ⟨#[]⟩) (v2 := .string ⟨#[]⟩) (v3 := .slice none 0 0) (v4 := .string ⟨#[]⟩) (v5 := .string ⟨#[]⟩) (v6 := .bool false) (v7 := .int .i64 0) (v8 := .int .i64 0) (v9 := .int .i64 0) (v10 := .int .i64 0) HS.out.1 hgs HS.out.2.1
    have P7 := P7.drew
    refine wp_world (PlAt w p s g (stepV x (.slice A x.f3.f3.length c)) #[.int .i64 x.f0, .int .i64 x.f1, .int .i64 0, .int .i64 6, .string ⟨#[]⟩, .string ⟨#[]⟩, .slice none 0 0, .string ⟨#[]⟩, .string ⟨#[]⟩, .bool false, .int .i64 0, .int .i64 0, .int .i64 0, .int .i64 0] #[.int .i64 6, .string ⟨#[]⟩, .string ⟨#[]⟩, .slice none 0 0, .string ⟨#[]⟩, .string ⟨#[]⟩, .bool false, .int .i64 0, .int .i64 0, .int .i64 0, .int .i64 0]) P7 ?_
    clear P7 P6 c1 d0 d1 d2 d3 d4 d5 d6 d7 d8 d9 d10 m1 mf1 m3 mf3 m4 mf4 m5 mf5 m6 mf6 m7 mf7 m8 mf8 m9 mf9 m10 mf10 m11 mf11 m12 mf12 m13 mf13
    intro w7 P7
    have P7 := Aside0.mk P7
    obtain ⟨c0, c1, c2, c3, c4, c5, c6, c7, c8, c9, c10, c11, c12, c13⟩ := cells14 P7.out.1.2.1
    obtain ⟨m0, m1, m2, m3, m4, m5, m6, m7, m8, m9, m10, m11, m12, m13⟩ := cells14 P7.out.1.2.2
    go_wp2_with (fail)
    refine (same_at x (⟨x.f0, x.f1, 0, { z52 with f0 := 6 }⟩) A none c 0 w7 (Kd.C_below HA.out P7.out.1.1) (⟨rfl, Nat.zero_le _, fun h => absurd h (Nat.lt_irrefl 0)⟩) HCC.out (Nat.le_refl _) (by have := HLL.out; omega)).mono ?_
    rintro e w9 ⟨b, rfl, hb, hb9⟩
    have HB9 := Aside0.mk (P7.out.1.1.trans (hb9.mono P7.out.1.1.size))
    have HIF := Aside0.mk hb
    clear hb hb9 c0 m0 c1 m1 c2 m2 c3 m3 c4 m4 c5 m5 c6 m6 c7 m7 c8 m8 c9 m9 c10 m10 c11 m11 c12 m12 c13 m13
    go_wp2_with (fail)
    go_ret
    exact ⟨b, rfl, HIF.out.trans ((plain_iff HDG.out (show stepN x = some (⟨x.f0, x.f1, 0, { z52 with f0 := 6 }⟩) by unfold stepN; rw [show callN x.f3 = some ({ z52 with f0 := 6 }) from callN_6 x.f3 HKK.out]; have := HD.out; rcases this with this | this <;> simp [this])).symm), HB9.out⟩
  )
end Go.Proofs.YtlkbeddlmbghkaaGreatDoor.PR
