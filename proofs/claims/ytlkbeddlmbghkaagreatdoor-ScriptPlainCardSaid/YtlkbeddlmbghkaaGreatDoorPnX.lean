/- rundlelaw26.plain, a way. -/
import Derived.Test.YtlkbeddlmbghkaaGreatDoorPnH
namespace Go.Proofs.YtlkbeddlmbghkaaGreatDoor.PR
open Go Go.Proofs Go.RowKit Go.Proofs.YtlkbeddlmbghkaaGreatDoorW.PrintWords Go.Proofs.YtlkbeddlmbghkaaGreatDoorW.PrintLast Go.Proofs.YtlkbeddlmbghkaaGreatDoorW.PrintMore Go.Proofs.YtlkbeddlmbghkaaGreatDoor.Lx
set_option linter.unusedVariables false
set_option linter.unusedSimpArgs false
set_option maxRecDepth 100000

set_option maxHeartbeats 64000000 in
theorem plain0_at (x : StepT) (A : Option Addr) (c : Nat) (w : World) (hc : x.f3.f3.length ≤ c) (hA : Kd.C k93 w A x.f3.f3.length x.f3.f3) (hl : x.f3.f3.length ≤ 1500) (hd : x.f0 < 1 ∨ 4 < x.f0) :
  Calls Tryz.prog 25 #[.agg (stepV x (.slice A x.f3.f3.length c))] w fun e w' => ∃ b, e = .returned (.bool b) ∧ (b = true ↔ PlainS x) ∧ Below w.heap.size w w' := by
 have hu58 := Tryz.underlying58
 have hu52 := Tryz.underlying52
 have HCC := Aside0.mk hc
 have HA := Aside0.mk hA
 have HLL := Aside0.mk hl
 have HD := Aside0.mk hd
 skip
 clear hc hA hl hd
 go_enter Tryz.func25, Tryz.ntmps25
 go_upto_region 1 with (fail)
 have B1 := Aside0.mk (blk_new w (.cells (stepV x (.slice A x.f3.f3.length c)) 58))
 have ab1 : Below w.heap.size w (w.alloc (.cells (stepV x (.slice A x.f3.f3.length c)) 58)) := (Below.refl _ _).alloc (Nat.le_refl _) _
 change Code.wp _ _ _ _ (w.alloc (.cells (stepV x (.slice A x.f3.f3.length c)) 58))
 obtain ⟨p, hp⟩ : ∃ p, p = w.heap.size := ⟨_, rfl⟩
 rw [← hp] at B1 ⊢
 have HP : Aside0 (w.heap.size ≤ p) := ⟨by omega⟩
 have HB1 := Aside0.mk ab1
 generalize (w.alloc (.cells (stepV x (.slice A x.f3.f3.length c)) 58)) = w1 at *
 clear ab1 hp
 have c1 : w1.cell? ⟨p, 1, none⟩ = some (.int .i64 x.f1) := (blk_cell B1.out 1).trans rfl
 have c2 : w1.cell? ⟨p, 2, none⟩ = some (.int .i64 x.f2) := (blk_cell B1.out 2).trans rfl
 have c10 : w1.cell? ⟨p, 10, none⟩ = some (.int .i64 x.f3.f7) := (blk_cell B1.out 10).trans rfl
 have c11 : w1.cell? ⟨p, 11, none⟩ = some (.int .i64 x.f3.f8) := (blk_cell B1.out 11).trans rfl
 have c12 : w1.cell? ⟨p, 12, none⟩ = some (.int .i64 x.f3.f9) := (blk_cell B1.out 12).trans rfl
 have c13 : w1.cell? ⟨p, 13, none⟩ = some (.int .i64 x.f3.f10) := (blk_cell B1.out 13).trans rfl
 go_wp2_with (fail)
 have ab2 : Below w1.heap.size w1 (w1.alloc (.cells #[.int .i64 x.f1, .int .i64 x.f2, .int .i64 x.f3.f7, .int .i64 x.f3.f8, .int .i64 x.f3.f9, .int .i64 x.f3.f10] 3)) := (Below.refl _ _).alloc (Nat.le_refl _) _
 have B2 := Aside0.mk (blk_below B1.out ab2)
 have HB2 := Aside0.mk (HB1.out.trans (ab2.mono HB1.out.size))
 refine (digits_at x.f1 x.f2 x.f3.f7 x.f3.f8 x.f3.f9 x.f3.f10 w1.heap.size 0 _ (blk_new w1 _)).mono ?_
 rintro e w3 ⟨r, rfl, hr, hb3⟩
 have B3 := Aside0.mk (blk_below B2.out hb3)
 have HB3 := Aside0.mk (HB2.out.trans (hb3.mono HB2.out.size))
 clear ab2 hb3 c1 c2 c10 c11 c12 c13 B1 B2 HB1 HB2
 cases r with
 | false =>
  have HN0 : Aside0 (¬PlainS x) := ⟨fun h => by have := hr.2 ⟨h.1.1, h.1.2.1, h.1.2.2.1, h.1.2.2.2.1, h.1.2.2.2.2.1, h.1.2.2.2.2.2⟩; cases this⟩
  clear hr
  go_wp2_with (fail)
  go_ret
  exact ⟨false, rfl, ⟨fun h => (by cases h), fun h => absurd h HN0.out⟩, HB3.out⟩
 | true =>
 have HDG : Aside0 (digS x) := ⟨by have h := hr.1 rfl; exact ⟨h.1, h.2.1, h.2.2.1, h.2.2.2.1, h.2.2.2.2.1, h.2.2.2.2.2⟩⟩
 clear hr
 have c0 : w3.cell? ⟨p, 0, none⟩ = some (.int .i64 x.f0) := (blk_cell B3.out 0).trans rfl
 go_upto_region 4 with (fail)
 have ab4 : Below w3.heap.size w3 (w3.alloc (.cells #[.int .i64 x.f0, .int .i64 0, .int .i64 0, .int .i64 0, .string ⟨#[]⟩, .string ⟨#[]⟩, .slice none 0 0, .string ⟨#[]⟩, .string ⟨#[]⟩, .bool false, .int .i64 0, .int .i64 0, .int .i64 0, .int .i64 0] 58)) := (Below.refl _ _).alloc (Nat.le_refl _) _
 have PS4 : Aside0 (PsAt w p w3.heap.size (stepV x (.slice A x.f3.f3.length c)) #[.int .i64 x.f0, .int .i64 0, .int .i64 0, .int .i64 0, .string ⟨#[]⟩, .string ⟨#[]⟩, .slice none 0 0, .string ⟨#[]⟩, .string ⟨#[]⟩, .bool false, .int .i64 0, .int .i64 0, .int .i64 0, .int .i64 0] (w3.alloc (.cells #[.int .i64 x.f0, .int .i64 0, .int .i64 0, .int .i64 0, .string ⟨#[]⟩, .string ⟨#[]⟩, .slice none 0 0, .string ⟨#[]⟩, .string ⟨#[]⟩, .bool false, .int .i64 0, .int .i64 0, .int .i64 0, .int .i64 0] 58))) := ⟨HB3.out.trans (ab4.mono HB3.out.size), blk_below B3.out ab4, blk_new w3 _⟩
 have hps := blk_lt B3.out
 change Code.wp _ _ _ _ (w3.alloc (.cells #[.int .i64 x.f0, .int .i64 0, .int .i64 0, .int .i64 0, .string ⟨#[]⟩, .string ⟨#[]⟩, .slice none 0 0, .string ⟨#[]⟩, .string ⟨#[]⟩, .bool false, .int .i64 0, .int .i64 0, .int .i64 0, .int .i64 0] 58))
 obtain ⟨s, hs⟩ : ∃ s, s = w3.heap.size := ⟨_, rfl⟩
 rw [← hs] at PS4 hps ⊢
 generalize (w3.alloc (.cells #[.int .i64 x.f0, .int .i64 0, .int .i64 0, .int .i64 0, .string ⟨#[]⟩, .string ⟨#[]⟩, .slice none 0 0, .string ⟨#[]⟩, .string ⟨#[]⟩, .bool false, .int .i64 0, .int .i64 0, .int .i64 0, .int .i64 0] 58)) = w4 at *
 have HS : Aside0 (p ≠ s ∧ w.heap.size ≤ s ∧ p < s) := ⟨by have := HP.out; omega⟩
 clear ab4 hs hps c0 B3 HB3
 have c0 : w4.cell? ⟨p, 0, none⟩ = some (.int .i64 x.f0) := (blk_cell PS4.out.2.1 0).trans rfl
 have e1 : (x.f0 == 1) = false := beq_eq_false_iff_ne.2 (by have := HD.out; omega)
 have n1 : (x.f0 = 1) = False := eq_false (by have := HD.out; omega)
 have e2 : (x.f0 == 2) = false := beq_eq_false_iff_ne.2 (by have := HD.out; omega)
 have n2 : (x.f0 = 2) = False := eq_false (by have := HD.out; omega)
 have e3 : (x.f0 == 3) = false := beq_eq_false_iff_ne.2 (by have := HD.out; omega)
 have n3 : (x.f0 = 3) = False := eq_false (by have := HD.out; omega)
 have e4 : (x.f0 == 4) = false := beq_eq_false_iff_ne.2 (by have := HD.out; omega)
 have n4 : (x.f0 = 4) = False := eq_false (by have := HD.out; omega)
 have HNO : Aside0 (¬PlainS x) := ⟨plain_no (by unfold stepN; simp [n1, n2, n3, n4])⟩
 go_wp2_with (fail)
 go_ret
 exact ⟨false, rfl, ⟨fun h => (by cases h), fun h => absurd h HNO.out⟩, PS4.out.1⟩
end Go.Proofs.YtlkbeddlmbghkaaGreatDoor.PR

namespace Go.Proofs.YtlkbeddlmbghkaaGreatDoor.PR
open Go Go.Proofs Go.RowKit Go.Proofs.YtlkbeddlmbghkaaGreatDoorW.PrintWords Go.Proofs.YtlkbeddlmbghkaaGreatDoorW.PrintLast Go.Proofs.YtlkbeddlmbghkaaGreatDoorW.PrintMore Go.Proofs.YtlkbeddlmbghkaaGreatDoor.Lx
set_option linter.unusedVariables false
set_option linter.unusedSimpArgs false
set_option maxRecDepth 100000

set_option maxHeartbeats 64000000 in
theorem plain3_at (x : StepT) (A : Option Addr) (c : Nat) (w : World) (hc : x.f3.f3.length ≤ c) (hA : Kd.C k93 w A x.f3.f3.length x.f3.f3) (hl : x.f3.f3.length ≤ 1500) (hd : x.f0 = 3) :
  Calls Tryz.prog 25 #[.agg (stepV x (.slice A x.f3.f3.length c))] w fun e w' => ∃ b, e = .returned (.bool b) ∧ (b = true ↔ PlainS x) ∧ Below w.heap.size w w' := by
 have hu58 := Tryz.underlying58
 have hu52 := Tryz.underlying52
 have HCC := Aside0.mk hc
 have HA := Aside0.mk hA
 have HLL := Aside0.mk hl
 have HD := Aside0.mk hd
 skip
 clear hc hA hl hd
 go_enter Tryz.func25, Tryz.ntmps25
 go_upto_region 1 with (fail)
 have B1 := Aside0.mk (blk_new w (.cells (stepV x (.slice A x.f3.f3.length c)) 58))
 have ab1 : Below w.heap.size w (w.alloc (.cells (stepV x (.slice A x.f3.f3.length c)) 58)) := (Below.refl _ _).alloc (Nat.le_refl _) _
 change Code.wp _ _ _ _ (w.alloc (.cells (stepV x (.slice A x.f3.f3.length c)) 58))
 obtain ⟨p, hp⟩ : ∃ p, p = w.heap.size := ⟨_, rfl⟩
 rw [← hp] at B1 ⊢
 have HP : Aside0 (w.heap.size ≤ p) := ⟨by omega⟩
 have HB1 := Aside0.mk ab1
 generalize (w.alloc (.cells (stepV x (.slice A x.f3.f3.length c)) 58)) = w1 at *
 clear ab1 hp
 have c1 : w1.cell? ⟨p, 1, none⟩ = some (.int .i64 x.f1) := (blk_cell B1.out 1).trans rfl
 have c2 : w1.cell? ⟨p, 2, none⟩ = some (.int .i64 x.f2) := (blk_cell B1.out 2).trans rfl
 have c10 : w1.cell? ⟨p, 10, none⟩ = some (.int .i64 x.f3.f7) := (blk_cell B1.out 10).trans rfl
 have c11 : w1.cell? ⟨p, 11, none⟩ = some (.int .i64 x.f3.f8) := (blk_cell B1.out 11).trans rfl
 have c12 : w1.cell? ⟨p, 12, none⟩ = some (.int .i64 x.f3.f9) := (blk_cell B1.out 12).trans rfl
 have c13 : w1.cell? ⟨p, 13, none⟩ = some (.int .i64 x.f3.f10) := (blk_cell B1.out 13).trans rfl
 go_wp2_with (fail)
 have ab2 : Below w1.heap.size w1 (w1.alloc (.cells #[.int .i64 x.f1, .int .i64 x.f2, .int .i64 x.f3.f7, .int .i64 x.f3.f8, .int .i64 x.f3.f9, .int .i64 x.f3.f10] 3)) := (Below.refl _ _).alloc (Nat.le_refl _) _
 have B2 := Aside0.mk (blk_below B1.out ab2)
 have HB2 := Aside0.mk (HB1.out.trans (ab2.mono HB1.out.size))
 refine (digits_at x.f1 x.f2 x.f3.f7 x.f3.f8 x.f3.f9 x.f3.f10 w1.heap.size 0 _ (blk_new w1 _)).mono ?_
 rintro e w3 ⟨r, rfl, hr, hb3⟩
 have B3 := Aside0.mk (blk_below B2.out hb3)
 have HB3 := Aside0.mk (HB2.out.trans (hb3.mono HB2.out.size))
 clear ab2 hb3 c1 c2 c10 c11 c12 c13 B1 B2 HB1 HB2
 cases r with
 | false =>
  have HN0 : Aside0 (¬PlainS x) := ⟨fun h => by have := hr.2 ⟨h.1.1, h.1.2.1, h.1.2.2.1, h.1.2.2.2.1, h.1.2.2.2.2.1, h.1.2.2.2.2.2⟩; cases this⟩
  clear hr
  go_wp2_with (fail)
  go_ret
  exact ⟨false, rfl, ⟨fun h => (by cases h), fun h => absurd h HN0.out⟩, HB3.out⟩
 | true =>
 have HDG : Aside0 (digS x) := ⟨by have h := hr.1 rfl; exact ⟨h.1, h.2.1, h.2.2.1, h.2.2.2.1, h.2.2.2.2.1, h.2.2.2.2.2⟩⟩
 clear hr
 have c0 : w3.cell? ⟨p, 0, none⟩ = some (.int .i64 3) := (blk_cell B3.out 0).trans (by rw [← HD.out]; rfl)
 go_upto_region 4 with (fail)
 have ab4 : Below w3.heap.size w3 (w3.alloc (.cells #[.int .i64 3, .int .i64 0, .int .i64 0, .int .i64 0, .string ⟨#[]⟩, .string ⟨#[]⟩, .slice none 0 0, .string ⟨#[]⟩, .string ⟨#[]⟩, .bool false, .int .i64 0, .int .i64 0, .int .i64 0, .int .i64 0] 58)) := (Below.refl _ _).alloc (Nat.le_refl _) _
 have PS4 : Aside0 (PsAt w p w3.heap.size (stepV x (.slice A x.f3.f3.length c)) #[.int .i64 3, .int .i64 0, .int .i64 0, .int .i64 0, .string ⟨#[]⟩, .string ⟨#[]⟩, .slice none 0 0, .string ⟨#[]⟩, .string ⟨#[]⟩, .bool false, .int .i64 0, .int .i64 0, .int .i64 0, .int .i64 0] (w3.alloc (.cells #[.int .i64 3, .int .i64 0, .int .i64 0, .int .i64 0, .string ⟨#[]⟩, .string ⟨#[]⟩, .slice none 0 0, .string ⟨#[]⟩, .string ⟨#[]⟩, .bool false, .int .i64 0, .int .i64 0, .int .i64 0, .int .i64 0] 58))) := ⟨HB3.out.trans (ab4.mono HB3.out.size), blk_below B3.out ab4, blk_new w3 _⟩
 have hps := blk_lt B3.out
 change Code.wp _ _ _ _ (w3.alloc (.cells #[.int .i64 3, .int .i64 0, .int .i64 0, .int .i64 0, .string ⟨#[]⟩, .string ⟨#[]⟩, .slice none 0 0, .string ⟨#[]⟩, .string ⟨#[]⟩, .bool false, .int .i64 0, .int .i64 0, .int .i64 0, .int .i64 0] 58))
 obtain ⟨s, hs⟩ : ∃ s, s = w3.heap.size := ⟨_, rfl⟩
 rw [← hs] at PS4 hps ⊢
 generalize (w3.alloc (.cells #[.int .i64 3, .int .i64 0, .int .i64 0, .int .i64 0, .string ⟨#[]⟩, .string ⟨#[]⟩, .slice none 0 0, .string ⟨#[]⟩, .string ⟨#[]⟩, .bool false, .int .i64 0, .int .i64 0, .int .i64 0, .int .i64 0] 58)) = w4 at *
 have HS : Aside0 (p ≠ s ∧ w.heap.size ≤ s ∧ p < s) := ⟨by have := HP.out; omega⟩
 clear ab4 hs hps c0 B3 HB3
 have c0 : w4.cell? ⟨p, 0, none⟩ = some (.int .i64 3) := (blk_cell PS4.out.2.1 0).trans (by rw [← HD.out]; rfl)
 have c2 : w4.cell? ⟨p, 2, none⟩ = some (.int .i64 x.f2) := (blk_cell PS4.out.2.1 2).trans rfl
 by_cases h1 : x.f2 < 1
 ·
  have HNO : Aside0 (¬PlainS x) := ⟨plain_no (by unfold stepN; have := HD.out; simp [this, h1])⟩
  have g1 : (x.f2 < 1) = True := eq_true h1
  have g2 : decide (x.f2 < 1) = true := decide_eq_true h1
  clear h1
  go_wp2_with (fail)
  go_ret
  exact ⟨false, rfl, ⟨fun h => (by cases h), fun h => absurd h HNO.out⟩, PS4.out.1⟩
 have g1 : (x.f2 < 1) = False := eq_false h1
 have g2 : decide (x.f2 < 1) = false := decide_eq_false h1
 by_cases h2 : 100000 < x.f2
 ·
  have HNO : Aside0 (¬PlainS x) := ⟨plain_no (by unfold stepN; have := HD.out; simp [this, h2])⟩
  have g3 : (100000 < x.f2) = True := eq_true h2
  have g4 : decide (100000 < x.f2) = true := decide_eq_true h2
  clear h1 h2
  go_wp2_with (fail)
  go_ret
  exact ⟨false, rfl, ⟨fun h => (by cases h), fun h => absurd h HNO.out⟩, PS4.out.1⟩
 have g3 : (100000 < x.f2) = False := eq_false h2
 have g4 : decide (100000 < x.f2) = false := decide_eq_false h2
 have HSN : Aside0 (stepN x = some (⟨3, x.f1, x.f2, z52⟩)) := ⟨by unfold stepN; have := HD.out; simp [this, h1, h2]⟩
 clear h1 h2
 go_upto_region 41 with (fail)
 clear c0 g1 g2 g3 g4
 have c1 : w4.cell? ⟨p, 1, none⟩ = some (.int .i64 x.f1) := (blk_cell PS4.out.2.1 1).trans rfl
 have m1 : w4.cell? ⟨s, 1, none⟩ = some (.int .i64 0) := (blk_cell PS4.out.2.2 1).trans rfl
 have mf1 : w4.frozen? ⟨s, 1, none⟩ = false := blk_frozen PS4.out.2.2 1
 have m2 : w4.cell? ⟨s, 2, none⟩ = some (.int .i64 0) := (blk_cell PS4.out.2.2 2).trans rfl
 have mf2 : w4.frozen? ⟨s, 2, none⟩ = false := blk_frozen PS4.out.2.2 2
 have hps : p ≠ s := HS.out.1
 refine start_ (n := 8) (S := fun w' => w'.cell? ⟨p, 1, none⟩ = some (.int .i64 x.f1) ∧ w'.cell? ⟨p, 2, none⟩ = some (.int .i64 x.f2)) (ds := []) #[false, false, false, false, false, false, false, false] (by kernel_rfl) rfl rfl ⟨c1, c2⟩ (fun hHeld => ?_)
 refine pure_ (i := 0) (N := some 180) (v := ?_) (a' := ?_) #[true, false, false, false, false, false, false, false] rfl rfl (by kernel_rfl) (fun _ _ _ h => h) (Or.inl ⟨by rfl, ?_⟩) ?_ ?_
 rotate_left
 ·
  intro w'
  go_simp
  with_reducible rfl
 rotate_left
 ·
  simp only [Act.put, List.setIfInBounds_toArray, List.set_cons_zero, List.set_cons_succ, i64_w, i32_w]
  rfl
 refine take_ (i := 1) (N := some 181) (v := ?_) (a' := ?_) #[true, true, false, false, false, false, false, false] rfl rfl (by kernel_rfl) (fun _ _ _ h => h) (Or.inl ⟨by rfl, ?_⟩) hHeld ?_ ?_
 rotate_left
 ·
  rintro w' ⟨s0, s1⟩
  go_simp
  with_reducible rfl
 rotate_left
 ·
  simp only [Act.put, List.setIfInBounds_toArray, List.set_cons_zero, List.set_cons_succ, i64_w, i32_w]
  rfl
 refine pure_ (i := 2) (N := some 182) (v := ?_) (a' := ?_) #[true, true, true, false, false, false, false, false] rfl rfl (by kernel_rfl) (fun _ _ _ h => h) (Or.inl ⟨by rfl, ?_⟩) ?_ ?_
 rotate_left
 ·
  intro w'
  go_simp
  with_reducible rfl
 rotate_left
 ·
  simp only [Act.put, List.setIfInBounds_toArray, List.set_cons_zero, List.set_cons_succ, i64_w, i32_w]
  rfl
 refine take_ (i := 3) (N := some 183) (v := ?_) (a' := ?_) #[true, true, true, true, false, false, false, false] rfl rfl (by kernel_rfl) (fun _ _ _ h => h) (Or.inl ⟨by rfl, ?_⟩) hHeld ?_ ?_
 rotate_left
 ·
  rintro w' ⟨s0, s1⟩
  go_simp
  with_reducible rfl
 rotate_left
 ·
  simp only [Act.put, List.setIfInBounds_toArray, List.set_cons_zero, List.set_cons_succ, i64_w, i32_w]
  rfl
 refine pure_ (i := 4) (N := some 184) (v := ?_) (a' := ?_) #[true, true, true, true, true, false, false, false] rfl rfl (by kernel_rfl) (fun _ _ _ h => h) (Or.inl ⟨by rfl, ?_⟩) ?_ ?_
 rotate_left
 ·
  intro w'
  go_simp
  with_reducible rfl
 rotate_left
 ·
  simp only [Act.put, List.setIfInBounds_toArray, List.set_cons_zero, List.set_cons_succ, i64_w, i32_w]
  rfl
 refine one_ (i := 5) (N := none) #[true, true, true, true, true, true, false, false] rfl rfl (by kernel_rfl) (by decide) (fun K hK => ?_)
 refine skip_ (w1 := ?_) (by rfl) rfl ?_ ?_
 rotate_left
 ·
  go_simp
  rfl
 refine hK.out _ _ ⟨(far2 hps hHeld.1), (far2 hps hHeld.2)⟩ (fun hHeld => ?_)
 clear hK K
 refine pure_ (i := 6) (N := some 185) (v := ?_) (a' := ?_) #[true, true, true, true, true, true, true, false] rfl rfl (by kernel_rfl) (fun _ _ _ h => h) (Or.inl ⟨by rfl, ?_⟩) ?_ ?_
 rotate_left
 ·
  intro w'
  go_simp
  with_reducible rfl
 rotate_left
 ·
  simp only [Act.put, List.setIfInBounds_toArray, List.set_cons_zero, List.set_cons_succ, i64_w, i32_w]
  rfl
 refine one_ (i := 7) (N := none) #[true, true, true, true, true, true, true, true] rfl rfl (by kernel_rfl) (by decide) (fun K hK => ?_)
 refine skip_ (w1 := ?_) (by rfl) rfl ?_ ?_
 rotate_left
 ·
  go_simp
  rfl
 refine hK.out _ _ ⟨(far2 hps hHeld.1), (far2 hps hHeld.2)⟩ (fun hHeld => ?_)
 clear hK K
 refine done_ (by kernel_rfl) ?_
 go_upto_region 43 with (fail)
 have P7 := PS4.out.putS HS.out.1 HS.out.2.1 1 (.int .i64 x.f1) (cs' := #[.int .i64 3, .int .i64 x.f1, .int .i64 0, .int .i64 0, .string ⟨#[]⟩, .string ⟨#[]⟩, .slice none 0 0, .string ⟨#[]⟩, .string ⟨#[]⟩, .bool false, .int .i64 0, .int .i64 0, .int .i64 0, .int .i64 0]) rfl
 have P7 := P7.putS HS.out.1 HS.out.2.1 2 (.int .i64 x.f2) (cs' := #[.int .i64 3, .int .i64 x.f1, .int .i64 x.f2, .int .i64 0, .string ⟨#[]⟩, .string ⟨#[]⟩, .slice none 0 0, .string ⟨#[]⟩, .string ⟨#[]⟩, .bool false, .int .i64 0, .int .i64 0, .int .i64 0, .int .i64 0]) rfl
 have P7 := P7.drew
 refine wp_world (PsAt w p s (stepV x (.slice A x.f3.f3.length c)) #[.int .i64 3, .int .i64 x.f1, .int .i64 x.f2, .int .i64 0, .string ⟨#[]⟩, .string ⟨#[]⟩, .slice none 0 0, .string ⟨#[]⟩, .string ⟨#[]⟩, .bool false, .int .i64 0, .int .i64 0, .int .i64 0, .int .i64 0]) P7 ?_
 clear P7 PS4 c1 c2 m1 mf1 m2 mf2
 intro w7 P7
 have P7 := Aside0.mk P7
 obtain ⟨c0, c1, c2, c3, c4, c5, c6, c7, c8, c9, c10, c11, c12, c13⟩ := cells14 P7.out.2.1
 obtain ⟨m0, m1, m2, m3, m4, m5, m6, m7, m8, m9, m10, m11, m12, m13⟩ := cells14 P7.out.2.2
 go_wp2_with (fail)
 refine (same_at x (⟨3, x.f1, x.f2, z52⟩) A none c 0 w7 (Kd.C_below HA.out P7.out.1) (⟨rfl, Nat.zero_le _, fun h => absurd h (Nat.lt_irrefl 0)⟩) HCC.out (Nat.le_refl _) (by have := HLL.out; omega)).mono ?_
 rintro e w9 ⟨b, rfl, hb, hb9⟩
 have HB9 := Aside0.mk (P7.out.1.trans (hb9.mono P7.out.1.size))
 have HIF := Aside0.mk hb
 clear hb hb9 c0 m0 c1 m1 c2 m2 c3 m3 c4 m4 c5 m5 c6 m6 c7 m7 c8 m8 c9 m9 c10 m10 c11 m11 c12 m12 c13 m13
 go_wp2_with (fail)
 go_ret
 exact ⟨b, rfl, HIF.out.trans ((plain_iff HDG.out HSN.out).symm), HB9.out⟩
end Go.Proofs.YtlkbeddlmbghkaaGreatDoor.PR

namespace Go.Proofs.YtlkbeddlmbghkaaGreatDoor.PR
open Go Go.Proofs Go.RowKit Go.Proofs.YtlkbeddlmbghkaaGreatDoorW.PrintWords Go.Proofs.YtlkbeddlmbghkaaGreatDoorW.PrintLast Go.Proofs.YtlkbeddlmbghkaaGreatDoorW.PrintMore Go.Proofs.YtlkbeddlmbghkaaGreatDoor.Lx
set_option linter.unusedVariables false
set_option linter.unusedSimpArgs false
set_option maxRecDepth 100000

set_option maxHeartbeats 64000000 in
theorem plain4_at (x : StepT) (A : Option Addr) (c : Nat) (w : World) (hc : x.f3.f3.length ≤ c) (hA : Kd.C k93 w A x.f3.f3.length x.f3.f3) (hl : x.f3.f3.length ≤ 1500) (hd : x.f0 = 4) :
  Calls Tryz.prog 25 #[.agg (stepV x (.slice A x.f3.f3.length c))] w fun e w' => ∃ b, e = .returned (.bool b) ∧ (b = true ↔ PlainS x) ∧ Below w.heap.size w w' := by
 have hu58 := Tryz.underlying58
 have hu52 := Tryz.underlying52
 have HCC := Aside0.mk hc
 have HA := Aside0.mk hA
 have HLL := Aside0.mk hl
 have HD := Aside0.mk hd
 skip
 clear hc hA hl hd
 go_enter Tryz.func25, Tryz.ntmps25
 go_upto_region 1 with (fail)
 have B1 := Aside0.mk (blk_new w (.cells (stepV x (.slice A x.f3.f3.length c)) 58))
 have ab1 : Below w.heap.size w (w.alloc (.cells (stepV x (.slice A x.f3.f3.length c)) 58)) := (Below.refl _ _).alloc (Nat.le_refl _) _
 change Code.wp _ _ _ _ (w.alloc (.cells (stepV x (.slice A x.f3.f3.length c)) 58))
 obtain ⟨p, hp⟩ : ∃ p, p = w.heap.size := ⟨_, rfl⟩
 rw [← hp] at B1 ⊢
 have HP : Aside0 (w.heap.size ≤ p) := ⟨by omega⟩
 have HB1 := Aside0.mk ab1
 generalize (w.alloc (.cells (stepV x (.slice A x.f3.f3.length c)) 58)) = w1 at *
 clear ab1 hp
 have c1 : w1.cell? ⟨p, 1, none⟩ = some (.int .i64 x.f1) := (blk_cell B1.out 1).trans rfl
 have c2 : w1.cell? ⟨p, 2, none⟩ = some (.int .i64 x.f2) := (blk_cell B1.out 2).trans rfl
 have c10 : w1.cell? ⟨p, 10, none⟩ = some (.int .i64 x.f3.f7) := (blk_cell B1.out 10).trans rfl
 have c11 : w1.cell? ⟨p, 11, none⟩ = some (.int .i64 x.f3.f8) := (blk_cell B1.out 11).trans rfl
 have c12 : w1.cell? ⟨p, 12, none⟩ = some (.int .i64 x.f3.f9) := (blk_cell B1.out 12).trans rfl
 have c13 : w1.cell? ⟨p, 13, none⟩ = some (.int .i64 x.f3.f10) := (blk_cell B1.out 13).trans rfl
 go_wp2_with (fail)
 have ab2 : Below w1.heap.size w1 (w1.alloc (.cells #[.int .i64 x.f1, .int .i64 x.f2, .int .i64 x.f3.f7, .int .i64 x.f3.f8, .int .i64 x.f3.f9, .int .i64 x.f3.f10] 3)) := (Below.refl _ _).alloc (Nat.le_refl _) _
 have B2 := Aside0.mk (blk_below B1.out ab2)
 have HB2 := Aside0.mk (HB1.out.trans (ab2.mono HB1.out.size))
 refine (digits_at x.f1 x.f2 x.f3.f7 x.f3.f8 x.f3.f9 x.f3.f10 w1.heap.size 0 _ (blk_new w1 _)).mono ?_
 rintro e w3 ⟨r, rfl, hr, hb3⟩
 have B3 := Aside0.mk (blk_below B2.out hb3)
 have HB3 := Aside0.mk (HB2.out.trans (hb3.mono HB2.out.size))
 clear ab2 hb3 c1 c2 c10 c11 c12 c13 B1 B2 HB1 HB2
 cases r with
 | false =>
  have HN0 : Aside0 (¬PlainS x) := ⟨fun h => by have := hr.2 ⟨h.1.1, h.1.2.1, h.1.2.2.1, h.1.2.2.2.1, h.1.2.2.2.2.1, h.1.2.2.2.2.2⟩; cases this⟩
  clear hr
  go_wp2_with (fail)
  go_ret
  exact ⟨false, rfl, ⟨fun h => (by cases h), fun h => absurd h HN0.out⟩, HB3.out⟩
 | true =>
 have HDG : Aside0 (digS x) := ⟨by have h := hr.1 rfl; exact ⟨h.1, h.2.1, h.2.2.1, h.2.2.2.1, h.2.2.2.2.1, h.2.2.2.2.2⟩⟩
 clear hr
 have c0 : w3.cell? ⟨p, 0, none⟩ = some (.int .i64 4) := (blk_cell B3.out 0).trans (by rw [← HD.out]; rfl)
 go_upto_region 4 with (fail)
 have ab4 : Below w3.heap.size w3 (w3.alloc (.cells #[.int .i64 4, .int .i64 0, .int .i64 0, .int .i64 0, .string ⟨#[]⟩, .string ⟨#[]⟩, .slice none 0 0, .string ⟨#[]⟩, .string ⟨#[]⟩, .bool false, .int .i64 0, .int .i64 0, .int .i64 0, .int .i64 0] 58)) := (Below.refl _ _).alloc (Nat.le_refl _) _
 have PS4 : Aside0 (PsAt w p w3.heap.size (stepV x (.slice A x.f3.f3.length c)) #[.int .i64 4, .int .i64 0, .int .i64 0, .int .i64 0, .string ⟨#[]⟩, .string ⟨#[]⟩, .slice none 0 0, .string ⟨#[]⟩, .string ⟨#[]⟩, .bool false, .int .i64 0, .int .i64 0, .int .i64 0, .int .i64 0] (w3.alloc (.cells #[.int .i64 4, .int .i64 0, .int .i64 0, .int .i64 0, .string ⟨#[]⟩, .string ⟨#[]⟩, .slice none 0 0, .string ⟨#[]⟩, .string ⟨#[]⟩, .bool false, .int .i64 0, .int .i64 0, .int .i64 0, .int .i64 0] 58))) := ⟨HB3.out.trans (ab4.mono HB3.out.size), blk_below B3.out ab4, blk_new w3 _⟩
 have hps := blk_lt B3.out
 change Code.wp _ _ _ _ (w3.alloc (.cells #[.int .i64 4, .int .i64 0, .int .i64 0, .int .i64 0, .string ⟨#[]⟩, .string ⟨#[]⟩, .slice none 0 0, .string ⟨#[]⟩, .string ⟨#[]⟩, .bool false, .int .i64 0, .int .i64 0, .int .i64 0, .int .i64 0] 58))
 obtain ⟨s, hs⟩ : ∃ s, s = w3.heap.size := ⟨_, rfl⟩
 rw [← hs] at PS4 hps ⊢
 generalize (w3.alloc (.cells #[.int .i64 4, .int .i64 0, .int .i64 0, .int .i64 0, .string ⟨#[]⟩, .string ⟨#[]⟩, .slice none 0 0, .string ⟨#[]⟩, .string ⟨#[]⟩, .bool false, .int .i64 0, .int .i64 0, .int .i64 0, .int .i64 0] 58)) = w4 at *
 have HS : Aside0 (p ≠ s ∧ w.heap.size ≤ s ∧ p < s) := ⟨by have := HP.out; omega⟩
 clear ab4 hs hps c0 B3 HB3
 have c0 : w4.cell? ⟨p, 0, none⟩ = some (.int .i64 4) := (blk_cell PS4.out.2.1 0).trans (by rw [← HD.out]; rfl)
 have HSN : Aside0 (stepN x = some (⟨4, 0, 0, z52⟩)) := ⟨by unfold stepN; have := HD.out; simp [this]⟩
 go_upto_region 43 with (fail)
 clear c0
 obtain ⟨c0, c1, c2, c3, c4, c5, c6, c7, c8, c9, c10, c11, c12, c13⟩ := cells14 PS4.out.2.1
 obtain ⟨m0, m1, m2, m3, m4, m5, m6, m7, m8, m9, m10, m11, m12, m13⟩ := cells14 PS4.out.2.2
 go_wp2_with (fail)
 refine (same_at x (⟨4, 0, 0, z52⟩) A none c 0 w4 (Kd.C_below HA.out PS4.out.1) (⟨rfl, Nat.zero_le _, fun h => absurd h (Nat.lt_irrefl 0)⟩) HCC.out (Nat.le_refl _) (by have := HLL.out; omega)).mono ?_
 rintro e w9 ⟨b, rfl, hb, hb9⟩
 have HB9 := Aside0.mk (PS4.out.1.trans (hb9.mono PS4.out.1.size))
 have HIF := Aside0.mk hb
 clear hb hb9 c0 m0 c1 m1 c2 m2 c3 m3 c4 m4 c5 m5 c6 m6 c7 m7 c8 m8 c9 m9 c10 m10 c11 m11 c12 m12 c13 m13
 go_wp2_with (fail)
 go_ret
 exact ⟨b, rfl, HIF.out.trans ((plain_iff HDG.out HSN.out).symm), HB9.out⟩
end Go.Proofs.YtlkbeddlmbghkaaGreatDoor.PR
