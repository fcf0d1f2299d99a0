/- rundleref26.Call, at a call of kind 5. -/
import Derived.Test.YtlkbeddlmbghkaaGreatDoorRCh
namespace Go.Proofs.YtlkbeddlmbghkaaGreatDoor.PR
open Go Go.Proofs Go.RowKit Go.Proofs.YtlkbeddlmbghkaaGreatDoorW.PrintWords Go.Proofs.YtlkbeddlmbghkaaGreatDoorW.PrintLast Go.Proofs.YtlkbeddlmbghkaaGreatDoorW.PrintMore
set_option linter.unusedVariables false
set_option linter.unusedSimpArgs false
set_option maxRecDepth 100000

set_option maxHeartbeats 16000000 in
theorem callR_k5 (A : Option Addr) (c : Nat) (h : S46) (r : List S46) (hl : (h :: r).length ≤ 1000000) (hc : (h :: r).length ≤ c) (w : World) (hC : Kd.C k46 w A (h :: r).length (h :: r)) (hm : h.f0 = 2) (hkk : kindS h.f2 = 5) :
  Calls Tryz.prog 47 #[.slice A (h :: r).length c] w fun e w' => CallRPost w (h :: r) e w' := by
 have HKK := Aside0.mk hkk
 clear hkk
 have hu52 := Tryz.underlying52
 have hu46 := Tryz.underlying46
 have HC := Aside0.mk hC
 have HL := Aside0.mk hl
 have HCC := Aside0.mk hc
 clear hC hl hc
 go_enter Tryz.func47, Tryz.ntmps47
 go_upto_region 2 with (fail)
 have C1 : CS w zC (.slice none 0 0) ((w.alloc (.cells #[.int .i64 0, .string ⟨#[]⟩, .string ⟨#[]⟩, .slice none 0 0, .string ⟨#[]⟩, .string ⟨#[]⟩, .bool false, .int .i64 0, .int .i64 0, .int .i64 0, .int .i64 0] 52)).alloc (.cells #[.int .i64 0, .string ⟨#[]⟩, .string ⟨#[]⟩, .slice none 0 0, .string ⟨#[]⟩, .string ⟨#[]⟩, .bool false, .int .i64 0, .int .i64 0, .int .i64 0, .int .i64 0] 52)) := ⟨by have h := blk_new (w.alloc (.cells #[.int .i64 0, .string ⟨#[]⟩, .string ⟨#[]⟩, .slice none 0 0, .string ⟨#[]⟩, .string ⟨#[]⟩, .bool false, .int .i64 0, .int .i64 0, .int .i64 0, .int .i64 0] 52)) (.cells #[.int .i64 0, .string ⟨#[]⟩, .string ⟨#[]⟩, .slice none 0 0, .string ⟨#[]⟩, .string ⟨#[]⟩, .bool false, .int .i64 0, .int .i64 0, .int .i64 0, .int .i64 0] 52); rw [World.size_alloc] at h; exact h, blk_alloc (blk_new w _) _, ((Below.refl _ _).alloc (Nat.le_refl _) _).alloc (by rw [World.size_alloc]; omega) _⟩
 change Code.wp _ _ _ _ ((w.alloc (.cells #[.int .i64 0, .string ⟨#[]⟩, .string ⟨#[]⟩, .slice none 0 0, .string ⟨#[]⟩, .string ⟨#[]⟩, .bool false, .int .i64 0, .int .i64 0, .int .i64 0, .int .i64 0] 52)).alloc (.cells #[.int .i64 0, .string ⟨#[]⟩, .string ⟨#[]⟩, .slice none 0 0, .string ⟨#[]⟩, .string ⟨#[]⟩, .bool false, .int .i64 0, .int .i64 0, .int .i64 0, .int .i64 0] 52))
 generalize ((w.alloc (.cells #[.int .i64 0, .string ⟨#[]⟩, .string ⟨#[]⟩, .slice none 0 0, .string ⟨#[]⟩, .string ⟨#[]⟩, .bool false, .int .i64 0, .int .i64 0, .int .i64 0, .int .i64 0] 52)).alloc (.cells #[.int .i64 0, .string ⟨#[]⟩, .string ⟨#[]⟩, .slice none 0 0, .string ⟨#[]⟩, .string ⟨#[]⟩, .bool false, .int .i64 0, .int .i64 0, .int .i64 0, .int .i64 0] 52)) = w1 at *
 have CC1 := Aside0.mk C1
 clear C1
 ·
  obtain ⟨ad, e0, xa0, xa1, xa2⟩ := at_T46 HC.out 0 (by decide) (by simp)
  subst e0
  rw [show rd_T46 (h :: r) 0 = h from rfl, show ((0 : Int).toNat * 3) = 0 from rfl, Addr.add_zero'] at xa0 xa1 xa2
  have ha0 := (CC1.out.2.2.cell (World.block_lt_of_cell? w _ xa0)).trans xa0
  have ha2 := (CC1.out.2.2.cell (World.block_lt_of_cell? w _ xa2)).trans xa2
  have l0 : (0 < (((h :: r).length : Nat) : Int)) = True := eq_true (by rw [List.length_cons]; omega)
  have l1 : (((h :: r).length : Int) == 0) = false := beq_eq_false_iff_ne.2 (by rw [List.length_cons]; omega)
  have l2 : ((r.length : Int) + 1 == 0) = false := beq_eq_false_iff_ne.2 (by omega)
  have l3 : ((r.length : Int) + 1 = 0) = False := eq_false (by omega)
  have l4 : (0 < (r.length : Int) + 1) = True := eq_true (by omega)
  have l5 : ((1 : Int) ≤ (r.length : Int) + 1) = True := eq_true (by omega)
  have l6 : (r.length + 1 ≤ c) = True := eq_true (by have := HCC.out; rw [List.length_cons] at this; exact this)
  ·
   have m1 : (h.f0 == 2) = true := beq_iff_eq.2 hm
   have m2 : (h.f0 != 2) = false := bne_eq_false_iff_eq.2 hm
   have m3 : (h.f0 = 2) = True := eq_true hm
   have HM := Aside0.mk hm
   clear hm
   have p0 : w1.cell? ⟨w.heap.size + 1, 0, none⟩ = some (.int .i64 0) := (blk_cell CC1.out.1 0).trans rfl
   have pf0 : w1.frozen? ⟨w.heap.size + 1, 0, none⟩ = false := blk_frozen CC1.out.1 0
   go_upto_region 5 with (fail)
   refine (rundleref26_Kind.calls 11 _ _ _ (kind_f _)).mono ?_
   rintro e w2 ⟨rfl, hb⟩
   have CC2 := Aside0.mk (CC1.out.fr hb)
   have p0 : w2.cell? ⟨w.heap.size + 1, 0, none⟩ = some (.int .i64 0) := (blk_cell CC2.out.1 0).trans rfl
   have pf0 : w2.frozen? ⟨w.heap.size + 1, 0, none⟩ = false := blk_frozen CC2.out.1 0
   clear hb ha0 ha2
   generalize hkd : kindS h.f2 = kd
   have HKD := Aside0.mk hkd
   clear hkd
   go_upto_region 6 with (fail)
   iterate 8 (first | go_values | go_skip | go_guarded | go_step | go_upon)
   have CD := Kd.C_drop (m := 1) HC.out (by rw [List.length_cons]; omega) HCC.out
   rw [show (some ad).map (·.add (1 * k46.sz)) = some ⟨ad.block, ad.off + 3, none⟩ from rfl, show (h :: r).drop 1 = r from rfl] at CD
   have CC3 := Aside0.mk (CC2.out.put 0 (.int .i64 kd) (x' := { zC with f0 := kd }) (v' := .slice none 0 0) rfl)
   have hcr : r.length ≤ c - 1 := by have := HCC.out; rw [List.length_cons] at this; omega
   clear p0 pf0 CC2 CC1
   change Code.wp _ _ _ _ (w2.setCell ⟨w.heap.size + 1, 0, none⟩ (.int .i64 kd))
   generalize w2.setCell ⟨w.heap.size + 1, 0, none⟩ (.int .i64 kd) = w3 at *
   generalize (if c = 1 then some ad else some ⟨ad.block, ad.off + 3, none⟩) = A1 at *
   generalize c - 1 = c1 at *
   have HR := Aside0.mk CD
   have HRC := Aside0.mk hcr
   have HLR : Aside0 (r.length ≤ 1000000) := ⟨by have := HL.out; rw [List.length_cons] at this; omega⟩
   clear CD hcr l0 l1 l2 l3 l4 l5 l6 m1 m2 m3 xa0 xa1 xa2
   go_cut [5] (fun v5 wx => ∃ (g : Bool) (x : S52) (v : Value), v5 = .bool g ∧ Aside0 (CS w x v wx) ∧ Aside0 (k93.R 93 wx (w.heap.size + 2) (fun _ => True) v x.f3) ∧ Aside0 (g = true → argsR kd r = some x) ∧ Aside0 (g = false → argsR kd r = none))
   case first =>
    have p0 : w3.cell? ⟨w.heap.size + 1, 0, none⟩ = some (.int .i64 kd) := (blk_cell CC3.out.1 0).trans rfl
    go_upto_region 8 with (fail)
    clear p0
    have hk : kd = 5 := HKD.out.symm.trans HKK.out
    subst hk
    ·
     have q0 : w3.cell? ⟨w.heap.size + 1, 0, none⟩ = some (.int .i64 5) := (blk_cell CC3.out.1 0).trans rfl
     have q1 : w3.cell? ⟨w.heap.size + 1, 1, none⟩ = some (.string ⟨#[]⟩) := (blk_cell CC3.out.1 1).trans rfl
     have q2 : w3.cell? ⟨w.heap.size + 1, 2, none⟩ = some (.string ⟨#[]⟩) := (blk_cell CC3.out.1 2).trans rfl
     have q3 : w3.cell? ⟨w.heap.size + 1, 3, none⟩ = some (.slice none 0 0) := (blk_cell CC3.out.1 3).trans rfl
     have q4 : w3.cell? ⟨w.heap.size + 1, 4, none⟩ = some (.string ⟨#[]⟩) := (blk_cell CC3.out.1 4).trans rfl
     have q5 : w3.cell? ⟨w.heap.size + 1, 5, none⟩ = some (.string ⟨#[]⟩) := (blk_cell CC3.out.1 5).trans rfl
     have q6 : w3.cell? ⟨w.heap.size + 1, 6, none⟩ = some (.bool false) := (blk_cell CC3.out.1 6).trans rfl
     have q7 : w3.cell? ⟨w.heap.size + 1, 7, none⟩ = some (.int .i64 0) := (blk_cell CC3.out.1 7).trans rfl
     have q8 : w3.cell? ⟨w.heap.size + 1, 8, none⟩ = some (.int .i64 0) := (blk_cell CC3.out.1 8).trans rfl
     have q9 : w3.cell? ⟨w.heap.size + 1, 9, none⟩ = some (.int .i64 0) := (blk_cell CC3.out.1 9).trans rfl
     have q10 : w3.cell? ⟨w.heap.size + 1, 10, none⟩ = some (.int .i64 0) := (blk_cell CC3.out.1 10).trans rfl
     obtain ⟨y, -, hsp⟩ := span_tot { zC with f0 := 5 } rfl r
     go_wp2_with (fail)
     rcases hsp with ⟨hf, hsr⟩ | ⟨hf, hsr⟩
     ·
      have HSR := Aside0.mk hsr
      clear hsr
      refine (rundleref26_span.calls 5 ⟨#[]⟩ ⟨#[]⟩ none 0 [] ⟨#[]⟩ ⟨#[]⟩ false 0 0 0 0 A1 c1 r _ _ _ _ _ _ _ _ _ _ _ _ w3 (Kd.C_nil _ _) (Nat.le_refl _) (Kd.C_below HR.out CC3.out.2.2) HRC.out ⟨rfl, rfl⟩ hf).mono ?_
      rintro e w4 ⟨v, rfl, hRv, hb⟩
      clear hf
      obtain ⟨Av, cv, ev⟩ := Kd.R_slice hRv
      subst ev
      have hlt3 := blk_lt CC3.out.1
      have CC4 := Aside0.mk (CC3.out.fr hb)
      have RV4 := Aside0.mk (Kd.R_lower hRv hlt3)
      clear hb hRv hlt3 q0 q1 q2 q3 q4 q5 q6 q7 q8 q9 q10
      go_upto_region 36 with (fail)
      have YB := blk_new w4 (.cells #[.int .i64 y.f0, .string y.f1, .string y.f2, .slice Av y.f3.length cv, .string y.f4, .string y.f5, .bool y.f6, .int .i64 y.f7, .int .i64 y.f8, .int .i64 y.f9, .int .i64 y.f10] 52)
      have ab : Below w4.heap.size w4 (w4.alloc (.cells #[.int .i64 y.f0, .string y.f1, .string y.f2, .slice Av y.f3.length cv, .string y.f4, .string y.f5, .bool y.f6, .int .i64 y.f7, .int .i64 y.f8, .int .i64 y.f9, .int .i64 y.f10] 52)) := (Below.refl _ _).alloc (Nat.le_refl _) _
      have CC5 := Aside0.mk (CC4.out.fr ab)
      have RV5 := Aside0.mk (Kd.R_below RV4.out ab)
      have hgp : w.heap.size + 1 < w4.heap.size := blk_lt CC4.out.1
      change Code.wp _ _ _ _ (w4.alloc (.cells #[.int .i64 y.f0, .string y.f1, .string y.f2, .slice Av y.f3.length cv, .string y.f4, .string y.f5, .bool y.f6, .int .i64 y.f7, .int .i64 y.f8, .int .i64 y.f9, .int .i64 y.f10] 52))
      generalize w4.alloc (.cells #[.int .i64 y.f0, .string y.f1, .string y.f2, .slice Av y.f3.length cv, .string y.f4, .string y.f5, .bool y.f6, .int .i64 y.f7, .int .i64 y.f8, .int .i64 y.f9, .int .i64 y.f10] 52) = w5 at *
      clear ab CC4 RV4
      have q0 : w5.cell? ⟨w4.heap.size, 0, none⟩ = some (.int .i64 y.f0) := (blk_cell YB 0).trans rfl
      have q1 : w5.cell? ⟨w4.heap.size, 1, none⟩ = some (.string y.f1) := (blk_cell YB 1).trans rfl
      have q2 : w5.cell? ⟨w4.heap.size, 2, none⟩ = some (.string y.f2) := (blk_cell YB 2).trans rfl
      have q3 : w5.cell? ⟨w4.heap.size, 3, none⟩ = some (.slice Av y.f3.length cv) := (blk_cell YB 3).trans rfl
      have q4 : w5.cell? ⟨w4.heap.size, 4, none⟩ = some (.string y.f4) := (blk_cell YB 4).trans rfl
      have q5 : w5.cell? ⟨w4.heap.size, 5, none⟩ = some (.string y.f5) := (blk_cell YB 5).trans rfl
      have q6 : w5.cell? ⟨w4.heap.size, 6, none⟩ = some (.bool y.f6) := (blk_cell YB 6).trans rfl
      have q7 : w5.cell? ⟨w4.heap.size, 7, none⟩ = some (.int .i64 y.f7) := (blk_cell YB 7).trans rfl
      have q8 : w5.cell? ⟨w4.heap.size, 8, none⟩ = some (.int .i64 y.f8) := (blk_cell YB 8).trans rfl
      have q9 : w5.cell? ⟨w4.heap.size, 9, none⟩ = some (.int .i64 y.f9) := (blk_cell YB 9).trans rfl
      have q10 : w5.cell? ⟨w4.heap.size, 10, none⟩ = some (.int .i64 y.f10) := (blk_cell YB 10).trans rfl
      have sf0 : w5.frozen? ⟨w.heap.size + 1, 0, none⟩ = false := blk_frozen CC5.out.1 0
      have s0 : w5.cell? ⟨w.heap.size + 1, 0, none⟩ = some (.int .i64 5) := (blk_cell CC5.out.1 0).trans rfl
      have sf1 : w5.frozen? ⟨w.heap.size + 1, 1, none⟩ = false := blk_frozen CC5.out.1 1
      have s1 : w5.cell? ⟨w.heap.size + 1, 1, none⟩ = some (.string ⟨#[]⟩) := (blk_cell CC5.out.1 1).trans rfl
      have sf2 : w5.frozen? ⟨w.heap.size + 1, 2, none⟩ = false := blk_frozen CC5.out.1 2
      have s2 : w5.cell? ⟨w.heap.size + 1, 2, none⟩ = some (.string ⟨#[]⟩) := (blk_cell CC5.out.1 2).trans rfl
      have sf3 : w5.frozen? ⟨w.heap.size + 1, 3, none⟩ = false := blk_frozen CC5.out.1 3
      have s3 : w5.cell? ⟨w.heap.size + 1, 3, none⟩ = some (.slice none 0 0) := (blk_cell CC5.out.1 3).trans rfl
      have sf4 : w5.frozen? ⟨w.heap.size + 1, 4, none⟩ = false := blk_frozen CC5.out.1 4
      have s4 : w5.cell? ⟨w.heap.size + 1, 4, none⟩ = some (.string ⟨#[]⟩) := (blk_cell CC5.out.1 4).trans rfl
      have sf5 : w5.frozen? ⟨w.heap.size + 1, 5, none⟩ = false := blk_frozen CC5.out.1 5
      have s5 : w5.cell? ⟨w.heap.size + 1, 5, none⟩ = some (.string ⟨#[]⟩) := (blk_cell CC5.out.1 5).trans rfl
      have sf6 : w5.frozen? ⟨w.heap.size + 1, 6, none⟩ = false := blk_frozen CC5.out.1 6
      have s6 : w5.cell? ⟨w.heap.size + 1, 6, none⟩ = some (.bool false) := (blk_cell CC5.out.1 6).trans rfl
      have sf7 : w5.frozen? ⟨w.heap.size + 1, 7, none⟩ = false := blk_frozen CC5.out.1 7
      have s7 : w5.cell? ⟨w.heap.size + 1, 7, none⟩ = some (.int .i64 0) := (blk_cell CC5.out.1 7).trans rfl
      have sf8 : w5.frozen? ⟨w.heap.size + 1, 8, none⟩ = false := blk_frozen CC5.out.1 8
      have s8 : w5.cell? ⟨w.heap.size + 1, 8, none⟩ = some (.int .i64 0) := (blk_cell CC5.out.1 8).trans rfl
      have sf9 : w5.frozen? ⟨w.heap.size + 1, 9, none⟩ = false := blk_frozen CC5.out.1 9
      have s9 : w5.cell? ⟨w.heap.size + 1, 9, none⟩ = some (.int .i64 0) := (blk_cell CC5.out.1 9).trans rfl
      have sf10 : w5.frozen? ⟨w.heap.size + 1, 10, none⟩ = false := blk_frozen CC5.out.1 10
      have s10 : w5.cell? ⟨w.heap.size + 1, 10, none⟩ = some (.int .i64 0) := (blk_cell CC5.out.1 10).trans rfl
      go_wp2_with (fail)
      go_meet
      have FP := fillP w w5 _ y _ (.slice Av y.f3.length cv) CC5.out RV5.out
      exact ⟨true, y, .slice Av y.f3.length cv, rfl, ⟨FP.1⟩, ⟨FP.2⟩, ⟨fun _ => by simp [argsR, HSR.out]⟩, ⟨fun e => (by cases e)⟩⟩
     ·
      have HSR := Aside0.mk hsr
      clear hsr
      refine (rundleref26_span.calls 5 ⟨#[]⟩ ⟨#[]⟩ none 0 [] ⟨#[]⟩ ⟨#[]⟩ false 0 0 0 0 A1 c1 r _ _ _ _ _ _ _ _ _ _ _ _ w3 (Kd.C_nil _ _) (Nat.le_refl _) (Kd.C_below HR.out CC3.out.2.2) HRC.out ⟨rfl, rfl⟩ hf).mono ?_
      rintro e w4 ⟨v, rfl, hRv, hb⟩
      clear hf
      obtain ⟨Av, cv, ev⟩ := Kd.R_slice hRv
      subst ev
      have hlt3 := blk_lt CC3.out.1
      have CC4 := Aside0.mk (CC3.out.fr hb)
      have RV4 := Aside0.mk (Kd.R_lower hRv hlt3)
      clear hb hRv hlt3 q0 q1 q2 q3 q4 q5 q6 q7 q8 q9 q10
      go_upto_region 36 with (fail)
      have YB := blk_new w4 (.cells #[.int .i64 y.f0, .string y.f1, .string y.f2, .slice Av y.f3.length cv, .string y.f4, .string y.f5, .bool y.f6, .int .i64 y.f7, .int .i64 y.f8, .int .i64 y.f9, .int .i64 y.f10] 52)
      have ab : Below w4.heap.size w4 (w4.alloc (.cells #[.int .i64 y.f0, .string y.f1, .string y.f2, .slice Av y.f3.length cv, .string y.f4, .string y.f5, .bool y.f6, .int .i64 y.f7, .int .i64 y.f8, .int .i64 y.f9, .int .i64 y.f10] 52)) := (Below.refl _ _).alloc (Nat.le_refl _) _
      have CC5 := Aside0.mk (CC4.out.fr ab)
      have RV5 := Aside0.mk (Kd.R_below RV4.out ab)
      have hgp : w.heap.size + 1 < w4.heap.size := blk_lt CC4.out.1
      change Code.wp _ _ _ _ (w4.alloc (.cells #[.int .i64 y.f0, .string y.f1, .string y.f2, .slice Av y.f3.length cv, .string y.f4, .string y.f5, .bool y.f6, .int .i64 y.f7, .int .i64 y.f8, .int .i64 y.f9, .int .i64 y.f10] 52))
      generalize w4.alloc (.cells #[.int .i64 y.f0, .string y.f1, .string y.f2, .slice Av y.f3.length cv, .string y.f4, .string y.f5, .bool y.f6, .int .i64 y.f7, .int .i64 y.f8, .int .i64 y.f9, .int .i64 y.f10] 52) = w5 at *
      clear ab CC4 RV4
      have q0 : w5.cell? ⟨w4.heap.size, 0, none⟩ = some (.int .i64 y.f0) := (blk_cell YB 0).trans rfl
      have q1 : w5.cell? ⟨w4.heap.size, 1, none⟩ = some (.string y.f1) := (blk_cell YB 1).trans rfl
      have q2 : w5.cell? ⟨w4.heap.size, 2, none⟩ = some (.string y.f2) := (blk_cell YB 2).trans rfl
      have q3 : w5.cell? ⟨w4.heap.size, 3, none⟩ = some (.slice Av y.f3.length cv) := (blk_cell YB 3).trans rfl
      have q4 : w5.cell? ⟨w4.heap.size, 4, none⟩ = some (.string y.f4) := (blk_cell YB 4).trans rfl
      have q5 : w5.cell? ⟨w4.heap.size, 5, none⟩ = some (.string y.f5) := (blk_cell YB 5).trans rfl
      have q6 : w5.cell? ⟨w4.heap.size, 6, none⟩ = some (.bool y.f6) := (blk_cell YB 6).trans rfl
      have q7 : w5.cell? ⟨w4.heap.size, 7, none⟩ = some (.int .i64 y.f7) := (blk_cell YB 7).trans rfl
      have q8 : w5.cell? ⟨w4.heap.size, 8, none⟩ = some (.int .i64 y.f8) := (blk_cell YB 8).trans rfl
      have q9 : w5.cell? ⟨w4.heap.size, 9, none⟩ = some (.int .i64 y.f9) := (blk_cell YB 9).trans rfl
      have q10 : w5.cell? ⟨w4.heap.size, 10, none⟩ = some (.int .i64 y.f10) := (blk_cell YB 10).trans rfl
      have sf0 : w5.frozen? ⟨w.heap.size + 1, 0, none⟩ = false := blk_frozen CC5.out.1 0
      have s0 : w5.cell? ⟨w.heap.size + 1, 0, none⟩ = some (.int .i64 5) := (blk_cell CC5.out.1 0).trans rfl
      have sf1 : w5.frozen? ⟨w.heap.size + 1, 1, none⟩ = false := blk_frozen CC5.out.1 1
      have s1 : w5.cell? ⟨w.heap.size + 1, 1, none⟩ = some (.string ⟨#[]⟩) := (blk_cell CC5.out.1 1).trans rfl
      have sf2 : w5.frozen? ⟨w.heap.size + 1, 2, none⟩ = false := blk_frozen CC5.out.1 2
      have s2 : w5.cell? ⟨w.heap.size + 1, 2, none⟩ = some (.string ⟨#[]⟩) := (blk_cell CC5.out.1 2).trans rfl
      have sf3 : w5.frozen? ⟨w.heap.size + 1, 3, none⟩ = false := blk_frozen CC5.out.1 3
      have s3 : w5.cell? ⟨w.heap.size + 1, 3, none⟩ = some (.slice none 0 0) := (blk_cell CC5.out.1 3).trans rfl
      have sf4 : w5.frozen? ⟨w.heap.size + 1, 4, none⟩ = false := blk_frozen CC5.out.1 4
      have s4 : w5.cell? ⟨w.heap.size + 1, 4, none⟩ = some (.string ⟨#[]⟩) := (blk_cell CC5.out.1 4).trans rfl
      have sf5 : w5.frozen? ⟨w.heap.size + 1, 5, none⟩ = false := blk_frozen CC5.out.1 5
      have s5 : w5.cell? ⟨w.heap.size + 1, 5, none⟩ = some (.string ⟨#[]⟩) := (blk_cell CC5.out.1 5).trans rfl
      have sf6 : w5.frozen? ⟨w.heap.size + 1, 6, none⟩ = false := blk_frozen CC5.out.1 6
      have s6 : w5.cell? ⟨w.heap.size + 1, 6, none⟩ = some (.bool false) := (blk_cell CC5.out.1 6).trans rfl
      have sf7 : w5.frozen? ⟨w.heap.size + 1, 7, none⟩ = false := blk_frozen CC5.out.1 7
      have s7 : w5.cell? ⟨w.heap.size + 1, 7, none⟩ = some (.int .i64 0) := (blk_cell CC5.out.1 7).trans rfl
      have sf8 : w5.frozen? ⟨w.heap.size + 1, 8, none⟩ = false := blk_frozen CC5.out.1 8
      have s8 : w5.cell? ⟨w.heap.size + 1, 8, none⟩ = some (.int .i64 0) := (blk_cell CC5.out.1 8).trans rfl
      have sf9 : w5.frozen? ⟨w.heap.size + 1, 9, none⟩ = false := blk_frozen CC5.out.1 9
      have s9 : w5.cell? ⟨w.heap.size + 1, 9, none⟩ = some (.int .i64 0) := (blk_cell CC5.out.1 9).trans rfl
      have sf10 : w5.frozen? ⟨w.heap.size + 1, 10, none⟩ = false := blk_frozen CC5.out.1 10
      have s10 : w5.cell? ⟨w.heap.size + 1, 10, none⟩ = some (.int .i64 0) := (blk_cell CC5.out.1 10).trans rfl
      go_wp2_with (fail)
      go_meet
      have FP := fillP w w5 _ y _ (.slice Av y.f3.length cv) CC5.out RV5.out
      exact ⟨false, y, .slice Av y.f3.length cv, rfl, ⟨FP.1⟩, ⟨FP.2⟩, ⟨fun e => (by cases e)⟩, ⟨fun _ => by simp [argsR, HSR.out]⟩⟩
   case rest =>
    rename_i hKK
    obtain ⟨g, x, v, rfl, C4, R4, T4, F4⟩ := hcut
    refine hKK _ _ ?_
    clear hKK
    have hcall : callR (h :: r) = argsR kd r := by rw [callR, if_pos HM.out, HKD.out]
    have HCL := Aside0.mk hcall
    clear hcall
    obtain ⟨Av, cv, ev⟩ := Kd.R_slice R4.out
    subst ev
    obtain ⟨q0, q1, q2, q3, q4, q5, q6, q7, q8, q9, q10⟩ := cells11 (show wc.heap[w.heap.size + 1]? = some (.cells #[.int .i64 x.f0, .string x.f1, .string x.f2, .slice Av x.f3.length cv, .string x.f4, .string x.f5, .bool x.f6, .int .i64 x.f7, .int .i64 x.f8, .int .i64 x.f9, .int .i64 x.f10] 52 (0, 0)) from C4.out.1)
    obtain ⟨r0, rf0, r1, rf1, r2, rf2, r3, rf3, r4, rf4, r5, rf5, r6, rf6, r7, rf7, r8, rf8, r9, rf9, r10, rf10⟩ := cells11f (show wc.heap[w.heap.size]? = some (.cells #[.int .i64 0, .string ⟨#[]⟩, .string ⟨#[]⟩, .slice none 0 0, .string ⟨#[]⟩, .string ⟨#[]⟩, .bool false, .int .i64 0, .int .i64 0, .int .i64 0, .int .i64 0] 52 (0, 0)) from C4.out.2.1)
    cases g with
    | false =>
     have FF := Aside0.mk (HCL.out.trans (F4.out rfl))
     clear F4 T4 HCL
     go_wp2_with (fail)
     have F := fillC w wc (x) (.slice Av x.f3.length cv) C4.out (R4.out)
     refine bodyPost_ret (results_c2 rfl _ _ w.heap.size 52 (callV (x) (.slice Av x.f3.length cv)) (0, 0) _ rfl F.1 hu52 rfl (by kernel_rfl)) rfl ?_
     exact ⟨0, x, .slice Av x.f3.length cv, rfl, F.2.2, F.2.1, .inr ⟨rfl, FF.out⟩⟩
    | true =>
     have FF := Aside0.mk (HCL.out.trans (T4.out rfl))
     clear F4 T4 HCL
     go_wp2_with (fail)
     have F := fillC w wc (x) (.slice Av x.f3.length cv) C4.out (R4.out)
     refine bodyPost_ret (results_c2 rfl _ _ w.heap.size 52 (callV (x) (.slice Av x.f3.length cv)) (0, 0) _ rfl F.1 hu52 rfl (by kernel_rfl)) rfl ?_
     exact ⟨1, x, .slice Av x.f3.length cv, rfl, F.2.2, F.2.1, .inl ⟨rfl, FF.out⟩⟩
end Go.Proofs.YtlkbeddlmbghkaaGreatDoor.PR
