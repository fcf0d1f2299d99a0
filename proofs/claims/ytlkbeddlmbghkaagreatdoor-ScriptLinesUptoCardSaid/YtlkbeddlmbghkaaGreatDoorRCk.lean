/- rundleref26.Call, at a call of kind 0. -/
import Derived.Test.YtlkbeddlmbghkaaGreatDoorRCh
namespace Go.Proofs.YtlkbeddlmbghkaaGreatDoor.PR
open Go Go.Proofs Go.RowKit Go.Proofs.YtlkbeddlmbghkaaGreatDoorW.PrintWords Go.Proofs.YtlkbeddlmbghkaaGreatDoorW.PrintLast Go.Proofs.YtlkbeddlmbghkaaGreatDoorW.PrintMore
set_option linter.unusedVariables false
set_option linter.unusedSimpArgs false
set_option maxRecDepth 100000

set_option maxHeartbeats 16000000 in
theorem callR_k0 (A : Option Addr) (c : Nat) (h : S46) (r : List S46) (hl : (h :: r).length ≤ 1000000) (hc : (h :: r).length ≤ c) (w : World) (hC : Kd.C k46 w A (h :: r).length (h :: r)) (hm : h.f0 = 2) (hkk : kindS h.f2 = 0) :
  Calls Tryz.prog 47 #[.slice A (h :: r).length c] w fun e w' => CallRPost w (h :: r) e w' := by
 have HKK := Aside0.mk hkk
 clear hkk
 have hu52 := Tryz.underlying52
 have hu46 := Tryz.underlying46
 have HC := Aside0.mk hC
 have HL := Aside0.mk hl
 have HCC := Aside0.mk hc
 clear hC hl hc
 go_enter Tryz.func47, Tryz.ntmps47
 go_upto_region 2 with (fail)
 have C1 : CS w zC (.slice none 0 0) ((w.alloc (.cells #[.int .i64 0, .string ⟨#[]⟩, .string ⟨#[]⟩, .slice none 0 0, .string ⟨#[]⟩, .string ⟨#[]⟩, .bool false, .int .i64 0, .int .i64 0, .int .i64 0, .int .i64 0] 52)).alloc (.cells #[.int .i64 0, .string ⟨#[]⟩, .string ⟨#[]⟩, .slice none 0 0, .string ⟨#[]⟩, .string ⟨#[]⟩, .bool false, .int .i64 0, .int .i64 0, .int .i64 0, .int .i64 0] 52)) := ⟨by have h := blk_new (w.alloc (.cells #[.int .i64 0, .string ⟨#[]⟩, .string ⟨#[]⟩, .slice none 0 0, .string ⟨#[]⟩, .string ⟨#[]⟩, .bool false, .int .i64 0, .int .i64 0, .int .i64 0, .int .i64 0] 52)) (.cells #[.int .i64 0, .string ⟨#[]⟩, .string ⟨#[]⟩, .slice none 0 0, .string ⟨#[]⟩, .string ⟨#[]⟩, .bool false, .int .i64 0, .int .i64 0, .int .i64 0, .int .i64 0] 52); rw [World.size_alloc] at h; exact h, blk_alloc (blk_new w _) _, ((Below.refl _ _).alloc (Nat.le_refl _) _).alloc (by rw [World.size_alloc]; omega) _⟩
 change Code.wp _ _ _ _ ((w.alloc (.cells #[.int .i64 0, .string ⟨#[]⟩, .string ⟨#[]⟩, .slice none 0 0, .string ⟨#[]⟩, .string ⟨#[]⟩, .bool false, .int .i64 0, .int .i64 0, .int .i64 0, .int .i64 0] 52)).alloc (.cells #[.int .i64 0, .string ⟨#[]⟩, .string ⟨#[]⟩, .slice none 0 0, .string ⟨#[]⟩, .string ⟨#[]⟩, .bool false, .int .i64 0, .int .i64 0, .int .i64 0, .int .i64 0] 52))
 generalize ((w.alloc (.cells #[.int .i64 0, .string ⟨#[]⟩, .string ⟨#[]⟩, .slice none 0 0, .string ⟨#[]⟩, .string ⟨#[]⟩, .bool false, .int .i64 0, .int .i64 0, .int .i64 0, .int .i64 0] 52)).alloc (.cells #[.int .i64 0, .string ⟨#[]⟩, .string ⟨#[]⟩, .slice none 0 0, .string ⟨#[]⟩, .string ⟨#[]⟩, .bool false, .int .i64 0, .int .i64 0, .int .i64 0, .int .i64 0] 52)) = w1 at *
 have CC1 := Aside0.mk C1
 clear C1
 ·
  obtain ⟨ad, e0, xa0, xa1, xa2⟩ := at_T46 HC.out 0 (by decide) (by simp)
  subst e0
  rw [show rd_T46 (h :: r) 0 = h from rfl, show ((0 : Int).toNat * 3) = 0 from rfl, Addr.add_zero'] at xa0 xa1 xa2
  have ha0 := (CC1.out.2.2.cell (World.block_lt_of_cell? w _ xa0)).trans xa0
  have ha2 := (CC1.out.2.2.cell (World.block_lt_of_cell? w _ xa2)).trans xa2
  have l0 : (0 < (((h :: r).length : Nat) : Int)) = True := eq_true (by rw [List.length_cons]; omega)
  have l1 : (((h :: r).length : Int) == 0) = false := beq_eq_false_iff_ne.2 (by rw [List.length_cons]; omega)
  have l2 : ((r.length : Int) + 1 == 0) = false := beq_eq_false_iff_ne.2 (by omega)
  have l3 : ((r.length : Int) + 1 = 0) = False := eq_false (by omega)
  have l4 : (0 < (r.length : Int) + 1) = True := eq_true (by omega)
  have l5 : ((1 : Int) ≤ (r.length : Int) + 1) = True := eq_true (by omega)
  have l6 : (r.length + 1 ≤ c) = True := eq_true (by have := HCC.out; rw [List.length_cons] at this; exact this)
  ·
   have m1 : (h.f0 == 2) = true := beq_iff_eq.2 hm
   have m2 : (h.f0 != 2) = false := bne_eq_false_iff_eq.2 hm
   have m3 : (h.f0 = 2) = True := eq_true hm
   have HM := Aside0.mk hm
   clear hm
   have p0 : w1.cell? ⟨w.heap.size + 1, 0, none⟩ = some (.int .i64 0) := (blk_cell CC1.out.1 0).trans rfl
   have pf0 : w1.frozen? ⟨w.heap.size + 1, 0, none⟩ = false := blk_frozen CC1.out.1 0
   go_upto_region 5 with (fail)
   refine (rundleref26_Kind.calls 11 _ _ _ (kind_f _)).mono ?_
   rintro e w2 ⟨rfl, hb⟩
   have CC2 := Aside0.mk (CC1.out.fr hb)
   have p0 : w2.cell? ⟨w.heap.size + 1, 0, none⟩ = some (.int .i64 0) := (blk_cell CC2.out.1 0).trans rfl
   have pf0 : w2.frozen? ⟨w.heap.size + 1, 0, none⟩ = false := blk_frozen CC2.out.1 0
   clear hb ha0 ha2
   generalize hkd : kindS h.f2 = kd
   have HKD := Aside0.mk hkd
   clear hkd
   go_upto_region 6 with (fail)
   iterate 8 (first | go_values | go_skip | go_guarded | go_step | go_upon)
   have CD := Kd.C_drop (m := 1) HC.out (by rw [List.length_cons]; omega) HCC.out
   rw [show (some ad).map (·.add (1 * k46.sz)) = some ⟨ad.block, ad.off + 3, none⟩ from rfl, show (h :: r).drop 1 = r from rfl] at CD
   have CC3 := Aside0.mk (CC2.out.put 0 (.int .i64 kd) (x' := { zC with f0 := kd }) (v' := .slice none 0 0) rfl)
   have hcr : r.length ≤ c - 1 := by have := HCC.out; rw [List.length_cons] at this; omega
   clear p0 pf0 CC2 CC1
   change Code.wp _ _ _ _ (w2.setCell ⟨w.heap.size + 1, 0, none⟩ (.int .i64 kd))
   generalize w2.setCell ⟨w.heap.size + 1, 0, none⟩ (.int .i64 kd) = w3 at *
   generalize (if c = 1 then some ad else some ⟨ad.block, ad.off + 3, none⟩) = A1 at *
   generalize c - 1 = c1 at *
   have HR := Aside0.mk CD
   have HRC := Aside0.mk hcr
   have HLR : Aside0 (r.length ≤ 1000000) := ⟨by have := HL.out; rw [List.length_cons] at this; omega⟩
   clear CD hcr l0 l1 l2 l3 l4 l5 l6 m1 m2 m3 xa0 xa1 xa2
   go_cut [5] (fun v5 wx => ∃ (g : Bool) (x : S52) (v : Value), v5 = .bool g ∧ Aside0 (CS w x v wx) ∧ Aside0 (k93.R 93 wx (w.heap.size + 2) (fun _ => True) v x.f3) ∧ Aside0 (g = true → argsR kd r = some x) ∧ Aside0 (g = false → argsR kd r = none))
   case first =>
    have p0 : w3.cell? ⟨w.heap.size + 1, 0, none⟩ = some (.int .i64 kd) := (blk_cell CC3.out.1 0).trans rfl
    go_upto_region 8 with (fail)
    clear p0
    have hk : kd = 0 := HKD.out.symm.trans HKK.out
    subst hk
    ·
     go_wp2_with (fail)
     go_meet
     exact ⟨false, { zC with f0 := 0 }, .slice none 0 0, rfl, CC3, ⟨Kd.R_nil _ _ _ _ _⟩, ⟨fun e => (by cases e)⟩, ⟨fun _ => by simp [argsR]⟩⟩
   case rest =>
    rename_i hKK
    obtain ⟨g, x, v, rfl, C4, R4, T4, F4⟩ := hcut
    refine hKK _ _ ?_
    clear hKK
    have hcall : callR (h :: r) = argsR kd r := by rw [callR, if_pos HM.out, HKD.out]
    have HCL := Aside0.mk hcall
    clear hcall
    obtain ⟨Av, cv, ev⟩ := Kd.R_slice R4.out
    subst ev
    obtain ⟨q0, q1, q2, q3, q4, q5, q6, q7, q8, q9, q10⟩ := cells11 (show wc.heap[w.heap.size + 1]? = some (.cells #[.int .i64 x.f0, .string x.f1, .string x.f2, .slice Av x.f3.length cv, .string x.f4, .string x.f5, .bool x.f6, .int .i64 x.f7, .int .i64 x.f8, .int .i64 x.f9, .int .i64 x.f10] 52 (0, 0)) from C4.out.1)
    obtain ⟨r0, rf0, r1, rf1, r2, rf2, r3, rf3, r4, rf4, r5, rf5, r6, rf6, r7, rf7, r8, rf8, r9, rf9, r10, rf10⟩ := cells11f (show wc.heap[w.heap.size]? = some (.cells #[.int .i64 0, .string ⟨#[]⟩, .string ⟨#[]⟩, .slice none 0 0, .string ⟨#[]⟩, .string ⟨#[]⟩, .bool false, .int .i64 0, .int .i64 0, .int .i64 0, .int .i64 0] 52 (0, 0)) from C4.out.2.1)
    cases g with
    | false =>
     have FF := Aside0.mk (HCL.out.trans (F4.out rfl))
     clear F4 T4 HCL
     go_wp2_with (fail)
     have F := fillC w wc (x) (.slice Av x.f3.length cv) C4.out (R4.out)
     refine bodyPost_ret (results_c2 rfl _ _ w.heap.size 52 (callV (x) (.slice Av x.f3.length cv)) (0, 0) _ rfl F.1 hu52 rfl (by kernel_rfl)) rfl ?_
     exact ⟨0, x, .slice Av x.f3.length cv, rfl, F.2.2, F.2.1, .inr ⟨rfl, FF.out⟩⟩
    | true =>
     have FF := Aside0.mk (HCL.out.trans (T4.out rfl))
     clear F4 T4 HCL
     go_wp2_with (fail)
     have F := fillC w wc (x) (.slice Av x.f3.length cv) C4.out (R4.out)
     refine bodyPost_ret (results_c2 rfl _ _ w.heap.size 52 (callV (x) (.slice Av x.f3.length cv)) (0, 0) _ rfl F.1 hu52 rfl (by kernel_rfl)) rfl ?_
     exact ⟨1, x, .slice Av x.f3.length cv, rfl, F.2.2, F.2.1, .inl ⟨rfl, FF.out⟩⟩
end Go.Proofs.YtlkbeddlmbghkaaGreatDoor.PR

namespace Go.Proofs.YtlkbeddlmbghkaaGreatDoor.PR
open Go Go.Proofs Go.RowKit Go.Proofs.YtlkbeddlmbghkaaGreatDoorW.PrintWords Go.Proofs.YtlkbeddlmbghkaaGreatDoorW.PrintLast Go.Proofs.YtlkbeddlmbghkaaGreatDoorW.PrintMore
set_option linter.unusedVariables false
set_option linter.unusedSimpArgs false
set_option maxRecDepth 100000

set_option maxHeartbeats 16000000 in
theorem callR_k1 (A : Option Addr) (c : Nat) (h : S46) (r : List S46) (hl : (h :: r).length ≤ 1000000) (hc : (h :: r).length ≤ c) (w : World) (hC : Kd.C k46 w A (h :: r).length (h :: r)) (hm : h.f0 = 2) (hkk : kindS h.f2 = 1) :
  Calls Tryz.prog 47 #[.slice A (h :: r).length c] w fun e w' => CallRPost w (h :: r) e w' := by
 have HKK := Aside0.mk hkk
 clear hkk
 have hu52 := Tryz.underlying52
 have hu46 := Tryz.underlying46
 have HC := Aside0.mk hC
 have HL := Aside0.mk hl
 have HCC := Aside0.mk hc
 clear hC hl hc
 go_enter Tryz.func47, Tryz.ntmps47
 go_upto_region 2 with (fail)
 have C1 : CS w zC (.slice none 0 0) ((w.alloc (.cells #[.int .i64 0, .string ⟨#[]⟩, .string ⟨#[]⟩, .slice none 0 0, .string ⟨#[]⟩, .string ⟨#[]⟩, .bool false, .int .i64 0, .int .i64 0, .int .i64 0, .int .i64 0] 52)).alloc (.cells #[.int .i64 0, .string ⟨#[]⟩, .string ⟨#[]⟩, .slice none 0 0, .string ⟨#[]⟩, .string ⟨#[]⟩, .bool false, .int .i64 0, .int .i64 0, .int .i64 0, .int .i64 0] 52)) := ⟨by have h := blk_new (w.alloc (.cells #[.int .i64 0, .string ⟨#[]⟩, .string ⟨#[]⟩, .slice none 0 0, .string ⟨#[]⟩, .string ⟨#[]⟩, .bool false, .int .i64 0, .int .i64 0, .int .i64 0, .int .i64 0] 52)) (.cells #[.int .i64 0, .string ⟨#[]⟩, .string ⟨#[]⟩, .slice none 0 0, .string ⟨#[]⟩, .string ⟨#[]⟩, .bool false, .int .i64 0, .int .i64 0, .int .i64 0, .int .i64 0] 52); rw [World.size_alloc] at h; exact h, blk_alloc (blk_new w _) _, ((Below.refl _ _).alloc (Nat.le_refl _) _).alloc (by rw [World.size_alloc]; omega) _⟩
 change Code.wp _ _ _ _ ((w.alloc (.cells #[.int .i64 0, .string ⟨#[]⟩, .string ⟨#[]⟩, .slice none 0 0, .string ⟨#[]⟩, .string ⟨#[]⟩, .bool false, .int .i64 0, .int .i64 0, .int .i64 0, .int .i64 0] 52)).alloc (.cells #[.int .i64 0, .string ⟨#[]⟩, .string ⟨#[]⟩, .slice none 0 0, .string ⟨#[]⟩, .string ⟨#[]⟩, .bool false, .int .i64 0, .int .i64 0, .int .i64 0, .int .i64 0] 52))
 generalize ((w.alloc (.cells #[.int .i64 0, .string ⟨#[]⟩, .string ⟨#[]⟩, .slice none 0 0, .string ⟨#[]⟩, .string ⟨#[]⟩, .bool false, .int .i64 0, .int .i64 0, .int .i64 0, .int .i64 0] 52)).alloc (.cells #[.int .i64 0, .string ⟨#[]⟩, .string ⟨#[]⟩, .slice none 0 0, .string ⟨#[]⟩, .string ⟨#[]⟩, .bool false, .int .i64 0, .int .i64 0, .int .i64 0, .int .i64 0] 52)) = w1 at *
 have CC1 := Aside0.mk C1
 clear C1
 ·
  obtain ⟨ad, e0, xa0, xa1, xa2⟩ := at_T46 HC.out 0 (by decide) (by simp)
  subst e0
  rw [show rd_T46 (h :: r) 0 = h from rfl, show ((0 : Int).toNat * 3) = 0 from rfl, Addr.add_zero'] at xa0 xa1 xa2
  have ha0 := (CC1.out.2.2.cell (World.block_lt_of_cell? w _ xa0)).trans xa0
  have ha2 := (CC1.out.2.2.cell (World.block_lt_of_cell? w _ xa2)).trans xa2
  have l0 : (0 < (((h :: r).length : Nat) : Int)) = True := eq_true (by rw [List.length_cons]; omega)
  have l1 : (((h :: r).length : Int) == 0) = false := beq_eq_false_iff_ne.2 (by rw [List.length_cons]; omega)
  have l2 : ((r.length : Int) + 1 == 0) = false := beq_eq_false_iff_ne.2 (by omega)
  have l3 : ((r.length : Int) + 1 = 0) = False := eq_false (by omega)
  have l4 : (0 < (r.length : Int) + 1) = True := eq_true (by omega)
  have l5 : ((1 : Int) ≤ (r.length : Int) + 1) = True := eq_true (by omega)
  have l6 : (r.length + 1 ≤ c) = True := eq_true (by have := HCC.out; rw [List.length_cons] at this; exact this)
  ·
   have m1 : (h.f0 == 2) = true := beq_iff_eq.2 hm
   have m2 : (h.f0 != 2) = false := bne_eq_false_iff_eq.2 hm
   have m3 : (h.f0 = 2) = True := eq_true hm
   have HM := Aside0.mk hm
   clear hm
   have p0 : w1.cell? ⟨w.heap.size + 1, 0, none⟩ = some (.int .i64 0) := (blk_cell CC1.out.1 0).trans rfl
   have pf0 : w1.frozen? ⟨w.heap.size + 1, 0, none⟩ = false := blk_frozen CC1.out.1 0
   go_upto_region 5 with (fail)
   refine (rundleref26_Kind.calls 11 _ _ _ (kind_f _)).mono ?_
   rintro e w2 ⟨rfl, hb⟩
   have CC2 := Aside0.mk (CC1.out.fr hb)
   have p0 : w2.cell? ⟨w.heap.size + 1, 0, none⟩ = some (.int .i64 0) := (blk_cell CC2.out.1 0).trans rfl
   have pf0 : w2.frozen? ⟨w.heap.size + 1, 0, none⟩ = false := blk_frozen CC2.out.1 0
   clear hb ha0 ha2
   generalize hkd : kindS h.f2 = kd
   have HKD := Aside0.mk hkd
   clear hkd
   go_upto_region 6 with (fail)
   iterate 8 (first | go_values | go_skip | go_guarded | go_step | go_upon)
   have CD := Kd.C_drop (m := 1) HC.out (by rw [List.length_cons]; omega) HCC.out
   rw [show (some ad).map (·.add (1 * k46.sz)) = some ⟨ad.block, ad.off + 3, none⟩ from rfl, show (h :: r).drop 1 = r from rfl] at CD
   have CC3 := Aside0.mk (CC2.out.put 0 (.int .i64 kd) (x' := { zC with f0 := kd }) (v' := .slice none 0 0) rfl)
   have hcr : r.length ≤ c - 1 := by have := HCC.out; rw [List.length_cons] at this; omega
   clear p0 pf0 CC2 CC1
   change Code.wp _ _ _ _ (w2.setCell ⟨w.heap.size + 1, 0, none⟩ (.int .i64 kd))
   generalize w2.setCell ⟨w.heap.size + 1, 0, none⟩ (.int .i64 kd) = w3 at *
   generalize (if c = 1 then some ad else some ⟨ad.block, ad.off + 3, none⟩) = A1 at *
   generalize c - 1 = c1 at *
   have HR := Aside0.mk CD
   have HRC := Aside0.mk hcr
   have HLR : Aside0 (r.length ≤ 1000000) := ⟨by have := HL.out; rw [List.length_cons] at this; omega⟩
   clear CD hcr l0 l1 l2 l3 l4 l5 l6 m1 m2 m3 xa0 xa1 xa2
   go_cut [5] (fun v5 wx => ∃ (g : Bool) (x : S52) (v : Value), v5 = .bool g ∧ Aside0 (CS w x v wx) ∧ Aside0 (k93.R 93 wx (w.heap.size + 2) (fun _ => True) v x.f3) ∧ Aside0 (g = true → argsR kd r = some x) ∧ Aside0 (g = false → argsR kd r = none))
   case first =>
    have p0 : w3.cell? ⟨w.heap.size + 1, 0, none⟩ = some (.int .i64 kd) := (blk_cell CC3.out.1 0).trans rfl
    go_upto_region 8 with (fail)
    clear p0
    have hk : kd = 1 := HKD.out.symm.trans HKK.out
    subst hk
    ·
     by_cases hn : r.length = 1
     ·
      obtain ⟨a, rfl⟩ : ∃ a, r = [a] := by
       match r, hn with
       | [a], _ => exact ⟨a, rfl⟩
      clear hn
      go_wp2_with (fail)
      refine (formR_at A1 c1 [a] ⟨#[116]⟩ [116] (by decide) rfl w3 (Kd.C_below HR.out CC3.out.2.2) HRC.out).mono ?_
      rintro e w4 ⟨rfl, hb⟩
      have CC4 := Aside0.mk (CC3.out.fr hb)
      clear hb CC3
      cases hg : formR [116] [a] with
      | false =>
       have HG := Aside0.mk hg
       clear hg
       go_wp2_with (fail)
       go_meet
       exact ⟨false, { zC with f0 := 1 }, .slice none 0 0, rfl, CC4, ⟨Kd.R_nil _ _ _ _ _⟩, ⟨fun e => (by cases e)⟩, ⟨fun _ => by simp [argsR, HG.out]⟩⟩
      | true =>
       have HG := Aside0.mk hg
       clear hg
       have HR4 := Kd.C_below HR.out CC4.out.2.2
       obtain ⟨adz, ez, yz, _, _⟩ := at_T46 HR.out 0 (by decide) (by simp)
       rw [show ((0 : Int).toNat * 3) = 0 from rfl, Addr.add_zero'] at yz
       have hlt := World.block_lt_of_cell? w _ yz
       clear yz
       obtain ⟨ad0, e0, y00, y01, y02⟩ := at_T46 HR4 0 (by decide) (by simp)
       subst e0
       rw [show rd_T46 [a] 0 = a from rfl, show ((0 : Int).toNat * 3) = 0 from rfl, Addr.add_zero'] at y00 y01 y02
       obtain rfl := Option.some.inj ez
       have hne : (ad0.block = w.heap.size + 1) = False := eq_false (by omega)
       have hne2 : (w.heap.size + 1 = ad0.block) = False := eq_false (by omega)
       clear hlt ez
       clear HR4 y00
       have s1 : w4.cell? ⟨w.heap.size + 1, 1, none⟩ = some (.string ⟨#[]⟩) := (blk_cell CC4.out.1 1).trans rfl
       have sf1 : w4.frozen? ⟨w.heap.size + 1, 1, none⟩ = false := blk_frozen CC4.out.1 1
       go_wp2_with (fail)
       go_meet
       exact ⟨true, { zC with f0 := 1, f1 := a.f2 }, .slice none 0 0, rfl, ⟨(CC4.out).put 1 _ (x' := { zC with f0 := 1, f1 := a.f2 }) (v' := .slice none 0 0) rfl⟩, ⟨Kd.R_nil _ _ _ _ _⟩, ⟨fun _ => by simp [argsR, HG.out]⟩, ⟨fun e => (by cases e)⟩⟩
     ·
      have n1 : ((r.length : Int) == 1) = false := beq_eq_false_iff_ne.2 (by omega)
      have n2 : ((r.length : Int) = 1) = False := eq_false (by omega)
      have n3 : (r.length = 1) = False := eq_false hn
      have hz : argsR 1 r = none := by
       unfold argsR
       simp only [reduceIte, Int.reduceEq]
       split
       ·
        exact absurd rfl hn
       ·
        rfl
      have HZ := Aside0.mk hz
      clear hz hn
      go_wp2_with (fail)
      go_meet
      exact ⟨false, { zC with f0 := 1 }, .slice none 0 0, rfl, CC3, ⟨Kd.R_nil _ _ _ _ _⟩, ⟨fun e => (by cases e)⟩, ⟨fun _ => HZ.out⟩⟩
   case rest =>
    rename_i hKK
    obtain ⟨g, x, v, rfl, C4, R4, T4, F4⟩ := hcut
    refine hKK _ _ ?_
    clear hKK
    have hcall : callR (h :: r) = argsR kd r := by rw [callR, if_pos HM.out, HKD.out]
    have HCL := Aside0.mk hcall
    clear hcall
    obtain ⟨Av, cv, ev⟩ := Kd.R_slice R4.out
    subst ev
    obtain ⟨q0, q1, q2, q3, q4, q5, q6, q7, q8, q9, q10⟩ := cells11 (show wc.heap[w.heap.size + 1]? = some (.cells #[.int .i64 x.f0, .string x.f1, .string x.f2, .slice Av x.f3.length cv, .string x.f4, .string x.f5, .bool x.f6, .int .i64 x.f7, .int .i64 x.f8, .int .i64 x.f9, .int .i64 x.f10] 52 (0, 0)) from C4.out.1)
    obtain ⟨r0, rf0, r1, rf1, r2, rf2, r3, rf3, r4, rf4, r5, rf5, r6, rf6, r7, rf7, r8, rf8, r9, rf9, r10, rf10⟩ := cells11f (show wc.heap[w.heap.size]? = some (.cells #[.int .i64 0, .string ⟨#[]⟩, .string ⟨#[]⟩, .slice none 0 0, .string ⟨#[]⟩, .string ⟨#[]⟩, .bool false, .int .i64 0, .int .i64 0, .int .i64 0, .int .i64 0] 52 (0, 0)) from C4.out.2.1)
    cases g with
    | false =>
     have FF := Aside0.mk (HCL.out.trans (F4.out rfl))
     clear F4 T4 HCL
     go_wp2_with (fail)
     have F := fillC w wc (x) (.slice Av x.f3.length cv) C4.out (R4.out)
     refine bodyPost_ret (results_c2 rfl _ _ w.heap.size 52 (callV (x) (.slice Av x.f3.length cv)) (0, 0) _ rfl F.1 hu52 rfl (by kernel_rfl)) rfl ?_
     exact ⟨0, x, .slice Av x.f3.length cv, rfl, F.2.2, F.2.1, .inr ⟨rfl, FF.out⟩⟩
    | true =>
     have FF := Aside0.mk (HCL.out.trans (T4.out rfl))
     clear F4 T4 HCL
     go_wp2_with (fail)
     have F := fillC w wc (x) (.slice Av x.f3.length cv) C4.out (R4.out)
     refine bodyPost_ret (results_c2 rfl _ _ w.heap.size 52 (callV (x) (.slice Av x.f3.length cv)) (0, 0) _ rfl F.1 hu52 rfl (by kernel_rfl)) rfl ?_
     exact ⟨1, x, .slice Av x.f3.length cv, rfl, F.2.2, F.2.1, .inl ⟨rfl, FF.out⟩⟩
end Go.Proofs.YtlkbeddlmbghkaaGreatDoor.PR

namespace Go.Proofs.YtlkbeddlmbghkaaGreatDoor.PR
open Go Go.Proofs Go.RowKit Go.Proofs.YtlkbeddlmbghkaaGreatDoorW.PrintWords Go.Proofs.YtlkbeddlmbghkaaGreatDoorW.PrintLast Go.Proofs.YtlkbeddlmbghkaaGreatDoorW.PrintMore
set_option linter.unusedVariables false
set_option linter.unusedSimpArgs false
set_option maxRecDepth 100000

set_option maxHeartbeats 16000000 in
theorem callR_k6 (A : Option Addr) (c : Nat) (h : S46) (r : List S46) (hl : (h :: r).length ≤ 1000000) (hc : (h :: r).length ≤ c) (w : World) (hC : Kd.C k46 w A (h :: r).length (h :: r)) (hm : h.f0 = 2) (hkk : kindS h.f2 = 6) :
  Calls Tryz.prog 47 #[.slice A (h :: r).length c] w fun e w' => CallRPost w (h :: r) e w' := by
 have HKK := Aside0.mk hkk
 clear hkk
 have hu52 := Tryz.underlying52
 have hu46 := Tryz.underlying46
 have HC := Aside0.mk hC
 have HL := Aside0.mk hl
 have HCC := Aside0.mk hc
 clear hC hl hc
 go_enter Tryz.func47, Tryz.ntmps47
 go_upto_region 2 with (fail)
 have C1 : CS w zC (.slice none 0 0) ((w.alloc (.cells #[.int .i64 0, .string ⟨#[]⟩, .string ⟨#[]⟩, .slice none 0 0, .string ⟨#[]⟩, .string ⟨#[]⟩, .bool false, .int .i64 0, .int .i64 0, .int .i64 0, .int .i64 0] 52)).alloc (.cells #[.int .i64 0, .string ⟨#[]⟩, .string ⟨#[]⟩, .slice none 0 0, .string ⟨#[]⟩, .string ⟨#[]⟩, .bool false, .int .i64 0, .int .i64 0, .int .i64 0, .int .i64 0] 52)) := ⟨by have h := blk_new (w.alloc (.cells #[.int .i64 0, .string ⟨#[]⟩, .string ⟨#[]⟩, .slice none 0 0, .string ⟨#[]⟩, .string ⟨#[]⟩, .bool false, .int .i64 0, .int .i64 0, .int .i64 0, .int .i64 0] 52)) (.cells #[.int .i64 0, .string ⟨#[]⟩, .string ⟨#[]⟩, .slice none 0 0, .string ⟨#[]⟩, .string ⟨#[]⟩, .bool false, .int .i64 0, .int .i64 0, .int .i64 0, .int .i64 0] 52); rw [World.size_alloc] at h; exact h, blk_alloc (blk_new w _) _, ((Below.refl _ _).alloc (Nat.le_refl _) _).alloc (by rw [World.size_alloc]; omega) _⟩
 change Code.wp _ _ _ _ ((w.alloc (.cells #[.int .i64 0, .string ⟨#[]⟩, .string ⟨#[]⟩, .slice none 0 0, .string ⟨#[]⟩, .string ⟨#[]⟩, .bool false, .int .i64 0, .int .i64 0, .int .i64 0, .int .i64 0] 52)).alloc (.cells #[.int .i64 0, .string ⟨#[]⟩, .string ⟨#[]⟩, .slice none 0 0, .string ⟨#[]⟩, .string ⟨#[]⟩, .bool false, .int .i64 0, .int .i64 0, .int .i64 0, .int .i64 0] 52))
 generalize ((w.alloc (.cells #[.int .i64 0, .string ⟨#[]⟩, .string ⟨#[]⟩, .slice none 0 0, .string ⟨#[]⟩, .string ⟨#[]⟩, .bool false, .int .i64 0, .int .i64 0, .int .i64 0, .int .i64 0] 52)).alloc (.cells #[.int .i64 0, .string ⟨#[]⟩, .string ⟨#[]⟩, .slice none 0 0, .string ⟨#[]⟩, .string ⟨#[]⟩, .bool false, .int .i64 0, .int .i64 0, .int .i64 0, .int .i64 0] 52)) = w1 at *
 have CC1 := Aside0.mk C1
 clear C1
 ·
  obtain ⟨ad, e0, xa0, xa1, xa2⟩ := at_T46 HC.out 0 (by decide) (by simp)
  subst e0
  rw [show rd_T46 (h :: r) 0 = h from rfl, show ((0 : Int).toNat * 3) = 0 from rfl, Addr.add_zero'] at xa0 xa1 xa2
  have ha0 := (CC1.out.2.2.cell (World.block_lt_of_cell? w _ xa0)).trans xa0
  have ha2 := (CC1.out.2.2.cell (World.block_lt_of_cell? w _ xa2)).trans xa2
  have l0 : (0 < (((h :: r).length : Nat) : Int)) = True := eq_true (by rw [List.length_cons]; omega)
  have l1 : (((h :: r).length : Int) == 0) = false := beq_eq_false_iff_ne.2 (by rw [List.length_cons]; omega)
  have l2 : ((r.length : Int) + 1 == 0) = false := beq_eq_false_iff_ne.2 (by omega)
  have l3 : ((r.length : Int) + 1 = 0) = False := eq_false (by omega)
  have l4 : (0 < (r.length : Int) + 1) = True := eq_true (by omega)
  have l5 : ((1 : Int) ≤ (r.length : Int) + 1) = True := eq_true (by omega)
  have l6 : (r.length + 1 ≤ c) = True := eq_true (by have := HCC.out; rw [List.length_cons] at this; exact this)
  ·
   have m1 : (h.f0 == 2) = true := beq_iff_eq.2 hm
   have m2 : (h.f0 != 2) = false := bne_eq_false_iff_eq.2 hm
   have m3 : (h.f0 = 2) = True := eq_true hm
   have HM := Aside0.mk hm
   clear hm
   have p0 : w1.cell? ⟨w.heap.size + 1, 0, none⟩ = some (.int .i64 0) := (blk_cell CC1.out.1 0).trans rfl
   have pf0 : w1.frozen? ⟨w.heap.size + 1, 0, none⟩ = false := blk_frozen CC1.out.1 0
   go_upto_region 5 with (fail)
   refine (rundleref26_Kind.calls 11 _ _ _ (kind_f _)).mono ?_
   rintro e w2 ⟨rfl, hb⟩
   have CC2 := Aside0.mk (CC1.out.fr hb)
   have p0 : w2.cell? ⟨w.heap.size + 1, 0, none⟩ = some (.int .i64 0) := (blk_cell CC2.out.1 0).trans rfl
   have pf0 : w2.frozen? ⟨w.heap.size + 1, 0, none⟩ = false := blk_frozen CC2.out.1 0
   clear hb ha0 ha2
   generalize hkd : kindS h.f2 = kd
   have HKD := Aside0.mk hkd
   clear hkd
   go_upto_region 6 with (fail)
   iterate 8 (first | go_values | go_skip | go_guarded | go_step | go_upon)
   have CD := Kd.C_drop (m := 1) HC.out (by rw [List.length_cons]; omega) HCC.out
   rw [show (some ad).map (·.add (1 * k46.sz)) = some ⟨ad.block, ad.off + 3, none⟩ from rfl, show (h :: r).drop 1 = r from rfl] at CD
   have CC3 := Aside0.mk (CC2.out.put 0 (.int .i64 kd) (x' := { zC with f0 := kd }) (v' := .slice none 0 0) rfl)
   have hcr : r.length ≤ c - 1 := by have := HCC.out; rw [List.length_cons] at this; omega
   clear p0 pf0 CC2 CC1
   change Code.wp _ _ _ _ (w2.setCell ⟨w.heap.size + 1, 0, none⟩ (.int .i64 kd))
   generalize w2.setCell ⟨w.heap.size + 1, 0, none⟩ (.int .i64 kd) = w3 at *
   generalize (if c = 1 then some ad else some ⟨ad.block, ad.off + 3, none⟩) = A1 at *
   generalize c - 1 = c1 at *
   have HR := Aside0.mk CD
   have HRC := Aside0.mk hcr
   have HLR : Aside0 (r.length ≤ 1000000) := ⟨by have := HL.out; rw [List.length_cons] at this; omega⟩
   clear CD hcr l0 l1 l2 l3 l4 l5 l6 m1 m2 m3 xa0 xa1 xa2
   go_cut [5] (fun v5 wx => ∃ (g : Bool) (x : S52) (v : Value), v5 = .bool g ∧ Aside0 (CS w x v wx) ∧ Aside0 (k93.R 93 wx (w.heap.size + 2) (fun _ => True) v x.f3) ∧ Aside0 (g = true → argsR kd r = some x) ∧ Aside0 (g = false → argsR kd r = none))
   case first =>
    have p0 : w3.cell? ⟨w.heap.size + 1, 0, none⟩ = some (.int .i64 kd) := (blk_cell CC3.out.1 0).trans rfl
    go_upto_region 8 with (fail)
    clear p0
    have hk : kd = 6 := HKD.out.symm.trans HKK.out
    subst hk
    ·
     cases r with
     | nil =>
      go_wp2_with (fail)
      go_meet
      exact ⟨true, { zC with f0 := 6 }, .slice none 0 0, rfl, CC3, ⟨Kd.R_nil _ _ _ _ _⟩, ⟨fun _ => by simp [argsR]⟩, ⟨fun e => (by cases e)⟩⟩
     | cons a t =>
      have n1 : ((t.length : Int) + 1 == 0) = false := beq_eq_false_iff_ne.2 (by omega)
      have n2 : ((t.length : Int) + 1 = 0) = False := eq_false (by omega)
      go_wp2_with (fail)
      go_meet
      exact ⟨false, { zC with f0 := 6 }, .slice none 0 0, rfl, CC3, ⟨Kd.R_nil _ _ _ _ _⟩, ⟨fun e => (by cases e)⟩, ⟨fun _ => by simp [argsR]⟩⟩
   case rest =>
    rename_i hKK
    obtain ⟨g, x, v, rfl, C4, R4, T4, F4⟩ := hcut
    refine hKK _ _ ?_
    clear hKK
    have hcall : callR (h :: r) = argsR kd r := by rw [callR, if_pos HM.out, HKD.out]
    have HCL := Aside0.mk hcall
    clear hcall
    obtain ⟨Av, cv, ev⟩ := Kd.R_slice R4.out
    subst ev
    obtain ⟨q0, q1, q2, q3, q4, q5, q6, q7, q8, q9, q10⟩ := cells11 (show wc.heap[w.heap.size + 1]? = some (.cells #[.int .i64 x.f0, .string x.f1, .string x.f2, .slice Av x.f3.length cv, .string x.f4, .string x.f5, .bool x.f6, .int .i64 x.f7, .int .i64 x.f8, .int .i64 x.f9, .int .i64 x.f10] 52 (0, 0)) from C4.out.1)
    obtain ⟨r0, rf0, r1, rf1, r2, rf2, r3, rf3, r4, rf4, r5, rf5, r6, rf6, r7, rf7, r8, rf8, r9, rf9, r10, rf10⟩ := cells11f (show wc.heap[w.heap.size]? = some (.cells #[.int .i64 0, .string ⟨#[]⟩, .string ⟨#[]⟩, .slice none 0 0, .string ⟨#[]⟩, .string ⟨#[]⟩, .bool false, .int .i64 0, .int .i64 0, .int .i64 0, .int .i64 0] 52 (0, 0)) from C4.out.2.1)
    cases g with
    | false =>
     have FF := Aside0.mk (HCL.out.trans (F4.out rfl))
     clear F4 T4 HCL
     go_wp2_with (fail)
     have F := fillC w wc (x) (.slice Av x.f3.length cv) C4.out (R4.out)
     refine bodyPost_ret (results_c2 rfl _ _ w.heap.size 52 (callV (x) (.slice Av x.f3.length cv)) (0, 0) _ rfl F.1 hu52 rfl (by kernel_rfl)) rfl ?_
     exact ⟨0, x, .slice Av x.f3.length cv, rfl, F.2.2, F.2.1, .inr ⟨rfl, FF.out⟩⟩
    | true =>
     have FF := Aside0.mk (HCL.out.trans (T4.out rfl))
     clear F4 T4 HCL
     go_wp2_with (fail)
     have F := fillC w wc (x) (.slice Av x.f3.length cv) C4.out (R4.out)
     refine bodyPost_ret (results_c2 rfl _ _ w.heap.size 52 (callV (x) (.slice Av x.f3.length cv)) (0, 0) _ rfl F.1 hu52 rfl (by kernel_rfl)) rfl ?_
     exact ⟨1, x, .slice Av x.f3.length cv, rfl, F.2.2, F.2.1, .inl ⟨rfl, FF.out⟩⟩
end Go.Proofs.YtlkbeddlmbghkaaGreatDoor.PR

namespace Go.Proofs.YtlkbeddlmbghkaaGreatDoor.PR
open Go Go.Proofs Go.RowKit Go.Proofs.YtlkbeddlmbghkaaGreatDoorW.PrintWords Go.Proofs.YtlkbeddlmbghkaaGreatDoorW.PrintLast Go.Proofs.YtlkbeddlmbghkaaGreatDoorW.PrintMore
set_option linter.unusedVariables false
set_option linter.unusedSimpArgs false
set_option maxRecDepth 100000

set_option maxHeartbeats 16000000 in
theorem callR_k7 (A : Option Addr) (c : Nat) (h : S46) (r : List S46) (hl : (h :: r).length ≤ 1000000) (hc : (h :: r).length ≤ c) (w : World) (hC : Kd.C k46 w A (h :: r).length (h :: r)) (hm : h.f0 = 2) (hkk : kindS h.f2 = 7) :
  Calls Tryz.prog 47 #[.slice A (h :: r).length c] w fun e w' => CallRPost w (h :: r) e w' := by
 have HKK := Aside0.mk hkk
 clear hkk
 have hu52 := Tryz.underlying52
 have hu46 := Tryz.underlying46
 have HC := Aside0.mk hC
 have HL := Aside0.mk hl
 have HCC := Aside0.mk hc
 clear hC hl hc
 go_enter Tryz.func47, Tryz.ntmps47
 go_upto_region 2 with (fail)
 have C1 : CS w zC (.slice none 0 0) ((w.alloc (.cells #[.int .i64 0, .string ⟨#[]⟩, .string ⟨#[]⟩, .slice none 0 0, .string ⟨#[]⟩, .string ⟨#[]⟩, .bool false, .int .i64 0, .int .i64 0, .int .i64 0, .int .i64 0] 52)).alloc (.cells #[.int .i64 0, .string ⟨#[]⟩, .string ⟨#[]⟩, .slice none 0 0, .string ⟨#[]⟩, .string ⟨#[]⟩, .bool false, .int .i64 0, .int .i64 0, .int .i64 0, .int .i64 0] 52)) := ⟨by have h := blk_new (w.alloc (.cells #[.int .i64 0, .string ⟨#[]⟩, .string ⟨#[]⟩, .slice none 0 0, .string ⟨#[]⟩, .string ⟨#[]⟩, .bool false, .int .i64 0, .int .i64 0, .int .i64 0, .int .i64 0] 52)) (.cells #[.int .i64 0, .string ⟨#[]⟩, .string ⟨#[]⟩, .slice none 0 0, .string ⟨#[]⟩, .string ⟨#[]⟩, .bool false, .int .i64 0, .int .i64 0, .int .i64 0, .int .i64 0] 52); rw [World.size_alloc] at h; exact h, blk_alloc (blk_new w _) _, ((Below.refl _ _).alloc (Nat.le_refl _) _).alloc (by rw [World.size_alloc]; omega) _⟩
 change Code.wp _ _ _ _ ((w.alloc (.cells #[.int .i64 0, .string ⟨#[]⟩, .string ⟨#[]⟩, .slice none 0 0, .string ⟨#[]⟩, .string ⟨#[]⟩, .bool false, .int .i64 0, .int .i64 0, .int .i64 0, .int .i64 0] 52)).alloc (.cells #[.int .i64 0, .string ⟨#[]⟩, .string ⟨#[]⟩, .slice none 0 0, .string ⟨#[]⟩, .string ⟨#[]⟩, .bool false, .int .i64 0, .int .i64 0, .int .i64 0, .int .i64 0] 52))
 generalize ((w.alloc (.cells #[.int .i64 0, .string ⟨#[]⟩, .string ⟨#[]⟩, .slice none 0 0, .string ⟨#[]⟩, .string ⟨#[]⟩, .bool false, .int .i64 0, .int .i64 0, .int .i64 0, .int .i64 0] 52)).alloc (.cells #[.int .i64 0, .string ⟨#[]⟩, .string ⟨#[]⟩, .slice none 0 0, .string ⟨#[]⟩, .string ⟨#[]⟩, .bool false, .int .i64 0, .int .i64 0, .int .i64 0, .int .i64 0] 52)) = w1 at *
 have CC1 := Aside0.mk C1
 clear C1
 ·
  obtain ⟨ad, e0, xa0, xa1, xa2⟩ := at_T46 HC.out 0 (by decide) (by simp)
  subst e0
  rw [show rd_T46 (h :: r) 0 = h from rfl, show ((0 : Int).toNat * 3) = 0 from rfl, Addr.add_zero'] at xa0 xa1 xa2
  have ha0 := (CC1.out.2.2.cell (World.block_lt_of_cell? w _ xa0)).trans xa0
  have ha2 := (CC1.out.2.2.cell (World.block_lt_of_cell? w _ xa2)).trans xa2
  have l0 : (0 < (((h :: r).length : Nat) : Int)) = True := eq_true (by rw [List.length_cons]; omega)
  have l1 : (((h :: r).length : Int) == 0) = false := beq_eq_false_iff_ne.2 (by rw [List.length_cons]; omega)
  have l2 : ((r.length : Int) + 1 == 0) = false := beq_eq_false_iff_ne.2 (by omega)
  have l3 : ((r.length : Int) + 1 = 0) = False := eq_false (by omega)
  have l4 : (0 < (r.length : Int) + 1) = True := eq_true (by omega)
  have l5 : ((1 : Int) ≤ (r.length : Int) + 1) = True := eq_true (by omega)
  have l6 : (r.length + 1 ≤ c) = True := eq_true (by have := HCC.out; rw [List.length_cons] at this; exact this)
  ·
   have m1 : (h.f0 == 2) = true := beq_iff_eq.2 hm
   have m2 : (h.f0 != 2) = false := bne_eq_false_iff_eq.2 hm
   have m3 : (h.f0 = 2) = True := eq_true hm
   have HM := Aside0.mk hm
   clear hm
   have p0 : w1.cell? ⟨w.heap.size + 1, 0, none⟩ = some (.int .i64 0) := (blk_cell CC1.out.1 0).trans rfl
   have pf0 : w1.frozen? ⟨w.heap.size + 1, 0, none⟩ = false := blk_frozen CC1.out.1 0
   go_upto_region 5 with (fail)
   refine (rundleref26_Kind.calls 11 _ _ _ (kind_f _)).mono ?_
   rintro e w2 ⟨rfl, hb⟩
   have CC2 := Aside0.mk (CC1.out.fr hb)
   have p0 : w2.cell? ⟨w.heap.size + 1, 0, none⟩ = some (.int .i64 0) := (blk_cell CC2.out.1 0).trans rfl
   have pf0 : w2.frozen? ⟨w.heap.size + 1, 0, none⟩ = false := blk_frozen CC2.out.1 0
   clear hb ha0 ha2
   generalize hkd : kindS h.f2 = kd
   have HKD := Aside0.mk hkd
   clear hkd
   go_upto_region 6 with (fail)
   iterate 8 (first | go_values | go_skip | go_guarded | go_step | go_upon)
   have CD := Kd.C_drop (m := 1) HC.out (by rw [List.length_cons]; omega) HCC.out
   rw [show (some ad).map (·.add (1 * k46.sz)) = some ⟨ad.block, ad.off + 3, none⟩ from rfl, show (h :: r).drop 1 = r from rfl] at CD
   have CC3 := Aside0.mk (CC2.out.put 0 (.int .i64 kd) (x' := { zC with f0 := kd }) (v' := .slice none 0 0) rfl)
   have hcr : r.length ≤ c - 1 := by have := HCC.out; rw [List.length_cons] at this; omega
   clear p0 pf0 CC2 CC1
   change Code.wp _ _ _ _ (w2.setCell ⟨w.heap.size + 1, 0, none⟩ (.int .i64 kd))
   generalize w2.setCell ⟨w.heap.size + 1, 0, none⟩ (.int .i64 kd) = w3 at *
   generalize (if c = 1 then some ad else some ⟨ad.block, ad.off + 3, none⟩) = A1 at *
   generalize c - 1 = c1 at *
   have HR := Aside0.mk CD
   have HRC := Aside0.mk hcr
   have HLR : Aside0 (r.length ≤ 1000000) := ⟨by have := HL.out; rw [List.length_cons] at this; omega⟩
   clear CD hcr l0 l1 l2 l3 l4 l5 l6 m1 m2 m3 xa0 xa1 xa2
   go_cut [5] (fun v5 wx => ∃ (g : Bool) (x : S52) (v : Value), v5 = .bool g ∧ Aside0 (CS w x v wx) ∧ Aside0 (k93.R 93 wx (w.heap.size + 2) (fun _ => True) v x.f3) ∧ Aside0 (g = true → argsR kd r = some x) ∧ Aside0 (g = false → argsR kd r = none))
   case first =>
    have p0 : w3.cell? ⟨w.heap.size + 1, 0, none⟩ = some (.int .i64 kd) := (blk_cell CC3.out.1 0).trans rfl
    go_upto_region 8 with (fail)
    clear p0
    have hk : kd = 7 := HKD.out.symm.trans HKK.out
    subst hk
    ·
     by_cases hn : r.length = 2
     ·
      obtain ⟨a, b, rfl⟩ : ∃ a b, r = [a, b] := by
       match r, hn with
       | [a, b], _ => exact ⟨a, b, rfl⟩
      clear hn
      go_wp2_with (fail)
      refine (formR_at A1 c1 [a, b] ⟨#[110, 116]⟩ [110, 116] (by decide) rfl w3 (Kd.C_below HR.out CC3.out.2.2) HRC.out).mono ?_
      rintro e w4 ⟨rfl, hb⟩
      have CC4 := Aside0.mk (CC3.out.fr hb)
      clear hb CC3
      cases hg : formR [110, 116] [a, b] with
      | false =>
       have HG := Aside0.mk hg
       clear hg
       go_wp2_with (fail)
       go_meet
       exact ⟨false, { zC with f0 := 7 }, .slice none 0 0, rfl, CC4, ⟨Kd.R_nil _ _ _ _ _⟩, ⟨fun e => (by cases e)⟩, ⟨fun _ => by simp [argsR, HG.out]⟩⟩
      | true =>
       have HG := Aside0.mk hg
       clear hg
       have HR4 := Kd.C_below HR.out CC4.out.2.2
       obtain ⟨adz, ez, yz, _, _⟩ := at_T46 HR.out 0 (by decide) (by simp)
       rw [show ((0 : Int).toNat * 3) = 0 from rfl, Addr.add_zero'] at yz
       have hlt := World.block_lt_of_cell? w _ yz
       clear yz
       obtain ⟨ad0, e0, y00, y01, y02⟩ := at_T46 HR4 0 (by decide) (by simp)
       subst e0
       rw [show rd_T46 [a, b] 0 = a from rfl, show ((0 : Int).toNat * 3) = 0 from rfl, Addr.add_zero'] at y00 y01 y02
       obtain ⟨ad1, e1, y10, y11, y12⟩ := at_T46 HR4 1 (by decide) (by simp)
       obtain rfl := Option.some.inj e1
       rw [show rd_T46 [a, b] 1 = b from rfl, show ((1 : Int).toNat * 3) = 3 from rfl, show Addr.add ad0 3 = ⟨ad0.block, ad0.off + 3, none⟩ from rfl] at y10 y11 y12
       dsimp only at y11 y12
       obtain rfl := Option.some.inj ez
       have hne : (ad0.block = w.heap.size + 1) = False := eq_false (by omega)
       have hne2 : (w.heap.size + 1 = ad0.block) = False := eq_false (by omega)
       clear hlt ez
       clear HR4 e1 y00 y10
       have s8 : w4.cell? ⟨w.heap.size + 1, 8, none⟩ = some (.int .i64 0) := (blk_cell CC4.out.1 8).trans rfl
       have sf8 : w4.frozen? ⟨w.heap.size + 1, 8, none⟩ = false := blk_frozen CC4.out.1 8
       have s1 : w4.cell? ⟨w.heap.size + 1, 1, none⟩ = some (.string ⟨#[]⟩) := (blk_cell CC4.out.1 1).trans rfl
       have sf1 : w4.frozen? ⟨w.heap.size + 1, 1, none⟩ = false := blk_frozen CC4.out.1 1
       go_upto_region 40 with (fail)
       go_region_with (fail)
       all_goals try go_wp2_with (fail)
       all_goals go_meet
       all_goals exact ⟨true, { zC with f0 := 7, f8 := a.f1, f1 := b.f2 }, .slice none 0 0, rfl, ⟨((CC4.out.drew).put 8 _ (x' := { zC with f0 := 7, f8 := a.f1 }) (v' := .slice none 0 0) rfl).put 1 _ (x' := { zC with f0 := 7, f8 := a.f1, f1 := b.f2 }) (v' := .slice none 0 0) rfl⟩, ⟨Kd.R_nil _ _ _ _ _⟩, ⟨fun _ => by simp [argsR, HG.out]⟩, ⟨fun e => (by cases e)⟩⟩
     ·
      have n1 : ((r.length : Int) == 2) = false := beq_eq_false_iff_ne.2 (by omega)
      have n2 : ((r.length : Int) = 2) = False := eq_false (by omega)
      have n3 : (r.length = 2) = False := eq_false hn
      have hz : argsR 7 r = none := by
       unfold argsR
       simp only [reduceIte, Int.reduceEq]
       split
       ·
        exact absurd rfl hn
       ·
        rfl
      have HZ := Aside0.mk hz
      clear hz hn
      go_wp2_with (fail)
      go_meet
      exact ⟨false, { zC with f0 := 7 }, .slice none 0 0, rfl, CC3, ⟨Kd.R_nil _ _ _ _ _⟩, ⟨fun e => (by cases e)⟩, ⟨fun _ => HZ.out⟩⟩
   case rest =>
    rename_i hKK
    obtain ⟨g, x, v, rfl, C4, R4, T4, F4⟩ := hcut
    refine hKK _ _ ?_
    clear hKK
    have hcall : callR (h :: r) = argsR kd r := by rw [callR, if_pos HM.out, HKD.out]
    have HCL := Aside0.mk hcall
    clear hcall
    obtain ⟨Av, cv, ev⟩ := Kd.R_slice R4.out
    subst ev
    obtain ⟨q0, q1, q2, q3, q4, q5, q6, q7, q8, q9, q10⟩ := cells11 (show wc.heap[w.heap.size + 1]? = some (.cells #[.int .i64 x.f0, .string x.f1, .string x.f2, .slice Av x.f3.length cv, .string x.f4, .string x.f5, .bool x.f6, .int .i64 x.f7, .int .i64 x.f8, .int .i64 x.f9, .int .i64 x.f10] 52 (0, 0)) from C4.out.1)
    obtain ⟨r0, rf0, r1, rf1, r2, rf2, r3, rf3, r4, rf4, r5, rf5, r6, rf6, r7, rf7, r8, rf8, r9, rf9, r10, rf10⟩ := cells11f (show wc.heap[w.heap.size]? = some (.cells #[.int .i64 0, .string ⟨#[]⟩, .string ⟨#[]⟩, .slice none 0 0, .string ⟨#[]⟩, .string ⟨#[]⟩, .bool false, .int .i64 0, .int .i64 0, .int .i64 0, .int .i64 0] 52 (0, 0)) from C4.out.2.1)
    cases g with
    | false =>
     have FF := Aside0.mk (HCL.out.trans (F4.out rfl))
     clear F4 T4 HCL
     go_wp2_with (fail)
     have F := fillC w wc (x) (.slice Av x.f3.length cv) C4.out (R4.out)
     refine bodyPost_ret (results_c2 rfl _ _ w.heap.size 52 (callV (x) (.slice Av x.f3.length cv)) (0, 0) _ rfl F.1 hu52 rfl (by kernel_rfl)) rfl ?_
     exact ⟨0, x, .slice Av x.f3.length cv, rfl, F.2.2, F.2.1, .inr ⟨rfl, FF.out⟩⟩
    | true =>
     have FF := Aside0.mk (HCL.out.trans (T4.out rfl))
     clear F4 T4 HCL
     go_wp2_with (fail)
     have F := fillC w wc (x) (.slice Av x.f3.length cv) C4.out (R4.out)
     refine bodyPost_ret (results_c2 rfl _ _ w.heap.size 52 (callV (x) (.slice Av x.f3.length cv)) (0, 0) _ rfl F.1 hu52 rfl (by kernel_rfl)) rfl ?_
     exact ⟨1, x, .slice Av x.f3.length cv, rfl, F.2.2, F.2.1, .inl ⟨rfl, FF.out⟩⟩
end Go.Proofs.YtlkbeddlmbghkaaGreatDoor.PR

namespace Go.Proofs.YtlkbeddlmbghkaaGreatDoor.PR
open Go Go.Proofs Go.RowKit Go.Proofs.YtlkbeddlmbghkaaGreatDoorW.PrintWords Go.Proofs.YtlkbeddlmbghkaaGreatDoorW.PrintLast Go.Proofs.YtlkbeddlmbghkaaGreatDoorW.PrintMore
set_option linter.unusedVariables false
set_option linter.unusedSimpArgs false
set_option maxRecDepth 100000

set_option maxHeartbeats 16000000 in
theorem callR_k9 (A : Option Addr) (c : Nat) (h : S46) (r : List S46) (hl : (h :: r).length ≤ 1000000) (hc : (h :: r).length ≤ c) (w : World) (hC : Kd.C k46 w A (h :: r).length (h :: r)) (hm : h.f0 = 2) (hkk : kindS h.f2 = 9) :
  Calls Tryz.prog 47 #[.slice A (h :: r).length c] w fun e w' => CallRPost w (h :: r) e w' := by
 have HKK := Aside0.mk hkk
 clear hkk
 have hu52 := Tryz.underlying52
 have hu46 := Tryz.underlying46
 have HC := Aside0.mk hC
 have HL := Aside0.mk hl
 have HCC := Aside0.mk hc
 clear hC hl hc
 go_enter Tryz.func47, Tryz.ntmps47
 go_upto_region 2 with (fail)
 have C1 : CS w zC (.slice none 0 0) ((w.alloc (.cells #[.int .i64 0, .string ⟨#[]⟩, .string ⟨#[]⟩, .slice none 0 0, .string ⟨#[]⟩, .string ⟨#[]⟩, .bool false, .int .i64 0, .int .i64 0, .int .i64 0, .int .i64 0] 52)).alloc (.cells #[.int .i64 0, .string ⟨#[]⟩, .string ⟨#[]⟩, .slice none 0 0, .string ⟨#[]⟩, .string ⟨#[]⟩, .bool false, .int .i64 0, .int .i64 0, .int .i64 0, .int .i64 0] 52)) := ⟨by have h := blk_new (w.alloc (.cells #[.int .i64 0, .string ⟨#[]⟩, .string ⟨#[]⟩, .slice none 0 0, .string ⟨#[]⟩, .string ⟨#[]⟩, .bool false, .int .i64 0, .int .i64 0, .int .i64 0, .int .i64 0] 52)) (.cells #[.int .i64 0, .string ⟨#[]⟩, .string ⟨#[]⟩, .slice none 0 0, .string ⟨#[]⟩, .string ⟨#[]⟩, .bool false, .int .i64 0, .int .i64 0, .int .i64 0, .int .i64 0] 52); rw [World.size_alloc] at h; exact h, blk_alloc (blk_new w _) _, ((Below.refl _ _).alloc (Nat.le_refl _) _).alloc (by rw [World.size_alloc]; omega) _⟩
 change Code.wp _ _ _ _ ((w.alloc (.cells #[.int .i64 0, .string ⟨#[]⟩, .string ⟨#[]⟩, .slice none 0 0, .string ⟨#[]⟩, .string ⟨#[]⟩, .bool false, .int .i64 0, .int .i64 0, .int .i64 0, .int .i64 0] 52)).alloc (.cells #[.int .i64 0, .string ⟨#[]⟩, .string ⟨#[]⟩, .slice none 0 0, .string ⟨#[]⟩, .string ⟨#[]⟩, .bool false, .int .i64 0, .int .i64 0, .int .i64 0, .int .i64 0] 52))
 generalize ((w.alloc (.cells #[.int .i64 0, .string ⟨#[]⟩, .string ⟨#[]⟩, .slice none 0 0, .string ⟨#[]⟩, .string ⟨#[]⟩, .bool false, .int .i64 0, .int .i64 0, .int .i64 0, .int .i64 0] 52)).alloc (.cells #[.int .i64 0, .string ⟨#[]⟩, .string ⟨#[]⟩, .slice none 0 0, .string ⟨#[]⟩, .string ⟨#[]⟩, .bool false, .int .i64 0, .int .i64 0, .int .i64 0, .int .i64 0] 52)) = w1 at *
 have CC1 := Aside0.mk C1
 clear C1
 ·
  obtain ⟨ad, e0, xa0, xa1, xa2⟩ := at_T46 HC.out 0 (by decide) (by simp)
  subst e0
  rw [show rd_T46 (h :: r) 0 = h from rfl, show ((0 : Int).toNat * 3) = 0 from rfl, Addr.add_zero'] at xa0 xa1 xa2
  have ha0 := (CC1.out.2.2.cell (World.block_lt_of_cell? w _ xa0)).trans xa0
  have ha2 := (CC1.out.2.2.cell (World.block_lt_of_cell? w _ xa2)).trans xa2
  have l0 : (0 < (((h :: r).length : Nat) : Int)) = True := eq_true (by rw [List.length_cons]; omega)
  have l1 : (((h :: r).length : Int) == 0) = false := beq_eq_false_iff_ne.2 (by rw [List.length_cons]; omega)
  have l2 : ((r.length : Int) + 1 == 0) = false := beq_eq_false_iff_ne.2 (by omega)
  have l3 : ((r.length : Int) + 1 = 0) = False := eq_false (by omega)
  have l4 : (0 < (r.length : Int) + 1) = True := eq_true (by omega)
  have l5 : ((1 : Int) ≤ (r.length : Int) + 1) = True := eq_true (by omega)
  have l6 : (r.length + 1 ≤ c) = True := eq_true (by have := HCC.out; rw [List.length_cons] at this; exact this)
  ·
   have m1 : (h.f0 == 2) = true := beq_iff_eq.2 hm
   have m2 : (h.f0 != 2) = false := bne_eq_false_iff_eq.2 hm
   have m3 : (h.f0 = 2) = True := eq_true hm
   have HM := Aside0.mk hm
   clear hm
   have p0 : w1.cell? ⟨w.heap.size + 1, 0, none⟩ = some (.int .i64 0) := (blk_cell CC1.out.1 0).trans rfl
   have pf0 : w1.frozen? ⟨w.heap.size + 1, 0, none⟩ = false := blk_frozen CC1.out.1 0
   go_upto_region 5 with (fail)
   refine (rundleref26_Kind.calls 11 _ _ _ (kind_f _)).mono ?_
   rintro e w2 ⟨rfl, hb⟩
   have CC2 := Aside0.mk (CC1.out.fr hb)
   have p0 : w2.cell? ⟨w.heap.size + 1, 0, none⟩ = some (.int .i64 0) := (blk_cell CC2.out.1 0).trans rfl
   have pf0 : w2.frozen? ⟨w.heap.size + 1, 0, none⟩ = false := blk_frozen CC2.out.1 0
   clear hb ha0 ha2
   generalize hkd : kindS h.f2 = kd
   have HKD := Aside0.mk hkd
   clear hkd
   go_upto_region 6 with (fail)
   iterate 8 (first | go_values | go_skip | go_guarded | go_step | go_upon)
   have CD := Kd.C_drop (m := 1) HC.out (by rw [List.length_cons]; omega) HCC.out
   rw [show (some ad).map (·.add (1 * k46.sz)) = some ⟨ad.block, ad.off + 3, none⟩ from rfl, show (h :: r).drop 1 = r from rfl] at CD
   have CC3 := Aside0.mk (CC2.out.put 0 (.int .i64 kd) (x' := { zC with f0 := kd }) (v' := .slice none 0 0) rfl)
   have hcr : r.length ≤ c - 1 := by have := HCC.out; rw [List.length_cons] at this; omega
   clear p0 pf0 CC2 CC1
   change Code.wp _ _ _ _ (w2.setCell ⟨w.heap.size + 1, 0, none⟩ (.int .i64 kd))
   generalize w2.setCell ⟨w.heap.size + 1, 0, none⟩ (.int .i64 kd) = w3 at *
   generalize (if c = 1 then some ad else some ⟨ad.block, ad.off + 3, none⟩) = A1 at *
   generalize c - 1 = c1 at *
   have HR := Aside0.mk CD
   have HRC := Aside0.mk hcr
   have HLR : Aside0 (r.length ≤ 1000000) := ⟨by have := HL.out; rw [List.length_cons] at this; omega⟩
   clear CD hcr l0 l1 l2 l3 l4 l5 l6 m1 m2 m3 xa0 xa1 xa2
   go_cut [5] (fun v5 wx => ∃ (g : Bool) (x : S52) (v : Value), v5 = .bool g ∧ Aside0 (CS w x v wx) ∧ Aside0 (k93.R 93 wx (w.heap.size + 2) (fun _ => True) v x.f3) ∧ Aside0 (g = true → argsR kd r = some x) ∧ Aside0 (g = false → argsR kd r = none))
   case first =>
    have p0 : w3.cell? ⟨w.heap.size + 1, 0, none⟩ = some (.int .i64 kd) := (blk_cell CC3.out.1 0).trans rfl
    go_upto_region 8 with (fail)
    clear p0
    have hk : kd = 9 := HKD.out.symm.trans HKK.out
    subst hk
    ·
     by_cases hn : r.length = 1
     ·
      obtain ⟨a, rfl⟩ : ∃ a, r = [a] := by
       match r, hn with
       | [a], _ => exact ⟨a, rfl⟩
      clear hn
      go_wp2_with (fail)
      refine (formR_at A1 c1 [a] ⟨#[110]⟩ [110] (by decide) rfl w3 (Kd.C_below HR.out CC3.out.2.2) HRC.out).mono ?_
      rintro e w4 ⟨rfl, hb⟩
      have CC4 := Aside0.mk (CC3.out.fr hb)
      clear hb CC3
      cases hg : formR [110] [a] with
      | false =>
       have HG := Aside0.mk hg
       clear hg
       go_wp2_with (fail)
       go_meet
       exact ⟨false, { zC with f0 := 9 }, .slice none 0 0, rfl, CC4, ⟨Kd.R_nil _ _ _ _ _⟩, ⟨fun e => (by cases e)⟩, ⟨fun _ => by simp [argsR, HG.out]⟩⟩
      | true =>
       have HG := Aside0.mk hg
       clear hg
       have HR4 := Kd.C_below HR.out CC4.out.2.2
       obtain ⟨adz, ez, yz, _, _⟩ := at_T46 HR.out 0 (by decide) (by simp)
       rw [show ((0 : Int).toNat * 3) = 0 from rfl, Addr.add_zero'] at yz
       have hlt := World.block_lt_of_cell? w _ yz
       clear yz
       obtain ⟨ad0, e0, y00, y01, y02⟩ := at_T46 HR4 0 (by decide) (by simp)
       subst e0
       rw [show rd_T46 [a] 0 = a from rfl, show ((0 : Int).toNat * 3) = 0 from rfl, Addr.add_zero'] at y00 y01 y02
       obtain rfl := Option.some.inj ez
       have hne : (ad0.block = w.heap.size + 1) = False := eq_false (by omega)
       have hne2 : (w.heap.size + 1 = ad0.block) = False := eq_false (by omega)
       clear hlt ez
       clear HR4 y00
       have s8 : w4.cell? ⟨w.heap.size + 1, 8, none⟩ = some (.int .i64 0) := (blk_cell CC4.out.1 8).trans rfl
       have sf8 : w4.frozen? ⟨w.heap.size + 1, 8, none⟩ = false := blk_frozen CC4.out.1 8
       go_wp2_with (fail)
       go_meet
       exact ⟨true, { zC with f0 := 9, f8 := a.f1 }, .slice none 0 0, rfl, ⟨(CC4.out).put 8 _ (x' := { zC with f0 := 9, f8 := a.f1 }) (v' := .slice none 0 0) rfl⟩, ⟨Kd.R_nil _ _ _ _ _⟩, ⟨fun _ => by simp [argsR, HG.out]⟩, ⟨fun e => (by cases e)⟩⟩
     ·
      have n1 : ((r.length : Int) == 1) = false := beq_eq_false_iff_ne.2 (by omega)
      have n2 : ((r.length : Int) = 1) = False := eq_false (by omega)
      have n3 : (r.length = 1) = False := eq_false hn
      have hz : argsR 9 r = none := by
       unfold argsR
       simp only [reduceIte, Int.reduceEq]
       split
       ·
        exact absurd rfl hn
       ·
        rfl
      have HZ := Aside0.mk hz
      clear hz hn
      go_wp2_with (fail)
      go_meet
      exact ⟨false, { zC with f0 := 9 }, .slice none 0 0, rfl, CC3, ⟨Kd.R_nil _ _ _ _ _⟩, ⟨fun e => (by cases e)⟩, ⟨fun _ => HZ.out⟩⟩
   case rest =>
    rename_i hKK
    obtain ⟨g, x, v, rfl, C4, R4, T4, F4⟩ := hcut
    refine hKK _ _ ?_
    clear hKK
    have hcall : callR (h :: r) = argsR kd r := by rw [callR, if_pos HM.out, HKD.out]
    have HCL := Aside0.mk hcall
    clear hcall
    obtain ⟨Av, cv, ev⟩ := Kd.R_slice R4.out
    subst ev
    obtain ⟨q0, q1, q2, q3, q4, q5, q6, q7, q8, q9, q10⟩ := cells11 (show wc.heap[w.heap.size + 1]? = some (.cells #[.int .i64 x.f0, .string x.f1, .string x.f2, .slice Av x.f3.length cv, .string x.f4, .string x.f5, .bool x.f6, .int .i64 x.f7, .int .i64 x.f8, .int .i64 x.f9, .int .i64 x.f10] 52 (0, 0)) from C4.out.1)
    obtain ⟨r0, rf0, r1, rf1, r2, rf2, r3, rf3, r4, rf4, r5, rf5, r6, rf6, r7, rf7, r8, rf8, r9, rf9, r10, rf10⟩ := cells11f (show wc.heap[w.heap.size]? = some (.cells #[.int .i64 0, .string ⟨#[]⟩, .string ⟨#[]⟩, .slice none 0 0, .string ⟨#[]⟩, .string ⟨#[]⟩, .bool false, .int .i64 0, .int .i64 0, .int .i64 0, .int .i64 0] 52 (0, 0)) from C4.out.2.1)
    cases g with
    | false =>
     have FF := Aside0.mk (HCL.out.trans (F4.out rfl))
     clear F4 T4 HCL
     go_wp2_with (fail)
     have F := fillC w wc (x) (.slice Av x.f3.length cv) C4.out (R4.out)
     refine bodyPost_ret (results_c2 rfl _ _ w.heap.size 52 (callV (x) (.slice Av x.f3.length cv)) (0, 0) _ rfl F.1 hu52 rfl (by kernel_rfl)) rfl ?_
     exact ⟨0, x, .slice Av x.f3.length cv, rfl, F.2.2, F.2.1, .inr ⟨rfl, FF.out⟩⟩
    | true =>
     have FF := Aside0.mk (HCL.out.trans (T4.out rfl))
     clear F4 T4 HCL
     go_wp2_with (fail)
     have F := fillC w wc (x) (.slice Av x.f3.length cv) C4.out (R4.out)
     refine bodyPost_ret (results_c2 rfl _ _ w.heap.size 52 (callV (x) (.slice Av x.f3.length cv)) (0, 0) _ rfl F.1 hu52 rfl (by kernel_rfl)) rfl ?_
     exact ⟨1, x, .slice Av x.f3.length cv, rfl, F.2.2, F.2.1, .inl ⟨rfl, FF.out⟩⟩
end Go.Proofs.YtlkbeddlmbghkaaGreatDoor.PR

namespace Go.Proofs.YtlkbeddlmbghkaaGreatDoor.PR
open Go Go.Proofs Go.RowKit Go.Proofs.YtlkbeddlmbghkaaGreatDoorW.PrintWords Go.Proofs.YtlkbeddlmbghkaaGreatDoorW.PrintLast Go.Proofs.YtlkbeddlmbghkaaGreatDoorW.PrintMore
set_option linter.unusedVariables false
set_option linter.unusedSimpArgs false
set_option maxRecDepth 100000

set_option maxHeartbeats 16000000 in
theorem callR_k10 (A : Option Addr) (c : Nat) (h : S46) (r : List S46) (hl : (h :: r).length ≤ 1000000) (hc : (h :: r).length ≤ c) (w : World) (hC : Kd.C k46 w A (h :: r).length (h :: r)) (hm : h.f0 = 2) (hkk : kindS h.f2 = 10) :
  Calls Tryz.prog 47 #[.slice A (h :: r).length c] w fun e w' => CallRPost w (h :: r) e w' := by
 have HKK := Aside0.mk hkk
 clear hkk
 have hu52 := Tryz.underlying52
 have hu46 := Tryz.underlying46
 have HC := Aside0.mk hC
 have HL := Aside0.mk hl
 have HCC := Aside0.mk hc
 clear hC hl hc
 go_enter Tryz.func47, Tryz.ntmps47
 go_upto_region 2 with (fail)
 have C1 : CS w zC (.slice none 0 0) ((w.alloc (.cells #[.int .i64 0, .string ⟨#[]⟩, .string ⟨#[]⟩, .slice none 0 0, .string ⟨#[]⟩, .string ⟨#[]⟩, .bool false, .int .i64 0, .int .i64 0, .int .i64 0, .int .i64 0] 52)).alloc (.cells #[.int .i64 0, .string ⟨#[]⟩, .string ⟨#[]⟩, .slice none 0 0, .string ⟨#[]⟩, .string ⟨#[]⟩, .bool false, .int .i64 0, .int .i64 0, .int .i64 0, .int .i64 0] 52)) := ⟨by have h := blk_new (w.alloc (.cells #[.int .i64 0, .string ⟨#[]⟩, .string ⟨#[]⟩, .slice none 0 0, .string ⟨#[]⟩, .string ⟨#[]⟩, .bool false, .int .i64 0, .int .i64 0, .int .i64 0, .int .i64 0] 52)) (.cells #[.int .i64 0, .string ⟨#[]⟩, .string ⟨#[]⟩, .slice none 0 0, .string ⟨#[]⟩, .string ⟨#[]⟩, .bool false, .int .i64 0, .int .i64 0, .int .i64 0, .int .i64 0] 52); rw [World.size_alloc] at h; exact h, blk_alloc (blk_new w _) _, ((Below.refl _ _).alloc (Nat.le_refl _) _).alloc (by rw [World.size_alloc]; omega) _⟩
 change Code.wp _ _ _ _ ((w.alloc (.cells #[.int .i64 0, .string ⟨#[]⟩, .string ⟨#[]⟩, .slice none 0 0, .string ⟨#[]⟩, .string ⟨#[]⟩, .bool false, .int .i64 0, .int .i64 0, .int .i64 0, .int .i64 0] 52)).alloc (.cells #[.int .i64 0, .string ⟨#[]⟩, .string ⟨#[]⟩, .slice none 0 0, .string ⟨#[]⟩, .string ⟨#[]⟩, .bool false, .int .i64 0, .int .i64 0, .int .i64 0, .int .i64 0] 52))
 generalize ((w.alloc (.cells #[.int .i64 0, .string ⟨#[]⟩, .string ⟨#[]⟩, .slice none 0 0, .string ⟨#[]⟩, .string ⟨#[]⟩, .bool false, .int .i64 0, .int .i64 0, .int .i64 0, .int .i64 0] 52)).alloc (.cells #[.int .i64 0, .string ⟨#[]⟩, .string ⟨#[]⟩, .slice none 0 0, .string ⟨#[]⟩, .string ⟨#[]⟩, .bool false, .int .i64 0, .int .i64 0, .int .i64 0, .int .i64 0] 52)) = w1 at *
 have CC1 := Aside0.mk C1
 clear C1
 ·
  obtain ⟨ad, e0, xa0, xa1, xa2⟩ := at_T46 HC.out 0 (by decide) (by simp)
  subst e0
  rw [show rd_T46 (h :: r) 0 = h from rfl, show ((0 : Int).toNat * 3) = 0 from rfl, Addr.add_zero'] at xa0 xa1 xa2
  have ha0 := (CC1.out.2.2.cell (World.block_lt_of_cell? w _ xa0)).trans xa0
  have ha2 := (CC1.out.2.2.cell (World.block_lt_of_cell? w _ xa2)).trans xa2
  have l0 : (0 < (((h :: r).length : Nat) : Int)) = True := eq_true (by rw [List.length_cons]; omega)
  have l1 : (((h :: r).length : Int) == 0) = false := beq_eq_false_iff_ne.2 (by rw [List.length_cons]; omega)
  have l2 : ((r.length : Int) + 1 == 0) = false := beq_eq_false_iff_ne.2 (by omega)
  have l3 : ((r.length : Int) + 1 = 0) = False := eq_false (by omega)
  have l4 : (0 < (r.length : Int) + 1) = True := eq_true (by omega)
  have l5 : ((1 : Int) ≤ (r.length : Int) + 1) = True := eq_true (by omega)
  have l6 : (r.length + 1 ≤ c) = True := eq_true (by have := HCC.out; rw [List.length_cons] at this; exact this)
  ·
   have m1 : (h.f0 == 2) = true := beq_iff_eq.2 hm
   have m2 : (h.f0 != 2) = false := bne_eq_false_iff_eq.2 hm
   have m3 : (h.f0 = 2) = True := eq_true hm
   have HM := Aside0.mk hm
   clear hm
   have p0 : w1.cell? ⟨w.heap.size + 1, 0, none⟩ = some (.int .i64 0) := (blk_cell CC1.out.1 0).trans rfl
   have pf0 : w1.frozen? ⟨w.heap.size + 1, 0, none⟩ = false := blk_frozen CC1.out.1 0
   go_upto_region 5 with (fail)
   refine (rundleref26_Kind.calls 11 _ _ _ (kind_f _)).mono ?_
   rintro e w2 ⟨rfl, hb⟩
   have CC2 := Aside0.mk (CC1.out.fr hb)
   have p0 : w2.cell? ⟨w.heap.size + 1, 0, none⟩ = some (.int .i64 0) := (blk_cell CC2.out.1 0).trans rfl
   have pf0 : w2.frozen? ⟨w.heap.size + 1, 0, none⟩ = false := blk_frozen CC2.out.1 0
   clear hb ha0 ha2
   generalize hkd : kindS h.f2 = kd
   have HKD := Aside0.mk hkd
   clear hkd
   go_upto_region 6 with (fail)
   iterate 8 (first | go_values | go_skip | go_guarded | go_step | go_upon)
   have CD := Kd.C_drop (m := 1) HC.out (by rw [List.length_cons]; omega) HCC.out
   rw [show (some ad).map (·.add (1 * k46.sz)) = some ⟨ad.block, ad.off + 3, none⟩ from rfl, show (h :: r).drop 1 = r from rfl] at CD
   have CC3 := Aside0.mk (CC2.out.put 0 (.int .i64 kd) (x' := { zC with f0 := kd }) (v' := .slice none 0 0) rfl)
   have hcr : r.length ≤ c - 1 := by have := HCC.out; rw [List.length_cons] at this; omega
   clear p0 pf0 CC2 CC1
   change Code.wp _ _ _ _ (w2.setCell ⟨w.heap.size + 1, 0, none⟩ (.int .i64 kd))
   generalize w2.setCell ⟨w.heap.size + 1, 0, none⟩ (.int .i64 kd) = w3 at *
   generalize (if c = 1 then some ad else some ⟨ad.block, ad.off + 3, none⟩) = A1 at *
   generalize c - 1 = c1 at *
   have HR := Aside0.mk CD
   have HRC := Aside0.mk hcr
   have HLR : Aside0 (r.length ≤ 1000000) := ⟨by have := HL.out; rw [List.length_cons] at this; omega⟩
   clear CD hcr l0 l1 l2 l3 l4 l5 l6 m1 m2 m3 xa0 xa1 xa2
   go_cut [5] (fun v5 wx => ∃ (g : Bool) (x : S52) (v : Value), v5 = .bool g ∧ Aside0 (CS w x v wx) ∧ Aside0 (k93.R 93 wx (w.heap.size + 2) (fun _ => True) v x.f3) ∧ Aside0 (g = true → argsR kd r = some x) ∧ Aside0 (g = false → argsR kd r = none))
   case first =>
    have p0 : w3.cell? ⟨w.heap.size + 1, 0, none⟩ = some (.int .i64 kd) := (blk_cell CC3.out.1 0).trans rfl
    go_upto_region 8 with (fail)
    clear p0
    have hk : kd = 10 := HKD.out.symm.trans HKK.out
    subst hk
    ·
     cases r with
     | nil =>
      go_wp2_with (fail)
      go_meet
      exact ⟨true, { zC with f0 := 10 }, .slice none 0 0, rfl, CC3, ⟨Kd.R_nil _ _ _ _ _⟩, ⟨fun _ => by simp [argsR]⟩, ⟨fun e => (by cases e)⟩⟩
     | cons a t =>
      have n1 : ((t.length : Int) + 1 == 0) = false := beq_eq_false_iff_ne.2 (by omega)
      have n2 : ((t.length : Int) + 1 = 0) = False := eq_false (by omega)
      go_wp2_with (fail)
      go_meet
      exact ⟨false, { zC with f0 := 10 }, .slice none 0 0, rfl, CC3, ⟨Kd.R_nil _ _ _ _ _⟩, ⟨fun e => (by cases e)⟩, ⟨fun _ => by simp [argsR]⟩⟩
   case rest =>
    rename_i hKK
    obtain ⟨g, x, v, rfl, C4, R4, T4, F4⟩ := hcut
    refine hKK _ _ ?_
    clear hKK
    have hcall : callR (h :: r) = argsR kd r := by rw [callR, if_pos HM.out, HKD.out]
    have HCL := Aside0.mk hcall
    clear hcall
    obtain ⟨Av, cv, ev⟩ := Kd.R_slice R4.out
    subst ev
    obtain ⟨q0, q1, q2, q3, q4, q5, q6, q7, q8, q9, q10⟩ := cells11 (show wc.heap[w.heap.size + 1]? = some (.cells #[.int .i64 x.f0, .string x.f1, .string x.f2, .slice Av x.f3.length cv, .string x.f4, .string x.f5, .bool x.f6, .int .i64 x.f7, .int .i64 x.f8, .int .i64 x.f9, .int .i64 x.f10] 52 (0, 0)) from C4.out.1)
    obtain ⟨r0, rf0, r1, rf1, r2, rf2, r3, rf3, r4, rf4, r5, rf5, r6, rf6, r7, rf7, r8, rf8, r9, rf9, r10, rf10⟩ := cells11f (show wc.heap[w.heap.size]? = some (.cells #[.int .i64 0, .string ⟨#[]⟩, .string ⟨#[]⟩, .slice none 0 0, .string ⟨#[]⟩, .string ⟨#[]⟩, .bool false, .int .i64 0, .int .i64 0, .int .i64 0, .int .i64 0] 52 (0, 0)) from C4.out.2.1)
    cases g with
    | false =>
     have FF := Aside0.mk (HCL.out.trans (F4.out rfl))
     clear F4 T4 HCL
     go_wp2_with (fail)
     have F := fillC w wc (x) (.slice Av x.f3.length cv) C4.out (R4.out)
     refine bodyPost_ret (results_c2 rfl _ _ w.heap.size 52 (callV (x) (.slice Av x.f3.length cv)) (0, 0) _ rfl F.1 hu52 rfl (by kernel_rfl)) rfl ?_
     exact ⟨0, x, .slice Av x.f3.length cv, rfl, F.2.2, F.2.1, .inr ⟨rfl, FF.out⟩⟩
    | true =>
     have FF := Aside0.mk (HCL.out.trans (T4.out rfl))
     clear F4 T4 HCL
     go_wp2_with (fail)
     have F := fillC w wc (x) (.slice Av x.f3.length cv) C4.out (R4.out)
     refine bodyPost_ret (results_c2 rfl _ _ w.heap.size 52 (callV (x) (.slice Av x.f3.length cv)) (0, 0) _ rfl F.1 hu52 rfl (by kernel_rfl)) rfl ?_
     exact ⟨1, x, .slice Av x.f3.length cv, rfl, F.2.2, F.2.1, .inl ⟨rfl, FF.out⟩⟩
end Go.Proofs.YtlkbeddlmbghkaaGreatDoor.PR
