/- rundleref26.Call, at a call of kind 8. -/
import Derived.Test.YtlkbeddlmbghkaaGreatDoorRCk8y
import Derived.Test.YtlkbeddlmbghkaaGreatDoorRCk8n
import Derived.Test.YtlkbeddlmbghkaaGreatDoorRCk
import Derived.Test.YtlkbeddlmbghkaaGreatDoorRCk2
import Derived.Test.YtlkbeddlmbghkaaGreatDoorRCk3
import Derived.Test.YtlkbeddlmbghkaaGreatDoorRCk4
import Derived.Test.YtlkbeddlmbghkaaGreatDoorRCk5
namespace Go.Proofs.YtlkbeddlmbghkaaGreatDoor.PR
open Go Go.Proofs Go.RowKit Go.Proofs.YtlkbeddlmbghkaaGreatDoorW.PrintWords Go.Proofs.YtlkbeddlmbghkaaGreatDoorW.PrintLast Go.Proofs.YtlkbeddlmbghkaaGreatDoorW.PrintMore
set_option linter.unusedVariables false
set_option linter.unusedSimpArgs false
set_option maxRecDepth 100000

theorem callR_k8 (A : Option Addr) (c : Nat) (h : S46) (r : List S46) (hl : (h :: r).length ≤ 1000000) (hc : (h :: r).length ≤ c) (w : World) (hC : Kd.C k46 w A (h :: r).length (h :: r)) (hm : h.f0 = 2) (hkk : kindS h.f2 = 8) :
  Calls Tryz.prog 47 #[.slice A (h :: r).length c] w fun e w' => CallRPost w (h :: r) e w' := by
 by_cases hq : argsR 8 r = none
 ·
  exact callR_k8n A c h r hl hc w hC hm hkk hq
 ·
  exact callR_k8y A c h r hl hc w hC hm hkk hq
end Go.Proofs.YtlkbeddlmbghkaaGreatDoor.PR

namespace Go.Proofs.YtlkbeddlmbghkaaGreatDoor.PR
open Go Go.Proofs Go.RowKit Go.Proofs.YtlkbeddlmbghkaaGreatDoorW.PrintWords Go.Proofs.YtlkbeddlmbghkaaGreatDoorW.PrintLast Go.Proofs.YtlkbeddlmbghkaaGreatDoorW.PrintMore
set_option linter.unusedVariables false
set_option linter.unusedSimpArgs false
set_option maxRecDepth 100000

set_option maxHeartbeats 8000000 in
theorem callR_at (A : Option Addr) (c : Nat) (l : List S46) (hl : l.length ≤ 1000000) (hc : l.length ≤ c) (w : World) (hC : Kd.C k46 w A l.length l) :
  Calls Tryz.prog 47 #[.slice A l.length c] w fun e w' => CallRPost w l e w' := by
 by_cases hp : ∃ h r, l = h :: r ∧ h.f0 = 2
 ·
  obtain ⟨h, r, rfl, hm⟩ := hp
  rcases kindS_range h.f2 with k | k | k | k | k | k | k | k | k | k | k
  ·
   exact callR_k0 A c h r hl hc w hC hm k
  ·
   exact callR_k1 A c h r hl hc w hC hm k
  ·
   exact callR_k2 A c h r hl hc w hC hm k
  ·
   exact callR_k3 A c h r hl hc w hC hm k
  ·
   exact callR_k4 A c h r hl hc w hC hm k
  ·
   exact callR_k5 A c h r hl hc w hC hm k
  ·
   exact callR_k6 A c h r hl hc w hC hm k
  ·
   exact callR_k7 A c h r hl hc w hC hm k
  ·
   exact callR_k8 A c h r hl hc w hC hm k
  ·
   exact callR_k9 A c h r hl hc w hC hm k
  ·
   exact callR_k10 A c h r hl hc w hC hm k
 have HP := Aside0.mk hp
 clear hp
 have hu52 := Tryz.underlying52
 have hu46 := Tryz.underlying46
 have HC := Aside0.mk hC
 have HL := Aside0.mk hl
 have HCC := Aside0.mk hc
 clear hC hl hc
 go_enter Tryz.func47, Tryz.ntmps47
 go_upto_region 2 with (fail)
 have C1 : CS w zC (.slice none 0 0) ((w.alloc (.cells #[.int .i64 0, .string ⟨#[]⟩, .string ⟨#[]⟩, .slice none 0 0, .string ⟨#[]⟩, .string ⟨#[]⟩, .bool false, .int .i64 0, .int .i64 0, .int .i64 0, .int .i64 0] 52)).alloc (.cells #[.int .i64 0, .string ⟨#[]⟩, .string ⟨#[]⟩, .slice none 0 0, .string ⟨#[]⟩, .string ⟨#[]⟩, .bool false, .int .i64 0, .int .i64 0, .int .i64 0, .int .i64 0] 52)) := ⟨by have h := blk_new (w.alloc (.cells #[.int .i64 0, .string ⟨#[]⟩, .string ⟨#[]⟩, .slice none 0 0, .string ⟨#[]⟩, .string ⟨#[]⟩, .bool false, .int .i64 0, .int .i64 0, .int .i64 0, .int .i64 0] 52)) (.cells #[.int .i64 0, .string ⟨#[]⟩, .string ⟨#[]⟩, .slice none 0 0, .string ⟨#[]⟩, .string ⟨#[]⟩, .bool false, .int .i64 0, .int .i64 0, .int .i64 0, .int .i64 0] 52); rw [World.size_alloc] at h; exact h, blk_alloc (blk_new w _) _, ((Below.refl _ _).alloc (Nat.le_refl _) _).alloc (by rw [World.size_alloc]; omega) _⟩
 change Code.wp _ _ _ _ ((w.alloc (.cells #[.int .i64 0, .string ⟨#[]⟩, .string ⟨#[]⟩, .slice none 0 0, .string ⟨#[]⟩, .string ⟨#[]⟩, .bool false, .int .i64 0, .int .i64 0, .int .i64 0, .int .i64 0] 52)).alloc (.cells #[.int .i64 0, .string ⟨#[]⟩, .string ⟨#[]⟩, .slice none 0 0, .string ⟨#[]⟩, .string ⟨#[]⟩, .bool false, .int .i64 0, .int .i64 0, .int .i64 0, .int .i64 0] 52))
 generalize ((w.alloc (.cells #[.int .i64 0, .string ⟨#[]⟩, .string ⟨#[]⟩, .slice none 0 0, .string ⟨#[]⟩, .string ⟨#[]⟩, .bool false, .int .i64 0, .int .i64 0, .int .i64 0, .int .i64 0] 52)).alloc (.cells #[.int .i64 0, .string ⟨#[]⟩, .string ⟨#[]⟩, .slice none 0 0, .string ⟨#[]⟩, .string ⟨#[]⟩, .bool false, .int .i64 0, .int .i64 0, .int .i64 0, .int .i64 0] 52)) = w1 at *
 have CC1 := Aside0.mk C1
 clear C1
 cases l with
 | nil =>
  obtain ⟨q0, q1, q2, q3, q4, q5, q6, q7, q8, q9, q10⟩ := cells11 (show w1.heap[w.heap.size + 1]? = some (.cells #[.int .i64 0, .string ⟨#[]⟩, .string ⟨#[]⟩, .slice none 0 0, .string ⟨#[]⟩, .string ⟨#[]⟩, .bool false, .int .i64 0, .int .i64 0, .int .i64 0, .int .i64 0] 52 (0, 0)) from CC1.out.1)
  obtain ⟨r0, rf0, r1, rf1, r2, rf2, r3, rf3, r4, rf4, r5, rf5, r6, rf6, r7, rf7, r8, rf8, r9, rf9, r10, rf10⟩ := cells11f (show w1.heap[w.heap.size]? = some (.cells #[.int .i64 0, .string ⟨#[]⟩, .string ⟨#[]⟩, .slice none 0 0, .string ⟨#[]⟩, .string ⟨#[]⟩, .bool false, .int .i64 0, .int .i64 0, .int .i64 0, .int .i64 0] 52 (0, 0)) from CC1.out.2.1)
  go_wp2_with (fail)
  have F := fillC w w1 (zC) (.slice none 0 0) CC1.out (Kd.R_nil _ _ _ _ _)
  refine bodyPost_ret (results_c2 rfl _ _ w.heap.size 52 (callV (zC) (.slice none 0 0)) (0, 0) _ rfl F.1 hu52 rfl (by kernel_rfl)) rfl ?_
  exact ⟨0, zC, .slice none 0 0, rfl, F.2.2, F.2.1, .inr ⟨rfl, rfl⟩⟩
 | cons h r =>
  obtain ⟨ad, e0, xa0, xa1, xa2⟩ := at_T46 HC.out 0 (by decide) (by simp)
  subst e0
  rw [show rd_T46 (h :: r) 0 = h from rfl, show ((0 : Int).toNat * 3) = 0 from rfl, Addr.add_zero'] at xa0 xa1 xa2
  have ha0 := (CC1.out.2.2.cell (World.block_lt_of_cell? w _ xa0)).trans xa0
  have ha2 := (CC1.out.2.2.cell (World.block_lt_of_cell? w _ xa2)).trans xa2
  have l0 : (0 < (((h :: r).length : Nat) : Int)) = True := eq_true (by rw [List.length_cons]; omega)
  have l1 : (((h :: r).length : Int) == 0) = false := beq_eq_false_iff_ne.2 (by rw [List.length_cons]; omega)
  have l2 : ((r.length : Int) + 1 == 0) = false := beq_eq_false_iff_ne.2 (by omega)
  have l3 : ((r.length : Int) + 1 = 0) = False := eq_false (by omega)
  have l4 : (0 < (r.length : Int) + 1) = True := eq_true (by omega)
  have l5 : ((1 : Int) ≤ (r.length : Int) + 1) = True := eq_true (by omega)
  have l6 : (r.length + 1 ≤ c) = True := eq_true (by have := HCC.out; rw [List.length_cons] at this; exact this)
  by_cases hm : h.f0 = 2
  ·
   exact absurd ⟨h, r, rfl, hm⟩ HP.out
  ·
   have m1 : (h.f0 == 2) = false := beq_eq_false_iff_ne.2 hm
   have m2 : (h.f0 != 2) = true := bne_iff_ne.2 hm
   have m3 : (h.f0 = 2) = False := eq_false hm
   obtain ⟨q0, q1, q2, q3, q4, q5, q6, q7, q8, q9, q10⟩ := cells11 (show w1.heap[w.heap.size + 1]? = some (.cells #[.int .i64 0, .string ⟨#[]⟩, .string ⟨#[]⟩, .slice none 0 0, .string ⟨#[]⟩, .string ⟨#[]⟩, .bool false, .int .i64 0, .int .i64 0, .int .i64 0, .int .i64 0] 52 (0, 0)) from CC1.out.1)
   obtain ⟨r0, rf0, r1, rf1, r2, rf2, r3, rf3, r4, rf4, r5, rf5, r6, rf6, r7, rf7, r8, rf8, r9, rf9, r10, rf10⟩ := cells11f (show w1.heap[w.heap.size]? = some (.cells #[.int .i64 0, .string ⟨#[]⟩, .string ⟨#[]⟩, .slice none 0 0, .string ⟨#[]⟩, .string ⟨#[]⟩, .bool false, .int .i64 0, .int .i64 0, .int .i64 0, .int .i64 0] 52 (0, 0)) from CC1.out.2.1)
   go_wp2_with (fail)
   have F := fillC w w1 (zC) (.slice none 0 0) CC1.out (Kd.R_nil _ _ _ _ _)
   refine bodyPost_ret (results_c2 rfl _ _ w.heap.size 52 (callV (zC) (.slice none 0 0)) (0, 0) _ rfl F.1 hu52 rfl (by kernel_rfl)) rfl ?_
   exact ⟨0, zC, .slice none 0 0, rfl, F.2.2, F.2.1, .inr ⟨rfl, by rw [callR, if_neg hm]⟩⟩
end Go.Proofs.YtlkbeddlmbghkaaGreatDoor.PR
