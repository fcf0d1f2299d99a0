/- rundlelaw26.plain, all ways. -/
import Derived.Test.YtlkbeddlmbghkaaGreatDoorPnX
import Derived.Test.YtlkbeddlmbghkaaGreatDoorPnY
import Derived.Test.YtlkbeddlmbghkaaGreatDoorPnA2
import Derived.Test.YtlkbeddlmbghkaaGreatDoorPnA3
import Derived.Test.YtlkbeddlmbghkaaGreatDoorPnA4
import Derived.Test.YtlkbeddlmbghkaaGreatDoorPnA5
import Derived.Test.YtlkbeddlmbghkaaGreatDoorPnU
import Derived.Test.YtlkbeddlmbghkaaGreatDoorPnA8
import Derived.Test.YtlkbeddlmbghkaaGreatDoorScA
import Derived.Test.YtlkbeddlmbghkaaGreatDoorLnB
import Derived.Test.YtlkbeddlmbghkaaGreatDoorPRx5
import Derived.Test.YtlkbeddlmbghkaaGreatDoorScC
import Derived.Test.YtlkbeddlmbghkaaGreatDoorRows
import Derived.SizedLaws
import Derived.ChangeSlices
import Derived.ChangeSame
import Derived.Lib.SmallJoins
import Derived.OpenShut
import Derived.Deep.Slices
import Derived.Deep.Fields
import Derived.LaidMore
import Derived.LaidSub
import Derived.FnData
import Derived.Test.YtlkbeddlmbghkaaGreatDoorSh1
import Derived.Lib.LaidTab
namespace Go.Proofs.YtlkbeddlmbghkaaGreatDoor.PR
open Go Go.Proofs Go.RowKit Go.Proofs.YtlkbeddlmbghkaaGreatDoorW.PrintWords Go.Proofs.YtlkbeddlmbghkaaGreatDoorW.PrintLast Go.Proofs.YtlkbeddlmbghkaaGreatDoorW.PrintMore Go.Proofs.YtlkbeddlmbghkaaGreatDoor.Lx
set_option linter.unusedVariables false
set_option linter.unusedSimpArgs false
set_option maxRecDepth 100000

theorem plain_at (x : StepT) (A : Option Addr) (c : Nat) (w : World) (hc : x.f3.f3.length ≤ c) (hA : Kd.C k93 w A x.f3.f3.length x.f3.f3) (hl : x.f3.f3.length ≤ 1500) :
  Calls Tryz.prog 25 #[.agg (stepV x (.slice A x.f3.f3.length c))] w fun e w' => ∃ b, e = .returned (.bool b) ∧ (b = true ↔ PlainS x) ∧ Below w.heap.size w w' := by
 by_cases h0 : x.f0 < 1 ∨ 4 < x.f0
 ·
  exact plain0_at x A c w hc hA hl h0
 rcases (by omega : x.f0 = 3 ∨ x.f0 = 4 ∨ (x.f0 = 1 ∨ x.f0 = 2)) with e | e | e
 ·
  exact plain3_at x A c w hc hA hl e
 ·
  exact plain4_at x A c w hc hA hl e
 ·
  have e : x.f0 = 1 ∨ x.f0 = 2 := e
  by_cases hk : x.f3.f0 < 1 ∨ 10 < x.f3.f0
  ·
   exact plainkn_at x A c w hc hA hl e hk
  rcases (by omega : x.f3.f0 = 1 ∨ x.f3.f0 = 2 ∨ x.f3.f0 = 3 ∨ x.f3.f0 = 4 ∨ x.f3.f0 = 5 ∨ x.f3.f0 = 6 ∨ x.f3.f0 = 7 ∨ x.f3.f0 = 8 ∨ x.f3.f0 = 9 ∨ x.f3.f0 = 10) with h | h | h | h | h | h | h | h | h | h
  ·
   exact plaink1_at x A c w hc hA hl e h
  ·
   exact plaink2_at x A c w hc hA hl e h
  ·
   exact plaink3_at x A c w hc hA hl e h
  ·
   exact plaink4_at x A c w hc hA hl e h
  ·
   exact plaink5_at x A c w hc hA hl e h
  ·
   exact plaink6_at x A c w hc hA hl e h
  ·
   exact plaink7_at x A c w hc hA hl e h
  ·
   exact plaink8_at x A c w hc hA hl e h
  ·
   exact plaink9_at x A c w hc hA hl e h
  ·
   exact plaink10_at x A c w hc hA hl e h
end Go.Proofs.YtlkbeddlmbghkaaGreatDoor.PR

namespace Go.Proofs.YtlkbeddlmbghkaaGreatDoor.PR
open Go Go.Proofs Go.RowKit Go.Proofs.YtlkbeddlmbghkaaGreatDoorW.PrintWords Go.Proofs.YtlkbeddlmbghkaaGreatDoorW.PrintLast Go.Proofs.YtlkbeddlmbghkaaGreatDoorW.PrintMore Go.Proofs.YtlkbeddlmbghkaaGreatDoor.Lx
attribute [local go_sem] Wd.one Wd.run_store max2_int min2_int max_two min_two
set_option linter.unusedVariables false
set_option linter.unusedSimpArgs false
set_option maxRecDepth 100000

theorem one_C (x : S58) (A : Option Addr) (c : Nat) (w : World) (g : Nat) (hc : x.f3.f3.length ≤ c) (hA : Kd.C k93 w A x.f3.f3.length x.f3.f3)
  (hg : w.heap[g]? = some (.cells #[.int .i64 x.f0, .int .i64 x.f1, .int .i64 x.f2, .int .i64 x.f3.f0, .string x.f3.f1, .string x.f3.f2, .slice A x.f3.f3.length c, .string x.f3.f4, .string x.f3.f5, .bool x.f3.f6, .int .i64 x.f3.f7, .int .i64 x.f3.f8, .int .i64 x.f3.f9, .int .i64 x.f3.f10] 58 (0, 0))) :
  Kd.C k58 w (some ⟨g, 0, none⟩) [x].length [x] := by
 refine ⟨rfl, by simp, fun _ => ⟨_, rfl, fun j p hp => ?_⟩⟩
 cases j with
 | succ j => cases hp
 | zero =>
  obtain rfl := Option.some.inj hp
  refine ⟨_, rfl, k58_mk w x hc hA, fun i u hu => ?_⟩
  have hi : i < 14 := (List.getElem?_eq_some_iff.1 hu).1
  have := (blk_cell hg i)
  rw [show ((⟨g, 0, none⟩ : Addr).add (0 * k58.sz + i)) = ⟨g, i, none⟩ by simp [Addr.add]; exact Eq.symm]
  refine this.trans ?_
  rw [← hu]
  exact List.getElem?_toArray ..
theorem kind_in (k : Int) (h : 1 ≤ k ∧ k ≤ 10) : rundleref26_Kind.f 11 (nameL k) = some k ∧ ¬(nameL k).toList = [] := by
 have hh : ∀ m : Fin 11, 1 ≤ m.val → rundleref26_Kind.f 11 (nameL (m.val : Int)) = some (m.val : Int) ∧ ¬(nameL (m.val : Int)).toList = [] := by decide +kernel
 have := hh ⟨k.toNat, by omega⟩ (by show 1 ≤ k.toNat; omega)
 simpa only [show ((k.toNat : Nat) : Int) = k by omega] using this
theorem kind_out (k : Int) (h : k < 1 ∨ 10 < k) : nameL k = ⟨#[]⟩ := by unfold nameL; rw [if_pos h]
theorem kind_nil : rundleref26_Kind.f 11 ⟨#[]⟩ = some 0 := by decide +kernel

set_option maxHeartbeats 16000000 in
theorem plain_law (x : StepT) (A : Option Addr) (c : Nat) (k : Int) (hkr : In64 k) (w : World) (hT : TenAt w) (hk : KAt w) (h3 : 0 < w.heap.size) (hA : Kd.C k93 w A x.f3.f3.length x.f3.f3) (hc : x.f3.f3.length ≤ c) (hi : InS x) :
  Calls Tryz.prog 6 #[.agg (stepV x (.slice A x.f3.f3.length c)), .int .i64 k] w fun e w' => e = .returned (.bool true) ∧ Below w.heap.size w w' := by
 have hu58 := Tryz.underlying58
 have hu52 := Tryz.underlying52
 have HT := Aside0.mk hT
 have HK := Aside0.mk hk
 have H3 := Aside0.mk h3
 have HA := Aside0.mk hA
 have HC := Aside0.mk hc
 have HI := Aside0.mk hi
 have HKR := Aside0.mk hkr
 clear hT hk h3 hA hc hi hkr
 go_enter Tryz.func6, Tryz.ntmps6
 go_upto_region 1 with (fail)
 have B1 := Aside0.mk (blk_new w (.cells (stepV x (.slice A x.f3.f3.length c)) 58))
 have ab1 : Below w.heap.size w (w.alloc (.cells (stepV x (.slice A x.f3.f3.length c)) 58)) := (Below.refl _ _).alloc (Nat.le_refl _) _
 change Code.wp _ _ _ _ (w.alloc (.cells (stepV x (.slice A x.f3.f3.length c)) 58))
 obtain ⟨p, hp⟩ : ∃ p, p = w.heap.size := ⟨_, rfl⟩
 rw [← hp] at B1 ⊢
 have HB1 := Aside0.mk ab1
 generalize (w.alloc (.cells (stepV x (.slice A x.f3.f3.length c)) 58)) = w1 at *
 clear ab1 hp
 go_wp2_with (fail)
 refine (awake_at w1 (HK.out.mono H3.out HB1.out) (Nat.lt_of_lt_of_le H3.out HB1.out.size)).mono ?_
 rintro e w2 ⟨rfl, hb2⟩
 have B2 := Aside0.mk (blk_below B1.out hb2)
 have HB2 := Aside0.mk (HB1.out.trans (hb2.mono HB1.out.size))
 clear hb2
 have c0 : w2.cell? ⟨p, 0, none⟩ = some (.int .i64 x.f0) := (blk_cell B2.out 0).trans rfl
 have c1 : w2.cell? ⟨p, 1, none⟩ = some (.int .i64 x.f1) := (blk_cell B2.out 1).trans rfl
 have c2 : w2.cell? ⟨p, 2, none⟩ = some (.int .i64 x.f2) := (blk_cell B2.out 2).trans rfl
 have c3 : w2.cell? ⟨p, 3, none⟩ = some (.int .i64 x.f3.f0) := (blk_cell B2.out 3).trans rfl
 have c4 : w2.cell? ⟨p, 4, none⟩ = some (.string x.f3.f1) := (blk_cell B2.out 4).trans rfl
 have c5 : w2.cell? ⟨p, 5, none⟩ = some (.string x.f3.f2) := (blk_cell B2.out 5).trans rfl
 have c6 : w2.cell? ⟨p, 6, none⟩ = some (.slice A x.f3.f3.length c) := (blk_cell B2.out 6).trans rfl
 have c7 : w2.cell? ⟨p, 7, none⟩ = some (.string x.f3.f4) := (blk_cell B2.out 7).trans rfl
 have c8 : w2.cell? ⟨p, 8, none⟩ = some (.string x.f3.f5) := (blk_cell B2.out 8).trans rfl
 have c9 : w2.cell? ⟨p, 9, none⟩ = some (.bool x.f3.f6) := (blk_cell B2.out 9).trans rfl
 have c10 : w2.cell? ⟨p, 10, none⟩ = some (.int .i64 x.f3.f7) := (blk_cell B2.out 10).trans rfl
 have c11 : w2.cell? ⟨p, 11, none⟩ = some (.int .i64 x.f3.f8) := (blk_cell B2.out 11).trans rfl
 have c12 : w2.cell? ⟨p, 12, none⟩ = some (.int .i64 x.f3.f9) := (blk_cell B2.out 12).trans rfl
 have c13 : w2.cell? ⟨p, 13, none⟩ = some (.int .i64 x.f3.f10) := (blk_cell B2.out 13).trans rfl
 go_wp2_with (fail)
 have ab3 : Below w2.heap.size w2 (w2.alloc (.cells (stepV x (.slice A x.f3.f3.length c)) 58)) := (Below.refl _ _).alloc (Nat.le_refl _) _
 have G3 := blk_new w2 (.cells (stepV x (.slice A x.f3.f3.length c)) 58)
 have B3 := Aside0.mk (blk_below B2.out ab3)
 have HB3 := Aside0.mk (HB2.out.trans (ab3.mono HB2.out.size))
 clear c0 c1 c2 c3 c4 c5 c6 c7 c8 c9 c10 c11 c12 c13
 refine (long_at [x] (some ⟨w2.heap.size, 0, none⟩) 1 (w2.alloc (.cells (stepV x (.slice A x.f3.f3.length c)) 58)) (Nat.le_refl _) (one_C x A c _ _ HC.out (Kd.C_below HA.out HB3.out) G3)).mono ?_
 rintro e w4 ⟨b, rfl, hl, hb4⟩
 have B4 := Aside0.mk (blk_below B3.out hb4)
 have HB4 := Aside0.mk (HB3.out.trans (hb4.mono HB3.out.size))
 clear ab3 G3 hb4 B1 HB1 B2 HB2 B3 HB3
 cases b with
 | true =>
  clear hl
  go_wp2_with (fail)
  refine (awake_at w4 (HK.out.mono H3.out HB4.out) (Nat.lt_of_lt_of_le H3.out HB4.out.size)).mono ?_
  rintro e w5 ⟨rfl, hb5⟩
  have HB5 := Aside0.mk (HB4.out.trans (hb5.mono HB4.out.size))
  clear hb5
  go_wp2_with (fail)
  go_ret
  exact ⟨rfl, HB5.out⟩
 | false =>
 have HSH := Aside0.mk ((hl rfl).2 x (List.mem_singleton.2 rfl))
 clear hl
 have c0 : w4.cell? ⟨p, 0, none⟩ = some (.int .i64 x.f0) := (blk_cell B4.out 0).trans rfl
 have c1 : w4.cell? ⟨p, 1, none⟩ = some (.int .i64 x.f1) := (blk_cell B4.out 1).trans rfl
 have c2 : w4.cell? ⟨p, 2, none⟩ = some (.int .i64 x.f2) := (blk_cell B4.out 2).trans rfl
 have c3 : w4.cell? ⟨p, 3, none⟩ = some (.int .i64 x.f3.f0) := (blk_cell B4.out 3).trans rfl
 have c4 : w4.cell? ⟨p, 4, none⟩ = some (.string x.f3.f1) := (blk_cell B4.out 4).trans rfl
 have c5 : w4.cell? ⟨p, 5, none⟩ = some (.string x.f3.f2) := (blk_cell B4.out 5).trans rfl
 have c6 : w4.cell? ⟨p, 6, none⟩ = some (.slice A x.f3.f3.length c) := (blk_cell B4.out 6).trans rfl
 have c7 : w4.cell? ⟨p, 7, none⟩ = some (.string x.f3.f4) := (blk_cell B4.out 7).trans rfl
 have c8 : w4.cell? ⟨p, 8, none⟩ = some (.string x.f3.f5) := (blk_cell B4.out 8).trans rfl
 have c9 : w4.cell? ⟨p, 9, none⟩ = some (.bool x.f3.f6) := (blk_cell B4.out 9).trans rfl
 have c10 : w4.cell? ⟨p, 10, none⟩ = some (.int .i64 x.f3.f7) := (blk_cell B4.out 10).trans rfl
 have c11 : w4.cell? ⟨p, 11, none⟩ = some (.int .i64 x.f3.f8) := (blk_cell B4.out 11).trans rfl
 have c12 : w4.cell? ⟨p, 12, none⟩ = some (.int .i64 x.f3.f9) := (blk_cell B4.out 12).trans rfl
 have c13 : w4.cell? ⟨p, 13, none⟩ = some (.int .i64 x.f3.f10) := (blk_cell B4.out 13).trans rfl
 go_wp2_with (fail)
 refine (line_at x A c w4 (HT.out.mono HB4.out) (HK.out.mono H3.out HB4.out) (Nat.lt_of_lt_of_le H3.out HB4.out.size) HC.out (Kd.C_below HA.out HB4.out) HSH.out HI.out).mono ?_
 rintro e w5 ⟨hb5, hL⟩
 have B5 := Aside0.mk (blk_below B4.out hb5)
 have HB5 := Aside0.mk (HB4.out.trans (hb5.mono HB4.out.size))
 clear hb5 B4 HB4
 clear c0 c1 c2 c3 c4 c5 c6 c7 c8 c9 c10 c11 c12 c13
 rcases hL with ⟨t, hlt, rfl⟩ | ⟨hlt, rfl⟩
 case inr =>
  have HN : Aside0 (¬PlainS x) := ⟨fun h => by have := (plain_line x).2 h; rw [hlt] at this; cases this⟩
  clear hlt
  have c0 : w5.cell? ⟨p, 0, none⟩ = some (.int .i64 x.f0) := (blk_cell B5.out 0).trans rfl
  have c1 : w5.cell? ⟨p, 1, none⟩ = some (.int .i64 x.f1) := (blk_cell B5.out 1).trans rfl
  have c2 : w5.cell? ⟨p, 2, none⟩ = some (.int .i64 x.f2) := (blk_cell B5.out 2).trans rfl
  have c3 : w5.cell? ⟨p, 3, none⟩ = some (.int .i64 x.f3.f0) := (blk_cell B5.out 3).trans rfl
  have c4 : w5.cell? ⟨p, 4, none⟩ = some (.string x.f3.f1) := (blk_cell B5.out 4).trans rfl
  have c5 : w5.cell? ⟨p, 5, none⟩ = some (.string x.f3.f2) := (blk_cell B5.out 5).trans rfl
  have c6 : w5.cell? ⟨p, 6, none⟩ = some (.slice A x.f3.f3.length c) := (blk_cell B5.out 6).trans rfl
  have c7 : w5.cell? ⟨p, 7, none⟩ = some (.string x.f3.f4) := (blk_cell B5.out 7).trans rfl
  have c8 : w5.cell? ⟨p, 8, none⟩ = some (.string x.f3.f5) := (blk_cell B5.out 8).trans rfl
  have c9 : w5.cell? ⟨p, 9, none⟩ = some (.bool x.f3.f6) := (blk_cell B5.out 9).trans rfl
  have c10 : w5.cell? ⟨p, 10, none⟩ = some (.int .i64 x.f3.f7) := (blk_cell B5.out 10).trans rfl
  have c11 : w5.cell? ⟨p, 11, none⟩ = some (.int .i64 x.f3.f8) := (blk_cell B5.out 11).trans rfl
  have c12 : w5.cell? ⟨p, 12, none⟩ = some (.int .i64 x.f3.f9) := (blk_cell B5.out 12).trans rfl
  have c13 : w5.cell? ⟨p, 13, none⟩ = some (.int .i64 x.f3.f10) := (blk_cell B5.out 13).trans rfl
  go_wp2_with (fail)
  refine (plain_at x A c w5 HC.out (Kd.C_below HA.out HB5.out) HSH.out.1).mono ?_
  rintro e w6 ⟨b, rfl, hb, hb6⟩
  have HB6 := Aside0.mk (HB5.out.trans (hb6.mono HB5.out.size))
  clear c0 c1 c2 c3 c4 c5 c6 c7 c8 c9 c10 c11 c12 c13
  have hbf : b = false := by cases b; rfl; exact absurd (hb.1 rfl) HN.out
  subst hbf
  clear hb hb6
  go_wp2_with (fail)
  go_ret
  exact ⟨rfl, HB6.out⟩
 case inl =>
  have HP : Aside0 (PlainS x) := ⟨(plain_line x).1 (by rw [hlt]; rfl)⟩
  have hne : ¬(⟨t.toArray⟩ : ByteArray).toList = [] := by
   obtain ⟨ws, toks, _, _, _, _, _, h5⟩ := lineT_some x t hlt
   intro e
   have e2 : (⟨t.toArray⟩ : ByteArray) = ⟨#[]⟩ := toList_inj (e.trans (by decide +kernel))
   have := congrArg (fun b : ByteArray => b.data.toList.length) e2
   simp at this
   rw [this] at h5; simp at h5
  have s1 : ((⟨t.toArray⟩ : ByteArray).toList == []) = false := beq_eq_false_iff_ne.2 hne
  have s2 : ((⟨t.toArray⟩ : ByteArray).toList = []) = False := eq_false hne
  generalize (⟨t.toArray⟩ : ByteArray) = T at *
  clear hlt hne
  have c0 : w5.cell? ⟨p, 0, none⟩ = some (.int .i64 x.f0) := (blk_cell B5.out 0).trans rfl
  have c1 : w5.cell? ⟨p, 1, none⟩ = some (.int .i64 x.f1) := (blk_cell B5.out 1).trans rfl
  have c2 : w5.cell? ⟨p, 2, none⟩ = some (.int .i64 x.f2) := (blk_cell B5.out 2).trans rfl
  have c3 : w5.cell? ⟨p, 3, none⟩ = some (.int .i64 x.f3.f0) := (blk_cell B5.out 3).trans rfl
  have c4 : w5.cell? ⟨p, 4, none⟩ = some (.string x.f3.f1) := (blk_cell B5.out 4).trans rfl
  have c5 : w5.cell? ⟨p, 5, none⟩ = some (.string x.f3.f2) := (blk_cell B5.out 5).trans rfl
  have c6 : w5.cell? ⟨p, 6, none⟩ = some (.slice A x.f3.f3.length c) := (blk_cell B5.out 6).trans rfl
  have c7 : w5.cell? ⟨p, 7, none⟩ = some (.string x.f3.f4) := (blk_cell B5.out 7).trans rfl
  have c8 : w5.cell? ⟨p, 8, none⟩ = some (.string x.f3.f5) := (blk_cell B5.out 8).trans rfl
  have c9 : w5.cell? ⟨p, 9, none⟩ = some (.bool x.f3.f6) := (blk_cell B5.out 9).trans rfl
  have c10 : w5.cell? ⟨p, 10, none⟩ = some (.int .i64 x.f3.f7) := (blk_cell B5.out 10).trans rfl
  have c11 : w5.cell? ⟨p, 11, none⟩ = some (.int .i64 x.f3.f8) := (blk_cell B5.out 11).trans rfl
  have c12 : w5.cell? ⟨p, 12, none⟩ = some (.int .i64 x.f3.f9) := (blk_cell B5.out 12).trans rfl
  have c13 : w5.cell? ⟨p, 13, none⟩ = some (.int .i64 x.f3.f10) := (blk_cell B5.out 13).trans rfl
  go_wp2_with (fail)
  refine (plain_at x A c w5 HC.out (Kd.C_below HA.out HB5.out) HSH.out.1).mono ?_
  rintro e w6 ⟨b, rfl, hb, hb6⟩
  have HB6 := Aside0.mk (HB5.out.trans (hb6.mono HB5.out.size))
  clear c0 c1 c2 c3 c4 c5 c6 c7 c8 c9 c10 c11 c12 c13
  have hbf : b = true := hb.2 HP.out
  subst hbf
  clear hb hb6
  go_wp2_with (fail)
  refine (sname_at k w6 (HK.out.mono H3.out HB6.out)).mono ?_
  rintro e w7 ⟨rfl, hb7⟩
  have HB7 := Aside0.mk (HB6.out.trans (hb7.mono HB6.out.size))
  clear hb7
  by_cases hin : 1 ≤ k ∧ k ≤ 10
  ·
   obtain ⟨k1, k2⟩ := kind_in k hin
   have HKF := Aside0.mk k1
   have n1 : ((nameL k).toList == []) = false := beq_eq_false_iff_ne.2 k2
   have n2 : ((nameL k).toList = []) = False := eq_false k2
   generalize nameL k = nm at *
   have i1 : (1 ≤ k) = True := eq_true hin.1
   have i2 : decide (1 ≤ k) = true := decide_eq_true hin.1
   have i3 : (k ≤ 10) = True := eq_true hin.2
   have i4 : decide (k ≤ 10) = true := decide_eq_true hin.2
   have i5 : (11 < k) = False := eq_false (by omega)
   have i6 : (0 < k) = True := eq_true (by omega)
   have i7 : Int.tmod k 11 = k := by rw [Int.tmod_eq_emod_of_nonneg (by omega)]; omega
   have i8 : IntKind.i64.wrap k = k := by rw [i64_w]; unfold wrap64; omega
   have i9 : IntKind.i64.wrap (k * 1) = k := by rw [Int.mul_one, i64_w]; unfold wrap64; omega
   clear hin k1 k2
   go_wp2_with (fail)
   refine (rundleref26_Kind.calls 11 nm k w7 HKF.out).mono ?_
   rintro e w8 ⟨rfl, hb8⟩
   have HB8 := Aside0.mk (HB7.out.trans (hb8.mono HB7.out.size))
   clear hb8
   go_wp2_with (fail)
   refine (rundlelaw26_number.calls true 1 w8 rfl).mono ?_
   rintro e w9 ⟨rfl, hd9⟩
   have HB9 := Aside0.mk (HB8.out.trans (hd9.below.mono HB8.out.size))
   clear hd9
   go_wp2_with (fail)
   go_ret
   refine ⟨?_, HB9.out⟩
   first | rfl | simp [i1, i2, i3, i4, i5, i6, i7, i8, i9]
  ·
   have hkn := kind_out k (by omega)
   rw [hkn]
   rcases (by omega : k < 1 ∨ k = 11 ∨ 11 < k) with hc1 | hc1 | hc1
   ·
    have i1 : (1 ≤ k) = False := eq_false (by omega)
    have i2 : decide (1 ≤ k) = false := decide_eq_false (by omega)
    have i3 : (11 < k) = False := eq_false (by omega)
    have i4 : (0 < k) = False := eq_false (by omega)
    go_wp2_with (fail)
    refine (rundleref26_Kind.calls 11 ⟨#[]⟩ 0 w7 kind_nil).mono ?_
    rintro e w8 ⟨rfl, hb8⟩
    have HB8 := Aside0.mk (HB7.out.trans (hb8.mono HB7.out.size))
    clear hb8
    go_wp2_with (fail)
    refine (rundlelaw26_number.calls false 0 w8 rfl).mono ?_
    rintro e w9 ⟨rfl, hd9⟩
    have HB9 := Aside0.mk (HB8.out.trans (hd9.below.mono HB8.out.size))
    clear hd9
    go_wp2_with (fail)
    go_ret
    refine ⟨?_, HB9.out⟩
    first | rfl | simp [i1, i2, i3, i4]
   ·
    subst hc1
    go_wp2_with (fail)
    refine (rundleref26_Kind.calls 11 ⟨#[]⟩ 0 w7 kind_nil).mono ?_
    rintro e w8 ⟨rfl, hb8⟩
    have HB8 := Aside0.mk (HB7.out.trans (hb8.mono HB7.out.size))
    clear hb8
    go_wp2_with (fail)
    refine (rundlelaw26_number.calls false 0 w8 rfl).mono ?_
    rintro e w9 ⟨rfl, hd9⟩
    have HB9 := Aside0.mk (HB8.out.trans (hd9.below.mono HB8.out.size))
    clear hd9
    go_wp2_with (fail)
    go_ret
    refine ⟨?_, HB9.out⟩
    first | rfl | simp
   ·
    have i1 : (1 ≤ k) = True := eq_true (by omega)
    have i2 : decide (1 ≤ k) = true := decide_eq_true (by omega)
    have i3 : (11 < k) = True := eq_true (by omega)
    have i4 : (k ≤ 10) = False := eq_false (by omega)
    have i5 : decide (k ≤ 10) = false := decide_eq_false (by omega)
    go_wp2_with (fail)
    refine (rundleref26_Kind.calls 11 ⟨#[]⟩ 0 w7 kind_nil).mono ?_
    rintro e w8 ⟨rfl, hb8⟩
    have HB8 := Aside0.mk (HB7.out.trans (hb8.mono HB7.out.size))
    clear hb8
    go_wp2_with (fail)
    refine (rundlelaw26_number.calls false 0 w8 rfl).mono ?_
    rintro e w9 ⟨rfl, hd9⟩
    have HB9 := Aside0.mk (HB8.out.trans (hd9.below.mono HB8.out.size))
    clear hd9
    go_wp2_with (fail)
    go_ret
    refine ⟨?_, HB9.out⟩
    first | rfl | simp [i1, i2, i3, i4, i5]
end Go.Proofs.YtlkbeddlmbghkaaGreatDoor.PR

namespace Go.Proofs.YtlkbeddlmbghkaaGreatDoor.PR
open Go Go.Proofs Go.RowKit Go.ChangeShapes Go.WideShapes Go.Deep Go.Joins Go.Proofs.YtlkbeddlmbghkaaGreatDoorW.PrintWords Go.Proofs.YtlkbeddlmbghkaaGreatDoorW.PrintLast Go.Proofs.YtlkbeddlmbghkaaGreatDoorW.PrintMore
set_option linter.unusedVariables false
set_option linter.unusedSimpArgs false
set_option maxRecDepth 100000
/-- The table of the calls' names lies as the program lays it. -/
def kindsB : List (List UInt8) := kindsL.map (·.data.toList)
theorem kat_of {W : World} {L : List (String × DataW Unit)} (h : laidMetH Tryz.prog L W) (hp : (L.all fun x => x.2.handleName?.isNone) = true) (hf : (L.filter fun x => x.1 == "rundle/script.kinds") = [("rundle/script.kinds", Rows.laid_rundle_script_kinds)]) : KAt W ∧ 0 < W.heap.size := by
 rw [MakeChecks.laidMetH_plain _ _ _ hp] at h
 have h := h.filter (fun x => x.1 == "rundle/script.kinds")
 rw [hf] at h
 obtain ⟨ps, ⟨g, t, cs, fuel, p, q, hg, ht, hv, hd, _, _⟩, _, _⟩ := h
 obtain rfl := Option.some.inj ((show Tryz.prog.globalNamed "rundle/script.kinds" = some 0 by kernel_rfl).symm.trans hg)
 obtain rfl := Option.some.inj ((show (Tryz.prog.globals[0]?).map (·.type) = some 100 by kernel_rfl).symm.trans ht)
 obtain ⟨xs, m, _, ex, _, hl, hel⟩ := DataW.trod_array Tryz.underlying100 hd
 have c9 : Tryz.prog.cellsOf 9 = 1 := by kernel_rfl
 have e3 : (xs.map (·.1)) = kindsB.map fun s => .lit (.string s) := (DataW.agg.inj (Prod.mk.inj ex).1).symm.trans (by kernel_rfl)
 have hK : KAt W := by
  intro r s hs
  have hr : r < 11 := (List.getElem?_eq_some_iff.1 hs).1
  have hE := hel r hr
  rw [c9, Nat.mul_one, List.getElem?_eq_getElem (by omega)] at hE
  obtain ⟨z, e1, e2, _⟩ := DataW.trod_string Tryz.underlying9 hE
  have e4 : (xs.map (·.1))[r]? = (kindsB.map fun s => (DataW.lit (.string s) : DataW Unit))[r]? := by rw [e3]
  rw [List.getElem?_map, List.getElem?_map, List.getElem?_eq_getElem (by omega : r < xs.length), e2, kindsB, List.getElem?_map, hs] at e4
  have hz : z = s := by
   simp only [Option.map_some, Option.some.injEq, DataW.lit.injEq, Lit.string.injEq] at e4
   cases z with
   | mk z =>
    cases s with
    | mk s => exact congrArg ByteArray.mk (Array.toList_inj.1 e4)
  rw [World.var?_cell hg hv r, ← hz]
  have : cs.toList[r]? = some (.string z) := by
   have h0 : ((cs.toList.drop r).take 1)[0]? = some (.string z) := by rw [e1]; rfl
   simpa using h0
  simpa using this
 exact ⟨hK, World.block_lt_of_cell? W ⟨0, 0, none⟩ (hK 0 _ rfl)⟩
end Go.Proofs.YtlkbeddlmbghkaaGreatDoor.PR

namespace Go.Proofs.YtlkbeddlmbghkaaGreatDoor.PR
open Go Go.Proofs Go.RowKit Go.Proofs.YtlkbeddlmbghkaaGreatDoorW.PrintWords Go.Proofs.YtlkbeddlmbghkaaGreatDoorW.PrintLast Go.Proofs.YtlkbeddlmbghkaaGreatDoorW.PrintMore Go.Proofs.YtlkbeddlmbghkaaGreatDoor.Lx
set_option linter.unusedVariables false
set_option linter.unusedSimpArgs false
set_option maxRecDepth 100000
theorem ten_of {W : World} {L : List (String × DataW Unit)} (h : laidMetH Tryz.prog L W) (hp : (L.all fun x => x.2.handleName?.isNone) = true) (hf : (L.filter fun x => x.1 == "internal/strconv.uint64pow10") = [("internal/strconv.uint64pow10", Lib.tabData .u64 Lib.pow10Tab)]) : TenAt W := by
 rw [MakeChecks.laidMetH_plain _ _ _ hp] at h
 have h := h.filter (fun x => x.1 == "internal/strconv.uint64pow10")
 rw [hf] at h
 exact Lib.tabIs_of_head (g := 2) (t := 185) (e := 172) (n := 20) (by kernel_rfl) (by kernel_rfl) (by kernel_rfl) (by kernel_rfl) (by kernel_rfl) (by kernel_rfl) h
end Go.Proofs.YtlkbeddlmbghkaaGreatDoor.PR

namespace Go.Proofs.YtlkbeddlmbghkaaGreatDoor.PR
open Go Go.Proofs Go.RowKit Go.Proofs.YtlkbeddlmbghkaaGreatDoorW.PrintWords Go.Proofs.YtlkbeddlmbghkaaGreatDoorW.PrintLast Go.Proofs.YtlkbeddlmbghkaaGreatDoorW.PrintMore Go.Proofs.YtlkbeddlmbghkaaGreatDoor.Lx
set_option linter.unusedVariables false
set_option linter.unusedSimpArgs false
set_option maxRecDepth 100000
theorem plain_walk (x : StepT) (A : Option Addr) (c : Nat) (k : Int) (hkr : In64 k) (w : World) (hL : laidMetH Tryz.prog Rows.scriptPlainRow.laid w) (hc : x.f3.f3.length ≤ c) (hA : Kd.C k93 w A x.f3.f3.length x.f3.f3) (hi : InS x) :
  Calls Tryz.prog 6 #[.agg #[.int .i64 x.f0, .int .i64 x.f1, .int .i64 x.f2, .int .i64 x.f3.f0, .string x.f3.f1, .string x.f3.f2, .slice A x.f3.f3.length c, .string x.f3.f4, .string x.f3.f5, .bool x.f3.f6, .int .i64 x.f3.f7, .int .i64 x.f3.f8, .int .i64 x.f3.f9, .int .i64 x.f3.f10], .int .i64 k] w fun e w' => e = .returned (.bool true) ∧ Below w.heap.size w w' := by
 obtain ⟨hk, h3⟩ := kat_of hL (by kernel_rfl) (by kernel_rfl)
 have hT := ten_of hL (by kernel_rfl) (by kernel_rfl)
 exact plain_law x A c k hkr w hT hk h3 hA hc hi
end Go.Proofs.YtlkbeddlmbghkaaGreatDoor.PR
