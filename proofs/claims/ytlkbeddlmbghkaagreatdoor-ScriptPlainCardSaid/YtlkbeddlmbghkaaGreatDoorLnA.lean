/- script.Line, where what is done is any: what is told. -/
import Derived.Test.YtlkbeddlmbghkaaGreatDoorPl
import Derived.Test.YtlkbeddlmbghkaaGreatDoorWca
import Derived.Test.YtlkbeddlmbghkaaGreatDoorScD
import Derived.Test.YtlkbeddlmbghkaaGreatDoorScP
import Derived.Test.YtlkbeddlmbghkaaGreatDoorScM
namespace Go.Proofs.YtlkbeddlmbghkaaGreatDoor.PR
open Go Go.Proofs Go.RowKit Go.Proofs.YtlkbeddlmbghkaaGreatDoorW.PrintWords Go.Proofs.YtlkbeddlmbghkaaGreatDoorW.PrintLast Go.Proofs.YtlkbeddlmbghkaaGreatDoorW.PrintMore Go.Proofs.YtlkbeddlmbghkaaGreatDoor.Lx
attribute [local go_sem] Wd.one Wd.run_store
set_option linter.unusedVariables false
set_option linter.unusedSimpArgs false
set_option maxRecDepth 100000

theorem kells14 {w : World} {g : Nat} {t : TypeId} {a0 a1 a2 a3 a4 a5 a6 a7 a8 a9 a10 a11 a12 a13 : Value} (h : w.heap[g]? = some (.cells #[a0, a1, a2, a3, a4, a5, a6, a7, a8, a9, a10, a11, a12, a13] t (0, 0))) : w.cell? ⟨g, 0, none⟩ = some a0 ∧ w.cell? ⟨g, 1, none⟩ = some a1 ∧ w.cell? ⟨g, 2, none⟩ = some a2 ∧ w.cell? ⟨g, 3, none⟩ = some a3 ∧ w.cell? ⟨g, 4, none⟩ = some a4 ∧ w.cell? ⟨g, 5, none⟩ = some a5 ∧ w.cell? ⟨g, 6, none⟩ = some a6 ∧ w.cell? ⟨g, 7, none⟩ = some a7 ∧ w.cell? ⟨g, 8, none⟩ = some a8 ∧ w.cell? ⟨g, 9, none⟩ = some a9 ∧ w.cell? ⟨g, 10, none⟩ = some a10 ∧ w.cell? ⟨g, 11, none⟩ = some a11 ∧ w.cell? ⟨g, 12, none⟩ = some a12 ∧ w.cell? ⟨g, 13, none⟩ = some a13 :=
 ⟨(blk_cell h 0).trans rfl, (blk_cell h 1).trans rfl, (blk_cell h 2).trans rfl, (blk_cell h 3).trans rfl, (blk_cell h 4).trans rfl, (blk_cell h 5).trans rfl, (blk_cell h 6).trans rfl, (blk_cell h 7).trans rfl, (blk_cell h 8).trans rfl, (blk_cell h 9).trans rfl, (blk_cell h 10).trans rfl, (blk_cell h 11).trans rfl, (blk_cell h 12).trans rfl, (blk_cell h 13).trans rfl⟩
/-- What script.Line answers. -/
def LineP (x : StepT) (e : Ending) : Prop := (∃ t, lineT x = some t ∧ e = .returned (.tuple #[.string ⟨t.toArray⟩, .int .i64 0])) ∨ (lineT x = none ∧ e = .returned (.tuple #[.string ⟨#[]⟩, .int .i64 10]))
end Go.Proofs.YtlkbeddlmbghkaaGreatDoor.PR

namespace Go.Proofs.YtlkbeddlmbghkaaGreatDoor.PR
open Go Go.Proofs Go.RowKit Go.Proofs.YtlkbeddlmbghkaaGreatDoorW.PrintWords Go.Proofs.YtlkbeddlmbghkaaGreatDoorW.PrintLast Go.Proofs.YtlkbeddlmbghkaaGreatDoorW.PrintMore Go.Proofs.YtlkbeddlmbghkaaGreatDoor.Lx
attribute [local go_sem] Wd.one Wd.run_store
set_option linter.unusedVariables false
set_option linter.unusedSimpArgs false
set_option maxRecDepth 100000

set_option maxHeartbeats 8000000 in
theorem line0_at (x : StepT) (A : Option Addr) (c : Nat) (w : World) (hT : TenAt w) (hK : KAt w) (h3 : 0 < w.heap.size) (hc : x.f3.f3.length ≤ c) (hA : Kd.C k93 w A x.f3.f3.length x.f3.f3) (hs : Short x) (hi : InS x) (hd : x.f0 < 1 ∨ 4 < x.f0) :
  Calls Tryz.prog 24 #[.agg (stepV x (.slice A x.f3.f3.length c))] w fun e w' => Below w.heap.size w w' ∧ LineP x e := by
 have hu58 := Tryz.underlying58
 have hu52 := Tryz.underlying52
 have hu95 := Tryz.underlying95
 have HT := Aside0.mk hT
 have HK := Aside0.mk hK
 have H3 := Aside0.mk h3
 have HCC := Aside0.mk hc
 have HA := Aside0.mk hA
 have HS := Aside0.mk hs
 have HIN := Aside0.mk hi
 have HD := Aside0.mk hd
 clear hT hK h3 hc hA hs hi hd
 go_enter Tryz.func24, Tryz.ntmps24
 go_upto_region 1 with (fail)
 have B1 := Aside0.mk (blk_new w (.cells (stepV x (.slice A x.f3.f3.length c)) 58))
 have ab1 : Below w.heap.size w (w.alloc (.cells (stepV x (.slice A x.f3.f3.length c)) 58)) := (Below.refl _ _).alloc (Nat.le_refl _) _
 have hs1 : (w.alloc (.cells (stepV x (.slice A x.f3.f3.length c)) 58)).heap.size = w.heap.size + 1 := World.size_alloc ..
 change Code.wp _ _ _ _ (w.alloc (.cells (stepV x (.slice A x.f3.f3.length c)) 58))
 obtain ⟨p, hp⟩ : ∃ p, p = w.heap.size := ⟨_, rfl⟩
 rw [← hp] at B1 hs1 ⊢
 have HP := Aside0.mk hp
 have HB1 := Aside0.mk ab1
 generalize (w.alloc (.cells (stepV x (.slice A x.f3.f3.length c)) 58)) = w1 at *
 have HS1 := Aside0.mk hs1
 clear ab1 hp hs1
 go_upto_region 2 with (fail)
 have ab2 : Below w1.heap.size w1 (w1.alloc (.cells #[.slice none 0 0] 95)) := (Below.refl _ _).alloc (Nat.le_refl _) _
 have W2 := Aside0.mk (show WrAt w1.heap.size none (w1.alloc (.cells #[.slice none 0 0] 95)) [] from ⟨_, blk_new w1 _, rfl, Kd.R_nil _ _ _ _ _⟩)
 have B2 := Aside0.mk (blk_below B1.out ab2)
 have HB2 := Aside0.mk (HB1.out.trans (ab2.mono HB1.out.size))
 change Code.wp _ _ _ _ (w1.alloc (.cells #[.slice none 0 0] 95))
 generalize (w1.alloc (.cells #[.slice none 0 0] 95)) = w2 at *
 obtain ⟨g, hg⟩ : ∃ g, g = w1.heap.size := ⟨_, rfl⟩
 rw [← hg] at W2 ⊢
 have HG : Aside0 (p < g ∧ w.heap.size ≤ g) := ⟨by have := HP.out; have := HS1.out; omega⟩
 clear ab2 hg B1 HB1 HS1
 have HL0 : Aside0 (lineT x = none) := ⟨by
  unfold lineT
  rw [if_neg]
  unfold stepN
  have := HD.out
  rw [if_neg (by omega), if_neg (by omega), if_neg (by omega), if_neg (by omega)]
  intro e; cases e⟩
 have e1 : (x.f0 == 1) = false := beq_eq_false_iff_ne.2 (by have := HD.out; omega)
 have g1 : (x.f0 = 1) = False := eq_false (by have := HD.out; omega)
 have e2 : (x.f0 == 2) = false := beq_eq_false_iff_ne.2 (by have := HD.out; omega)
 have g2 : (x.f0 = 2) = False := eq_false (by have := HD.out; omega)
 have e3 : (x.f0 == 3) = false := beq_eq_false_iff_ne.2 (by have := HD.out; omega)
 have g3 : (x.f0 = 3) = False := eq_false (by have := HD.out; omega)
 have e4 : (x.f0 == 4) = false := beq_eq_false_iff_ne.2 (by have := HD.out; omega)
 have g4 : (x.f0 = 4) = False := eq_false (by have := HD.out; omega)
 have c2_0 : w2.cell? ⟨p, 0, none⟩ = some (.int .i64 x.f0) := (blk_cell B2.out 0).trans rfl
 go_wp2_with (fail)
 go_ret2

 exact ⟨HB2.out, .inr ⟨HL0.out, rfl⟩⟩
end Go.Proofs.YtlkbeddlmbghkaaGreatDoor.PR

namespace Go.Proofs.YtlkbeddlmbghkaaGreatDoor.PR
open Go Go.Proofs Go.RowKit Go.Proofs.YtlkbeddlmbghkaaGreatDoorW.PrintWords Go.Proofs.YtlkbeddlmbghkaaGreatDoorW.PrintLast Go.Proofs.YtlkbeddlmbghkaaGreatDoorW.PrintMore Go.Proofs.YtlkbeddlmbghkaaGreatDoor.Lx
attribute [local go_sem] Wd.one Wd.run_store
set_option linter.unusedVariables false
set_option linter.unusedSimpArgs false
set_option maxRecDepth 100000

set_option maxHeartbeats 8000000 in
theorem line3_at (x : StepT) (A : Option Addr) (c : Nat) (w : World) (hT : TenAt w) (hK : KAt w) (h3 : 0 < w.heap.size) (hc : x.f3.f3.length ≤ c) (hA : Kd.C k93 w A x.f3.f3.length x.f3.f3) (hs : Short x) (hi : InS x) (hd : x.f0 = 3) :
  Calls Tryz.prog 24 #[.agg (stepV x (.slice A x.f3.f3.length c))] w fun e w' => Below w.heap.size w w' ∧ LineP x e := by
 have hu58 := Tryz.underlying58
 have hu52 := Tryz.underlying52
 have hu95 := Tryz.underlying95
 have HT := Aside0.mk hT
 have HK := Aside0.mk hK
 have H3 := Aside0.mk h3
 have HCC := Aside0.mk hc
 have HA := Aside0.mk hA
 have HS := Aside0.mk hs
 have HIN := Aside0.mk hi
 have HD := Aside0.mk hd
 clear hT hK h3 hc hA hs hi hd
 go_enter Tryz.func24, Tryz.ntmps24
 go_upto_region 1 with (fail)
 have B1 := Aside0.mk (blk_new w (.cells (stepV x (.slice A x.f3.f3.length c)) 58))
 have ab1 : Below w.heap.size w (w.alloc (.cells (stepV x (.slice A x.f3.f3.length c)) 58)) := (Below.refl _ _).alloc (Nat.le_refl _) _
 have hs1 : (w.alloc (.cells (stepV x (.slice A x.f3.f3.length c)) 58)).heap.size = w.heap.size + 1 := World.size_alloc ..
 change Code.wp _ _ _ _ (w.alloc (.cells (stepV x (.slice A x.f3.f3.length c)) 58))
 obtain ⟨p, hp⟩ : ∃ p, p = w.heap.size := ⟨_, rfl⟩
 rw [← hp] at B1 hs1 ⊢
 have HP := Aside0.mk hp
 have HB1 := Aside0.mk ab1
 generalize (w.alloc (.cells (stepV x (.slice A x.f3.f3.length c)) 58)) = w1 at *
 have HS1 := Aside0.mk hs1
 clear ab1 hp hs1
 go_upto_region 2 with (fail)
 have ab2 : Below w1.heap.size w1 (w1.alloc (.cells #[.slice none 0 0] 95)) := (Below.refl _ _).alloc (Nat.le_refl _) _
 have W2 := Aside0.mk (show WrAt w1.heap.size none (w1.alloc (.cells #[.slice none 0 0] 95)) [] from ⟨_, blk_new w1 _, rfl, Kd.R_nil _ _ _ _ _⟩)
 have B2 := Aside0.mk (blk_below B1.out ab2)
 have HB2 := Aside0.mk (HB1.out.trans (ab2.mono HB1.out.size))
 change Code.wp _ _ _ _ (w1.alloc (.cells #[.slice none 0 0] 95))
 generalize (w1.alloc (.cells #[.slice none 0 0] 95)) = w2 at *
 obtain ⟨g, hg⟩ : ∃ g, g = w1.heap.size := ⟨_, rfl⟩
 rw [← hg] at W2 ⊢
 have HG : Aside0 (p < g ∧ w.heap.size ≤ g) := ⟨by have := HP.out; have := HS1.out; omega⟩
 clear ab2 hg B1 HB1 HS1
 have c0 : w2.cell? ⟨p, 0, none⟩ = some (.int .i64 3) := (blk_cell B2.out 0).trans (by rw [← HD.out]; rfl)
 go_wp2_with (fail)
 refine (wname_at g none ⟨#[115, 116, 101, 112]⟩ [] (by simp) w2 W2.out).mono ?_
 rintro e w3 ⟨rfl, o3, hW, hF, hG⟩
 have B3 := Aside0.mk ((hF.1.block p HG.out.1).trans B2.out)
 have W3 := Aside0.mk hW
 have HB3 := Aside0.mk (HB2.out.trans (hF.1.mono HG.out.2))
 clear hW hF hG
 clear c0
 have c3_1 : w3.cell? ⟨p, 1, none⟩ = some (.int .i64 x.f1) := (blk_cell B3.out 1).trans rfl
 have c3_2 : w3.cell? ⟨p, 2, none⟩ = some (.int .i64 x.f2) := (blk_cell B3.out 2).trans rfl
 go_wp2_with (fail)
 refine (wnumber2 g o3 x.f1 x.f2 ([] ++ [.name ⟨#[115, 116, 101, 112]⟩]) (by simp only [List.length_append, List.length_cons, List.length_nil]; omega) w3 W3.out).mono ?_
 rintro e w6 ⟨rfl, o6, hW, hF, hG⟩
 have B6 := Aside0.mk ((hF.1.block p HG.out.1).trans B3.out)
 have W6 := Aside0.mk hW
 have HB6 := Aside0.mk (HB3.out.trans (hF.1.mono HG.out.2))
 clear hW hF hG
 clear c3_1 c3_2
 have HLW : Aside0 (lineW x = some ((([] ++ [Wd.name ⟨#[115, 116, 101, 112]⟩]) ++ [Wd.num x.f1, Wd.num x.f2]))) := ⟨by unfold lineW; simp [HD.out]⟩
 generalize ((([] ++ [Wd.name ⟨#[115, 116, 101, 112]⟩]) ++ [Wd.num x.f1, Wd.num x.f2])) = ws at *
 have HFW := Aside0.mk (line_fits x HS.out HIN.out ws HLW.out)
 have HST : Aside0 (stepS ws = stepN x) := ⟨by have := step_read x; rw [HLW.out] at this; exact this⟩
 obtain ⟨v, hgc, ho, hR⟩ := W6.out
 obtain ⟨Al, cl, rfl, hcl, hCl⟩ := Kd.R_reads hR
 have HWC := Aside0.mk hgc
 have HCL := Aside0.mk hcl
 have HC := Aside0.mk hCl
 have hgs := Aside0.mk (blk_lt hgc)
 clear hgc ho hR hcl hCl
 have cg : w6.cell? ⟨g, 0, none⟩ = some (.slice Al ws.length cl) := (blk_cell HWC.out 0).trans (by rw [List.length_map]; rfl)
 go_wp2_with (fail)
 have hrd := read_at Al cl ws HFW.out.1 (by have := HCL.out; rw [List.length_map] at this; exact this) w6 (by have hq := words_at HC.out; rw [show (ws.map S49.mk).map (fun b => b.f0) = ws by rw [List.map_map]; exact List.map_id _] at hq; exact hq) (HK.out.mono H3.out HB6.out) (Nat.lt_of_lt_of_le H3.out HB6.out.size)
 refine hrd.mono ?_
 clear hrd cg
 rintro e w4 ⟨hb4, ⟨y, vy, hst, rfl, hRy⟩ | ⟨hst, rfl⟩⟩
 case inr =>
  have HL0 : Aside0 (lineT x = none) := ⟨by unfold lineT; rw [if_neg]; rw [← HST.out, hst]; intro e; cases e⟩
  have HB4 := Aside0.mk (HB6.out.trans (hb4.mono HB6.out.size))
  clear hb4 hst
  unfold stepV
  go_upto_region 15 with (fail)
  have ab5 : Below w4.heap.size w4 (w4.alloc (.cells (stepV z58 (.slice none 0 0)) 58)) := (Below.refl _ _).alloc (Nat.le_refl _) _
  have HB5 := Aside0.mk (HB4.out.trans (ab5.mono HB4.out.size))
  change Code.wp _ _ _ _ (w4.alloc (.cells (stepV z58 (.slice none 0 0)) 58))
  generalize (w4.alloc (.cells (stepV z58 (.slice none 0 0)) 58)) = w5 at *
  clear ab5
  go_wp2_with (fail)
  go_ret2
  exact ⟨HB5.out, .inr ⟨HL0.out, rfl⟩⟩
 ·
  obtain ⟨Ay, cy, rfl, hcy, hCy⟩ := Kd.R_reads hRy
  have HSY := Aside0.mk (HST.out.symm.trans hst)
  have HCY := Aside0.mk hcy
  have HY := Aside0.mk hCy
  have HB4 := Aside0.mk (HB6.out.trans (hb4.mono HB6.out.size))
  have B4 := Aside0.mk (blk_below B6.out hb4)
  have WC4 := Aside0.mk (blk_below HWC.out hb4)
  have HC4 := Aside0.mk (Kd.C_below HC.out hb4)
  clear hb4 hst hcy hCy hRy
  unfold stepV
  go_upto_region 15 with (fail)
  have ab5 : Below w4.heap.size w4 (w4.alloc (.cells (stepV y (.slice Ay y.f3.f3.length cy)) 58)) := (Below.refl _ _).alloc (Nat.le_refl _) _
  have HB5 := Aside0.mk (HB4.out.trans (ab5.mono HB4.out.size))
  have B5 := Aside0.mk (blk_below B4.out ab5)
  have WC5 := Aside0.mk (blk_below WC4.out ab5)
  have HC5 := Aside0.mk (Kd.C_below HC4.out ab5)
  have HY5 := Aside0.mk (Kd.C_below HY.out ab5)
  have Y5 := Aside0.mk (blk_new w4 (.cells (stepV y (.slice Ay y.f3.f3.length cy)) 58))
  change Code.wp _ _ _ _ (w4.alloc (.cells (stepV y (.slice Ay y.f3.f3.length cy)) 58))
  generalize (w4.alloc (.cells (stepV y (.slice Ay y.f3.f3.length cy)) 58)) = w5 at *
  clear ab5 B4 WC4 HC4 HY HB4
  have x0 : w5.cell? ⟨p, 0, none⟩ = some (.int .i64 x.f0) := (blk_cell B5.out 0).trans rfl
  have x1 : w5.cell? ⟨p, 1, none⟩ = some (.int .i64 x.f1) := (blk_cell B5.out 1).trans rfl
  have x2 : w5.cell? ⟨p, 2, none⟩ = some (.int .i64 x.f2) := (blk_cell B5.out 2).trans rfl
  have x3 : w5.cell? ⟨p, 3, none⟩ = some (.int .i64 x.f3.f0) := (blk_cell B5.out 3).trans rfl
  have x4 : w5.cell? ⟨p, 4, none⟩ = some (.string x.f3.f1) := (blk_cell B5.out 4).trans rfl
  have x5 : w5.cell? ⟨p, 5, none⟩ = some (.string x.f3.f2) := (blk_cell B5.out 5).trans rfl
  have x6 : w5.cell? ⟨p, 6, none⟩ = some (.slice A x.f3.f3.length c) := (blk_cell B5.out 6).trans rfl
  have x7 : w5.cell? ⟨p, 7, none⟩ = some (.string x.f3.f4) := (blk_cell B5.out 7).trans rfl
  have x8 : w5.cell? ⟨p, 8, none⟩ = some (.string x.f3.f5) := (blk_cell B5.out 8).trans rfl
  have x9 : w5.cell? ⟨p, 9, none⟩ = some (.bool x.f3.f6) := (blk_cell B5.out 9).trans rfl
  have x10 : w5.cell? ⟨p, 10, none⟩ = some (.int .i64 x.f3.f7) := (blk_cell B5.out 10).trans rfl
  have x11 : w5.cell? ⟨p, 11, none⟩ = some (.int .i64 x.f3.f8) := (blk_cell B5.out 11).trans rfl
  have x12 : w5.cell? ⟨p, 12, none⟩ = some (.int .i64 x.f3.f9) := (blk_cell B5.out 12).trans rfl
  have x13 : w5.cell? ⟨p, 13, none⟩ = some (.int .i64 x.f3.f10) := (blk_cell B5.out 13).trans rfl
  have y0 : w5.cell? ⟨w4.heap.size, 0, none⟩ = some (.int .i64 y.f0) := (blk_cell Y5.out 0).trans rfl
  have y1 : w5.cell? ⟨w4.heap.size, 1, none⟩ = some (.int .i64 y.f1) := (blk_cell Y5.out 1).trans rfl
  have y2 : w5.cell? ⟨w4.heap.size, 2, none⟩ = some (.int .i64 y.f2) := (blk_cell Y5.out 2).trans rfl
  have y3 : w5.cell? ⟨w4.heap.size, 3, none⟩ = some (.int .i64 y.f3.f0) := (blk_cell Y5.out 3).trans rfl
  have y4 : w5.cell? ⟨w4.heap.size, 4, none⟩ = some (.string y.f3.f1) := (blk_cell Y5.out 4).trans rfl
  have y5 : w5.cell? ⟨w4.heap.size, 5, none⟩ = some (.string y.f3.f2) := (blk_cell Y5.out 5).trans rfl
  have y6 : w5.cell? ⟨w4.heap.size, 6, none⟩ = some (.slice Ay y.f3.f3.length cy) := (blk_cell Y5.out 6).trans rfl
  have y7 : w5.cell? ⟨w4.heap.size, 7, none⟩ = some (.string y.f3.f4) := (blk_cell Y5.out 7).trans rfl
  have y8 : w5.cell? ⟨w4.heap.size, 8, none⟩ = some (.string y.f3.f5) := (blk_cell Y5.out 8).trans rfl
  have y9 : w5.cell? ⟨w4.heap.size, 9, none⟩ = some (.bool y.f3.f6) := (blk_cell Y5.out 9).trans rfl
  have y10 : w5.cell? ⟨w4.heap.size, 10, none⟩ = some (.int .i64 y.f3.f7) := (blk_cell Y5.out 10).trans rfl
  have y11 : w5.cell? ⟨w4.heap.size, 11, none⟩ = some (.int .i64 y.f3.f8) := (blk_cell Y5.out 11).trans rfl
  have y12 : w5.cell? ⟨w4.heap.size, 12, none⟩ = some (.int .i64 y.f3.f9) := (blk_cell Y5.out 12).trans rfl
  have y13 : w5.cell? ⟨w4.heap.size, 13, none⟩ = some (.int .i64 y.f3.f10) := (blk_cell Y5.out 13).trans rfl
  go_wp2_with (fail)
  refine (same_at x y A Ay c cy w5 (Kd.C_below HA.out HB5.out) HY5.out HCC.out HCY.out (by have := HS.out.1; omega)).mono ?_
  rintro e w6 ⟨b, rfl, hbi, hb6⟩
  clear x0 x1 x2 x3 x4 x5 x6 x7 x8 x9 x10 x11 x12 x13 y0 y1 y2 y3 y4 y5 y6 y7 y8 y9 y10 y11 y12 y13
  have HB6 := Aside0.mk (HB5.out.trans (hb6.mono HB5.out.size))
  cases b with
  | false =>
   have HL0 : Aside0 (lineT x = none) := ⟨by unfold lineT; rw [if_neg]; rw [HSY.out]; intro e; have := hbi.2 (Option.some.inj e).symm; cases this⟩
   clear hbi hb6
   go_wp2_with (fail)
   go_ret2
   exact ⟨HB6.out, .inr ⟨HL0.out, rfl⟩⟩
  | true =>
   have HXY := Aside0.mk (hbi.1 rfl)
   have WC6 := Aside0.mk (blk_below WC5.out hb6)
   have HC6 := Aside0.mk (Kd.C_below HC5.out hb6)
   clear hbi hb6
   have HLT : Aside0 (lineT x = (showW ws).map (Lib.join · [32])) := ⟨by unfold lineT; rw [if_pos (HSY.out.trans (by rw [← HXY.out])), HLW.out, Option.bind_some]⟩
   have cg6 : w6.cell? ⟨g, 0, none⟩ = some (.slice Al ws.length cl) := (blk_cell WC6.out 0).trans (by rw [List.length_map]; rfl)
   go_wp2_with (fail)
   have hMM : (ws.map S49.mk).map (fun b => b.f0) = ws := by rw [List.map_map]; exact List.map_id _
   have hsa := show_at Al cl (ws.map S49.mk) (by rw [hMM]; exact HFW.out) HCL.out w6 (HT.out.mono HB6.out) HC6.out
   rw [hMM, List.length_map] at hsa
   refine hsa.mono ?_
   clear hsa hMM cg6
   rintro e w7 ⟨hb7, ⟨toks, hsh, rfl⟩ | ⟨hsh, rfl⟩⟩
   case inl =>
    have HR1 : Aside0 (lineT x = some (Lib.join toks [32])) := ⟨by rw [HLT.out, hsh]; rfl⟩
    have HB7 := Aside0.mk (HB6.out.trans (hb7.mono HB6.out.size))
    clear hb7 hsh
    generalize Lib.join toks [32] = T at *
    go_wp2_with (fail)
    go_ret2
    exact ⟨HB7.out, .inl ⟨T, HR1.out, rfl⟩⟩
   case inr =>
    have HR1 : Aside0 (lineT x = none) := ⟨by rw [HLT.out, hsh]; rfl⟩
    have HB7 := Aside0.mk (HB6.out.trans (hb7.mono HB6.out.size))
    clear hb7 hsh
    go_wp2_with (fail)
    go_ret2
    exact ⟨HB7.out, .inr ⟨HR1.out, rfl⟩⟩
end Go.Proofs.YtlkbeddlmbghkaaGreatDoor.PR

namespace Go.Proofs.YtlkbeddlmbghkaaGreatDoor.PR
open Go Go.Proofs Go.RowKit Go.Proofs.YtlkbeddlmbghkaaGreatDoorW.PrintWords Go.Proofs.YtlkbeddlmbghkaaGreatDoorW.PrintLast Go.Proofs.YtlkbeddlmbghkaaGreatDoorW.PrintMore Go.Proofs.YtlkbeddlmbghkaaGreatDoor.Lx
attribute [local go_sem] Wd.one Wd.run_store
set_option linter.unusedVariables false
set_option linter.unusedSimpArgs false
set_option maxRecDepth 100000

set_option maxHeartbeats 8000000 in
theorem line4_at (x : StepT) (A : Option Addr) (c : Nat) (w : World) (hT : TenAt w) (hK : KAt w) (h3 : 0 < w.heap.size) (hc : x.f3.f3.length ≤ c) (hA : Kd.C k93 w A x.f3.f3.length x.f3.f3) (hs : Short x) (hi : InS x) (hd : x.f0 = 4) :
  Calls Tryz.prog 24 #[.agg (stepV x (.slice A x.f3.f3.length c))] w fun e w' => Below w.heap.size w w' ∧ LineP x e := by
 have hu58 := Tryz.underlying58
 have hu52 := Tryz.underlying52
 have hu95 := Tryz.underlying95
 have HT := Aside0.mk hT
 have HK := Aside0.mk hK
 have H3 := Aside0.mk h3
 have HCC := Aside0.mk hc
 have HA := Aside0.mk hA
 have HS := Aside0.mk hs
 have HIN := Aside0.mk hi
 have HD := Aside0.mk hd
 clear hT hK h3 hc hA hs hi hd
 go_enter Tryz.func24, Tryz.ntmps24
 go_upto_region 1 with (fail)
 have B1 := Aside0.mk (blk_new w (.cells (stepV x (.slice A x.f3.f3.length c)) 58))
 have ab1 : Below w.heap.size w (w.alloc (.cells (stepV x (.slice A x.f3.f3.length c)) 58)) := (Below.refl _ _).alloc (Nat.le_refl _) _
 have hs1 : (w.alloc (.cells (stepV x (.slice A x.f3.f3.length c)) 58)).heap.size = w.heap.size + 1 := World.size_alloc ..
 change Code.wp _ _ _ _ (w.alloc (.cells (stepV x (.slice A x.f3.f3.length c)) 58))
 obtain ⟨p, hp⟩ : ∃ p, p = w.heap.size := ⟨_, rfl⟩
 rw [← hp] at B1 hs1 ⊢
 have HP := Aside0.mk hp
 have HB1 := Aside0.mk ab1
 generalize (w.alloc (.cells (stepV x (.slice A x.f3.f3.length c)) 58)) = w1 at *
 have HS1 := Aside0.mk hs1
 clear ab1 hp hs1
 go_upto_region 2 with (fail)
 have ab2 : Below w1.heap.size w1 (w1.alloc (.cells #[.slice none 0 0] 95)) := (Below.refl _ _).alloc (Nat.le_refl _) _
 have W2 := Aside0.mk (show WrAt w1.heap.size none (w1.alloc (.cells #[.slice none 0 0] 95)) [] from ⟨_, blk_new w1 _, rfl, Kd.R_nil _ _ _ _ _⟩)
 have B2 := Aside0.mk (blk_below B1.out ab2)
 have HB2 := Aside0.mk (HB1.out.trans (ab2.mono HB1.out.size))
 change Code.wp _ _ _ _ (w1.alloc (.cells #[.slice none 0 0] 95))
 generalize (w1.alloc (.cells #[.slice none 0 0] 95)) = w2 at *
 obtain ⟨g, hg⟩ : ∃ g, g = w1.heap.size := ⟨_, rfl⟩
 rw [← hg] at W2 ⊢
 have HG : Aside0 (p < g ∧ w.heap.size ≤ g) := ⟨by have := HP.out; have := HS1.out; omega⟩
 clear ab2 hg B1 HB1 HS1
 have c0 : w2.cell? ⟨p, 0, none⟩ = some (.int .i64 4) := (blk_cell B2.out 0).trans (by rw [← HD.out]; rfl)
 go_wp2_with (fail)
 refine (wname_at g none ⟨#[97, 108, 108]⟩ [] (by simp) w2 W2.out).mono ?_
 rintro e w6 ⟨rfl, o6, hW, hF, hG⟩
 have B6 := Aside0.mk ((hF.1.block p HG.out.1).trans B2.out)
 have W6 := Aside0.mk hW
 have HB6 := Aside0.mk (HB2.out.trans (hF.1.mono HG.out.2))
 clear hW hF hG
 clear c0
 have HLW : Aside0 (lineW x = some (([] ++ [Wd.name ⟨#[97, 108, 108]⟩]))) := ⟨by unfold lineW; simp [HD.out]⟩
 generalize (([] ++ [Wd.name ⟨#[97, 108, 108]⟩])) = ws at *
 have HFW := Aside0.mk (line_fits x HS.out HIN.out ws HLW.out)
 have HST : Aside0 (stepS ws = stepN x) := ⟨by have := step_read x; rw [HLW.out] at this; exact this⟩
 obtain ⟨v, hgc, ho, hR⟩ := W6.out
 obtain ⟨Al, cl, rfl, hcl, hCl⟩ := Kd.R_reads hR
 have HWC := Aside0.mk hgc
 have HCL := Aside0.mk hcl
 have HC := Aside0.mk hCl
 have hgs := Aside0.mk (blk_lt hgc)
 clear hgc ho hR hcl hCl
 have cg : w6.cell? ⟨g, 0, none⟩ = some (.slice Al ws.length cl) := (blk_cell HWC.out 0).trans (by rw [List.length_map]; rfl)
 go_wp2_with (fail)
 have hrd := read_at Al cl ws HFW.out.1 (by have := HCL.out; rw [List.length_map] at this; exact this) w6 (by have hq := words_at HC.out; rw [show (ws.map S49.mk).map (fun b => b.f0) = ws by rw [List.map_map]; exact List.map_id _] at hq; exact hq) (HK.out.mono H3.out HB6.out) (Nat.lt_of_lt_of_le H3.out HB6.out.size)
 refine hrd.mono ?_
 clear hrd cg
 rintro e w4 ⟨hb4, ⟨y, vy, hst, rfl, hRy⟩ | ⟨hst, rfl⟩⟩
 case inr =>
  have HL0 : Aside0 (lineT x = none) := ⟨by unfold lineT; rw [if_neg]; rw [← HST.out, hst]; intro e; cases e⟩
  have HB4 := Aside0.mk (HB6.out.trans (hb4.mono HB6.out.size))
  clear hb4 hst
  unfold stepV
  go_upto_region 15 with (fail)
  have ab5 : Below w4.heap.size w4 (w4.alloc (.cells (stepV z58 (.slice none 0 0)) 58)) := (Below.refl _ _).alloc (Nat.le_refl _) _
  have HB5 := Aside0.mk (HB4.out.trans (ab5.mono HB4.out.size))
  change Code.wp _ _ _ _ (w4.alloc (.cells (stepV z58 (.slice none 0 0)) 58))
  generalize (w4.alloc (.cells (stepV z58 (.slice none 0 0)) 58)) = w5 at *
  clear ab5
  go_wp2_with (fail)
  go_ret2
  exact ⟨HB5.out, .inr ⟨HL0.out, rfl⟩⟩
 ·
  obtain ⟨Ay, cy, rfl, hcy, hCy⟩ := Kd.R_reads hRy
  have HSY := Aside0.mk (HST.out.symm.trans hst)
  have HCY := Aside0.mk hcy
  have HY := Aside0.mk hCy
  have HB4 := Aside0.mk (HB6.out.trans (hb4.mono HB6.out.size))
  have B4 := Aside0.mk (blk_below B6.out hb4)
  have WC4 := Aside0.mk (blk_below HWC.out hb4)
  have HC4 := Aside0.mk (Kd.C_below HC.out hb4)
  clear hb4 hst hcy hCy hRy
  unfold stepV
  go_upto_region 15 with (fail)
  have ab5 : Below w4.heap.size w4 (w4.alloc (.cells (stepV y (.slice Ay y.f3.f3.length cy)) 58)) := (Below.refl _ _).alloc (Nat.le_refl _) _
  have HB5 := Aside0.mk (HB4.out.trans (ab5.mono HB4.out.size))
  have B5 := Aside0.mk (blk_below B4.out ab5)
  have WC5 := Aside0.mk (blk_below WC4.out ab5)
  have HC5 := Aside0.mk (Kd.C_below HC4.out ab5)
  have HY5 := Aside0.mk (Kd.C_below HY.out ab5)
  have Y5 := Aside0.mk (blk_new w4 (.cells (stepV y (.slice Ay y.f3.f3.length cy)) 58))
  change Code.wp _ _ _ _ (w4.alloc (.cells (stepV y (.slice Ay y.f3.f3.length cy)) 58))
  generalize (w4.alloc (.cells (stepV y (.slice Ay y.f3.f3.length cy)) 58)) = w5 at *
  clear ab5 B4 WC4 HC4 HY HB4
  obtain ⟨x0, x1, x2, x3, x4, x5, x6, x7, x8, x9, x10, x11, x12, x13⟩ := kells14 B5.out
  obtain ⟨y0, y1, y2, y3, y4, y5, y6, y7, y8, y9, y10, y11, y12, y13⟩ := kells14 Y5.out
  go_wp2_with (fail)
  refine (same_at x y A Ay c cy w5 (Kd.C_below HA.out HB5.out) HY5.out HCC.out HCY.out (by have := HS.out.1; omega)).mono ?_
  rintro e w6 ⟨b, rfl, hbi, hb6⟩
  clear x0 x1 x2 x3 x4 x5 x6 x7 x8 x9 x10 x11 x12 x13 y0 y1 y2 y3 y4 y5 y6 y7 y8 y9 y10 y11 y12 y13
  have HB6 := Aside0.mk (HB5.out.trans (hb6.mono HB5.out.size))
  cases b with
  | false =>
   have HL0 : Aside0 (lineT x = none) := ⟨by unfold lineT; rw [if_neg]; rw [HSY.out]; intro e; have := hbi.2 (Option.some.inj e).symm; cases this⟩
   clear hbi hb6
   go_wp2_with (fail)
   go_ret2
   exact ⟨HB6.out, .inr ⟨HL0.out, rfl⟩⟩
  | true =>
   have HXY := Aside0.mk (hbi.1 rfl)
   have WC6 := Aside0.mk (blk_below WC5.out hb6)
   have HC6 := Aside0.mk (Kd.C_below HC5.out hb6)
   clear hbi hb6
   have HLT : Aside0 (lineT x = (showW ws).map (Lib.join · [32])) := ⟨by unfold lineT; rw [if_pos (HSY.out.trans (by rw [← HXY.out])), HLW.out, Option.bind_some]⟩
   have cg6 : w6.cell? ⟨g, 0, none⟩ = some (.slice Al ws.length cl) := (blk_cell WC6.out 0).trans (by rw [List.length_map]; rfl)
   go_wp2_with (fail)
   have hMM : (ws.map S49.mk).map (fun b => b.f0) = ws := by rw [List.map_map]; exact List.map_id _
   have hsa := show_at Al cl (ws.map S49.mk) (by rw [hMM]; exact HFW.out) HCL.out w6 (HT.out.mono HB6.out) HC6.out
   rw [hMM, List.length_map] at hsa
   refine hsa.mono ?_
   clear hsa hMM cg6
   rintro e w7 ⟨hb7, ⟨toks, hsh, rfl⟩ | ⟨hsh, rfl⟩⟩
   case inl =>
    have HR1 : Aside0 (lineT x = some (Lib.join toks [32])) := ⟨by rw [HLT.out, hsh]; rfl⟩
    have HB7 := Aside0.mk (HB6.out.trans (hb7.mono HB6.out.size))
    clear hb7 hsh
    generalize Lib.join toks [32] = T at *
    go_wp2_with (fail)
    go_ret2
    exact ⟨HB7.out, .inl ⟨T, HR1.out, rfl⟩⟩
   case inr =>
    have HR1 : Aside0 (lineT x = none) := ⟨by rw [HLT.out, hsh]; rfl⟩
    have HB7 := Aside0.mk (HB6.out.trans (hb7.mono HB6.out.size))
    clear hb7 hsh
    go_wp2_with (fail)
    go_ret2
    exact ⟨HB7.out, .inr ⟨HR1.out, rfl⟩⟩
end Go.Proofs.YtlkbeddlmbghkaaGreatDoor.PR
