/- The walk of ModelParts. -/
import Derived.Test.YtgnnhomipfjanaaPMx4
import Derived.Test.YtgnnhomipfjanaaPMx5
import Derived.Test.YtgnnhomipfjanaaPMx8
import Derived.Test.YtgnnhomipfjanaaPMx10
import Derived.Test.YtgnnhomipfjanaaMAdd
import Derived.Test.YtgnnhomipfjanaaPMx1
import Derived.Deep.RegionHeld3
import Derived.Deep.QuietTactic
import Derived.BigQuiet
namespace Go.Proofs.Ytgnnhomipfjanaa.PM
open Go Go.Proofs Go.RowKit Go.Proofs.YtgnnhomipfjanaaW.PrintWords Go.Proofs.YtgnnhomipfjanaaW.PrintLast Go.Proofs.YtgnnhomipfjanaaW.PrintMore
set_option linter.unusedVariables false
set_option linter.unusedSimpArgs false
attribute [local go_sem high] eqA74

set_option maxHeartbeats 8000000 in
set_option maxRecDepth 100000 in
theorem parts_walk (K : Nat) (A0 : Option Addr) (c0 : Nat) (l0 : List S78) (a1 : Int) (at2 : ByteArray) (w : World)
    (hr0 : Kd.C k78 w A0 l0.length l0) (hc0 : l0.length ≤ c0) (hsz : at2.size ≤ 10000)
    (haw : rundlelaw24_awake.f = some true) (hlg : rundlelaw24_long.f K l0 = some false) (ms : List S112) (rs : List S109) (hlay : rundlelaw24_lay.f K l0 = some (ms, rs, true))
    (hcut : key_Cut.f (⟨#[]⟩) (⟨#[]⟩) true at2 = some (⟨#[]⟩, at2, false, at2, ⟨#[]⟩, true))
    (xs ys zs : List S74) (hx : model_Scan.f K ms a1 ⟨#[]⟩ at2 false 100000 = some xs) (hy : model_Scan.f K ms a1 at2 ⟨#[]⟩ true 100000 = some ys) (hz : model_Scan.f K ms a1 ⟨#[]⟩ ⟨#[]⟩ true 100000 = some zs)
    (hzs : zs = xs ++ ys) (hln : zs.length < 1000000000000) (hg : ∀ p ∈ zs, model_Get.f ms a1 p.f0 = some (p.f1, true)) :
    Calls Try.prog 10 #[.slice A0 l0.length c0, .int .i64 a1, .string at2] w fun e w' => e = .returned (.bool true) ∧ Below w.heap.size w w' := by
  have HR0 := Aside0.mk hr0
  have HC0 := Aside0.mk hc0
  have SZ := Aside0.mk hsz
  have AW := Aside0.mk haw
  have LG := Aside0.mk hlg
  have LY := Aside0.mk hlay
  have CT := Aside0.mk hcut
  have SX := Aside0.mk hx
  have SY := Aside0.mk hy
  have SZ2 := Aside0.mk hz
  have ZS := Aside0.mk hzs
  have LN := Aside0.mk hln
  have HG := Aside0.mk hg
  have b1 : decide ((10000 : Int) < (at2.size : Int)) = false := decide_eq_false (by omega)
  have b2 : ((10000 : Int) < (at2.size : Int)) = False := eq_false (by omega)
  have b3 : (10000 < at2.size) = False := eq_false (by omega)
  clear hr0 hc0 hsz haw hlg hlay hcut hx hy hz hzs hln hg
  have hu57 := Try.underlying57
  have hu44 := Try.underlying44
  have hu74 := Try.underlying74
  go_enter Try.func10, Try.ntmps10
  go_upto_region 3 with (first
    | (go_at_call 26; with_reducible refine (rundlelaw24_awake.calls true _ AW.out).mono ?_; rintro e w1 ⟨rfl, hb⟩; have HB1 := Aside0.mk hb; clear hb)
    | (go_at_call 27; with_reducible refine (rundlelaw24_long.calls K A0 c0 l0 false _ ?s1 HC0.out LG.out).mono ?_; (case s1 => exact Kd.C_below HR0.out HB1.out); rintro e w2 ⟨rfl, hb⟩; have HB2 := Aside0.mk hb; clear hb))
  have HBw := Aside0.mk (HB1.out.trans (HB2.out.mono HB1.out.size))
  clear HB1 HB2
  go_cut [7, 8, 9] (fun v7 v8 v9 wc => ∃ (g7 : Nat) (Am : Option Addr) (cm : Nat), v7 = .pointer (some ⟨g7, 0, none⟩) ∧ v9 = .bool true ∧ Aside0 (Below w.heap.size w wc) ∧ Aside0 (wc.heap[g7]? = some (.cells #[.slice Am ms.length cm] 57 (0, 0))) ∧ Aside0 (Kd.F k112 wc (fun k => w.heap.size ≤ k ∧ k < g7) Am ms.length ms) ∧ Aside0 (ms.length ≤ cm) ∧ Aside0 (w.heap.size ≤ g7))
  case first =>
    as_aux_lemma =>
      go_wp2_with (go_at_call 28; with_reducible refine (rundlelaw24_lay.calls K A0 c0 l0 ms rs true _ ?s1 HC0.out LY.out).mono ?_; (case s1 => exact Kd.C_below HR0.out HBw.out); rintro e w3 ⟨v3, v3', rfl, ho, ho', hb⟩; obtain ⟨Am, cm, rfl⟩ := Kd.N_slice ho; have HO := Aside0.mk ho; have HB3 := Aside0.mk hb; clear hb ho ho')
      have hs2 := HBw.out.size
      have hn := Kd.N_reads' HO.out
      go_meet
      case rel =>
        exact ⟨w3.heap.size, Am, cm, rfl, rfl, ⟨(HBw.out.trans (HB3.out.mono hs2)).alloc (by have := HB3.out.size; omega) _⟩, ⟨blk_new _ _⟩, ⟨Kd.F_alloc (Kd.F_mono (Kd.F_bound (Kd.N_F HO.out)) (fun k hk => ⟨by have := hk.1.1; omega, hk.2⟩)) _⟩, ⟨hn.2.1⟩, ⟨by have := HB3.out.size; omega⟩⟩
  case rest =>
    obtain ⟨g7, Am, cm, rfl, rfl, HB, B7, HM, HCM, H7⟩ := hcut
    clear HBw
    go_upto_region 6 with (fail)
    go_cut [10, 11] (fun v10 v11 wx => ∃ (g10 g11 : Nat), v10 = .pointer (some ⟨g10, 0, none⟩) ∧ v11 = .pointer (some ⟨g11, 0, none⟩) ∧ Aside0 (Below wc.heap.size wc wx) ∧ Aside0 (wx.heap[g10]? = some (.cells #[.string ⟨#[]⟩, .string at2, .bool false] 44 (0, 0))) ∧ Aside0 (wx.heap[g11]? = some (.cells #[.string at2, .string ⟨#[]⟩, .bool true] 44 (0, 0))))
    case first =>
      as_aux_lemma =>
        go_wp2_with (first
          | (go_at_call 35; with_reducible refine (key_Whole.calls ⟨#[]⟩ ⟨#[]⟩ true _ rfl).mono ?_; rintro e w4 ⟨rfl, hb⟩; have HB4 := Aside0.mk hb; clear hb)
          | (go_at_call 38; with_reducible refine (key_Cut.calls ⟨#[]⟩ ⟨#[]⟩ true at2 ⟨#[]⟩ at2 false at2 ⟨#[]⟩ true _ CT.out).mono ?_; rintro e w5 ⟨rfl, hb⟩; have HB5 := Aside0.mk hb; clear hb))
        have h4 := HB4.out.size
        have h5 := HB5.out.size
        go_meet
        case rel =>
          refine ⟨w5.heap.size, w5.heap.size + 1, rfl, rfl, ⟨(((HB4.out.trans (HB5.out.mono h4)).alloc (by omega) _).alloc (by simp only [World.size_alloc]; omega) _)⟩, ⟨?_⟩, ⟨?_⟩⟩
          · exact blk_alloc (blk_new _ _) _
          · have := blk_new (w5.alloc (.cells #[.string ⟨#[]⟩, .string at2, .bool false] 44)) (.cells #[.string at2, .string ⟨#[]⟩, .bool true] 44); rw [World.size_alloc] at this; exact this
    case rest =>
      obtain ⟨g10, g11, rfl, rfl, HBc, B10, B11⟩ := hcut
      have HM' := Aside0.mk (Kd.F_now (Kd.F_below HM.out HBc.out))
      have B7' := Aside0.mk (blk_below B7.out HBc.out)
      have HB' := Aside0.mk (HB.out.trans (HBc.out.mono HB.out.size))
      clear HM B7 HB HBc
      have l7 := blk_lt B7'.out
      have l10 := blk_lt B10.out
      have l11 := blk_lt B11.out
      have q0 : wc.cell? ⟨g7, 0, none⟩ = some (.slice Am ms.length cm) := (blk_cell B7'.out 0).trans rfl
      have q1 : wc.cell? ⟨g10, 0, none⟩ = some (.string ⟨#[]⟩) := (blk_cell B10.out 0).trans rfl
      have q2 : wc.cell? ⟨g10, 1, none⟩ = some (.string at2) := (blk_cell B10.out 1).trans rfl
      have q3 : wc.cell? ⟨g10, 2, none⟩ = some (.bool false) := (blk_cell B10.out 2).trans rfl
      have q4 : wc.cell? ⟨g11, 0, none⟩ = some (.string at2) := (blk_cell B11.out 0).trans rfl
      have q5 : wc.cell? ⟨g11, 1, none⟩ = some (.string ⟨#[]⟩) := (blk_cell B11.out 1).trans rfl
      have q6 : wc.cell? ⟨g11, 2, none⟩ = some (.bool true) := (blk_cell B11.out 2).trans rfl
      go_upto_region 7 with (fail)
      go_cut [12, 13] (fun v12 v13 wx => ∃ (Ax Ay : Option Addr) (cx cy : Nat), v12 = .slice Ax xs.length cx ∧ v13 = .slice Ay ys.length cy ∧ Aside0 (Below wc.heap.size wc wx) ∧ Aside0 (Kd.C k74 wx Ax xs.length xs) ∧ Aside0 (Kd.C k74 wx Ay ys.length ys) ∧ Aside0 (xs.length ≤ cx) ∧ Aside0 (ys.length ≤ cy))
      case first =>
        go_region_held3 (fun w' => w'.cell? ⟨g7, 0, none⟩ = some (.slice Am ms.length cm) ∧ w'.cell? ⟨g10, 0, none⟩ = some (.string ⟨#[]⟩) ∧ w'.cell? ⟨g10, 1, none⟩ = some (.string at2) ∧ w'.cell? ⟨g10, 2, none⟩ = some (.bool false) ∧ w'.cell? ⟨g11, 0, none⟩ = some (.string at2) ∧ w'.cell? ⟨g11, 1, none⟩ = some (.string ⟨#[]⟩) ∧ w'.cell? ⟨g11, 2, none⟩ = some (.bool true)) (go_keep) ((first
          | (go_at_call 33; with_reducible refine (model_Scan.calls K Am cm ms a1 ⟨#[]⟩ at2 false 100000 xs _ ?s1 HCM.out SX.out).mono ?_; (case s1 => exact Kd.C_below HM'.out (by first | exact Below.refl _ _ | exact below_drew1 (Below.refl _ _))); rintro e wx1 ⟨vx, rfl, ho, hb⟩; obtain ⟨Ax, cx, rfl⟩ := Kd.R_slice ho; have HBx : Aside0 (Below wc.heap.size wc wx1) := ⟨below_step (by first | exact (Below.refl _ _) | exact below_drew1 (Below.refl _ _)) hb⟩; have HRx := Aside0.mk (Kd.R_reads' ho); have HBsx := Aside0.mk hb; clear ho hb; have k0x : wx1.cell? ⟨g7, 0, none⟩ = some (.slice Am ms.length cm) := (HBx.out.cell (p := ⟨g7, 0, none⟩) (by show g7 < _; omega)).trans q0; have k1x : wx1.cell? ⟨g10, 0, none⟩ = some (.string ⟨#[]⟩) := (HBx.out.cell (p := ⟨g10, 0, none⟩) (by show g10 < _; omega)).trans q1; have k2x : wx1.cell? ⟨g10, 1, none⟩ = some (.string at2) := (HBx.out.cell (p := ⟨g10, 1, none⟩) (by show g10 < _; omega)).trans q2; have k3x : wx1.cell? ⟨g10, 2, none⟩ = some (.bool false) := (HBx.out.cell (p := ⟨g10, 2, none⟩) (by show g10 < _; omega)).trans q3; have k4x : wx1.cell? ⟨g11, 0, none⟩ = some (.string at2) := (HBx.out.cell (p := ⟨g11, 0, none⟩) (by show g11 < _; omega)).trans q4; have k5x : wx1.cell? ⟨g11, 1, none⟩ = some (.string ⟨#[]⟩) := (HBx.out.cell (p := ⟨g11, 1, none⟩) (by show g11 < _; omega)).trans q5; have k6x : wx1.cell? ⟨g11, 2, none⟩ = some (.bool true) := (HBx.out.cell (p := ⟨g11, 2, none⟩) (by show g11 < _; omega)).trans q6)
          | (go_at_call 33; with_reducible refine (model_Scan.calls K Am cm ms a1 at2 ⟨#[]⟩ true 100000 ys _ ?s1 HCM.out SY.out).mono ?_; (case s1 => exact Kd.C_below HM'.out (by first | exact HBx.out | exact below_drew1 HBx.out)); rintro e wy2 ⟨vy, rfl, ho, hb⟩; obtain ⟨Ay, cy, rfl⟩ := Kd.R_slice ho; have HBy : Aside0 (Below wc.heap.size wc wy2) := ⟨below_step (by first | exact HBx.out | exact below_drew1 HBx.out) hb⟩; have HRy := Aside0.mk (Kd.R_reads' ho); have HBsy := Aside0.mk hb; clear ho hb; have k0y : wy2.cell? ⟨g7, 0, none⟩ = some (.slice Am ms.length cm) := (HBy.out.cell (p := ⟨g7, 0, none⟩) (by show g7 < _; omega)).trans q0; have k1y : wy2.cell? ⟨g10, 0, none⟩ = some (.string ⟨#[]⟩) := (HBy.out.cell (p := ⟨g10, 0, none⟩) (by show g10 < _; omega)).trans q1; have k2y : wy2.cell? ⟨g10, 1, none⟩ = some (.string at2) := (HBy.out.cell (p := ⟨g10, 1, none⟩) (by show g10 < _; omega)).trans q2; have k3y : wy2.cell? ⟨g10, 2, none⟩ = some (.bool false) := (HBy.out.cell (p := ⟨g10, 2, none⟩) (by show g10 < _; omega)).trans q3; have k4y : wy2.cell? ⟨g11, 0, none⟩ = some (.string at2) := (HBy.out.cell (p := ⟨g11, 0, none⟩) (by show g11 < _; omega)).trans q4; have k5y : wy2.cell? ⟨g11, 1, none⟩ = some (.string ⟨#[]⟩) := (HBy.out.cell (p := ⟨g11, 1, none⟩) (by show g11 < _; omega)).trans q5; have k6y : wy2.cell? ⟨g11, 2, none⟩ = some (.bool true) := (HBy.out.cell (p := ⟨g11, 2, none⟩) (by show g11 < _; omega)).trans q6)
          | (go_at_call 33; with_reducible refine (model_Scan.calls K Am cm ms a1 at2 ⟨#[]⟩ true 100000 ys _ ?s1 HCM.out SY.out).mono ?_; (case s1 => exact Kd.C_below HM'.out (by first | exact Below.refl _ _ | exact below_drew1 (Below.refl _ _))); rintro e wy1 ⟨vy, rfl, ho, hb⟩; obtain ⟨Ay, cy, rfl⟩ := Kd.R_slice ho; have HBy : Aside0 (Below wc.heap.size wc wy1) := ⟨below_step (by first | exact (Below.refl _ _) | exact below_drew1 (Below.refl _ _)) hb⟩; have HRy := Aside0.mk (Kd.R_reads' ho); have HBsy := Aside0.mk hb; clear ho hb; have k0y : wy1.cell? ⟨g7, 0, none⟩ = some (.slice Am ms.length cm) := (HBy.out.cell (p := ⟨g7, 0, none⟩) (by show g7 < _; omega)).trans q0; have k1y : wy1.cell? ⟨g10, 0, none⟩ = some (.string ⟨#[]⟩) := (HBy.out.cell (p := ⟨g10, 0, none⟩) (by show g10 < _; omega)).trans q1; have k2y : wy1.cell? ⟨g10, 1, none⟩ = some (.string at2) := (HBy.out.cell (p := ⟨g10, 1, none⟩) (by show g10 < _; omega)).trans q2; have k3y : wy1.cell? ⟨g10, 2, none⟩ = some (.bool false) := (HBy.out.cell (p := ⟨g10, 2, none⟩) (by show g10 < _; omega)).trans q3; have k4y : wy1.cell? ⟨g11, 0, none⟩ = some (.string at2) := (HBy.out.cell (p := ⟨g11, 0, none⟩) (by show g11 < _; omega)).trans q4; have k5y : wy1.cell? ⟨g11, 1, none⟩ = some (.string ⟨#[]⟩) := (HBy.out.cell (p := ⟨g11, 1, none⟩) (by show g11 < _; omega)).trans q5; have k6y : wy1.cell? ⟨g11, 2, none⟩ = some (.bool true) := (HBy.out.cell (p := ⟨g11, 2, none⟩) (by show g11 < _; omega)).trans q6)
          | (go_at_call 33; with_reducible refine (model_Scan.calls K Am cm ms a1 ⟨#[]⟩ at2 false 100000 xs _ ?s1 HCM.out SX.out).mono ?_; (case s1 => exact Kd.C_below HM'.out (by first | exact HBy.out | exact below_drew1 HBy.out)); rintro e wx2 ⟨vx, rfl, ho, hb⟩; obtain ⟨Ax, cx, rfl⟩ := Kd.R_slice ho; have HBx : Aside0 (Below wc.heap.size wc wx2) := ⟨below_step (by first | exact HBy.out | exact below_drew1 HBy.out) hb⟩; have HRx := Aside0.mk (Kd.R_reads' ho); have HBsx := Aside0.mk hb; clear ho hb; have k0x : wx2.cell? ⟨g7, 0, none⟩ = some (.slice Am ms.length cm) := (HBx.out.cell (p := ⟨g7, 0, none⟩) (by show g7 < _; omega)).trans q0; have k1x : wx2.cell? ⟨g10, 0, none⟩ = some (.string ⟨#[]⟩) := (HBx.out.cell (p := ⟨g10, 0, none⟩) (by show g10 < _; omega)).trans q1; have k2x : wx2.cell? ⟨g10, 1, none⟩ = some (.string at2) := (HBx.out.cell (p := ⟨g10, 1, none⟩) (by show g10 < _; omega)).trans q2; have k3x : wx2.cell? ⟨g10, 2, none⟩ = some (.bool false) := (HBx.out.cell (p := ⟨g10, 2, none⟩) (by show g10 < _; omega)).trans q3; have k4x : wx2.cell? ⟨g11, 0, none⟩ = some (.string at2) := (HBx.out.cell (p := ⟨g11, 0, none⟩) (by show g11 < _; omega)).trans q4; have k5x : wx2.cell? ⟨g11, 1, none⟩ = some (.string ⟨#[]⟩) := (HBx.out.cell (p := ⟨g11, 1, none⟩) (by show g11 < _; omega)).trans q5; have k6x : wx2.cell? ⟨g11, 2, none⟩ = some (.bool true) := (HBx.out.cell (p := ⟨g11, 2, none⟩) (by show g11 < _; omega)).trans q6)))
        all_goals go_wp2
        all_goals go_meet
        case rel =>
          exact ⟨Ax, Ay, cx, cy, rfl, rfl, HBy, ⟨Kd.C_below HRx.out.2.2 (by first | exact HBsy.out | exact HBsy.out.drew)⟩, ⟨HRy.out.2.2⟩, ⟨HRx.out.2.1⟩, ⟨HRy.out.2.1⟩⟩
      case rest =>
        obtain ⟨Ax, Ay, cx, cy, rfl, rfl, HB8, CX, CY, LX, LY⟩ := hcut
        have HM'' := Aside0.mk (Kd.C_below HM'.out HB8.out)
        have B7'' := Aside0.mk (blk_below B7'.out HB8.out)
        have HB'' := Aside0.mk (HB'.out.trans (HB8.out.mono HB'.out.size))
        clear HM' B7' HB' HB8 B10 B11 l7 l10 l11 q0 q1 q2 q3 q4 q5 q6
        have l7 := blk_lt B7''.out
        have q0 : wc.cell? ⟨g7, 0, none⟩ = some (.slice Am ms.length cm) := (blk_cell B7''.out 0).trans rfl
        go_upto_region 8 with (fail)
        go_cut [14] (fun v14 wx => ∃ (Az : Option Addr) (cz : Nat), v14 = .slice Az zs.length cz ∧ Aside0 (Below wc.heap.size wc wx) ∧ Aside0 (Kd.C k74 wx Az zs.length zs) ∧ Aside0 (zs.length ≤ cz))
        case first =>
          go_region_held3 (fun w' => w'.cell? ⟨g7, 0, none⟩ = some (.slice Am ms.length cm)) (go_keep) ((first
            | (go_at_call 35; with_reducible refine (key_Whole.calls ⟨#[]⟩ ⟨#[]⟩ true _ rfl).mono ?_; rintro e w4 ⟨rfl, hb⟩; have HB4 : Aside0 (Below wc.heap.size wc w4) := ⟨below_step (by first | exact (Below.refl _ _) | exact below_drew1 (Below.refl _ _)) hb⟩; clear hb; have k4 : w4.cell? ⟨g7, 0, none⟩ = some (.slice Am ms.length cm) := (HB4.out.cell (p := ⟨g7, 0, none⟩) (by show g7 < _; omega)).trans q0)
            | (go_at_call 33; with_reducible refine (model_Scan.calls K Am cm ms a1 ⟨#[]⟩ ⟨#[]⟩ true 100000 zs _ ?s1 HCM.out SZ2.out).mono ?_; (case s1 => exact Kd.C_below HM''.out (by first | exact HB4.out | exact below_drew1 HB4.out)); rintro e w5 ⟨v5, rfl, ho, hb⟩; obtain ⟨Az, cz, rfl⟩ := Kd.R_slice ho; have HB5 : Aside0 (Below wc.heap.size wc w5) := ⟨below_step (by first | exact HB4.out | exact below_drew1 HB4.out) hb⟩; have HRz := Aside0.mk (Kd.R_reads' ho); clear ho hb; have k5 : w5.cell? ⟨g7, 0, none⟩ = some (.slice Am ms.length cm) := (HB5.out.cell (p := ⟨g7, 0, none⟩) (by show g7 < _; omega)).trans q0)))
          all_goals go_wp2
          all_goals go_meet
          case rel =>
            exact ⟨Az, cz, rfl, HB5, ⟨HRz.out.2.2⟩, ⟨HRz.out.2.1⟩⟩
        case rest =>
          obtain ⟨Az, cz, rfl, HB9, CZ, LZ⟩ := hcut
          have HM3 := Aside0.mk (Kd.C_below HM''.out HB9.out)
          have B73 := Aside0.mk (blk_below B7''.out HB9.out)
          have HB3 := Aside0.mk (HB''.out.trans (HB9.out.mono HB''.out.size))
          have CX3 := Aside0.mk (Kd.C_below CX.out HB9.out)
          have CY3 := Aside0.mk (Kd.C_below CY.out HB9.out)
          clear HM'' B7'' HB'' HB9 CX CY l7 q0
          obtain ⟨n, hn⟩ : ∃ n, n = zs.length := ⟨_, rfl⟩
          have ex : xs.length + ys.length = n := by rw [hn, ZS.out, List.length_append]
          have e9 : IntKind.i64.wrap ((xs.length : Int) + (ys.length : Int)) = (n : Int) := by have := LN.out; rw [i64_w]; unfold wrap64; omega
          have HN := Aside0.mk hn
          have EX := Aside0.mk ex
          clear ex
          have e8 : (zs.length : Int) = (n : Int) := by rw [hn]
          clear hn
          go_upto_region 11 with (fail)
          clear e9 e8
          go_wp2_with (fail)
          rename World => wl
          go_loopg [15] (zs.length) (fun kq v15 w' => ∃ (i : Nat), v15 = .int .i64 (i : Int) ∧ Aside0 (i + kq = n) ∧ Aside0 (Below wl.heap.size wl w'))
          case atStart => exact ⟨0, rfl, ⟨by have := HN.out; omega⟩, ⟨Below.refl _ _⟩⟩
          case round =>
            obtain ⟨i, rfl, HI, HBl⟩ := hrel
            by_cases hi : i < n
            ·
              have hiz : i < zs.length := by have := HN.out; omega
              obtain ⟨k2, rfl⟩ : ∃ k2, gk = k2 + 1 := ⟨gk - 1, by have := HI.out; omega⟩
              have d1 : ((i : Int) < (zs.length : Int)) = True := eq_true (by omega)
              have d2 : decide ((i : Int) < (zs.length : Int)) = true := decide_eq_true (by omega)
              have d3 : (i < zs.length) = True := eq_true hiz
              obtain ⟨i1, hi1⟩ : ∃ i1, i1 = i + 1 := ⟨_, rfl⟩
              have e10 : IntKind.i64.wrap ((i : Int) + 1) = (i1 : Int) := by have := LN.out; rw [i64_w]; unfold wrap64; omega
              have I1 := Aside0.mk hi1
              clear hi1
              obtain ⟨⟨Z0, Z1⟩, hZ⟩ : ∃ Z, zs[i] = Z := ⟨_, rfl⟩
              have GT := Aside0.mk (show model_Get.f ms a1 Z0 = some (Z1, true) by have := HG.out zs[i] (List.getElem_mem hiz); rw [hZ] at this; exact this)
              have ZE := Aside0.mk hZ
              clear hZ
              go_upto_region 14 with (fail)
              go_cut [16] (fun v16 wx => ∃ (g16 : Nat), v16 = .pointer (some ⟨g16, 0, none⟩) ∧ Aside0 (Below wr.heap.size wr wx) ∧ Aside0 (wx.heap[g16]? = some (.cells #[.string ⟨#[]⟩, .string ⟨#[]⟩] 74 (0, 0))) ∧ Aside0 (wr.heap.size ≤ g16))
              case first =>
                go_wp2_with (fail)
                go_meet
                case rel => exact ⟨wr.heap.size, rfl, ⟨below_alloc (Below.refl _ _) _⟩, ⟨blk_new _ _⟩, ⟨Nat.le_refl _⟩⟩
              case rest =>
                obtain ⟨g16, rfl, HBa, B16, H16⟩ := hcut
                have HBx := Aside0.mk (HBl.out.trans (HBa.out.mono HBl.out.size))
                have CXr := Aside0.mk (Kd.C_below CX3.out HBx.out)
                have CYr := Aside0.mk (Kd.C_below CY3.out HBx.out)
                have CZr := Aside0.mk (Kd.C_below CZ.out HBx.out)
                have h16l := blk_lt B16.out
                have r0 : wc.cell? ⟨g16, 0, none⟩ = some (.string ⟨#[]⟩) := (blk_cell B16.out 0).trans rfl
                have r1 : wc.cell? ⟨g16, 1, none⟩ = some (.string ⟨#[]⟩) := (blk_cell B16.out 1).trans rfl
                have r2 : wc.frozen? ⟨g16, 0, none⟩ = false := blk_frozen B16.out 0
                have r3 : wc.frozen? ⟨g16, 1, none⟩ = false := blk_frozen B16.out 1
                go_upto_if 75 with (fail)
                go_cut [16] (fun v16 wx => v16 = .pointer (some ⟨g16, 0, none⟩) ∧ Aside0 (Below wl.heap.size wl wx) ∧ Aside0 (wx.heap[g16]? = some (.cells #[.string Z0, .string Z1] 74 (0, 0))))
                case first =>
                  by_cases hx : i < xs.length
                  · have f1 : ((i : Int) < (xs.length : Int)) = True := eq_true (by omega)
                    have f2 : decide ((i : Int) < (xs.length : Int)) = true := decide_eq_true (by omega)
                    have f3 : (i < xs.length) = True := eq_true hx
                    obtain ⟨ax, eax, hx0, hx1⟩ := at_T74 CXr.out (i : Int) (by omega) (by omega)
                    subst eax
                    rw [show rd_T74 xs (i : Int) = ⟨Z0, Z1⟩ by rw [← ZE.out]; have e := ZS.out; subst e; unfold rd_T74; simp [hx, List.getElem_append_left hx]] at hx0 hx1
                    simp only [Int.toNat_natCast] at hx0 hx1
                    go_wp2_with (fail)
                    go_meet
                    case rel => exact ⟨rfl, ⟨(HBx.out.setCell (show wl.heap.size ≤ g16 by have := HBl.out.size; have := H16.out; omega) _).setCell (show wl.heap.size ≤ g16 by have := HBl.out.size; have := H16.out; omega) _⟩, ⟨blk_put (cs := #[.string Z0, .string ⟨#[]⟩]) (blk_put (cs := #[.string ⟨#[]⟩, .string ⟨#[]⟩]) B16.out 0 _ rfl) 1 _ rfl⟩⟩
                  · have f1 : ((i : Int) < (xs.length : Int)) = False := eq_false (by omega)
                    have f2 : decide ((i : Int) < (xs.length : Int)) = false := decide_eq_false (by omega)
                    have f3 : (i < xs.length) = False := eq_false hx
                    obtain ⟨j, hj⟩ : ∃ j, j = i - xs.length := ⟨_, rfl⟩
                    have hjy : j < ys.length := by have := EX.out; omega
                    have e11 : IntKind.i64.wrap ((i : Int) - (xs.length : Int)) = (j : Int) := by have := LN.out; rw [i64_w]; unfold wrap64; omega
                    have hrd : rd_T74 ys (j : Int) = ⟨Z0, Z1⟩ := by rw [← ZE.out]; have e := ZS.out; subst e; subst hj; unfold rd_T74; simp [hjy, List.getElem_append_right (Nat.le_of_not_lt hx)]
                    have RD := Aside0.mk hrd
                    have g1 : ((j : Int) < (ys.length : Int)) = True := eq_true (by omega)
                    have g3 : (j < ys.length) = True := eq_true hjy
                    clear hj hrd
                    obtain ⟨ay, eay, hx0, hx1⟩ := at_T74 CYr.out (j : Int) (by omega) (by omega)
                    subst eay
                    rw [RD.out] at hx0 hx1
                    simp only [Int.toNat_natCast] at hx0 hx1
                    go_wp2_with (fail)
                    go_meet
                    case rel => exact ⟨rfl, ⟨(HBx.out.setCell (show wl.heap.size ≤ g16 by have := HBl.out.size; have := H16.out; omega) _).setCell (show wl.heap.size ≤ g16 by have := HBl.out.size; have := H16.out; omega) _⟩, ⟨blk_put (cs := #[.string Z0, .string ⟨#[]⟩]) (blk_put (cs := #[.string ⟨#[]⟩, .string ⟨#[]⟩]) B16.out 0 _ rfl) 1 _ rfl⟩⟩
                case rest =>
                  obtain ⟨rfl, HBy, B16y⟩ := hcut
                  clear HBx CXr CYr CZr HBa B16 h16l r0 r1 r2 r3
                  have HMr := Aside0.mk (Kd.C_below HM3.out HBy.out)
                  have B7r := Aside0.mk (blk_below B73.out HBy.out)
                  have CZr := Aside0.mk (Kd.C_below CZ.out HBy.out)
                  have q7 : wc.cell? ⟨g7, 0, none⟩ = some (.slice Am ms.length cm) := (blk_cell B7r.out 0).trans rfl
                  have l7 := blk_lt B7r.out
                  obtain ⟨az, eaz, hz0, hz1⟩ := at_T74 CZr.out (i : Int) (by omega) (by omega)
                  subst eaz
                  rw [show rd_T74 zs (i : Int) = ⟨Z0, Z1⟩ by rw [← ZE.out]; unfold rd_T74; simp [hiz]] at hz0 hz1
                  simp only [Int.toNat_natCast] at hz0 hz1
                  go_upto_region 18 with (fail)
                  go_cut [17, 18] (fun v17 v18 wx => v17 = .string Z1 ∧ v18 = .bool true ∧ Aside0 (Below wc.heap.size wc wx))
                  case first =>
                    go_region_held3 (fun w' => w'.cell? ⟨g7, 0, none⟩ = some (.slice Am ms.length cm) ∧ w'.cell? (az.add (i * 2)) = some (.string Z0)) (go_keep) ((first
                      | (go_at_call 29; with_reducible refine (model_Get.calls Am cm ms a1 Z0 Z1 true _ ?s1 HCM.out GT.out).mono ?_; (case s1 => exact Kd.C_below HMr.out (by first | exact Below.refl _ _ | exact below_drew1 (Below.refl _ _))); rintro e w5 ⟨rfl, hb⟩; have HB5 : Aside0 (Below wc.heap.size wc w5) := ⟨below_step (by first | exact (Below.refl _ _) | exact below_drew1 (Below.refl _ _)) hb⟩; clear hb; have k5 : w5.cell? ⟨g7, 0, none⟩ = some (.slice Am ms.length cm) := (HB5.out.cell (p := ⟨g7, 0, none⟩) (by show g7 < _; omega)).trans q7; have k6 : w5.cell? (az.add (i * 2)) = some (.string Z0) := (HB5.out.cell (World.block_lt_of_cell? wc _ hz0)).trans hz0)))
                    all_goals go_wp2
                    all_goals go_meet
                    case rel => exact ⟨rfl, rfl, HB5⟩
                  case rest =>
                    obtain ⟨rfl, rfl, HBz⟩ := hcut
                    have HBw := Aside0.mk (HBy.out.trans (HBz.out.mono HBy.out.size))
                    have B16z := Aside0.mk (blk_below B16y.out HBz.out)
                    have CZz := Aside0.mk (Kd.C_below CZr.out HBz.out)
                    obtain ⟨az', eaz, hy0, hy1⟩ := at_T74 CZz.out (i : Int) (by omega) (by omega)
                    injection eaz with eaz
                    subst eaz
                    rw [show rd_T74 zs (i : Int) = ⟨Z0, Z1⟩ by rw [← ZE.out]; unfold rd_T74; simp [hiz]] at hy0 hy1
                    simp only [Int.toNat_natCast] at hy0 hy1
                    have r0 : wc.cell? ⟨g16, 0, none⟩ = some (.string Z0) := (blk_cell B16z.out 0).trans rfl
                    have r1 : wc.cell? ⟨g16, 1, none⟩ = some (.string Z1) := (blk_cell B16z.out 1).trans rfl
                    clear hz0 hz1 q7 l7 B7r HMr CZr HBy HBz B16y
                    go_upto_region 19 with (fail)
                    go_cut [116] (fun v116 wx => v116 = .bool false ∧ Aside0 (Below wl.heap.size wl wx))
                    case first =>
                      go_quiet (fail)
                      go_wp2
                      go_meet
                      case rel => exact ⟨rfl, ⟨pw_below_drewN HBw.out _⟩⟩
                    case rest =>
                      obtain ⟨rfl, HBe⟩ := hcut
                      go_wp2_with (fail)
                      go_roundg k2
                      case measure => omega
                      case rel => exact ⟨i1, rfl, ⟨by have := I1.out; have := HI.out; omega⟩, HBe⟩
            ·
              have d1 : ((i : Int) < (zs.length : Int)) = False := eq_false (by have := HN.out; omega)
              have d2 : decide ((i : Int) < (zs.length : Int)) = false := decide_eq_false (by have := HN.out; omega)
              have d3 : (i < zs.length) = False := eq_false (by have := HN.out; omega)
              go_wp2_with (fail)
              go_ret
              exact ⟨rfl, HB3.out.trans (HBl.out.mono HB3.out.size)⟩
end Go.Proofs.Ytgnnhomipfjanaa.PM
