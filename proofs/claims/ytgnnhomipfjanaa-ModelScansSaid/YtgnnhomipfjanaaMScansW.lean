/- The walk of ModelScans. -/
import Derived.Test.YtgnnhomipfjanaaPMx4
import Derived.Test.YtgnnhomipfjanaaMRefScan
import Derived.Test.YtgnnhomipfjanaaMAdd
import Derived.Deep.RegionHeld3
import Derived.Deep.QuietTactic
import Derived.BigQuiet
namespace Go.Proofs.Ytgnnhomipfjanaa.PM
open Go Go.Proofs Go.RowKit Go.Proofs.YtgnnhomipfjanaaW.PrintWords Go.Proofs.YtgnnhomipfjanaaW.PrintLast Go.Proofs.YtgnnhomipfjanaaW.PrintMore
set_option linter.unusedVariables false
set_option linter.unusedSimpArgs false

set_option maxHeartbeats 8000000 in
set_option maxRecDepth 100000 in
theorem scans_walk (K : Nat) (A0 : Option Addr) (c0 : Nat) (l0 : List S78) (a1 : Int) (lo hi : ByteArray) (all : Bool) (lim : Int) (w : World)
    (hr0 : Kd.C k78 w A0 l0.length l0) (hc0 : l0.length ≤ c0)
    (haw : rundlelaw24_awake.f = some true) (hlg : rundlelaw24_long.f K l0 = some false) (ms : List S112) (ws : List S109) (hlay : rundlelaw24_lay.f K l0 = some (ms, ws, true))
    (ks rks : List ByteArray) (ps : List S74) (hk : model_Keys.f ms a1 = some ks) (hk2 : rundleref24_Keys.f K ws a1 = some ks) (hp : model_Scan.f K ms a1 lo hi all lim = some ps)
    (hrk : rundleref19_Keys.f K ws = some rks) (hrl : rks.length < 1000000000000) (g : ByteArray → ByteArray × Int) (hg : ∀ k ∈ rks, rundleref19_Get.f K ws a1 k = some (g k)) (hps : refL g lo hi all lim rks [] = ps)
    (hkl : ks.length < 1000000000000) (hpl : ps.length < 1000000000000) :
    Calls Try.prog 8 #[.slice A0 l0.length c0, .int .i64 a1, .agg #[.string lo, .string hi, .bool all], .int .i64 lim] w fun e w' => e = .returned (.bool true) ∧ Below w.heap.size w w' := by
  have HR0 := Aside0.mk hr0
  have HC0 := Aside0.mk hc0
  have AW := Aside0.mk haw
  have LG := Aside0.mk hlg
  have LY := Aside0.mk hlay
  have MK := Aside0.mk hk
  have RK := Aside0.mk hk2
  have SP := Aside0.mk hp
  have RR := Aside0.mk hrk
  have RL := Aside0.mk hrl
  have HG := Aside0.mk hg
  have PS := Aside0.mk hps
  have KL := Aside0.mk hkl
  have PL := Aside0.mk hpl
  clear hr0 hc0 haw hlg hlay hk hk2 hp hrk hrl hg hps hkl hpl
  have hu57 := Try.underlying57
  have hu44 := Try.underlying44
  have hu74 := Try.underlying74
  have HB0 := Aside0.mk (below_alloc (Below.refl w.heap.size w) (.cells #[.string lo, .string hi, .bool all] 44))
  go_enter Try.func8, Try.ntmps8
  go_upto_region 3 with (first
    | (go_at_call 26; with_reducible refine (rundlelaw24_awake.calls true _ AW.out).mono ?_; rintro e w1 ⟨rfl, hb⟩; have HB1 := Aside0.mk hb; clear hb)
    | (go_at_call 27; with_reducible refine (rundlelaw24_long.calls K A0 c0 l0 false _ ?s1 HC0.out LG.out).mono ?_; (case s1 => exact Kd.C_below HR0.out (HB0.out.trans (HB1.out.mono (by simp [World.size_alloc])))); rintro e w2 ⟨rfl, hb⟩; have HB2 := Aside0.mk hb; clear hb))
  have HBw := Aside0.mk (HB0.out.trans ((HB1.out.mono (by simp [World.size_alloc])).trans (HB2.out.mono (by have := HB1.out.size; simp only [World.size_alloc] at this; omega))))
  have B62 := Aside0.mk (blk_below (blk_below (blk_new w (.cells #[.string lo, .string hi, .bool all] 44)) HB1.out) HB2.out)
  clear HB0 HB1 HB2
  go_cut [9, 10, 11] (fun v9 v10 v11 wc => ∃ (g9 : Nat) (Am Aw : Option Addr) (cm cw : Nat), v9 = .pointer (some ⟨g9, 0, none⟩) ∧ v10 = .slice Aw ws.length cw ∧ v11 = .bool true ∧ Aside0 (Below w.heap.size w wc) ∧ Aside0 (wc.heap[w.heap.size]? = some (.cells #[.string lo, .string hi, .bool all] 44 (0, 0))) ∧ Aside0 (wc.heap[g9]? = some (.cells #[.slice Am ms.length cm] 57 (0, 0))) ∧ Aside0 (Kd.C k112 wc Am ms.length ms) ∧ Aside0 (ms.length ≤ cm) ∧ Aside0 (Kd.C k109 wc Aw ws.length ws) ∧ Aside0 (ws.length ≤ cw))
  case first =>
    as_aux_lemma =>
      go_wp2_with (go_at_call 28; with_reducible refine (rundlelaw24_lay.calls K A0 c0 l0 ms ws true _ ?s1 HC0.out LY.out).mono ?_; (case s1 => exact Kd.C_below HR0.out HBw.out); rintro e w3 ⟨v3, v3', rfl, ho, ho', hb⟩; obtain ⟨Am, cm, rfl⟩ := Kd.N_slice ho; obtain ⟨Aw, cw, rfl⟩ := Kd.R_slice ho'; have HO := Aside0.mk ho; have HO' := Aside0.mk ho'; have HB3 := Aside0.mk hb; clear hb ho ho')
      have hs2 := HBw.out.size
      have hn := Kd.N_reads' HO.out
      have hn' := Kd.R_reads' HO'.out
      go_meet
      case rel =>
        exact ⟨w3.heap.size, Am, Aw, cm, cw, rfl, rfl, rfl, ⟨(HBw.out.trans (HB3.out.mono hs2)).alloc (by have := HB3.out.size; omega) _⟩, ⟨blk_alloc (blk_below B62.out HB3.out) _⟩, ⟨blk_new _ _⟩, ⟨Kd.C_alloc hn.2.2 _⟩, ⟨hn.2.1⟩, ⟨Kd.C_alloc hn'.2.2 _⟩, ⟨hn'.2.1⟩⟩
  case rest =>
    obtain ⟨g9, Am, Aw, cm, cw, rfl, rfl, rfl, HB, B6, B9, HM, HCM, HW, HCW⟩ := hcut
    clear HBw B62
    have q9 : wc.cell? ⟨g9, 0, none⟩ = some (.slice Am ms.length cm) := (blk_cell B9.out 0).trans rfl
    go_upto_region 6 with (fail)
    go_cut [12, 13] (fun v12 v13 wx => ∃ (Ax Ay : Option Addr) (cx cy : Nat), v12 = .slice Ax ks.length cx ∧ v13 = .slice Ay ks.length cy ∧ Aside0 (Below wc.heap.size wc wx) ∧ Aside0 (Kd.C Kd.string wx Ax ks.length ks) ∧ Aside0 (Kd.C Kd.string wx Ay ks.length ks))
    case first =>
      as_aux_lemma =>
        go_wp2_with (first
          | (go_at_call 31; with_reducible refine (model_Keys.calls Am cm ms a1 ks _ HM.out HCM.out MK.out).mono ?_; rintro e w4 ⟨v4, rfl, ho, hb⟩; obtain ⟨Ax, cx, rfl⟩ := Kd.R_slice ho; have HX := Aside0.mk (Kd.R_reads' ho); have HB4 := Aside0.mk hb; clear ho hb)
          | (go_at_call 32; with_reducible refine (rundleref24_Keys.calls K Aw cw ws a1 ks _ ?s1 HCW.out RK.out).mono ?_; (case s1 => exact Kd.C_below HW.out HB4.out); rintro e w5 ⟨v5, rfl, ho, hb⟩; obtain ⟨Ay, cy, rfl⟩ := Kd.R_slice ho; have HY := Aside0.mk (Kd.R_reads' ho); have HB5 := Aside0.mk hb; clear ho hb))
        go_meet
        case rel => exact ⟨Ax, Ay, cx, cy, rfl, rfl, ⟨HB4.out.trans (HB5.out.mono HB4.out.size)⟩, ⟨Kd.C_below HX.out.2.2 HB5.out⟩, ⟨HY.out.2.2⟩⟩
    case rest =>
      obtain ⟨Ax, Ay, cx, cy, rfl, rfl, HB6, CX, CY⟩ := hcut
      have HM' := Aside0.mk (Kd.C_below HM.out HB6.out)
      have HW' := Aside0.mk (Kd.C_below HW.out HB6.out)
      have B6' := Aside0.mk (blk_below B6.out HB6.out)
      have B9' := Aside0.mk (blk_below B9.out HB6.out)
      have HB' := Aside0.mk (HB.out.trans (HB6.out.mono HB.out.size))
      clear HM HW B6 B9 HB HB6 q9
      have l6 := blk_lt B6'.out
      have l9 := blk_lt B9'.out
      have q0 : wc.cell? ⟨g9, 0, none⟩ = some (.slice Am ms.length cm) := (blk_cell B9'.out 0).trans rfl
      have q1 : wc.cell? ⟨w.heap.size, 0, none⟩ = some (.string lo) := (blk_cell B6'.out 0).trans rfl
      have q2 : wc.cell? ⟨w.heap.size, 1, none⟩ = some (.string hi) := (blk_cell B6'.out 1).trans rfl
      have q3 : wc.cell? ⟨w.heap.size, 2, none⟩ = some (.bool all) := (blk_cell B6'.out 2).trans rfl
      go_upto_region 7 with (fail)
      go_cut [14, 15] (fun v14 v15 wx => ∃ (Ap Aq : Option Addr) (cp cq : Nat), v14 = .slice Ap ps.length cp ∧ v15 = .slice Aq ps.length cq ∧ Aside0 (Below wc.heap.size wc wx) ∧ Aside0 (Kd.C k74 wx Ap ps.length ps) ∧ Aside0 (Kd.C k74 wx Aq ps.length ps))
      case first =>
        go_region_held3 (fun w' => w'.cell? ⟨g9, 0, none⟩ = some (.slice Am ms.length cm) ∧ w'.cell? ⟨w.heap.size, 0, none⟩ = some (.string lo) ∧ w'.cell? ⟨w.heap.size, 1, none⟩ = some (.string hi) ∧ w'.cell? ⟨w.heap.size, 2, none⟩ = some (.bool all)) (go_keep) ((first
          | (go_at_call 33; with_reducible refine (model_Scan.calls K Am cm ms a1 lo hi all lim ps _ ?s1 HCM.out SP.out).mono ?_; (case s1 => exact Kd.C_below HM'.out (by first | exact Below.refl _ _ | exact below_drew1 (Below.refl _ _))); rintro e wx ⟨vx, rfl, ho, hb⟩; obtain ⟨Ap, cp, rfl⟩ := Kd.R_slice ho; have HBf : Aside0 (Below wc.heap.size wc wx) := ⟨below_step (by first | exact (Below.refl _ _) | exact below_drew1 (Below.refl _ _)) hb⟩; have HRp := Aside0.mk (Kd.R_reads' ho); clear ho hb; have k0p : wx.cell? ⟨g9, 0, none⟩ = some (.slice Am ms.length cm) := (HBf.out.cell (p := ⟨g9, 0, none⟩) (by show g9 < _; omega)).trans q0; have k1p : wx.cell? ⟨w.heap.size, 0, none⟩ = some (.string lo) := (HBf.out.cell (p := ⟨w.heap.size, 0, none⟩) (by show w.heap.size < _; omega)).trans q1; have k2p : wx.cell? ⟨w.heap.size, 1, none⟩ = some (.string hi) := (HBf.out.cell (p := ⟨w.heap.size, 1, none⟩) (by show w.heap.size < _; omega)).trans q2; have k3p : wx.cell? ⟨w.heap.size, 2, none⟩ = some (.bool all) := (HBf.out.cell (p := ⟨w.heap.size, 2, none⟩) (by show w.heap.size < _; omega)).trans q3)
          | (go_at_call 34; with_reducible refine (refScan_walk K Aw cw ws a1 lo hi all lim _ ?s1 HCW.out rks RR.out RL.out g HG.out).mono ?_; (case s1 => exact Kd.C_below HW'.out (by first | exact HBf.out | exact below_drew1 HBf.out)); rintro e wy ⟨vy, rfl, ho, hb⟩; rw [PS.out] at ho; obtain ⟨Aq, cq, rfl⟩ := Kd.R_slice ho; have HBe : Aside0 (Below wc.heap.size wc wy) := ⟨below_step (by first | exact HBf.out | exact below_drew1 HBf.out) hb⟩; have HRq := Aside0.mk (Kd.R_reads' ho); have HBs := Aside0.mk hb; clear ho hb; have k0q : wy.cell? ⟨g9, 0, none⟩ = some (.slice Am ms.length cm) := (HBe.out.cell (p := ⟨g9, 0, none⟩) (by show g9 < _; omega)).trans q0; have k1q : wy.cell? ⟨w.heap.size, 0, none⟩ = some (.string lo) := (HBe.out.cell (p := ⟨w.heap.size, 0, none⟩) (by show w.heap.size < _; omega)).trans q1; have k2q : wy.cell? ⟨w.heap.size, 1, none⟩ = some (.string hi) := (HBe.out.cell (p := ⟨w.heap.size, 1, none⟩) (by show w.heap.size < _; omega)).trans q2; have k3q : wy.cell? ⟨w.heap.size, 2, none⟩ = some (.bool all) := (HBe.out.cell (p := ⟨w.heap.size, 2, none⟩) (by show w.heap.size < _; omega)).trans q3)
          | (go_at_call 34; with_reducible refine (refScan_walk K Aw cw ws a1 lo hi all lim _ ?s1 HCW.out rks RR.out RL.out g HG.out).mono ?_; (case s1 => exact Kd.C_below HW'.out (by first | exact Below.refl _ _ | exact below_drew1 (Below.refl _ _))); rintro e wy ⟨vy, rfl, ho, hb⟩; rw [PS.out] at ho; obtain ⟨Aq, cq, rfl⟩ := Kd.R_slice ho; have HBf : Aside0 (Below wc.heap.size wc wy) := ⟨below_step (by first | exact (Below.refl _ _) | exact below_drew1 (Below.refl _ _)) hb⟩; have HRq := Aside0.mk (Kd.R_reads' ho); clear ho hb; have k0q : wy.cell? ⟨g9, 0, none⟩ = some (.slice Am ms.length cm) := (HBf.out.cell (p := ⟨g9, 0, none⟩) (by show g9 < _; omega)).trans q0; have k1q : wy.cell? ⟨w.heap.size, 0, none⟩ = some (.string lo) := (HBf.out.cell (p := ⟨w.heap.size, 0, none⟩) (by show w.heap.size < _; omega)).trans q1; have k2q : wy.cell? ⟨w.heap.size, 1, none⟩ = some (.string hi) := (HBf.out.cell (p := ⟨w.heap.size, 1, none⟩) (by show w.heap.size < _; omega)).trans q2; have k3q : wy.cell? ⟨w.heap.size, 2, none⟩ = some (.bool all) := (HBf.out.cell (p := ⟨w.heap.size, 2, none⟩) (by show w.heap.size < _; omega)).trans q3)
          | (go_at_call 33; with_reducible refine (model_Scan.calls K Am cm ms a1 lo hi all lim ps _ ?s1 HCM.out SP.out).mono ?_; (case s1 => exact Kd.C_below HM'.out (by first | exact HBf.out | exact below_drew1 HBf.out)); rintro e wx ⟨vx, rfl, ho, hb⟩; obtain ⟨Ap, cp, rfl⟩ := Kd.R_slice ho; have HBe : Aside0 (Below wc.heap.size wc wx) := ⟨below_step (by first | exact HBf.out | exact below_drew1 HBf.out) hb⟩; have HRp := Aside0.mk (Kd.R_reads' ho); have HBs := Aside0.mk hb; clear ho hb; have k0p : wx.cell? ⟨g9, 0, none⟩ = some (.slice Am ms.length cm) := (HBe.out.cell (p := ⟨g9, 0, none⟩) (by show g9 < _; omega)).trans q0; have k1p : wx.cell? ⟨w.heap.size, 0, none⟩ = some (.string lo) := (HBe.out.cell (p := ⟨w.heap.size, 0, none⟩) (by show w.heap.size < _; omega)).trans q1; have k2p : wx.cell? ⟨w.heap.size, 1, none⟩ = some (.string hi) := (HBe.out.cell (p := ⟨w.heap.size, 1, none⟩) (by show w.heap.size < _; omega)).trans q2; have k3p : wx.cell? ⟨w.heap.size, 2, none⟩ = some (.bool all) := (HBe.out.cell (p := ⟨w.heap.size, 2, none⟩) (by show w.heap.size < _; omega)).trans q3)))
        all_goals go_wp2
        all_goals go_meet
        case rel =>
          exact ⟨Ap, Aq, cp, cq, rfl, rfl, HBe, ⟨Kd.C_below HRp.out.2.2 (by first | exact HBs.out | exact HBs.out.drew)⟩, ⟨HRq.out.2.2⟩⟩
      case rest =>
        obtain ⟨Ap, Aq, cp, cq, rfl, rfl, HB7, CP, CQ⟩ := hcut
        have HB' := Aside0.mk (HB'.out.trans (HB7.out.mono HB'.out.size))
        have CX := Aside0.mk (Kd.C_below CX.out HB7.out)
        have CY := Aside0.mk (Kd.C_below CY.out HB7.out)
        clear HM' HW' B6' B9' HB7 l6 l9 q0 q1 q2 q3
        go_upto_region 10 with (fail)
        go_wp2_with (fail)
        rename World => wl
        go_loopg [16] (ks.length) (fun kq v16 w' => ∃ (i : Nat), v16 = .int .i64 (i : Int) ∧ Aside0 (i + kq = ks.length) ∧ Aside0 (Below wl.heap.size wl w'))
        case atStart => exact ⟨0, rfl, ⟨Nat.zero_add _⟩, ⟨Below.refl _ _⟩⟩
        case round =>
          obtain ⟨i, rfl, HI, HBl⟩ := hrel
          by_cases hlt : i < ks.length
          · obtain ⟨k2, rfl⟩ : ∃ k2, gk = k2 + 1 := ⟨gk - 1, by have := HI.out; omega⟩
            have d1 : ((i : Int) < (ks.length : Int)) = True := eq_true (by omega)
            have d2 : decide ((i : Int) < (ks.length : Int)) = true := decide_eq_true (by omega)
            have d3 : (i < ks.length) = True := eq_true hlt
            obtain ⟨i1, hi1⟩ : ∃ i1, i1 = i + 1 := ⟨_, rfl⟩
            have e10 : IntKind.i64.wrap ((i : Int) + 1) = (i1 : Int) := by have := KL.out; rw [i64_w]; unfold wrap64; omega
            have I1 := Aside0.mk hi1
            clear hi1
            have CXr := Aside0.mk (Kd.C_below CX.out HBl.out)
            have CYr := Aside0.mk (Kd.C_below CY.out HBl.out)
            obtain ⟨ax, eax, hx⟩ := Kd.at_string CXr.out (i : Int) (by omega) (by omega)
            obtain ⟨ay, eay, hy⟩ := Kd.at_string CYr.out (i : Int) (by omega) (by omega)
            subst eax
            subst eay
            simp only [Int.toNat_natCast] at hx hy
            go_upto_region 13 with (fail)
            go_quiet (fail)
            go_wp2
            go_roundg k2
            case measure => omega
            case rel => exact ⟨i1, rfl, ⟨by have := I1.out; have := HI.out; omega⟩, ⟨pw_below_drewN HBl.out _⟩⟩
          · have d1 : ((i : Int) < (ks.length : Int)) = False := eq_false (by omega)
            have d2 : decide ((i : Int) < (ks.length : Int)) = false := decide_eq_false (by omega)
            have d3 : (i < ks.length) = False := eq_false hlt
            have CPr := Aside0.mk (Kd.C_below CP.out HBl.out)
            have CQr := Aside0.mk (Kd.C_below CQ.out HBl.out)
            have HBr := Aside0.mk (HB'.out.trans (HBl.out.mono HB'.out.size))
            clear HB' HBl CX CY CP CQ
            go_wp2_with (fail)
            clear d1 d2 d3 hlt HI
            rename World => wq
            go_loopg [17] (ps.length) (fun kq v17 w' => ∃ (j : Nat), v17 = .int .i64 (j : Int) ∧ Aside0 (j + kq = ps.length) ∧ Aside0 (Below wq.heap.size wq w'))
            case atStart => exact ⟨0, rfl, ⟨Nat.zero_add _⟩, ⟨Below.refl _ _⟩⟩
            case round =>
              obtain ⟨j, rfl, HJ, HBl⟩ := hrel
              by_cases hlt : j < ps.length
              · obtain ⟨k3, rfl⟩ : ∃ k2, gk = k2 + 1 := ⟨gk - 1, by have := HJ.out; omega⟩
                have d1 : ((j : Int) < (ps.length : Int)) = True := eq_true (by omega)
                have d2 : decide ((j : Int) < (ps.length : Int)) = true := decide_eq_true (by omega)
                have d3 : (j < ps.length) = True := eq_true hlt
                obtain ⟨j1, hj1⟩ : ∃ i1, i1 = j + 1 := ⟨_, rfl⟩
                have e10 : IntKind.i64.wrap ((j : Int) + 1) = (j1 : Int) := by have := PL.out; rw [i64_w]; unfold wrap64; omega
                have J1 := Aside0.mk hj1
                clear hj1
                have CPz := Aside0.mk (Kd.C_below CPr.out HBl.out)
                have CQz := Aside0.mk (Kd.C_below CQr.out HBl.out)
                obtain ⟨ap, eap, hp0, hp1⟩ := at_T74 CPz.out (j : Int) (by omega) (by omega)
                obtain ⟨aq, eaq, hq0, hq1⟩ := at_T74 CQz.out (j : Int) (by omega) (by omega)
                subst eap
                subst eaq
                simp only [Int.toNat_natCast] at hp0 hp1 hq0 hq1
                generalize rd_T74 ps (j : Int) = Z at hp0 hp1 hq0 hq1
                go_upto_region 18 with (fail)
                go_quiet (fail)
                go_wp2
                go_roundg k3
                case measure => omega
                case rel => exact ⟨j1, rfl, ⟨by have := J1.out; have := HJ.out; omega⟩, ⟨pw_below_drewN HBl.out _⟩⟩
              · have d1 : ((j : Int) < (ps.length : Int)) = False := eq_false (by omega)
                have d2 : decide ((j : Int) < (ps.length : Int)) = false := decide_eq_false (by omega)
                have d3 : (j < ps.length) = False := eq_false hlt
                go_wp2_with (fail)
                go_ret
                exact ⟨rfl, HBr.out.trans (HBl.out.mono HBr.out.size)⟩
end Go.Proofs.Ytgnnhomipfjanaa.PM
