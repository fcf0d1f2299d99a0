/- The walk of LexLone. -/
import Derived.Test.YthfcgcbolbmdcaaDoorPureO
import Derived.Test.YthfcgcbolbmdcaaDoorCmp
import Derived.Deep.RegionHeld3
import Derived.Deep.QuietTactic
import Derived.BigQuiet
namespace Go.Proofs.YthfcgcbolbmdcaaDoor.PR
open Go Go.Proofs Go.RowKit Go.Proofs.YthfcgcbolbmdcaaDoorW.PrintWords Go.Proofs.YthfcgcbolbmdcaaDoorW.PrintLast Go.Proofs.YthfcgcbolbmdcaaDoorW.PrintMore Go.Proofs.YthfcgcbolbmdcaaDoor.Lx
attribute [local go_sem] Wd.one Wd.run_store
set_option linter.unusedVariables false
set_option linter.unusedSimpArgs false
set_option maxRecDepth 100000

def midB : Nat → ByteArray
  | 0 => ⟨#[10]⟩
  | n + 1 => midB n ++ ⟨#[32, 35, 32, 120, 10]⟩
theorem midB_data : ∀ n, (midB n).data.toList = midL n
  | 0 => rfl
  | n + 1 => by rw [midB, midL, ← midB_data n]; simp
theorem midB_size (n : Nat) : (midB n).size = 1 + 5 * n := by rw [Lib.size_eq, midB_data, midL_len]

set_option maxHeartbeats 4000000 in
theorem lone_long1 (s t : ByteArray) (n : Int) (w : World) (h : 3000 < s.size) :
    Calls Tryd.prog 5 #[.string s, .string t, .int .u8 n] w fun e w' => e = .returned (.bool true) ∧ Below w.heap.size w w' := by
  have d1 : decide ((3000 : Int) < (s.size : Int)) = true := decide_eq_true (by omega)
  clear h
  go_enter Tryd.func5, Tryd.ntmps5
  go_wp2_with (fail)
  refine (rundlelaw03_awake.calls 60 true _ awake_true).mono ?_
  rintro e w1 ⟨rfl, hb⟩
  have HB1 := Aside0.mk hb
  clear hb
  go_wp2_with (fail)
  refine (rundlelaw03_awake.calls 60 true _ awake_true).mono ?_
  rintro e w2 ⟨rfl, hb⟩
  have HB2 := Aside0.mk hb
  clear hb
  go_wp2_with (fail)
  go_ret
  exact ⟨rfl, HB1.out.trans (HB2.out.mono HB1.out.size)⟩

set_option maxHeartbeats 4000000 in
theorem lone_long2 (s t : ByteArray) (n : Int) (w : World) (h : s.size ≤ 3000) (h2 : 3000 < t.size) :
    Calls Tryd.prog 5 #[.string s, .string t, .int .u8 n] w fun e w' => e = .returned (.bool true) ∧ Below w.heap.size w w' := by
  have d1 : decide ((3000 : Int) < (s.size : Int)) = false := decide_eq_false (by omega)
  have d2 : decide ((3000 : Int) < (t.size : Int)) = true := decide_eq_true (by omega)
  clear h h2
  go_enter Tryd.func5, Tryd.ntmps5
  go_wp2_with (fail)
  refine (rundlelaw03_awake.calls 60 true _ awake_true).mono ?_
  rintro e w1 ⟨rfl, hb⟩
  have HB1 := Aside0.mk hb
  clear hb
  go_wp2_with (fail)
  refine (rundlelaw03_awake.calls 60 true _ awake_true).mono ?_
  rintro e w2 ⟨rfl, hb⟩
  have HB2 := Aside0.mk hb
  clear hb
  go_wp2_with (fail)
  go_ret
  exact ⟨rfl, HB1.out.trans (HB2.out.mono HB1.out.size)⟩

set_option maxHeartbeats 8000000 in
theorem lone_core (s t : ByteArray) (n : Nat) (w : World) (hs : s.size ≤ 3000) (ht : t.size ≤ 3000) (hn : n < 256) (K : Nat) (LA LB LC : List S35) (na ea nb fb nc gc : Int)
    (hA : lex_Lines.f K s = some (LA, na, ea)) (hB : lex_Lines.f K t = some (LB, nb, fb)) (hC : lex_Lines.f K (s ++ midB n ++ t) = some (LC, nc, gc))
    (hcase : ((ea ≠ 0 ∨ fb ≠ 0) ∧ gc = 7) ∨ (ea = 0 ∧ fb = 0 ∧ gc = 0 ∧ LC.map (·.f1) = LA.map (·.f1) ++ LB.map (·.f1))) (hlc : LC.length ≤ 1000000) (hlw : ∀ x ∈ LC, x.f1.length ≤ 1000000) :
    Calls Tryd.prog 5 #[.string s, .string t, .int .u8 (n : Int)] w fun e w' => e = .returned (.bool true) ∧ Below w.heap.size w w' := by
  have HA := Aside0.mk hA
  have HB := Aside0.mk hB
  have HC := Aside0.mk hC
  have HCase := Aside0.mk hcase
  have HLC := Aside0.mk hlc
  have HLW := Aside0.mk hlw
  clear hA hB hC hcase hlc hlw
  have h0n : (0 : Int) ≤ (n : Int) := by omega
  have h1n : (n : Int) ≤ 255 := by omega
  have d1 : decide ((3000 : Int) < (s.size : Int)) = false := decide_eq_false (by omega)
  have d2 : decide ((3000 : Int) < (t.size : Int)) = false := decide_eq_false (by omega)
  go_enter Tryd.func5, Tryd.ntmps5
  go_wp2_with (fail)
  refine (rundlelaw03_awake.calls 60 true _ awake_true).mono ?_
  rintro e w1 ⟨rfl, hb⟩
  have HB1 := Aside0.mk hb
  clear hb
  go_wp2_with (fail)
  go_loop [7, 8] (fun v7 v8 => ∃ i : Nat, i ≤ n ∧ v7 = .string (midB i) ∧ v8 = .int .i64 (i : Int)) (fun _ v8 => n - (intOf v8).toNat)
  case atStart => exact ⟨0, Nat.zero_le _, rfl, rfl⟩
  case round =>
    obtain ⟨i, hi, rfl, rfl⟩ := hrel
    by_cases hlt : i < n
    · have hsz := midB_size i
      have hm : midB i ++ ⟨#[32, 35, 32, 120, 10]⟩ = midB (i + 1) := rfl
      have HM := Aside0.mk hm
      clear hm
      have d3 : decide ((i : Int) < (n : Int)) = true := decide_eq_true (by omega)
      go_wp2
      go_round
      case rel => exact ⟨i + 1, by omega, by rw [HM.out], by go_num⟩
      case measure => simp [intOf]; omega
    · have hin : i = n := by omega
      have HCi := Aside0.mk (show lex_Lines.f K (s ++ midB i ++ t) = some (LC, nc, gc) by rw [hin]; exact HC.out)
      have hsz : (midB i).size ≤ 1300 := by rw [midB_size]; omega
      have d3 : decide ((i : Int) < (n : Int)) = false := decide_eq_false (by omega)
      have d4 : (i < n) = False := eq_false hlt
      have hsum : (s ++ midB i).size ≤ 4300 := by rw [ByteArray.size_append]; omega
      clear hlt hi hn HC hin
      go_upto_region 11 with (first
        | (go_at_call 12; with_reducible refine (lex_Lines.calls K s LA na ea _ HA.out).mono ?_; rintro e w2 ⟨va, rfl, ho, hb⟩; obtain ⟨Aa, ca, rfl⟩ := Kd.S_slice ho; have RA := Aside0.mk (Kd.S_reads' ho); have HB2 := Aside0.mk hb; clear ho hb)
        | (go_at_call 12; with_reducible refine (lex_Lines.calls K t LB nb fb _ HB.out).mono ?_; rintro e w3 ⟨vb, rfl, ho, hb⟩; obtain ⟨Ab, cb, rfl⟩ := Kd.S_slice ho; have RB := Aside0.mk (Kd.S_reads' ho); have HB3 := Aside0.mk hb; clear ho hb)
        | (go_at_call 12; with_reducible refine (lex_Lines.calls K (s ++ midB i ++ t) LC nc gc _ HCi.out).mono ?_; rintro e w4 ⟨vc, rfl, ho, hb⟩; obtain ⟨Ac, cc, rfl⟩ := Kd.S_slice ho; have RC := Aside0.mk (Kd.S_reads' ho); have HB4 := Aside0.mk hb; clear ho hb))
      have s1 := HB1.out.size
      have s2 := HB2.out.size
      have s3 := HB3.out.size
      have HBw := Aside0.mk ((((HB1.out.trans (HB2.out.mono s1))).trans (HB3.out.mono (Nat.le_trans s1 s2))).trans (HB4.out.mono (Nat.le_trans s1 (Nat.le_trans s2 s3))))
      have CA := Aside0.mk (Kd.C_below (Kd.C_below RA.out.2.2 HB3.out) HB4.out)
      have CB := Aside0.mk (Kd.C_below RB.out.2.2 HB4.out)
      have CC := Aside0.mk RC.out.2.2
      clear s1 s2 s3 HB1 HB2 HB3 HB4 RA RB RC HA HB HCi d1 d2 d3 d4 hsz hsum hs ht h0n h1n
      rcases HCase.out with ⟨hbad, rfl⟩ | ⟨rfl, rfl, rfl, hmap⟩
      · clear HCase
        by_cases h0 : ea = 0
        · subst h0
          have h1 : (fb != 0) = true := by
            rcases hbad with h | h
            · exact absurd rfl h
            · rw [bne_iff_ne]; exact h
          clear hbad
          go_wp2
          go_ret
          exact ⟨rfl, HBw.out⟩
        · have h1 : (ea != 0) = true := by rw [bne_iff_ne]; exact h0
          clear hbad h0
          go_wp2
          go_ret
          exact ⟨rfl, HBw.out⟩
      · clear HCase
        have hlen : LC.length = LA.length + LB.length := by
          have := congrArg List.length hmap
          simpa using this
        have HM := Aside0.mk hmap
        have HLN := Aside0.mk hlen
        have e1 : IntKind.i64.wrap ((LA.length : Int) + (LB.length : Int)) = (LC.length : Int) := by have := HLC.out; rw [i64_w]; unfold wrap64; omega
        clear hmap hlen
        go_wp2_with (fail)
        rename World => wl
        go_loopg [18] (LC.length) (fun kq v18 w' => ∃ (i : Nat), v18 = .int .i64 (i : Int) ∧ Aside0 (i + kq = LC.length) ∧ Aside0 (Below wl.heap.size wl w'))
        case atStart => exact ⟨0, rfl, ⟨Nat.zero_add _⟩, ⟨Below.refl _ _⟩⟩
        case round =>
          obtain ⟨i, rfl, HI, HBl⟩ := hrel
          by_cases hlt : i < LC.length
          · obtain ⟨k2, rfl⟩ : ∃ k2, gk = k2 + 1 := ⟨gk - 1, by have := HI.out; omega⟩
            have d1 : ((i : Int) < (LC.length : Int)) = True := eq_true (by omega)
            have d2 : decide ((i : Int) < (LC.length : Int)) = true := decide_eq_true (by omega)
            have d3 : (i < LC.length) = True := eq_true hlt
            obtain ⟨i1, hi1⟩ : ∃ i1, i1 = i + 1 := ⟨_, rfl⟩
            have e10 : IntKind.i64.wrap ((i : Int) + 1) = (i1 : Int) := by have := HLC.out; rw [i64_w]; unfold wrap64; omega
            have I1 := Aside0.mk hi1
            clear hi1
            have CCr := Aside0.mk (Kd.C_below CC.out HBl.out)
            obtain ⟨ac, Ax, cx, eac, hx0, hx1, lx, gx⟩ := at_T35 CCr.out (i : Int) (by omega) (by omega)
            subst eac
            simp only [Int.toNat_natCast] at hx0 hx1
            have hXl : (rd_T35 LC (i : Int)).f1.length ≤ 1000000 := by
              unfold rd_T35
              rw [Int.toNat_natCast, List.getD_eq_getElem?_getD, List.getElem?_eq_getElem hlt]
              exact HLW.out _ (List.getElem_mem hlt)
            have hX1 : (LC.map (·.f1))[i]? = some (rd_T35 LC (i : Int)).f1 := by
              unfold rd_T35
              rw [List.getElem?_map, Int.toNat_natCast, List.getD_eq_getElem?_getD, List.getElem?_eq_getElem hlt]; rfl
            generalize (rd_T35 LC (i : Int)).f1 = X at hx0 hx1 lx gx hX1 hXl
            generalize (rd_T35 LC (i : Int)).f0 = Xn at hx0
            have HX1 := Aside0.mk hX1
            have HXl := Aside0.mk hXl
            have GX := Aside0.mk gx
            clear hX1 hXl gx lx
            by_cases hla : i < LA.length
            · have b1 : ((i : Int) < (LA.length : Int)) = True := eq_true (by omega)
              have b2 : decide ((i : Int) < (LA.length : Int)) = true := decide_eq_true (by omega)
              have b3 : (i < LA.length) = True := eq_true hla
              have hY1 : (rd_T35 LA (i : Int)).f1 = X := by
                have h1 := HX1.out
                rw [HM.out, List.getElem?_append_left (by rw [List.length_map]; exact hla), List.getElem?_map, List.getElem?_eq_getElem hla] at h1
                unfold rd_T35
                rw [Int.toNat_natCast, List.getD_eq_getElem?_getD, List.getElem?_eq_getElem hla]
                exact Option.some.inj h1
              have CYs := Aside0.mk (Kd.C_below CA.out HBl.out)
              obtain ⟨ay, Ay, cy, eay, hy0, hy1, ly, gy⟩ := at_T35 CYs.out (i : Int) (by omega) (by omega)
              subst eay
              simp only [Int.toNat_natCast] at hy0 hy1
              rw [hY1] at hy1 gy
              generalize (rd_T35 LA (i : Int)).f0 = Yn at hy0
              have GY := Aside0.mk gy
              clear hY1 gy ly CYs CCr
              go_upto_region 23 with (fail)
              go_wp2_with (fail)
              obtain ⟨wq, hwq⟩ : ∃ wq, wq = wr := ⟨_, rfl⟩
              subst hwq
              go_loopg [21] (X.length) (fun kq v21 w' => ∃ (j : Nat), v21 = .int .i64 (j : Int) ∧ Aside0 (j + kq = X.length) ∧ Aside0 (Below wq.heap.size wq w'))
              case atStart => exact ⟨0, rfl, ⟨Nat.zero_add _⟩, ⟨Below.refl _ _⟩⟩
              case round =>
                clear hx0 hx1 hy0 hy1
                obtain ⟨j, rfl, HJ, HBm⟩ := hrel
                by_cases hlj : j < X.length
                · obtain ⟨k3, rfl⟩ : ∃ k2, gk = k2 + 1 := ⟨gk - 1, by have := HJ.out; omega⟩
                  have f1 : ((j : Int) < (X.length : Int)) = True := eq_true (by omega)
                  have f2 : decide ((j : Int) < (X.length : Int)) = true := decide_eq_true (by omega)
                  have f3 : (j < X.length) = True := eq_true hlj
                  obtain ⟨j1, hj1⟩ : ∃ i1, i1 = j + 1 := ⟨_, rfl⟩
                  have e12 : IntKind.i64.wrap ((j : Int) + 1) = (j1 : Int) := by have := HXl.out; rw [i64_w]; unfold wrap64; omega
                  have J1 := Aside0.mk hj1
                  clear hj1
                  have GXr := Aside0.mk (Kd.C_below GX.out HBm.out)
                  have GYr := Aside0.mk (Kd.C_below GY.out HBm.out)
                  obtain ⟨bx, ebx, hbx⟩ := at_T42 GXr.out (j : Int) (by omega) (by omega)
                  obtain ⟨bz, ebz, hbz⟩ := at_T42 GYr.out (j : Int) (by omega) (by omega)
                  subst ebx
                  subst ebz
                  simp only [Int.toNat_natCast] at hbx hbz
                  generalize (rd_T42 X (j : Int)).f0 = b at hbx hbz
                  have lbx := World.block_lt_of_cell? _ _ hbx
                  have lbz := World.block_lt_of_cell? _ _ hbz
                  have KX := Aside0.mk hbx
                  have KZ := Aside0.mk hbz
                  go_upto_region 28 with (fail)
                  have HBt := Aside0.mk (Below.refl wr.heap.size wr)
                  go_region_held3 (fun w' => w'.cell? (bx.add j) = some (Wd.v b) ∧ w'.cell? (bz.add j) = some (Wd.v b)) (go_keep) ((first
                    | (go_at_call 15; with_reducible refine (box_Compare_same b _).mono ?_; rintro e w5 ⟨rfl, hb⟩; have HBn := Aside0.mk (below_step (by first | exact HBt.out | exact below_drew1 HBt.out) hb); clear HBt hb; rename Aside0 (Below wr.heap.size wr w5) => HBt; have hbx : w5.cell? (bx.add j) = some (Wd.v b) := (HBt.out.cell (p := bx.add j) lbx).trans KX.out; have hbz : w5.cell? (bz.add j) = some (Wd.v b) := (HBt.out.cell (p := bz.add j) lbz).trans KZ.out)))
                  all_goals go_wp2
                  all_goals
                    go_roundg k3
                    case measure => omega
                    case rel => exact ⟨j1, rfl, ⟨by have := J1.out; have := HJ.out; omega⟩, ⟨HBm.out.trans ((by first | exact HBt.out | exact below_drew1 HBt.out : Below wr.heap.size wr _).mono HBm.out.size)⟩⟩
                · have f1 : ((j : Int) < (X.length : Int)) = False := eq_false (by omega)
                  have f2 : decide ((j : Int) < (X.length : Int)) = false := decide_eq_false (by omega)
                  have f3 : (j < X.length) = False := eq_false hlj
                  go_wp2_with (fail)
                  go_roundg k2
                  case measure => omega
                  case rel => exact ⟨i1, rfl, ⟨by have := I1.out; have := HI.out; omega⟩, ⟨HBl.out.trans (HBm.out.mono HBl.out.size)⟩⟩
            · have b1 : ((i : Int) < (LA.length : Int)) = False := eq_false (by omega)
              have b2 : decide ((i : Int) < (LA.length : Int)) = false := decide_eq_false (by omega)
              have b3 : (i < LA.length) = False := eq_false hla
              obtain ⟨j0, hj0⟩ : ∃ j0, j0 = i - LA.length := ⟨_, rfl⟩
              have hjb : j0 < LB.length := by have := HLN.out; omega
              have e11 : IntKind.i64.wrap ((i : Int) - (LA.length : Int)) = (j0 : Int) := by have := HLC.out; rw [i64_w]; unfold wrap64; omega
              have c1 : ((j0 : Int) < (LB.length : Int)) = True := eq_true (by omega)
              have c2 : decide ((j0 : Int) < (LB.length : Int)) = true := decide_eq_true (by omega)
              have c3 : (j0 < LB.length) = True := eq_true hjb
              have hY1 : (rd_T35 LB (j0 : Int)).f1 = X := by
                have h1 := HX1.out
                rw [HM.out, List.getElem?_append_right (by rw [List.length_map]; omega), List.length_map, ← hj0, List.getElem?_map, List.getElem?_eq_getElem hjb] at h1
                unfold rd_T35
                rw [Int.toNat_natCast, List.getD_eq_getElem?_getD, List.getElem?_eq_getElem hjb]
                exact Option.some.inj h1
              clear hj0
              have CYs := Aside0.mk (Kd.C_below CB.out HBl.out)
              obtain ⟨ay, Ay, cy, eay, hy0, hy1, ly, gy⟩ := at_T35 CYs.out (j0 : Int) (by omega) (by omega)
              subst eay
              simp only [Int.toNat_natCast] at hy0 hy1
              rw [hY1] at hy1 gy
              generalize (rd_T35 LB (j0 : Int)).f0 = Yn at hy0
              have GY := Aside0.mk gy
              clear hY1 gy ly CYs CCr
              go_upto_region 23 with (fail)
              go_wp2_with (fail)
              obtain ⟨wq, hwq⟩ : ∃ wq, wq = wr := ⟨_, rfl⟩
              subst hwq
              go_loopg [21] (X.length) (fun kq v21 w' => ∃ (j : Nat), v21 = .int .i64 (j : Int) ∧ Aside0 (j + kq = X.length) ∧ Aside0 (Below wq.heap.size wq w'))
              case atStart => exact ⟨0, rfl, ⟨Nat.zero_add _⟩, ⟨Below.refl _ _⟩⟩
              case round =>
                clear hx0 hx1 hy0 hy1
                obtain ⟨j, rfl, HJ, HBm⟩ := hrel
                by_cases hlj : j < X.length
                · obtain ⟨k3, rfl⟩ : ∃ k2, gk = k2 + 1 := ⟨gk - 1, by have := HJ.out; omega⟩
                  have f1 : ((j : Int) < (X.length : Int)) = True := eq_true (by omega)
                  have f2 : decide ((j : Int) < (X.length : Int)) = true := decide_eq_true (by omega)
                  have f3 : (j < X.length) = True := eq_true hlj
                  obtain ⟨j1, hj1⟩ : ∃ i1, i1 = j + 1 := ⟨_, rfl⟩
                  have e12 : IntKind.i64.wrap ((j : Int) + 1) = (j1 : Int) := by have := HXl.out; rw [i64_w]; unfold wrap64; omega
                  have J1 := Aside0.mk hj1
                  clear hj1
                  have GXr := Aside0.mk (Kd.C_below GX.out HBm.out)
                  have GYr := Aside0.mk (Kd.C_below GY.out HBm.out)
                  obtain ⟨bx, ebx, hbx⟩ := at_T42 GXr.out (j : Int) (by omega) (by omega)
                  obtain ⟨bz, ebz, hbz⟩ := at_T42 GYr.out (j : Int) (by omega) (by omega)
                  subst ebx
                  subst ebz
                  simp only [Int.toNat_natCast] at hbx hbz
                  generalize (rd_T42 X (j : Int)).f0 = b at hbx hbz
                  have lbx := World.block_lt_of_cell? _ _ hbx
                  have lbz := World.block_lt_of_cell? _ _ hbz
                  have KX := Aside0.mk hbx
                  have KZ := Aside0.mk hbz
                  go_upto_region 28 with (fail)
                  have HBt := Aside0.mk (Below.refl wr.heap.size wr)
                  go_region_held3 (fun w' => w'.cell? (bx.add j) = some (Wd.v b) ∧ w'.cell? (bz.add j) = some (Wd.v b)) (go_keep) ((first
                    | (go_at_call 15; with_reducible refine (box_Compare_same b _).mono ?_; rintro e w5 ⟨rfl, hb⟩; have HBn := Aside0.mk (below_step (by first | exact HBt.out | exact below_drew1 HBt.out) hb); clear HBt hb; rename Aside0 (Below wr.heap.size wr w5) => HBt; have hbx : w5.cell? (bx.add j) = some (Wd.v b) := (HBt.out.cell (p := bx.add j) lbx).trans KX.out; have hbz : w5.cell? (bz.add j) = some (Wd.v b) := (HBt.out.cell (p := bz.add j) lbz).trans KZ.out)))
                  all_goals go_wp2
                  all_goals
                    go_roundg k3
                    case measure => omega
                    case rel => exact ⟨j1, rfl, ⟨by have := J1.out; have := HJ.out; omega⟩, ⟨HBm.out.trans ((by first | exact HBt.out | exact below_drew1 HBt.out : Below wr.heap.size wr _).mono HBm.out.size)⟩⟩
                · have f1 : ((j : Int) < (X.length : Int)) = False := eq_false (by omega)
                  have f2 : decide ((j : Int) < (X.length : Int)) = false := decide_eq_false (by omega)
                  have f3 : (j < X.length) = False := eq_false hlj
                  go_wp2_with (fail)
                  go_roundg k2
                  case measure => omega
                  case rel => exact ⟨i1, rfl, ⟨by have := I1.out; have := HI.out; omega⟩, ⟨HBl.out.trans (HBm.out.mono HBl.out.size)⟩⟩
          · have d1 : ((i : Int) < (LC.length : Int)) = False := eq_false (by omega)
            have d2 : decide ((i : Int) < (LC.length : Int)) = false := decide_eq_false (by omega)
            have d3 : (i < LC.length) = False := eq_false hlt
            go_wp2_with (fail)
            go_ret
            exact ⟨rfl, HBw.out.trans (HBl.out.mono HBw.out.size)⟩
end Go.Proofs.YthfcgcbolbmdcaaDoor.PR
