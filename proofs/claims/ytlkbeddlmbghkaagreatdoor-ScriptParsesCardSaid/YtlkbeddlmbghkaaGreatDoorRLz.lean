/- rundlelaw26.ScriptParses, at a text with a line that is no step. -/
import Derived.Test.YtlkbeddlmbghkaaGreatDoorRL
import Derived.Deep.RegionWith
import Derived.Test.YtlkbeddlmbghkaaGreatDoorRLg
namespace Go.Proofs.YtlkbeddlmbghkaaGreatDoor.PR
open Go Go.Proofs Go.RowKit Go.Proofs.YtlkbeddlmbghkaaGreatDoorW.PrintWords Go.Proofs.YtlkbeddlmbghkaaGreatDoorW.PrintLast Go.Proofs.YtlkbeddlmbghkaaGreatDoorW.PrintMore Go.Proofs.YtlkbeddlmbghkaaGreatDoor.Lx
attribute [local go_sem] Wd.one Wd.run_store
set_option linter.unusedVariables false
set_option linter.unusedSimpArgs false
set_option maxRecDepth 100000

set_option maxHeartbeats 16000000 in
theorem parses_bad (s : ByteArray) (w : World) (hk : KAt w) (h3 : 0 < w.heap.size) (hs : s.size ≤ 30000) (k : Nat) (ls : List S39) (at_ : Int) (hf : lex_Lines.f k s = some (ls, at_, 0)) (hl : ls.length ≤ 1000000) (hw : ∀ l ∈ ls, l.f1.length ≤ 1000000) (hn : ∀ l ∈ ls, NoNil (l.f1.map fun b => b.f0)) (j : Nat) (lj : S39) (hj : ls[j]? = some lj) (hjn : stepS (lj.f1.map fun b => b.f0) = none) (hp : parseL ls [] = ([], lj.f0, 7)) (hx : ∀ (i : Nat) (l' : S39), i < j → ls[i]? = some l' → ∃ x, stepS (l'.f1.map fun b => b.f0) = some x) :
    Calls Tryz.prog 4 #[.string s] w fun e w' => e = .returned (.bool true) ∧ Below w.heap.size w w' := by
  have hu39 := Tryz.underlying39
  have hu58 := Tryz.underlying58
  have hu54 := Tryz.underlying54
  have hu46 := Tryz.underlying46
  have hu49 := Tryz.underlying49
  have hu52 := Tryz.underlying52
  have HK := Aside0.mk hk
  have H3 := Aside0.mk h3
  clear hk h3
  go_enter Tryz.func4, Tryz.ntmps4
  have s1 : ((30000 : Int) < (s.size : Int)) = False := eq_false (by omega)
  have s2 : decide ((30000 : Int) < (s.size : Int)) = false := decide_eq_false (by omega)
  have s3 : (30000 < s.size) = False := eq_false (by omega)
  have HF := Aside0.mk hf
  have HL := Aside0.mk hl
  have HW := Aside0.mk hw
  have HNN := Aside0.mk hn
  clear hf hl hw hn
  go_wp2_with (fail)
  refine (awake_at w HK.out H3.out).mono ?_
  rintro e w1 ⟨rfl, hb1⟩
  have HB1 := Aside0.mk hb1
  clear hb1
  go_wp2_with (fail)
  refine (parse_at k s ls at_ 0 HF.out HL.out HW.out w1 (HK.out.mono H3.out HB1.out) (Nat.lt_of_lt_of_le H3.out HB1.out.size)).mono ?_
  rintro e w2 ⟨hb2, v, out, n, f, rfl, ho, hr⟩
  obtain ⟨Ao, co, rfl, hco, hCo⟩ := Kd.R_reads hr
  have HB2 := Aside0.mk (HB1.out.trans (hb2.mono HB1.out.size))
  have HOUT := Aside0.mk ho
  have HCO := Aside0.mk hco
  have CO2 := Aside0.mk hCo
  clear hb2 hr ho hco hCo HB1 s1 s2 s3
  go_wp2_with (fail)
  refine (lex_Lines.calls k s ls at_ 0 w2 HF.out).mono ?_
  rintro e w3 ⟨v0, rfl, hS, hb3⟩
  obtain ⟨A, c, rfl, hlc, hC⟩ := Kd.S_reads hS
  have HB3 := Aside0.mk (HB2.out.trans (hb3.mono HB2.out.size))
  have CO3 := Aside0.mk (Kd.C_below CO2.out hb3)
  have HC := Aside0.mk hC
  clear hS hb3 hC hlc HB2 CO2
  obtain ⟨ho1, ho2⟩ := Prod.mk.inj (HOUT.out.trans ((if_pos trivial).trans hp))
  obtain ⟨ho2, ho3⟩ := Prod.mk.inj ho2
  subst ho1 ho2 ho3
  have HX := Aside0.mk hx
  have HJ := Aside0.mk hj
  have HJN := Aside0.mk hjn
  clear hp hx hj hjn HOUT
  go_wp2_with (fail)
  go_loopg [9] (ls.length) (fun kq v9 w' => ∃ (i : Nat), v9 = .int .i64 (i : Int) ∧ Aside0 (i + kq = ls.length) ∧ Aside0 (Below w3.heap.size w3 w') ∧ Aside0 (i ≤ j))
  case atStart => exact ⟨0, rfl, ⟨Nat.zero_add _⟩, ⟨Below.refl _ _⟩, ⟨Nat.zero_le _⟩⟩
  case round =>
    obtain ⟨i, rfl, HI, HBl, HIJ⟩ := hrel
    by_cases hlt : i < ls.length
    · obtain ⟨k2, rfl⟩ : ∃ k2, gk = k2 + 1 := ⟨gk - 1, by have := HI.out; omega⟩
      have d1 : ((i : Int) < (ls.length : Int)) = True := eq_true (by omega)
      have d2 : decide ((i : Int) < (ls.length : Int)) = true := decide_eq_true (by omega)
      have d3 : (i < ls.length) = True := eq_true hlt
      obtain ⟨i1, hi1⟩ : ∃ i1, i1 = i + 1 := ⟨_, rfl⟩
      have e10 : IntKind.i64.wrap ((i : Int) + 1) = (i1 : Int) := by have := HL.out; rw [i64_w]; unfold wrap64; omega
      have I1 := Aside0.mk hi1
      clear hi1
      obtain ⟨ac, Ax, cx, eac, hx0, hx1, lx, gx⟩ := at_T39 (Kd.C_below HC.out HBl.out) (i : Int) (by omega) (by omega)
      subst eac
      simp only [Int.toNat_natCast] at hx0 hx1
      have hL1 : rd_T39 ls (i : Int) = ls[i] := by unfold rd_T39; rw [Int.toNat_natCast, List.getD_eq_getElem?_getD, List.getElem?_eq_getElem hlt]; rfl
      have hli : ls[i]? = some ls[i] := List.getElem?_eq_getElem hlt
      have hwi := HW.out _ (List.getElem_mem hlt)
      have hni := HNN.out _ (List.getElem_mem hlt)
      rw [← hL1] at hli hwi hni
      generalize rd_T39 ls (i : Int) = l at hx0 hx1 lx gx hL1 hli hwi hni
      have GX := Aside0.mk gx
      have HLI := Aside0.mk hli
      have HWI := Aside0.mk hwi
      have HNI := Aside0.mk hni
      have HLT := Aside0.mk hlt
      clear gx lx hwi hni hli hL1 hlt
      rename World => wo
      go_wp2_with (fail)
      go_loopg [10, 11] (l.f1.length) (fun kq v10 v11 w' => ∃ (m : Nat), v11 = .int .i64 (m : Int) ∧ Aside0 (m + kq = l.f1.length) ∧ Aside0 (k46.R 46 w' wo.heap.size (fun _ => True) v10 ((l.f1.take m).map fun b => toW b.f0)) ∧ Aside0 (Below wo.heap.size wo w'))
      case atStart => exact ⟨0, rfl, ⟨Nat.zero_add _⟩, ⟨Kd.R_nil _ _ _ _ _⟩, ⟨Below.refl _ _⟩⟩
      case round =>
        obtain ⟨m, rfl, HM, HO, HBi⟩ := hrel
        have h1m := (HBi.out.cell (World.block_lt_of_cell? wo _ hx1)).trans hx1
        by_cases hlm : m < l.f1.length
        · have c1 : ((m : Int) < (l.f1.length : Int)) = True := eq_true (by omega)
          have c2 : decide ((m : Int) < (l.f1.length : Int)) = true := decide_eq_true (by omega)
          have c3 : (m < l.f1.length) = True := eq_true hlm
          obtain ⟨m1, hm1⟩ : ∃ m1, m1 = m + 1 := ⟨_, rfl⟩
          have e11 : IntKind.i64.wrap ((m : Int) + 1) = (m1 : Int) := by have := HWI.out; rw [i64_w]; unfold wrap64; omega
          have M1 := Aside0.mk hm1
          clear hm1
          obtain ⟨ab, eab, hb0⟩ := at_T49 (Kd.C_below GX.out HBi.out) (m : Int) (by omega) (by omega)
          subst eab
          simp only [Int.toNat_natCast] at hb0
          have hB1 : rd_T49 l.f1 (m : Int) = l.f1[m] := by unfold rd_T49; rw [Int.toNat_natCast, List.getD_eq_getElem?_getD, List.getElem?_eq_getElem hlm]; rfl
          have htk : l.f1.take (m + 1) = l.f1.take m ++ [l.f1[m]] := (List.take_append_getElem hlm).symm
          rw [← hB1] at htk
          generalize rd_T49 l.f1 (m : Int) = b at hb0 hB1 htk
          have HTK := Aside0.mk (show ((l.f1.take (m + 1)).map fun b => toW b.f0) = ((l.f1.take m).map fun b => toW b.f0) ++ [toW b.f0] by rw [htk, List.map_append]; rfl)
          have HLM := Aside0.mk hlm
          have HLX : Aside0 (((l.f1.take m).map fun b => toW b.f0).length ≤ 1000000) := ⟨by rw [List.length_map, List.length_take]; have := HWI.out; omega⟩
          clear hB1 htk hlm
          generalize ((l.f1.take m).map fun b => toW b.f0) = L at *
          obtain ⟨Av, cv, ev⟩ := Kd.R_slice HO.out
          subst ev
          go_wp2_with (fail)
          refine (rundlelaw26_word.calls b.f0 _ _ _ wr (word_f b.f0)).mono ?_
          rintro e w5 ⟨rfl, hb5⟩
          have HO5 := Aside0.mk (Kd.R_below HO.out hb5)
          have HB5 := Aside0.mk (HBi.out.trans (hb5.mono HBi.out.size))
          clear hb5 h1m hb0 HO HBi
          generalize toW b.f0 = x at *
          go_wp2_with ((with_reducible refine gate_builtin (b := .append) (xs := #[.tmp 65, .tmp 75]) rfl ?_); (try (refine gate_guard (by rfl) ?_; dsimp only)); at_builtin; refine Kd.R_append k46 (w0 := w5) wo.heap.size rfl (.tmp 65) (.tmp 75) 45 46 (.agg #[(.int .i64 0), (.int .i64 0), (.string ⟨#[]⟩)]) 32 rfl Tryz.underlying45 info46 rfl (by decide) (by omega) (.slice Av L.length cv) L x [.int .i64 x.f0, .int .i64 x.f1, .string x.f2] (fun _ => True) (fun _ => False) rfl rfl ?aP (fun _ hk => hk.elim) (fun _ _ => trivial) HO5.out (Below.refl _ _) ?aS ?aL ?_; (case aP => exact k46_mkM _ _ _ _); (case aS => exact HB5.out.size); (case aL => have := HLX.out; omega); intro v6 w6 ho hb hg hat; have O6 := Aside0.mk ho; have B6 := Aside0.mk hb; clear ho hb hg hat HO5)
          go_roundg (l.f1.length - (m + 1))
          case measure => have h1 := HM.out; have h2 := HLM.out; omega
          case rel => exact ⟨m1, rfl, ⟨by have h1 := M1.out; have h2 := HLM.out; omega⟩, ⟨by rw [M1.out, HTK.out]; exact O6.out⟩, ⟨HB5.out.trans (B6.out.mono (Nat.le_refl _))⟩⟩
        · have hme : m = l.f1.length := by have := HM.out; omega
          subst hme
          have c1 : ((l.f1.length : Int) < (l.f1.length : Int)) = False := eq_false (by omega)
          rw [List.take_length] at HO
          have hLn : NoNil (l.f1.map fun b => b.f0) := HNI.out
          have hrs : readR (l.f1.map fun b => toW b.f0) = stepS (l.f1.map fun b => b.f0) := by rw [← read_same _ hLn, List.map_map]; rfl
          have hLl : (l.f1.map fun b => toW b.f0).length ≤ 1000000 := by rw [List.length_map]; exact HWI.out
          generalize (l.f1.map fun b => toW b.f0) = L at *
          have HRS := Aside0.mk hrs
          have HLL := Aside0.mk hLl
          clear hrs hLl hLn hlm
          obtain ⟨Av, cv, rfl, hcv, hCv⟩ := Kd.R_reads HO.out
          have HCV := Aside0.mk hcv
          have CV := Aside0.mk hCv
          clear hcv hCv
          have HBr := Aside0.mk (HBl.out.trans (HBi.out.mono HBl.out.size))
          have h0r := (HBi.out.cell (World.block_lt_of_cell? wo _ hx0)).trans hx0
          clear hx0 hx1 HBl HBi HO
          go_wp2_with (fail)
          refine (readR_at Av cv L HLL.out HCV.out wr CV.out).mono ?_
          rintro e w6 ⟨n6, y, v6, rfl, hR6, hB6, hcr⟩
          obtain ⟨A6, c6, rfl, hc6, hC6⟩ := Kd.R_reads hR6
          have HCR := Aside0.mk hcr
          have HC6 := Aside0.mk hc6
          have C6 := Aside0.mk hC6
          have HB6 := Aside0.mk (HBr.out.trans (hB6.mono HBr.out.size))
          have h06 := (hB6.cell (World.block_lt_of_cell? wr _ h0r)).trans h0r
          clear hcr hc6 hC6 hB6 hR6 HBr h0r h1m
          unfold stepW
          rw [HRS.out] at HCR
          go_upto_region 16 with (fail)
          have Y7 := Aside0.mk (blk_new w6 (.cells #[.int .i64 y.f0, .int .i64 y.f1, .int .i64 y.f2, .int .i64 y.f3.f0, .string y.f3.f1, .string y.f3.f2, .slice A6 y.f3.f3.length c6, .string y.f3.f4, .string y.f3.f5, .bool y.f3.f6, .int .i64 y.f3.f7, .int .i64 y.f3.f8, .int .i64 y.f3.f9, .int .i64 y.f3.f10] 54))
          have ab7 : Below w6.heap.size w6 (w6.alloc (.cells #[.int .i64 y.f0, .int .i64 y.f1, .int .i64 y.f2, .int .i64 y.f3.f0, .string y.f3.f1, .string y.f3.f2, .slice A6 y.f3.f3.length c6, .string y.f3.f4, .string y.f3.f5, .bool y.f3.f6, .int .i64 y.f3.f7, .int .i64 y.f3.f8, .int .i64 y.f3.f9, .int .i64 y.f3.f10] 54)) := (Below.refl _ _).alloc (Nat.le_refl _) _
          have C7 := Aside0.mk (Kd.C_below C6.out ab7)
          have HB7 := Aside0.mk (HB6.out.trans (ab7.mono HB6.out.size))
          have h07 := (ab7.cell (World.block_lt_of_cell? w6 _ h06)).trans h06
          change Code.wp _ _ _ _ (w6.alloc (.cells #[.int .i64 y.f0, .int .i64 y.f1, .int .i64 y.f2, .int .i64 y.f3.f0, .string y.f3.f1, .string y.f3.f2, .slice A6 y.f3.f3.length c6, .string y.f3.f4, .string y.f3.f5, .bool y.f3.f6, .int .i64 y.f3.f7, .int .i64 y.f3.f8, .int .i64 y.f3.f9, .int .i64 y.f3.f10] 54))
          generalize (w6.alloc (.cells #[.int .i64 y.f0, .int .i64 y.f1, .int .i64 y.f2, .int .i64 y.f3.f0, .string y.f3.f1, .string y.f3.f2, .slice A6 y.f3.f3.length c6, .string y.f3.f4, .string y.f3.f5, .bool y.f3.f6, .int .i64 y.f3.f7, .int .i64 y.f3.f8, .int .i64 y.f3.f9, .int .i64 y.f3.f10] 54)) = w7 at *
          generalize w6.heap.size = g7 at *
          clear ab7 C6 HB6 h06
          by_cases hij : i = j
          · subst hij
            obtain rfl : l = lj := Option.some.inj (HLI.out.symm.trans HJ.out)
            have hn6 : n6 = 0 := by
              rcases HCR.out with ⟨h1, h2⟩ | ⟨h1, h2⟩
              · rw [HJN.out] at h2; cases h2
              · exact h1
            subst hn6
            clear HCR
            go_wp2_with (fail)
            go_ret
            exact ⟨by simp, HB3.out.trans (HB7.out.mono HB3.out.size)⟩
          · obtain ⟨x, hsx⟩ := HX.out i l (by have := HIJ.out; omega) HLI.out
            have hn6 : n6 = 1 := by
              rcases HCR.out with ⟨h1, h2⟩ | ⟨h1, h2⟩
              · exact h1
              · rw [hsx] at h2; cases h2
            have HI1 : Aside0 (i1 ≤ j) := ⟨by have := HIJ.out; have := I1.out; omega⟩
            subst hn6
            clear HCR hsx hij
            go_wp2_with (fail)
            go_region
            all_goals go_wp2_with (fail)
            go_roundg k2
            case measure => omega
            case rel => exact ⟨i1, rfl, ⟨by have := HI.out; have := I1.out; omega⟩, ⟨by first | exact HB7.out | exact HB7.out.drew⟩, HI1⟩
    · exact absurd (List.getElem?_eq_some_iff.1 HJ.out).1 (by have := HIJ.out; omega)
end Go.Proofs.YtlkbeddlmbghkaaGreatDoor.PR

namespace Go.Proofs.YtlkbeddlmbghkaaGreatDoor.PR
open Go Go.Proofs Go.RowKit Go.Proofs.YtlkbeddlmbghkaaGreatDoorW.PrintWords Go.Proofs.YtlkbeddlmbghkaaGreatDoorW.PrintLast Go.Proofs.YtlkbeddlmbghkaaGreatDoorW.PrintMore Go.Proofs.YtlkbeddlmbghkaaGreatDoor.Lx
theorem parses_at (s : ByteArray) (w : World) (hk : KAt w) (h3 : 0 < w.heap.size) :
    Calls Tryz.prog 4 #[.string s] w fun e w' => e = .returned (.bool true) ∧ Below w.heap.size w w' := by
  by_cases hs : s.size ≤ 30000
  case neg => exact parses_long s w hk h3 hs
  obtain ⟨k, ls, at_, er, hf, hl, hw, hn⟩ := lines_of s (by omega)
  by_cases he : er = 0
  case neg => exact parses_err s w hk h3 hs k ls at_ er hf hl hw hn he
  subst he
  rcases parse_all ls [] with ⟨xs, h1, h2, h3'⟩ | ⟨j, lj, h1, h2, h3', h4⟩
  · exact parses_good s w hk h3 hs k ls at_ hf hl hw hn xs h1 h2 h3'
  · exact parses_bad s w hk h3 hs k ls at_ hf hl hw hn j lj h1 h2 h3' h4
theorem parses_walk (s : ByteArray) (w : World) (hL : laidMetH Tryz.prog Rows.scriptParsesRow.laid w) :
    Calls Tryz.prog 4 #[.string s] w fun e w' => e = .returned (.bool true) ∧ Below w.heap.size w w' := by
  obtain ⟨hk, h3⟩ := kat_of hL (by kernel_rfl) (by kernel_rfl)
  exact parses_at s w hk h3
end Go.Proofs.YtlkbeddlmbghkaaGreatDoor.PR
