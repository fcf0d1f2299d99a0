/- rundlelaw03.LexShows: whatever the words, the law answers true. -/
import Derived.Test.YtlkbeddlmbghkaaGreatDoorSh2
import Derived.Test.YtlkbeddlmbghkaaGreatDoorRows
import Derived.Lib.LaidTab
import Derived.LaidSub
import Derived.LaidMore
namespace Go.Proofs.YtlkbeddlmbghkaaGreatDoor.PR
open Go Go.Proofs Go.RowKit Go.Proofs.YtlkbeddlmbghkaaGreatDoorW.PrintWords Go.Proofs.YtlkbeddlmbghkaaGreatDoorW.PrintLast Go.Proofs.YtlkbeddlmbghkaaGreatDoorW.PrintMore Go.Proofs.YtlkbeddlmbghkaaGreatDoor.Lx
attribute [local go_sem] Wd.one Wd.run_store
set_option linter.unusedVariables false
set_option linter.unusedSimpArgs false
set_option maxRecDepth 100000

theorem infoB : (Tryz.prog.info? 28).map (fun i => (i.zero, i.size, i.bytes)) = some (some (.agg #[(.int .i64 0), (.int .i64 0), (.string ⟨#[]⟩)]), 3, 32) := by kernel_rfl

set_option maxHeartbeats 16000000 in
theorem shows_law (A : Option Addr) (c : Nat) (l : List S28) (hr : ∀ x ∈ l, InR x) (hc : l.length ≤ c) (w : World) (hT : TenAt w) (hC : Kd.C k28 w A l.length l) :
    Calls Tryz.prog 3 #[.slice A l.length c] w fun e w' => e = .returned (.bool true) ∧ Below w.heap.size w w' := by
  have hu28 := Tryz.underlying28
  have hu39 := Tryz.underlying39
  have hu49 := Tryz.underlying49
  have HT := Aside0.mk hT
  have HC := Aside0.mk hC
  have HR := Aside0.mk hr
  clear hT hC hr
  rcases boxes_f l with ⟨k, hbx⟩ | ⟨⟨k, hbx⟩, hl60, h200⟩
  · have HBX := Aside0.mk hbx
    clear hbx
    go_enter Tryz.func3, Tryz.ntmps3
    go_wp2_with (fail)
    refine (rundlelaw03_Boxes.calls k A c l [] false w HC.out hc HBX.out).mono ?_
    rintro e w1 ⟨v0, rfl, ho, hb1⟩
    have HB1 := Aside0.mk hb1
    clear ho hb1
    go_wp2_with (fail)
    refine (rundlelaw03_awake.calls 60 true w1 awake3).mono ?_
    rintro e w2 ⟨rfl, hb2⟩
    have HB2 := Aside0.mk (HB1.out.trans (hb2.mono HB1.out.size))
    clear hb2
    go_wp2_with (fail)
    refine (rundlelaw03_awake.calls 60 true w2 awake3).mono ?_
    rintro e w3 ⟨rfl, hb3⟩
    go_wp2_with (fail)
    go_ret
    exact ⟨rfl, HB2.out.trans (hb3.mono HB2.out.size)⟩
  have HBX := Aside0.mk hbx
  have HL := Aside0.mk hl60
  have HSM : Aside0 (∀ b ∈ l.map ofB, Small b) := ⟨fun b hb => by
    obtain ⟨x, hx, rfl⟩ := List.mem_map.1 hb
    exact small_of x (HR.out x hx) (h200 x hx)⟩
  have hmk : (l.map fun x => (⟨ofB x⟩ : S49)) = (l.map ofB).map S49.mk := by rw [List.map_map]; rfl
  have HMK := Aside0.mk hmk
  have HWL : Aside0 ((l.map ofB).length = l.length) := ⟨List.length_map _⟩
  clear hbx hl60 h200 hmk
  go_enter Tryz.func3, Tryz.ntmps3
  go_wp2_with (fail)
  refine (rundlelaw03_Boxes.calls k A c l _ true w HC.out hc HBX.out).mono ?_
  rintro e w1 ⟨v0, rfl, ho, hb1⟩
  rw [HMK.out] at ho
  obtain ⟨Ab, cb, rfl, hcb, hCb⟩ := Kd.R_reads ho
  have HB1 := Aside0.mk hb1
  have HCB := Aside0.mk hcb
  have CB1 := Aside0.mk hCb
  clear ho hb1 hcb hCb
  go_wp2_with (fail)
  refine (rundlelaw03_awake.calls 60 true w1 awake3).mono ?_
  rintro e w2 ⟨rfl, hb2⟩
  have HB2 := Aside0.mk (HB1.out.trans (hb2.mono HB1.out.size))
  have CB2 := Aside0.mk (Kd.C_below CB1.out hb2)
  clear hb2 HB1 CB1
  go_wp2_with (fail)
  go_loopg [5, 6] (l.length) (fun kq v5 v6 w' => ∃ (i : Nat), v6 = .int .i64 (i : Int) ∧ Aside0 (i + kq = l.length) ∧ Aside0 (k28.R 28 w' w2.heap.size (fun _ => True) v5 ((l.take i).map fun x => toB (ofB x))) ∧ Aside0 (Below w2.heap.size w2 w'))
  case atStart => exact ⟨0, rfl, ⟨Nat.zero_add _⟩, ⟨Kd.R_nil _ _ _ _ _⟩, ⟨Below.refl _ _⟩⟩
  case round =>
    obtain ⟨i, rfl, HI, HO, HBl⟩ := hrel
    by_cases hlt : i < l.length
    · obtain ⟨k2, rfl⟩ : ∃ k2, gk = k2 + 1 := ⟨gk - 1, by have := HI.out; omega⟩
      have d1 : ((i : Int) < (l.length : Int)) = True := eq_true (by omega)
      have d2 : decide ((i : Int) < (l.length : Int)) = true := decide_eq_true (by omega)
      have d3 : (i < l.length) = True := eq_true hlt
      obtain ⟨i1, hi1⟩ : ∃ i1, i1 = i + 1 := ⟨_, rfl⟩
      have e10 : IntKind.i64.wrap ((i : Int) + 1) = (i1 : Int) := by have := HL.out; rw [i64_w]; unfold wrap64; omega
      have I1 := Aside0.mk hi1
      clear hi1
      obtain ⟨ad, ead, hx0, hx1, hx2⟩ := at_T28 (Kd.C_below HC.out (HB2.out.trans (HBl.out.mono HB2.out.size))) (i : Int) (by omega) (by omega)
      subst ead
      simp only [Int.toNat_natCast] at hx0 hx1 hx2
      have hr1 : rd_T28 l (i : Int) = l[i] := by unfold rd_T28; rw [Int.toNat_natCast, List.getD_eq_getElem?_getD, List.getElem?_eq_getElem hlt]; rfl
      have htk : l.take (i + 1) = l.take i ++ [l[i]] := (List.take_append_getElem hlt).symm
      rw [← hr1] at htk
      generalize rd_T28 l (i : Int) = x at hx0 hx1 hx2 hr1 htk
      have HTK := Aside0.mk (show ((l.take (i + 1)).map fun x => toB (ofB x)) = ((l.take i).map fun x => toB (ofB x)) ++ [toB (ofB x)] by rw [htk, List.map_append]; rfl)
      have HLX : Aside0 (((l.take i).map fun x => toB (ofB x)).length ≤ 1000) := ⟨by rw [List.length_map, List.length_take]; have := HL.out; omega⟩
      clear hr1 htk hlt
      generalize ((l.take i).map fun x => toB (ofB x)) = L at *
      obtain ⟨Av, cv, ev⟩ := Kd.R_slice HO.out
      subst ev
      go_wp2_with (fail)
      refine (rundleref02_Plain.calls x.f0 x.f1 x.f2 _ _ _ wr (plain_f x)).mono ?_
      rintro e w5 ⟨rfl, hb5⟩
      have HO5 := Aside0.mk (Kd.R_below HO.out hb5)
      have HB5 := Aside0.mk (HBl.out.trans (hb5.mono HBl.out.size))
      clear hb5 hx0 hx1 hx2 HO HBl
      generalize toB (ofB x) = y at *
      go_wp2_with ((with_reducible refine gate_builtin (b := .append) (xs := #[.tmp 32, .tmp 38]) rfl ?_); (try (refine gate_guard (by rfl) ?_; dsimp only)); at_builtin; refine Kd.R_append k28 (w0 := w5) w2.heap.size rfl (.tmp 32) (.tmp 38) 22 28 (.agg #[(.int .i64 0), (.int .i64 0), (.string ⟨#[]⟩)]) 32 rfl Tryz.underlying22 infoB rfl (by decide) (by omega) (.slice Av L.length cv) L y [.int .i64 y.f0, .int .i64 y.f1, .string y.f2] (fun _ => True) (fun _ => False) rfl rfl ?aP (fun _ hk => hk.elim) (fun _ _ => trivial) HO5.out (Below.refl _ _) ?aS ?aL ?_; (case aP => exact k28_mkM _ _ _ _); (case aS => exact HB5.out.size); (case aL => have := HLX.out; omega); intro v6 w6 ho hb hg hat; have O6 := Aside0.mk ho; have B6 := Aside0.mk hb; clear ho hb hg hat HO5)
      go_roundg k2
      case measure => omega
      case rel => exact ⟨i1, rfl, ⟨by have := HI.out; have := I1.out; omega⟩, ⟨by rw [I1.out, HTK.out]; exact O6.out⟩, ⟨HB5.out.trans (B6.out.mono (Nat.le_refl _))⟩⟩
    · have hie : i = l.length := by have := HI.out; omega
      subst hie
      have d1 : ((l.length : Int) < (l.length : Int)) = False := eq_false (by omega)
      rw [List.take_length, show (l.map fun x => toB (ofB x)) = (l.map ofB).map toB by rw [List.map_map]; rfl] at HO
      clear hlt
      generalize hws : l.map ofB = ws at *
      clear hws
      obtain ⟨Ap, cp, rfl, hcp, hCp⟩ := Kd.R_reads HO.out
      have HCP := Aside0.mk hcp
      have CP := Aside0.mk hCp
      have HBr := Aside0.mk (HB2.out.trans (HBl.out.mono HB2.out.size))
      have CBr := Aside0.mk (Kd.C_below CB2.out HBl.out)
      have hw60 : ws.length ≤ 60 := by have := HWL.out; have := HL.out; omega
      obtain ⟨ks, hks⟩ := (refShow ws (by omega) HSM.out).rounds
      have hfit := fits_of ws hw60 HSM.out
      have hmm : ((ws.map S49.mk).map fun b => b.f0) = ws := by rw [List.map_map]; exact List.map_id _
      have HKS := Aside0.mk hks
      have HFIT := Aside0.mk hfit
      have HMM := Aside0.mk hmm
      have HW60 := Aside0.mk hw60
      clear hcp hCp hks hfit hmm hw60 HBl HO CB2
      go_wp2_with (fail)
      have hsa := show_at Ab cb (ws.map S49.mk) (by rw [HMM.out]; exact HFIT.out) HCB.out wr (HT.out.mono HBr.out) CBr.out
      rw [HMM.out, List.length_map, HWL.out] at hsa
      refine hsa.mono ?_
      clear hsa
      rintro e w3 ⟨hb3, ⟨toks, hsh, rfl⟩ | ⟨hsh, rfl⟩⟩
      · have HB3 := Aside0.mk (HBr.out.trans (hb3.mono HBr.out.size))
        have CP3 := Aside0.mk (Kd.C_below CP.out hb3)
        have HKS2 := Aside0.mk (HKS.out.trans (by rw [hsh]))
        have HSH := Aside0.mk hsh
        clear hb3 hsh HKS
        go_wp2_with (fail)
        have hrs := rundleref03_Show.calls ks Ap cp (ws.map toB) _ _ w3 CP3.out HCP.out HKS2.out
        rw [List.length_map] at hrs
        refine hrs.mono ?_
        clear hrs
        rintro e w4 ⟨rfl, hb4⟩
        have HB4 := Aside0.mk (HB3.out.trans (hb4.mono HB3.out.size))
        have CP4 := Aside0.mk (Kd.C_below CP3.out hb4)
        clear hb4
        have hsz : (⟨(Lib.join toks [32]).toArray⟩ : ByteArray).size = (Lib.join toks [32]).length := size_of _
        by_cases h20 : 20000 < (Lib.join toks [32]).length
        · have g1 : ((20000 : Int) < ((⟨(Lib.join toks [32]).toArray⟩ : ByteArray).size : Int)) = True := eq_true (by rw [hsz]; omega)
          have g2 : decide ((20000 : Int) < ((⟨(Lib.join toks [32]).toArray⟩ : ByteArray).size : Int)) = true := decide_eq_true (by rw [hsz]; omega)
          clear hsz h20
          generalize (⟨(Lib.join toks [32]).toArray⟩ : ByteArray) = S at *
          go_wp2_with (fail)
          go_ret
          exact ⟨rfl, HB4.out⟩
        · have g1 : ((20000 : Int) < ((⟨(Lib.join toks [32]).toArray⟩ : ByteArray).size : Int)) = False := eq_false (by rw [hsz]; omega)
          have g2 : decide ((20000 : Int) < ((⟨(Lib.join toks [32]).toArray⟩ : ByteArray).size : Int)) = false := decide_eq_false (by rw [hsz]; omega)
          obtain ⟨kl, hkl⟩ := lines_of_show ws toks HSH.out (by omega)
          have HKL := Aside0.mk hkl
          clear hsz h20 hkl
          generalize (⟨(Lib.join toks [32]).toArray⟩ : ByteArray) = S at *
          go_wp2_with (fail)
          refine (lex_Lines.calls kl S _ _ _ w4 HKL.out).mono ?_
          rintro e w5 ⟨v5, rfl, hS5, hb5⟩
          obtain ⟨Al, cl, rfl, hcl, hCl⟩ := Kd.S_reads hS5
          have HB5 := Aside0.mk (HB4.out.trans (hb5.mono HB4.out.size))
          have CP5 := Aside0.mk (Kd.C_below CP4.out hb5)
          have CL := Aside0.mk hCl
          clear hS5 hb5 hcl hCl g1 g2
          by_cases h0 : l.length = 0
          · have h1 : ws.length = 0 := by rw [HWL.out, h0]
            have h2 : ((l.length : Int) == 0) = true := beq_iff_eq.2 (by omega)
            have h3 : ((l.length : Int) = 0) = True := eq_true (by omega)
            rw [if_neg (by omega)] at *
            go_wp2_with (fail)
            go_ret
            exact ⟨by simp, HB5.out⟩
          · have h1 : 0 < ws.length := by rw [HWL.out]; omega
            have h2 : ((l.length : Int) == 0) = false := beq_eq_false_iff_ne.2 (by omega)
            have h3 : ((l.length : Int) = 0) = False := eq_false (by omega)
            rw [if_pos h1] at *
            obtain ⟨ac, Ax, cx, eac, hx0, hx1, lx, gx⟩ := at_T39 CL.out 0 (by decide) (by simp)
            subst eac
            rw [show rd_T39 [(⟨1, ws.map S49.mk⟩ : S39)] 0 = ⟨1, ws.map S49.mk⟩ from rfl, show ((0 : Int).toNat * 2) = 0 from rfl, Addr.add_zero'] at hx0 hx1
            have LX := Aside0.mk lx
            have GX := Aside0.mk gx
            dsimp only at hx0 hx1
            clear lx gx h1
            go_wp2_with (fail)
            have hrs := rundlelaw03_Same.calls (ws.length + 1) Ax cx (ws.map S49.mk) Ap cp (ws.map toB) 1 w5 GX.out LX.out CP5.out HCP.out (same_f ws (by have := HW60.out; omega))
            rw [List.length_map, List.length_map] at hrs
            refine hrs.mono ?_
            clear hrs
            rintro e w6 ⟨rfl, hb6⟩
            go_wp2_with (fail)
            go_ret
            exact ⟨rfl, HB5.out.trans (hb6.mono HB5.out.size)⟩
      · have HB3 := Aside0.mk (HBr.out.trans (hb3.mono HBr.out.size))
        have CP3 := Aside0.mk (Kd.C_below CP.out hb3)
        have HKS2 := Aside0.mk (HKS.out.trans (by rw [hsh]))
        clear hb3 hsh HKS
        go_wp2_with (fail)
        have hrs := rundleref03_Show.calls ks Ap cp (ws.map toB) _ _ w3 CP3.out HCP.out HKS2.out
        rw [List.length_map] at hrs
        refine hrs.mono ?_
        clear hrs
        rintro e w4 ⟨rfl, hb4⟩
        go_wp2_with (fail)
        go_ret
        exact ⟨rfl, HB3.out.trans (hb4.mono HB3.out.size)⟩
end Go.Proofs.YtlkbeddlmbghkaaGreatDoor.PR

namespace Go.Proofs.YtlkbeddlmbghkaaGreatDoor.PR
open Go Go.Proofs Go.RowKit Go.Proofs.YtlkbeddlmbghkaaGreatDoorW.PrintWords Go.Proofs.YtlkbeddlmbghkaaGreatDoorW.PrintLast Go.Proofs.YtlkbeddlmbghkaaGreatDoorW.PrintMore
theorem ten_of {W : World} {L : List (String × DataW Unit)} (h : laidMetH Tryz.prog L W) (hp : (L.all fun x => x.2.handleName?.isNone) = true) (hf : (L.filter fun x => x.1 == "internal/strconv.uint64pow10") = [("internal/strconv.uint64pow10", Lib.tabData .u64 Lib.pow10Tab)]) : TenAt W := by
  rw [MakeChecks.laidMetH_plain _ _ _ hp] at h
  have h := h.filter (fun x => x.1 == "internal/strconv.uint64pow10")
  rw [hf] at h
  exact Lib.tabIs_of_head (g := 2) (t := 185) (e := 172) (n := 20) (by kernel_rfl) (by kernel_rfl) (by kernel_rfl) (by kernel_rfl) (by kernel_rfl) (by kernel_rfl) h
theorem shows_walk (A : Option Addr) (c : Nat) (l : List S28) (w : World) (hr : ∀ x ∈ l, InR x) (hc : l.length ≤ c) (hC : Kd.C k28 w A l.length l) (hL : laidMetH Tryz.prog Rows.lexShowsRow.laid w) :
    Calls Tryz.prog 3 #[.slice A l.length c] w fun e w' => e = .returned (.bool true) ∧ Below w.heap.size w w' :=
  shows_law A c l hr hc w (ten_of hL (by kernel_rfl) (by kernel_rfl)) hC
end Go.Proofs.YtlkbeddlmbghkaaGreatDoor.PR
