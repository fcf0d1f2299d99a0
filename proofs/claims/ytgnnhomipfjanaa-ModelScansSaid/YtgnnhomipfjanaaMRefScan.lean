/- rundleref19.Scan: the document's first keys of a span at a version, and their values. -/
import Derived.Test.YtgnnhomipfjanaaPMx12
import Derived.Test.YtgnnhomipfjanaaPMx5
import Derived.Test.YtgnnhomipfjanaaMHas
namespace Go.Proofs.Ytgnnhomipfjanaa.PM
open Go Go.Proofs Go.RowKit Go.Proofs.YtgnnhomipfjanaaW.PrintWords Go.Proofs.YtgnnhomipfjanaaW.PrintLast Go.Proofs.YtgnnhomipfjanaaW.PrintMore
set_option linter.unusedVariables false
set_option linter.unusedSimpArgs false

theorem info75 : (Try.prog.info? 75).map (fun i => (i.zero, i.size, i.bytes)) = some (some (.agg #[(.string ⟨#[]⟩), (.string ⟨#[]⟩)]), 2, 32) := by kernel_rfl
/-- Is a key passed over? -/
def skipE (lo hi : ByteArray) (all : Bool) (lim : Int) (n : Nat) (k : ByteArray) : Bool := Srt.ltB k lo || (!all && !Srt.ltB k hi) || decide (lim ≤ (n : Int))
def refL (g : ByteArray → ByteArray × Int) (lo hi : ByteArray) (all : Bool) (lim : Int) : List ByteArray → List S74 → List S74
  | [], acc => acc
  | k :: t, acc => if skipE lo hi all lim acc.length k = true then refL g lo hi all lim t acc else if (g k).2 = 1 then refL g lo hi all lim t (acc ++ [⟨k, (g k).1⟩]) else refL g lo hi all lim t acc

set_option maxHeartbeats 8000000 in
set_option maxRecDepth 100000 in
theorem refScan_walk (K : Nat) (A0 : Option Addr) (c0 : Nat) (l0 : List S109) (v : Int) (lo hi : ByteArray) (all : Bool) (lim : Int) (w : World)
    (hr0 : Kd.C k109 w A0 l0.length l0) (hc0 : l0.length ≤ c0) (ks : List ByteArray) (hk : rundleref19_Keys.f K l0 = some ks) (hkl : ks.length < 1000000000000)
    (g : ByteArray → ByteArray × Int) (hg : ∀ k ∈ ks, rundleref19_Get.f K l0 v k = some (g k)) :
    Calls Try.prog 34 #[.slice A0 l0.length c0, .int .i64 v, .string lo, .string hi, .bool all, .int .i64 lim] w fun e w' => ∃ v0 : Value, e = .returned v0 ∧ Kd.R k74 75 w' w.heap.size (fun _ => True) v0 (refL g lo hi all lim ks []) ∧ Below w.heap.size w w' := by
  have HR0 := Aside0.mk hr0
  have HC0 := Aside0.mk hc0
  have HK := Aside0.mk hk
  have KL := Aside0.mk hkl
  have HG := Aside0.mk hg
  clear hr0 hc0 hk hkl hg
  go_enter Try.func34, Try.ntmps34
  go_upto_region 3 with (go_at_call 52; with_reducible refine (rundleref19_Keys.calls K A0 c0 l0 ks _ HR0.out HC0.out HK.out).mono ?_; rintro e w1 ⟨v1, rfl, ho, hb⟩; obtain ⟨Ak, ck, rfl⟩ := Kd.R_slice ho; have HKR := Aside0.mk (Kd.R_reads' ho); have HB := Aside0.mk hb; clear ho hb)
  go_wp2_with (fail)
  go_loopg [13, 15] (ks.length) (fun kq v13 v15 w' => ∃ (i : Nat) (acc : List S74), v15 = .int .i64 (i : Int) ∧ Aside0 (i + kq = ks.length) ∧ Aside0 (Kd.R k74 75 w' w1.heap.size (fun _ => True) v13 acc) ∧ Aside0 (acc.length ≤ i) ∧ Aside0 (refL g lo hi all lim (ks.drop i) acc = refL g lo hi all lim ks []) ∧ Aside0 (Below w1.heap.size w1 w'))
  case atStart => exact ⟨0, [], rfl, ⟨Nat.zero_add _⟩, ⟨Kd.R_nil _ _ _ _ _⟩, ⟨Nat.le_refl _⟩, ⟨rfl⟩, ⟨Below.refl _ _⟩⟩
  case round =>
    obtain ⟨i, acc, rfl, HI, HO, HA, HF, HBl⟩ := hrel
    have HBw := Aside0.mk (HB.out.trans (HBl.out.mono HB.out.size))
    by_cases hlt : i < ks.length
    · obtain ⟨k2, rfl⟩ : ∃ k2, gk = k2 + 1 := ⟨gk - 1, by have := HI.out; omega⟩
      have d1 : ((i : Int) < (ks.length : Int)) = True := eq_true (by omega)
      have d2 : decide ((i : Int) < (ks.length : Int)) = true := decide_eq_true (by omega)
      have d3 : (i < ks.length) = True := eq_true hlt
      obtain ⟨i1, hi1⟩ : ∃ i1, i1 = i + 1 := ⟨_, rfl⟩
      have e10 : IntKind.i64.wrap ((i : Int) + 1) = (i1 : Int) := by have := KL.out; rw [i64_w]; unfold wrap64; omega
      have I1 := Aside0.mk hi1
      clear hi1
      obtain ⟨kk, hkk⟩ : ∃ kk, ks[i] = kk := ⟨_, rfl⟩
      have GT := Aside0.mk (HG.out kk (hkk ▸ List.getElem_mem hlt))
      have ED := Aside0.mk (show ks.drop i = kk :: ks.drop (i + 1) by rw [← hkk]; exact List.drop_eq_getElem_cons hlt)
      obtain ⟨Ao, co, rfl⟩ := Kd.R_slice HO.out
      have CK := Aside0.mk (Kd.C_below HKR.out.2.2 HBl.out)
      obtain ⟨ak, eak, hq⟩ := Kd.at_string CK.out (i : Int) (by omega) (by omega)
      subst eak
      rw [show rdOf ByteArray.empty ks (i : Int) = kk by rw [← hkk]; unfold rdOf; simp [hlt]] at hq
      simp only [Int.toNat_natCast] at hq
      clear hkk
      go_upto_region 6 with (fail)
      go_cut [49] (fun v49 wx => v49 = .bool (skipE lo hi all lim acc.length kk) ∧ wx = wr)
      case first =>
        as_aux_lemma =>
          have e0 := leq_ltB hi kk
          cases h1 : Srt.ltB kk lo with
          | true =>
            have HS : Hid (skipE lo hi all lim acc.length kk = true) := by show _ = _; unfold skipE; rw [h1]; rfl
            have h2 : Op.bytesLess kk.toList lo.toList = true := h1
            clear h1 e0
            go_wp2_with (fail)
            go_meet
            case rel => exact ⟨by rw [HS.out], rfl⟩
          | false =>
            have h2 : Op.bytesLess kk.toList lo.toList = false := h1
            cases all with
            | false =>
              cases h3 : Srt.ltB kk hi with
              | false =>
                have HS : Hid (skipE lo hi false lim acc.length kk = true) := by show _ = _; unfold skipE; rw [h1, h3]; rfl
                rw [h3] at e0
                clear h1
                have h4 : Op.bytesLess kk.toList hi.toList = false := h3
                go_wp2_with (fail)
                go_meet
                case rel => exact ⟨by rw [HS.out], rfl⟩
              | true =>
                rw [h3] at e0
                have e1 : Op.bytesLess hi.toList kk.toList = false := (Bool.or_eq_false_iff.1 e0).1
                have e2 : (hi.toList == kk.toList) = false := (Bool.or_eq_false_iff.1 e0).2
                have h4 : Op.bytesLess kk.toList hi.toList = true := h3
                have HS : Hid (skipE lo hi false lim acc.length kk = decide (lim ≤ (acc.length : Int))) := by show _ = _; unfold skipE; rw [h1, h3]; rfl
                clear h1 e0 h3
                go_wp2_with (fail)
                go_meet
                case rel => exact ⟨by rw [HS.out], rfl⟩
            | true =>
              have HS : Hid (skipE lo hi true lim acc.length kk = decide (lim ≤ (acc.length : Int))) := by show _ = _; unfold skipE; rw [h1]; rfl
              clear h1 e0
              go_wp2_with (fail)
              go_meet
              case rel => exact ⟨by rw [HS.out], rfl⟩
      case rest =>
        obtain ⟨rfl, rfl⟩ := hcut
        cases hsk : skipE lo hi all lim acc.length kk with
        | true =>
          have HF2 := Aside0.mk (show refL g lo hi all lim (ks.drop i1) acc = refL g lo hi all lim ks [] by rw [← HF.out, ED.out, I1.out, refL, if_pos hsk])
          clear hsk
          go_wp2_with (fail)
          go_roundg k2
          case measure => omega
          case rel => exact ⟨i1, acc, rfl, ⟨by have := I1.out; have := HI.out; omega⟩, HO, ⟨by have := I1.out; have := HA.out; omega⟩, HF2, HBl⟩
        | false =>
          obtain ⟨⟨gv, gn⟩, hgk⟩ : ∃ y, g kk = y := ⟨_, rfl⟩
          have GK := Aside0.mk (hgk ▸ GT.out)
          have HF2 := Aside0.mk (show (if gn = 1 then refL g lo hi all lim (ks.drop i1) (acc ++ [⟨kk, gv⟩]) else refL g lo hi all lim (ks.drop i1) acc) = refL g lo hi all lim ks [] by rw [← HF.out, ED.out, I1.out]; conv => { rhs; rw [refL, hsk, hgk] }; rfl)
          clear hsk hgk
          have HSK : Aside0 True := ⟨trivial⟩
          by_cases h1 : gn = 1
          · have f1 : (gn == 1) = true := beq_iff_eq.mpr h1
            have HF3 := Aside0.mk ((if_pos h1).symm.trans HF2.out)
            clear HF2 h1
            obtain ⟨acc1, ha1⟩ : ∃ a, a = acc ++ [⟨kk, gv⟩] := ⟨_, rfl⟩
            have A1 := Aside0.mk ha1
            clear ha1
            go_wp2_with (first
              | (go_at_call 30; with_reducible refine (rundleref19_Get.calls K A0 c0 l0 v kk gv gn _ ?s1 HC0.out GK.out).mono ?_; (case s1 => exact Kd.C_below HR0.out HBw.out); rintro e w5 ⟨rfl, hb⟩; obtain ⟨nd, rfl⟩ := hb.out; have k5 : (wc.drewN nd).cell? (ak.add i) = some (.string kk) := ((pw_below_drewN (Below.refl _ wc) nd).cell (World.block_lt_of_cell? wc _ hq)).trans hq)
              | ((with_reducible refine gate_builtin (b := .append) (xs := #[.tmp 62, .tmp 69]) rfl ?_); at_builtin; refine Kd.R_append k74 (w0 := w1) w1.heap.size rfl (.tmp 62) (.tmp 69) 71 75 (.agg #[(.string ⟨#[]⟩), (.string ⟨#[]⟩)]) 32 rfl Try.underlying71 info75 rfl (by decide) (by omega) (.slice Ao acc.length co) acc (⟨kk, gv⟩ : S74) [.string kk, .string gv] (fun _ => True) (fun _ => False) rfl (by first | (go_simp; done) | (go_simp; rfl)) ?aP (fun _ hk => hk.elim) ?aF ?aO ?aB ?aS ?aL ?_; (case aP => exact k74_mkM _ _ _ (⟨kk, gv⟩ : S74)); (case aF => exact fun _ _ => trivial); (case aO => exact Kd.R_drewN HO.out _); (case aB => exact pw_below_drewN HBl.out _); (case aS => exact HBl.out.size); (case aL => have := KL.out; have := HA.out; omega); intro v11 w11 ho hb hg hat; rw [← A1.out] at ho; have HO11 := Aside0.mk ho; have HB11 := Aside0.mk hb; clear ho hb hg hat))
            go_roundg k2
            case measure => omega
            case rel => exact ⟨i1, acc1, rfl, ⟨by have := I1.out; have := HI.out; omega⟩, HO11, ⟨by rw [A1.out, List.length_append, List.length_singleton]; have := I1.out; have := HA.out; omega⟩, ⟨by rw [A1.out]; exact HF3.out⟩, HB11⟩
          · have f1 : (gn == 1) = false := beq_eq_false_iff_ne.mpr h1
            have HF3 := Aside0.mk ((if_neg h1).symm.trans HF2.out)
            clear HF2 h1
            go_wp2_with (first
              | (go_at_call 30; with_reducible refine (rundleref19_Get.calls K A0 c0 l0 v kk gv gn _ ?s1 HC0.out GK.out).mono ?_; (case s1 => exact Kd.C_below HR0.out HBw.out); rintro e w5 ⟨rfl, hb⟩; obtain ⟨nd, rfl⟩ := hb.out))
            go_roundg k2
            case measure => omega
            case rel => exact ⟨i1, acc, rfl, ⟨by have := I1.out; have := HI.out; omega⟩, ⟨Kd.R_drewN HO.out _⟩, ⟨by have := I1.out; have := HA.out; omega⟩, HF3, ⟨pw_below_drewN HBl.out _⟩⟩
    · have d1 : ((i : Int) < (ks.length : Int)) = False := eq_false (by omega)
      have d2 : decide ((i : Int) < (ks.length : Int)) = false := decide_eq_false (by omega)
      have d3 : (i < ks.length) = False := eq_false hlt
      have HF3 := Aside0.mk (show acc = refL g lo hi all lim ks [] by rw [← HF.out, List.drop_eq_nil_of_le (by omega), refL])
      go_wp2_with (fail)
      go_ret
      exact ⟨_, rfl, by rw [← HF3.out]; exact Kd.R_lower HO.out HB.out.size, HBw.out⟩
end Go.Proofs.Ytgnnhomipfjanaa.PM
