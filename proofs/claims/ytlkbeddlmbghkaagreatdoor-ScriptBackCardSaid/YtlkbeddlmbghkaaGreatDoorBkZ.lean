/- script.Show. -/
import Derived.Test.YtlkbeddlmbghkaaGreatDoorLnB
import Derived.Test.YtlkbeddlmbghkaaGreatDoorPl
import Derived.Test.YtlkbeddlmbghkaaGreatDoorShelfA
import Derived.Test.YtlkbeddlmbghkaaGreatDoorScA
import Derived.Test.YtlkbeddlmbghkaaGreatDoorScC
import Derived.Test.YtlkbeddlmbghkaaGreatDoorRows
import Derived.SizedLaws
import Derived.ChangeSlices
import Derived.ChangeSame
import Derived.Lib.SmallJoins
import Derived.OpenShut
import Derived.Deep.Slices
import Derived.Deep.Fields
import Derived.LaidMore
import Derived.LaidSub
import Derived.FnData
import Derived.Test.YtlkbeddlmbghkaaGreatDoorSh1
import Derived.Lib.LaidTab
namespace Go.Proofs.YtlkbeddlmbghkaaGreatDoor.PR
open Go Go.Proofs Go.RowKit Go.Proofs.YtlkbeddlmbghkaaGreatDoorW.PrintWords Go.Proofs.YtlkbeddlmbghkaaGreatDoorW.PrintLast Go.Proofs.YtlkbeddlmbghkaaGreatDoorW.PrintMore Go.Proofs.YtlkbeddlmbghkaaGreatDoor.Lx
attribute [local go_sem] Wd.one Wd.run_store
set_option linter.unusedVariables false
set_option linter.unusedSimpArgs false
set_option maxRecDepth 100000

theorem bf_below {T e : TypeId} {B b : Nat} {bs : List Value} {w w' : World} (h : Lib.IsBuilderF T e B b bs w) (hb : Below w.heap.size w w') : Lib.IsBuilderF T e B b bs w' := by
 have key : ∀ p, Lib.BuilderAtF T e B b p bs w → Lib.BuilderAtF T e B b p bs w' := by
  rintro p ⟨hB, v, hv, ⟨h1, h2⟩, hne⟩
  refine ⟨hB, v, blk_below hv hb, ⟨h1, ?_⟩, hne⟩
  rcases h2 with h2 | ⟨g, cap, cur, fz, e1, hBg, hg, rest⟩
  ·
   exact .inl h2
  ·
   exact .inr ⟨g, cap, cur, fz, e1, hBg, (hb.block g (Array.getElem?_eq_some_iff.1 hg).1).trans hg, rest⟩
 rcases h with h | h
 ·
  exact .inl (key _ h)
 ·
  exact .inr (key _ h)
theorem str_cells (t : List UInt8) : Lib.strCells (⟨t.toArray⟩ : ByteArray) = Lib.byteCells t := by
 simp [Lib.strCells, Lib.byteCells]

set_option maxHeartbeats 16000000 in
theorem sshow_at (l : List StepT) (A : Option Addr) (c : Nat) (w : World) (hT : TenAt w) (hK : KAt w) (h3 : 0 < w.heap.size) (hc : l.length ≤ c) (hC : Kd.C k58 w A l.length l) (hl : l.length ≤ 60) (hs : ∀ x ∈ l, Short x ∧ InS x) :
  Calls Tryz.prog 29 #[.slice A l.length c] w fun e w' => Below w.heap.size w w' ∧ e = .returned (.tuple #[.string ⟨(showF l []).1.toArray⟩, .int .i64 (showF l []).2]) := by
 have hu58 := Tryz.underlying58
 have hu52 := Tryz.underlying52
 have HT := Aside0.mk hT
 have HK := Aside0.mk hK
 have H3 := Aside0.mk h3
 have HC := Aside0.mk hC
 have HL := Aside0.mk hl
 have HS := Aside0.mk hs
 clear hT hK h3 hC hl hs
 go_enter Tryz.func29, Tryz.ntmps29
 go_wp2_with (fail)
 go_loopg [11] (l.length) (fun kq v11 w' => ∃ (i : Nat) (u : List UInt8), v11 = .int .i64 (i : Int) ∧ Aside0 (i + kq = l.length) ∧ Aside0 (Lib.IsBuilderF 104 5 w.heap.size w.heap.size (Lib.byteCells u) w') ∧ Aside0 (u.length ≤ 20000) ∧ Aside0 (showF l [] = showF (l.drop i) u) ∧ Aside0 (Below w.heap.size w w'))
 case atStart => exact ⟨0, [], rfl, ⟨Nat.zero_add _⟩, ⟨Lib.IsBuilderF.of (Lib.fresh_isBuilder 104 5 w)⟩, ⟨Nat.zero_le _⟩, ⟨by rw [List.drop_zero]⟩, ⟨(Below.refl _ _).alloc (Nat.le_refl _) _⟩⟩
 case round =>
  obtain ⟨i, u, rfl, HI, HO, HU, HF, HBl⟩ := hrel
  by_cases hlt : i < l.length
  ·
   obtain ⟨k2, rfl⟩ : ∃ k2, gk = k2 + 1 := ⟨gk - 1, by have := HI.out; omega⟩
   have d1 : ((i : Int) < (l.length : Int)) = True := eq_true (by omega)
   have d2 : decide ((i : Int) < (l.length : Int)) = true := decide_eq_true (by omega)
   have d3 : (i < l.length) = True := eq_true hlt
   obtain ⟨i1, hi1⟩ : ∃ i1, i1 = i + 1 := ⟨_, rfl⟩
   have e10 : IntKind.i64.wrap ((i : Int) + 1) = (i1 : Int) := by have := HL.out; rw [i64_w]; unfold wrap64; omega
   have I1 := Aside0.mk hi1
   clear hi1
   obtain ⟨ad, A6, c6, ead, hx0, hx1, hx2, hx3, hx4, hx5, hx6, hx7, hx8, hx9, hx10, hx11, hx12, hx13, hl6, hC6⟩ := at_T58 (Kd.C_below HC.out HBl.out) (i : Int) (by omega) (by omega)
   subst ead
   simp only [Int.toNat_natCast] at hx0 hx1 hx2 hx3 hx4 hx5 hx6 hx7 hx8 hx9 hx10 hx11 hx12 hx13
   have hr1 : rd_T58 l (i : Int) = l[i] := by unfold rd_T58; rw [Int.toNat_natCast, List.getD_eq_getElem?_getD, List.getElem?_eq_getElem hlt]; rfl
   have hdr : l.drop i = l[i] :: l.drop (i + 1) := List.drop_eq_getElem_cons hlt
   have hmem : Short l[i] ∧ InS l[i] := HS.out _ (List.getElem_mem hlt)
   rw [← hr1] at hdr hmem
   have HDR := Aside0.mk hdr
   have HM := Aside0.mk hmem
   clear hdr hmem
   generalize rd_T58 l (i : Int) = x at hx0 hx1 hx2 hx3 hx4 hx5 hx6 hx7 hx8 hx9 hx10 hx11 hx12 hx13 hr1 HDR HM hl6 hC6
   have HL6 := Aside0.mk hl6
   have HC6 := Aside0.mk hC6
   clear hr1 hlt hl6 hC6
   go_upto_region 5 with (fail)
   have ab5 : Below wr.heap.size wr (wr.alloc (.cells (stepV x (.slice A6 x.f3.f3.length c6)) 58)) := (Below.refl _ _).alloc (Nat.le_refl _) _
   have HB5 := Aside0.mk (HBl.out.trans (ab5.mono HBl.out.size))
   have X5 := Aside0.mk (blk_new wr (.cells (stepV x (.slice A6 x.f3.f3.length c6)) 58))
   have O5 := Aside0.mk (bf_below HO.out ab5)
   have C5 := Aside0.mk (Kd.C_below HC6.out ab5)
   change Code.wp _ _ _ _ (wr.alloc (.cells (stepV x (.slice A6 x.f3.f3.length c6)) 58))
   generalize (wr.alloc (.cells (stepV x (.slice A6 x.f3.f3.length c6)) 58)) = w5 at *
   generalize wr.heap.size = q at *
   clear ab5 hx0 hx1 hx2 hx3 hx4 hx5 hx6 hx7 hx8 hx9 hx10 hx11 hx12 hx13 HO HC6
   have q0 : w5.cell? ⟨q, 0, none⟩ = some (.int .i64 x.f0) := (blk_cell X5.out 0).trans rfl
   have q1 : w5.cell? ⟨q, 1, none⟩ = some (.int .i64 x.f1) := (blk_cell X5.out 1).trans rfl
   have q2 : w5.cell? ⟨q, 2, none⟩ = some (.int .i64 x.f2) := (blk_cell X5.out 2).trans rfl
   have q3 : w5.cell? ⟨q, 3, none⟩ = some (.int .i64 x.f3.f0) := (blk_cell X5.out 3).trans rfl
   have q4 : w5.cell? ⟨q, 4, none⟩ = some (.string x.f3.f1) := (blk_cell X5.out 4).trans rfl
   have q5 : w5.cell? ⟨q, 5, none⟩ = some (.string x.f3.f2) := (blk_cell X5.out 5).trans rfl
   have q6 : w5.cell? ⟨q, 6, none⟩ = some (.slice A6 x.f3.f3.length c6) := (blk_cell X5.out 6).trans rfl
   have q7 : w5.cell? ⟨q, 7, none⟩ = some (.string x.f3.f4) := (blk_cell X5.out 7).trans rfl
   have q8 : w5.cell? ⟨q, 8, none⟩ = some (.string x.f3.f5) := (blk_cell X5.out 8).trans rfl
   have q9 : w5.cell? ⟨q, 9, none⟩ = some (.bool x.f3.f6) := (blk_cell X5.out 9).trans rfl
   have q10 : w5.cell? ⟨q, 10, none⟩ = some (.int .i64 x.f3.f7) := (blk_cell X5.out 10).trans rfl
   have q11 : w5.cell? ⟨q, 11, none⟩ = some (.int .i64 x.f3.f8) := (blk_cell X5.out 11).trans rfl
   have q12 : w5.cell? ⟨q, 12, none⟩ = some (.int .i64 x.f3.f9) := (blk_cell X5.out 12).trans rfl
   have q13 : w5.cell? ⟨q, 13, none⟩ = some (.int .i64 x.f3.f10) := (blk_cell X5.out 13).trans rfl
   go_wp2_with (fail)
   refine (line_at x A6 c6 w5 (HT.out.mono HB5.out) (HK.out.mono H3.out HB5.out) (Nat.lt_of_lt_of_le H3.out HB5.out.size) HL6.out C5.out HM.out.1 HM.out.2).mono ?_
   rintro e w6 ⟨hb6, hL⟩
   have HB6 := Aside0.mk (HB5.out.trans (hb6.mono HB5.out.size))
   have O6 := Aside0.mk (bf_below O5.out hb6)
   clear hb6 q0 q1 q2 q3 q4 q5 q6 q7 q8 q9 q10 q11 q12 q13
   rcases hL with ⟨t, hlt, rfl⟩ | ⟨hlt, rfl⟩
   case inr =>
    have HR : Aside0 (showF l [] = ([], 10)) := ⟨by rw [HF.out, HDR.out]; exact showF_none hlt _ _⟩
    clear hlt
    go_wp2_with (fail)
    go_ret2
    exact ⟨HB6.out, by rw [HR.out]; rfl⟩
   have HLT := Aside0.mk hlt
   clear hlt
   have hsz : (⟨t.toArray⟩ : ByteArray).size = t.length := by rw [Lib.size_eq]
   have hlen := Tryz.Builder_Len_f w.heap.size w.heap.size _ w6 O6.out
   rw [Lib.byteCells_length] at hlen
   obtain ⟨n, hn⟩ : ∃ n, n = u.length + t.length := ⟨_, rfl⟩
   have HTC : Aside0 (Lib.strCells (⟨t.toArray⟩ : ByteArray) = Lib.byteCells t) := ⟨str_cells t⟩
   generalize (⟨t.toArray⟩ : ByteArray) = T at *
   have HSZ := Aside0.mk hsz
   have HN := Aside0.mk hn
   have e1 : IntKind.i64.wrap ((u.length : Int) + (T.size : Int)) = (n : Int) ∨ 140737488355328 < T.size := by
    by_cases hq : 140737488355328 < T.size
    ·
     exact .inr hq
    ·
     left; rw [i64_w]; have := HU.out; unfold wrap64; omega
   have hTs : T.size ≤ 140737488355328 := by
    obtain ⟨ws, toks, w1, w2, w3, _⟩ := lineT_some x t HLT.out
    have := (line_fits x HM.out.1 HM.out.2 ws w1).2.2 toks w2
    rw [hsz, w3]; exact this
   have HTS := Aside0.mk hTs
   have e1 : IntKind.i64.wrap ((u.length : Int) + (T.size : Int)) = (n : Int) := by
    rcases e1 with e1 | e1
    ·
     exact e1
    ·
     omega
   clear hsz hn hTs
   by_cases h20 : 20000 ≤ n
   ·
    have HR : Aside0 (showF l [] = ([], 1)) := ⟨by rw [HF.out, HDR.out]; exact showF_full HLT.out _ _ (by rw [← HN.out]; exact h20)⟩
    have g1 : ((20000 : Int) ≤ (n : Int)) = True := eq_true (by omega)
    have g2 : decide ((20000 : Int) ≤ (n : Int)) = true := decide_eq_true (by omega)
    have g3 : (20000 ≤ n) = True := eq_true h20
    clear h20
    go_wp2_with (fail)
    refine hlen.mono ?_
    rintro e w7 ⟨rfl, hw7⟩
    rw [hw7]
    clear hw7 hlen
    go_wp2_with (fail)
    go_ret2
    exact ⟨HB6.out, by rw [HR.out]; rfl⟩
   ·
    have HNX : Aside0 (showF l [] = showF (l.drop (i + 1)) (u ++ t ++ [10])) := ⟨by rw [HF.out, HDR.out]; exact showF_next HLT.out _ _ (by rw [← HN.out]; exact h20)⟩
    have H20 := Aside0.mk h20
    have g1 : ((20000 : Int) ≤ (n : Int)) = False := eq_false (by omega)
    have g2 : decide ((20000 : Int) ≤ (n : Int)) = false := decide_eq_false (by omega)
    have g3 : (20000 ≤ n) = False := eq_false h20
    clear h20
    go_wp2_with (fail)
    refine hlen.mono ?_
    rintro e w7 ⟨rfl, hw7⟩
    rw [hw7]
    clear hw7 hlen
    go_wp2_with (fail)
    refine (Tryz.Builder_WriteString_k w.heap.size w.heap.size _ T w6 O6.out (by rw [Lib.byteCells_length]; have := HU.out; have := HN.out; have := HSZ.out; have := H20.out; omega) HB6.out.size).mono ?_
    rintro e w8 ⟨rfl, h8, b8, _⟩
    rw [HTC.out, ← Lib.byteCells_append] at h8
    have HB8 := Aside0.mk (HB6.out.trans b8)
    have O8 := Aside0.mk (show Lib.IsBuilderF 104 5 w.heap.size w.heap.size (Lib.byteCells (u ++ t)) w8 from Or.inr h8)
    clear h8 b8
    go_wp2_with (fail)
    refine (Tryz.Builder_WriteByte_k w.heap.size w.heap.size _ 10 w8 O8.out (by rw [Lib.byteCells_length, List.length_append]; have := HN.out; have := H20.out; omega) HB8.out.size).mono ?_
    rintro e w9 ⟨rfl, h9, b9, _⟩
    have HB9 := Aside0.mk (HB8.out.trans b9)
    have O9 := Aside0.mk (show Lib.IsBuilderF 104 5 w.heap.size w.heap.size (Lib.byteCells (u ++ t ++ [10])) w9 by rw [Lib.byteCells_append]; exact Or.inr h9)
    clear h9 b9 g1 g2 g3 e1
    go_wp2_with (fail)
    go_roundg k2
    case measure => omega
    case rel => exact ⟨i1, u ++ t ++ [10], rfl, ⟨by have := HI.out; have := I1.out; omega⟩, O9, ⟨by rw [List.length_append, List.length_append]; have := HN.out; have := H20.out; show u.length + t.length + 1 ≤ 20000; omega⟩, ⟨by rw [I1.out]; exact HNX.out⟩, HB9⟩
  ·
   have hie : i = l.length := by have := HI.out; omega
   subst hie
   have d1 : ((l.length : Int) < (l.length : Int)) = False := eq_false (by omega)
   have HR : Aside0 (showF l [] = (u, 0)) := ⟨by rw [HF.out, List.drop_length]; rfl⟩
   clear hlt
   go_wp2_with (fail)
   refine (Tryz.Builder_String_any_k w.heap.size w.heap.size _ wr HO.out HBl.out.size).mono ?_
   rintro e w6 ⟨rfl, _, b6, _⟩
   go_wp2_with (fail)
   go_ret2
   exact ⟨HBl.out.trans b6, by rw [HR.out]; rfl⟩
end Go.Proofs.YtlkbeddlmbghkaaGreatDoor.PR

namespace Go.Proofs.YtlkbeddlmbghkaaGreatDoor.PR
open Go Go.Proofs Go.RowKit Go.Proofs.YtlkbeddlmbghkaaGreatDoorW.PrintWords Go.Proofs.YtlkbeddlmbghkaaGreatDoorW.PrintLast Go.Proofs.YtlkbeddlmbghkaaGreatDoorW.PrintMore Go.Proofs.YtlkbeddlmbghkaaGreatDoor.Lx
attribute [local go_sem] Wd.one Wd.run_store
set_option linter.unusedVariables false
set_option linter.unusedSimpArgs false
set_option maxRecDepth 100000

theorem cat_line (T S : ByteArray) : (T ++ S ++ ⟨#[10]⟩ : ByteArray).data.toList = T.data.toList ++ S.data.toList ++ [10] := by
 simp [ByteArray.data_append]
theorem bytes_of (T : ByteArray) : (⟨T.data.toList.toArray⟩ : ByteArray) = T := by
 cases T; simp
set_option maxHeartbeats 32000000 in
theorem back_law (l : List StepT) (A : Option Addr) (c : Nat) (w : World) (hT : TenAt w) (hk : KAt w) (h3 : 0 < w.heap.size) (hc : l.length ≤ c) (hC : Kd.C k58 w A l.length l) (hi : ∀ x ∈ l, InS x) :
  Calls Tryz.prog 7 #[.slice A l.length c] w fun e w' => e = .returned (.bool true) ∧ Below w.heap.size w w' := by
 have hu58 := Tryz.underlying58
 have hu52 := Tryz.underlying52
 have HT := Aside0.mk hT
 have HK := Aside0.mk hk
 have H3 := Aside0.mk h3
 have HC := Aside0.mk hC
 have HCC := Aside0.mk hc
 have HIN := Aside0.mk hi
 clear hT hk h3 hc hC hi
 go_enter Tryz.func7, Tryz.ntmps7
 go_wp2_with (fail)
 refine (awake_at w HK.out H3.out).mono ?_
 rintro e w1 ⟨rfl, hb1⟩
 have HB1 := Aside0.mk hb1
 clear hb1
 go_wp2_with (fail)
 refine (long_at l A c w1 HCC.out (Kd.C_below HC.out HB1.out)).mono ?_
 rintro e w2 ⟨b, rfl, hl, hb2⟩
 have HB2 := Aside0.mk (HB1.out.trans (hb2.mono HB1.out.size))
 clear hb2 HB1
 cases b with
 | true =>
  clear hl
  go_wp2_with (fail)
  refine (awake_at w2 (HK.out.mono H3.out HB2.out) (Nat.lt_of_lt_of_le H3.out HB2.out.size)).mono ?_
  rintro e w3 ⟨rfl, hb3⟩
  have HB3 := Aside0.mk (HB2.out.trans (hb3.mono HB2.out.size))
  clear hb3
  go_wp2_with (fail)
  go_ret
  exact ⟨rfl, HB3.out⟩
 | false =>
 have HL := Aside0.mk (hl rfl).1
 have HS : Aside0 (∀ x ∈ l, Short x ∧ InS x) := ⟨fun x hx => ⟨(hl rfl).2 x hx, HIN.out x hx⟩⟩
 clear hl
 go_wp2_with (fail)
 refine (sshow_at l A c w2 (HT.out.mono HB2.out) (HK.out.mono H3.out HB2.out) (Nat.lt_of_lt_of_le H3.out HB2.out.size) HCC.out (Kd.C_below HC.out HB2.out) HL.out HS.out).mono ?_
 rintro e w3 ⟨hb3, rfl⟩
 have HB3 := Aside0.mk (HB2.out.trans (hb3.mono HB2.out.size))
 clear hb3 HB2
 obtain ⟨FR, hFR⟩ : ∃ FR, FR = showF l [] := ⟨_, rfl⟩
 rw [← hFR]
 have HFR := Aside0.mk hFR
 clear hFR
 go_wp2_with (fail)
 go_loopg [5, 6, 7] (l.length) (fun kq v5 v6 v7 w' => ∃ (i : Nat) (T : ByteArray) (W : Int), v5 = .string T ∧ v6 = .int .i64 W ∧ v7 = .int .i64 (i : Int) ∧ Aside0 (Below w.heap.size w w') ∧ Aside0 ((i + kq = l.length ∧ W = 0 ∧ T.data.toList.length ≤ 20000 ∧ FR = showF (l.drop i) T.data.toList ∧ textL (l.take i) = some T.data.toList) ∨ (i + kq = l.length ∧ ¬W = 0 ∧ FR = ([], W))))
 case atStart => exact ⟨0, ⟨#[]⟩, 0, rfl, rfl, rfl, HB3, ⟨.inl ⟨Nat.zero_add _, rfl, Nat.zero_le _, by rw [List.drop_zero]; exact HFR.out, rfl⟩⟩⟩
 case round =>
  obtain ⟨i, T, W, rfl, rfl, rfl, HBl, hst⟩ := hrel
  rcases hst.out with ⟨hi, hW, hTl, hF, htx⟩ | ⟨hi, hW, hF⟩
  case inr =>
   have HF := Aside0.mk hF
   have w1 : (W == 0) = false := beq_eq_false_iff_ne.2 hW
   have w2 : (W = 0) = False := eq_false hW
   have w3 : (W != 0) = true := bne_iff_ne.2 hW
   have f1 : FR.1 = [] := by rw [hF]
   have f2 : FR.2 = W := by rw [hF]
   have w4 : (W == W) = true := beq_self_eq_true W
   rw [f1, f2]
   clear hst hF hW f1 f2
   by_cases hlt : i < l.length
   ·
    have d1 : ((i : Int) < (l.length : Int)) = True := eq_true (by omega)
    have d2 : decide ((i : Int) < (l.length : Int)) = true := decide_eq_true (by omega)
    have d3 : (i < l.length) = True := eq_true hlt
    clear hlt hi
    go_wp2_with (fail)
    go_ret
    exact ⟨rfl, HBl.out⟩
   ·
    have d1 : ((i : Int) < (l.length : Int)) = False := eq_false (by omega)
    have d2 : decide ((i : Int) < (l.length : Int)) = false := decide_eq_false (by omega)
    have d3 : (i < l.length) = False := eq_false hlt
    clear hlt hi
    go_wp2_with (fail)
    go_ret
    exact ⟨rfl, HBl.out⟩
  subst hW
  have HI := Aside0.mk hi
  have HTL := Aside0.mk hTl
  have HF := Aside0.mk hF
  have HTX := Aside0.mk htx
  clear hst hi hTl hF htx
  by_cases hlt : i < l.length
  ·
   obtain ⟨k2, rfl⟩ : ∃ k2, gk = k2 + 1 := ⟨gk - 1, by have := HI.out; omega⟩
   have d1 : ((i : Int) < (l.length : Int)) = True := eq_true (by omega)
   have d2 : decide ((i : Int) < (l.length : Int)) = true := decide_eq_true (by omega)
   have d3 : (i < l.length) = True := eq_true hlt
   obtain ⟨i1, hi1⟩ : ∃ i1, i1 = i + 1 := ⟨_, rfl⟩
   have e10 : IntKind.i64.wrap ((i : Int) + 1) = (i1 : Int) := by have := HL.out; rw [i64_w]; unfold wrap64; omega
   have I1 := Aside0.mk hi1
   clear hi1
   obtain ⟨adhx, Ahx, chx, eadhx, hx0, hx1, hx2, hx3, hx4, hx5, hx6, hx7, hx8, hx9, hx10, hx11, hx12, hx13, lhx, ghx⟩ := at_T58 (Kd.C_below HC.out HBl.out) ((i : Int)) (by omega) (by omega)
   subst eadhx
   simp only [Int.toNat_natCast] at hx0 hx1 hx2 hx3 hx4 hx5 hx6 hx7 hx8 hx9 hx10 hx11 hx12 hx13
   have hr1 : rd_T58 l (i : Int) = l[i] := by unfold rd_T58; rw [Int.toNat_natCast, List.getD_eq_getElem?_getD, List.getElem?_eq_getElem hlt]; rfl
   have hdr : l.drop i = l[i] :: l.drop (i + 1) := List.drop_eq_getElem_cons hlt
   have htk : l.take (i + 1) = l.take i ++ [l[i]] := (List.take_append_getElem hlt).symm
   have hmem : Short l[i] ∧ InS l[i] := HS.out _ (List.getElem_mem hlt)
   rw [← hr1] at hdr hmem htk
   have HDR := Aside0.mk hdr
   have HTK := Aside0.mk htk
   have HM := Aside0.mk hmem
   have HR1 := Aside0.mk hr1
   clear hdr hmem htk
   generalize hxx : rd_T58 l (i : Int) = x at hx0 hx1 hx2 hx3 hx4 hx5 hx6 hx7 hx8 hx9 hx10 hx11 hx12 hx13 hr1 HDR HM HTK lhx ghx HR1
   have HXX := Aside0.mk hxx
   have LX := Aside0.mk lhx
   have GX := Aside0.mk ghx
   clear hr1 lhx ghx hxx
   go_wp2_with (fail)
   refine (line_at x Ahx chx wr (HT.out.mono HBl.out) (HK.out.mono H3.out HBl.out) (Nat.lt_of_lt_of_le H3.out HBl.out.size) LX.out GX.out HM.out.1 HM.out.2).mono ?_
   rintro e w6 ⟨hb6, hL⟩
   have HB6 := Aside0.mk (HBl.out.trans (hb6.mono HBl.out.size))
   clear hb6 hx0 hx1 hx2 hx3 hx4 hx5 hx6 hx7 hx8 hx9 hx10 hx11 hx12 hx13 GX LX
   rcases hL with ⟨t, hlt2, rfl⟩ | ⟨hlt2, rfl⟩
   case inr =>
    have HR : Aside0 (FR = ([], 10)) := ⟨by rw [HF.out, HDR.out]; exact showF_none hlt2 _ _⟩
    clear hlt2
    go_wp2_with (fail)
    go_roundg k2
    case measure => omega
    case rel => exact ⟨i1, T, 10, rfl, rfl, rfl, HB6, ⟨.inr ⟨by have := HI.out; have := I1.out; omega, by decide, HR.out⟩⟩⟩
   have HLT := Aside0.mk hlt2
   clear hlt2
   have hsz : (⟨t.toArray⟩ : ByteArray).size = t.length := by rw [Lib.size_eq]
   have htd : (⟨t.toArray⟩ : ByteArray).data.toList = t := by simp
   have hTsz : T.size = T.data.toList.length := Lib.size_eq T
   obtain ⟨n, hn⟩ : ∃ n, n = T.data.toList.length + t.length := ⟨_, rfl⟩
   have hts : t.length ≤ 140737488355328 := by
    obtain ⟨ws, toks, w1, w2, w3, _⟩ := lineT_some x t HLT.out
    have := (line_fits x HM.out.1 HM.out.2 ws w1).2.2 toks w2
    rw [w3]; exact this
   have e1 : IntKind.i64.wrap ((T.size : Int) + ((⟨t.toArray⟩ : ByteArray).size : Int)) = (n : Int) := by rw [i64_w]; have := HTL.out; unfold wrap64; omega
   have e2 : IntKind.i64.wrap ((n : Int) + 1) = ((n + 1 : Nat) : Int) := by rw [i64_w]; have := HTL.out; unfold wrap64; omega
   have hTZ : t.length ≤ 20000 → ∃ k ls, lex_Lines.f k (⟨t.toArray⟩ : ByteArray) = some (ls, 0, 0) ∧ parseL ls [] = ([x], 0, 0) ∧ ls.length ≤ 1000000 ∧ ∀ p ∈ ls, p.f1.length ≤ 1000000 := one_line x t HLT.out
   have HTZ := Aside0.mk hTZ
   generalize hSS : (⟨t.toArray⟩ : ByteArray) = S at *
   have zz1 : T.size ≤ 20000 := by have := HTL.out; omega
   have zz2 : S.size ≤ 140737488355328 := by omega
   have zz3 : (T ++ S).size ≤ 281474976710656 := by rw [ByteArray.size_append]; omega
   have HSZ := Aside0.mk hsz
   have HTD := Aside0.mk htd
   have HN := Aside0.mk hn
   clear hsz htd hn hts hTZ hSS hTsz
   by_cases h20 : t.length ≤ 20000
   case neg =>
    have g1 : ((S.size : Int) ≤ 20000) = False := eq_false (by have := HSZ.out; omega)
    have g2 : decide ((S.size : Int) ≤ 20000) = false := decide_eq_false (by have := HSZ.out; omega)
    have g3 : (S.size ≤ 20000) = False := eq_false (by have := HSZ.out; omega)
    have hnn : 20000 ≤ n := by have := HN.out; omega
    have HR : Aside0 (FR = ([], 1)) := ⟨by rw [HF.out, HDR.out]; exact showF_full HLT.out _ _ (by have := HN.out; omega)⟩
    have j1 : ((20000 : Int) < ((n + 1 : Nat) : Int)) = True := eq_true (by omega)
    have j2 : decide ((20000 : Int) < ((n + 1 : Nat) : Int)) = true := decide_eq_true (by omega)
    have j3 : (20000 < n + 1) = True := eq_true (by omega)
    have j4 : ((20000 : Int) < (n : Int) + 1) = True := eq_true (by omega)
    clear hnn h20
    go_wp2_with (fail)
    go_roundg k2
    case measure => omega
    case rel => exact ⟨i1, _, 1, rfl, rfl, rfl, HB6, ⟨.inr ⟨by have := HI.out; have := I1.out; omega, by decide, HR.out⟩⟩⟩
   case pos =>
   have g1 : ((S.size : Int) ≤ 20000) = True := eq_true (by have := HSZ.out; omega)
   have g2 : decide ((S.size : Int) ≤ 20000) = true := decide_eq_true (by have := HSZ.out; omega)
   have g3 : (S.size ≤ 20000) = True := eq_true (by have := HSZ.out; omega)
   obtain ⟨kl, ls, z1, z2, z3, z4⟩ := HTZ.out h20
   have HPL := Aside0.mk z2
   go_wp2_with (fail)
   refine (parse_at kl S ls 0 0 z1 z3 z4 w6 (HK.out.mono H3.out HB6.out) (Nat.lt_of_lt_of_le H3.out HB6.out.size)).mono ?_
   rintro e w7 ⟨hb7, v, out, n7, f7, rfl, ho, hr⟩
   rw [if_pos rfl, HPL.out] at ho
   obtain ⟨ho1, ho2⟩ := Prod.mk.inj ho
   obtain ⟨ho2, ho3⟩ := Prod.mk.inj ho2
   subst ho2 ho3 ho1
   obtain ⟨Ao, co, rfl, hco, hCo⟩ := Kd.R_reads hr
   have HB7 := Aside0.mk (HB6.out.trans (hb7.mono HB6.out.size))
   clear z1 z2 z3 z4 hb7 hr ho g1 g2 g3 HPL
   obtain ⟨adq, Aq, cq, eadq, q0, q1, q2, q3, q4, q5, q6, q7, q8, q9, q10, q11, q12, q13, lq, gq⟩ := at_T58 (hCo) ((0 : Int)) (by decide) (by simp)
   subst eadq
   rw [show rd_T58 [x] 0 = x from rfl] at q0 q1 q2 q3 q4 q5 q6 q7 q8 q9 q10 q11 q12 q13 lq gq
   simp only [show ((0 : Int).toNat * 14) = 0 from rfl, Addr.add_zero'] at q0 q1 q2 q3 q4 q5 q6 q7 q8 q9 q10 q11 q12 q13
   obtain ⟨adr, Ar, cr, eadr, r0, r1, r2, r3, r4, r5, r6, r7, r8, r9, r10, r11, r12, r13, lr, gr⟩ := at_T58 (Kd.C_below HC.out HB7.out) ((i : Int)) (by omega) (by omega)
   obtain rfl := Option.some.inj eadr
   rw [HXX.out] at r0 r1 r2 r3 r4 r5 r6 r7 r8 r9 r10 r11 r12 r13 lr gr
   simp only [Int.toNat_natCast] at r0 r1 r2 r3 r4 r5 r6 r7 r8 r9 r10 r11 r12 r13
   have LQ := Aside0.mk lq
   have GQ := Aside0.mk gq
   have LR := Aside0.mk lr
   have GR := Aside0.mk gr
   have hsl := Aside0.mk HM.out.1.1
   clear lq gq lr gr hCo hco eadr
   have o1 : (([x] : List StepT).length : Int) = 1 := rfl
   go_upto_region 15 with (fail)
   refine start_ (n := 22) (S := fun w' => Below w7.heap.size w7 w') (ds := []) #[false, false, false, false, false, false, false, false, false, false, false, false, false, false, false, false, false, false, false, false, false, false] (by kernel_rfl) rfl rfl (Below.refl _ _).drew (fun hHeld => ?_)
   have hsz9 : w7.drew.heap.size = w7.heap.size := rfl
   generalize w7.drew = w9 at *
   refine pure_ (i := 0) (N := some 65) (v := ?_) (a' := ?_) #[true, false, false, false, false, false, false, false, false, false, false, false, false, false, false, false, false, false, false, false, false, false] rfl rfl (by kernel_rfl) (fun _ _ _ h => h) (Or.inl ⟨by rfl, ?_⟩) ?_ ?_
   rotate_left
   ·
    intro w'
    go_simp
    with_reducible rfl
   rotate_left
   ·
    simp only [Act.put, List.setIfInBounds_toArray, List.set_cons_zero, List.set_cons_succ, i64_w, i32_w]
    rfl
   refine pure_ (i := 1) (N := some 66) (v := ?_) (a' := ?_) #[true, true, false, false, false, false, false, false, false, false, false, false, false, false, false, false, false, false, false, false, false, false] rfl rfl (by kernel_rfl) (fun _ _ _ h => h) (Or.inl ⟨by rfl, ?_⟩) ?_ ?_
   rotate_left
   ·
    intro w'
    go_simp
    with_reducible rfl
   rotate_left
   ·
    simp only [Act.put, List.setIfInBounds_toArray, List.set_cons_zero, List.set_cons_succ, i64_w, i32_w]
    rfl
   refine pure_ (i := 2) (N := some 67) (v := ?_) (a' := ?_) #[true, true, true, false, false, false, false, false, false, false, false, false, false, false, false, false, false, false, false, false, false, false] rfl rfl (by kernel_rfl) (fun _ _ _ h => h) (Or.inl ⟨by rfl, ?_⟩) ?_ ?_
   rotate_left
   ·
    intro w'
    go_simp
    with_reducible rfl
   rotate_left
   ·
    simp only [Act.put, List.setIfInBounds_toArray, List.set_cons_zero, List.set_cons_succ, i64_w, i32_w]
    rfl
   refine pure_ (i := 3) (N := some 68) (v := ?_) (a' := ?_) #[true, true, true, true, false, false, false, false, false, false, false, false, false, false, false, false, false, false, false, false, false, false] rfl rfl (by kernel_rfl) (fun _ _ _ h => h) (Or.inl ⟨by rfl, ?_⟩) ?_ ?_
   rotate_left
   ·
    intro w'
    go_simp
    with_reducible rfl
   rotate_left
   ·
    simp only [Act.put, List.setIfInBounds_toArray, List.set_cons_zero, List.set_cons_succ, i64_w, i32_w]
    rfl
   refine pure_ (i := 4) (N := some 69) (v := ?_) (a' := ?_) #[true, true, true, true, true, false, false, false, false, false, false, false, false, false, false, false, false, false, false, false, false, false] rfl rfl (by kernel_rfl) (fun _ _ _ h => h) (Or.inl ⟨by rfl, ?_⟩) ?_ ?_
   rotate_left
   ·
    intro w'
    go_simp
    with_reducible rfl
   rotate_left
   ·
    simp only [Act.put, List.setIfInBounds_toArray, List.set_cons_zero, List.set_cons_succ, i64_w, i32_w]
    rfl
   refine pure_ (i := 5) (N := some 70) (v := ?_) (a' := ?_) #[true, true, true, true, true, true, false, false, false, false, false, false, false, false, false, false, false, false, false, false, false, false] rfl rfl (by kernel_rfl) (fun _ _ _ h => h) (Or.inl ⟨by rfl, ?_⟩) ?_ ?_
   rotate_left
   ·
    intro w'
    go_simp
    with_reducible rfl
   rotate_left
   ·
    simp only [Act.put, List.setIfInBounds_toArray, List.set_cons_zero, List.set_cons_succ, i64_w, i32_w]
    rfl
   refine pure_ (i := 6) (N := some 71) (v := ?_) (a' := ?_) #[true, true, true, true, true, true, true, false, false, false, false, false, false, false, false, false, false, false, false, false, false, false] rfl rfl (by kernel_rfl) (fun _ _ _ h => h) (Or.inl ⟨by rfl, ?_⟩) ?_ ?_
   rotate_left
   ·
    intro w'
    go_simp
    with_reducible rfl
   rotate_left
   ·
    simp only [Act.put, List.setIfInBounds_toArray, List.set_cons_zero, List.set_cons_succ, i64_w, i32_w]
    rfl
   refine pure_ (i := 7) (N := some 72) (v := ?_) (a' := ?_) #[true, true, true, true, true, true, true, true, false, false, false, false, false, false, false, false, false, false, false, false, false, false] rfl rfl (by kernel_rfl) (fun _ _ _ h => h) (Or.inl ⟨by rfl, ?_⟩) ?_ ?_
   rotate_left
   ·
    intro w'
    go_simp
    with_reducible rfl
   rotate_left
   ·
    simp only [Act.put, List.setIfInBounds_toArray, List.set_cons_zero, List.set_cons_succ, i64_w, i32_w]
    rfl
   refine pure_ (i := 8) (N := some 73) (v := ?_) (a' := ?_) #[true, true, true, true, true, true, true, true, true, false, false, false, false, false, false, false, false, false, false, false, false, false] rfl rfl (by kernel_rfl) (fun _ _ _ h => h) (Or.inl ⟨by rfl, ?_⟩) ?_ ?_
   rotate_left
   ·
    intro w'
    go_simp
    with_reducible rfl
   rotate_left
   ·
    simp only [Act.put, List.setIfInBounds_toArray, List.set_cons_zero, List.set_cons_succ, i64_w, i32_w]
    rfl
   refine pure_ (i := 9) (N := some 74) (v := ?_) (a' := ?_) #[true, true, true, true, true, true, true, true, true, true, false, false, false, false, false, false, false, false, false, false, false, false] rfl rfl (by kernel_rfl) (fun _ _ _ h => h) (Or.inl ⟨by rfl, ?_⟩) ?_ ?_
   rotate_left
   ·
    intro w'
    go_simp
    with_reducible rfl
   rotate_left
   ·
    simp only [Act.put, List.setIfInBounds_toArray, List.set_cons_zero, List.set_cons_succ, i64_w, i32_w]
    rfl
   refine pure_ (i := 10) (N := some 75) (v := ?_) (a' := ?_) #[true, true, true, true, true, true, true, true, true, true, true, false, false, false, false, false, false, false, false, false, false, false] rfl rfl (by kernel_rfl) (fun _ _ _ h => h) (Or.inl ⟨by rfl, ?_⟩) ?_ ?_
   rotate_left
   ·
    intro w'
    go_simp
    with_reducible rfl
   rotate_left
   ·
    simp only [Act.put, List.setIfInBounds_toArray, List.set_cons_zero, List.set_cons_succ, i64_w, i32_w]
    rfl
   refine pure_ (i := 11) (N := some 76) (v := ?_) (a' := ?_) #[true, true, true, true, true, true, true, true, true, true, true, true, false, false, false, false, false, false, false, false, false, false] rfl rfl (by kernel_rfl) (fun _ _ _ h => h) (Or.inl ⟨by rfl, ?_⟩) ?_ ?_
   rotate_left
   ·
    intro w'
    go_simp
    with_reducible rfl
   rotate_left
   ·
    simp only [Act.put, List.setIfInBounds_toArray, List.set_cons_zero, List.set_cons_succ, i64_w, i32_w]
    rfl
   refine pure_ (i := 12) (N := some 77) (v := ?_) (a' := ?_) #[true, true, true, true, true, true, true, true, true, true, true, true, true, false, false, false, false, false, false, false, false, false] rfl rfl (by kernel_rfl) (fun _ _ _ h => h) (Or.inl ⟨by rfl, ?_⟩) ?_ ?_
   rotate_left
   ·
    intro w'
    go_simp
    with_reducible rfl
   rotate_left
   ·
    simp only [Act.put, List.setIfInBounds_toArray, List.set_cons_zero, List.set_cons_succ, i64_w, i32_w]
    rfl
   refine pure_ (i := 13) (N := some 78) (v := ?_) (a' := ?_) #[true, true, true, true, true, true, true, true, true, true, true, true, true, true, false, false, false, false, false, false, false, false] rfl rfl (by kernel_rfl) (fun _ _ _ h => h) (Or.inl ⟨by rfl, ?_⟩) ?_ ?_
   rotate_left
   ·
    intro w'
    go_simp
    with_reducible rfl
   rotate_left
   ·
    simp only [Act.put, List.setIfInBounds_toArray, List.set_cons_zero, List.set_cons_succ, i64_w, i32_w]
    rfl
   refine take_ (i := 14) (N := some 79) (v := ?_) (a' := ?_) #[true, true, true, true, true, true, true, true, true, true, true, true, true, true, true, false, false, false, false, false, false, false] rfl rfl (by kernel_rfl) (fun _ _ _ h => h) (Or.inl ⟨by rfl, ?_⟩) hHeld ?_ ?_
   rotate_left
   ·
    intro w' hS
    have t0 := (hS.cell (World.block_lt_of_cell? w7 _ q0)).trans q0
    have t1 := (hS.cell (World.block_lt_of_cell? w7 _ q1)).trans q1
    have t2 := (hS.cell (World.block_lt_of_cell? w7 _ q2)).trans q2
    have t3 := (hS.cell (World.block_lt_of_cell? w7 _ q3)).trans q3
    have t4 := (hS.cell (World.block_lt_of_cell? w7 _ q4)).trans q4
    have t5 := (hS.cell (World.block_lt_of_cell? w7 _ q5)).trans q5
    have t6 := (hS.cell (World.block_lt_of_cell? w7 _ q6)).trans q6
    have t7 := (hS.cell (World.block_lt_of_cell? w7 _ q7)).trans q7
    have t8 := (hS.cell (World.block_lt_of_cell? w7 _ q8)).trans q8
    have t9 := (hS.cell (World.block_lt_of_cell? w7 _ q9)).trans q9
    have t10 := (hS.cell (World.block_lt_of_cell? w7 _ q10)).trans q10
    have t11 := (hS.cell (World.block_lt_of_cell? w7 _ q11)).trans q11
    have t12 := (hS.cell (World.block_lt_of_cell? w7 _ q12)).trans q12
    have t13 := (hS.cell (World.block_lt_of_cell? w7 _ q13)).trans q13
    go_simp
    with_reducible rfl
   rotate_left
   ·
    simp only [Act.put, List.setIfInBounds_toArray, List.set_cons_zero, List.set_cons_succ, i64_w, i32_w]
    rfl
   refine pure_ (i := 15) (N := some 80) (v := ?_) (a' := ?_) #[true, true, true, true, true, true, true, true, true, true, true, true, true, true, true, true, false, false, false, false, false, false] rfl rfl (by kernel_rfl) (fun _ _ _ h => h) (Or.inl ⟨by rfl, ?_⟩) ?_ ?_
   rotate_left
   ·
    intro w'
    go_simp
    with_reducible rfl
   rotate_left
   ·
    simp only [Act.put, List.setIfInBounds_toArray, List.set_cons_zero, List.set_cons_succ, i64_w, i32_w]
    rfl
   refine pure_ (i := 16) (N := some 81) (v := ?_) (a' := ?_) #[true, true, true, true, true, true, true, true, true, true, true, true, true, true, true, true, true, false, false, false, false, false] rfl rfl (by kernel_rfl) (fun _ _ _ h => h) (Or.inl ⟨by rfl, ?_⟩) ?_ ?_
   rotate_left
   ·
    intro w'
    go_simp
    with_reducible rfl
   rotate_left
   ·
    simp only [Act.put, List.setIfInBounds_toArray, List.set_cons_zero, List.set_cons_succ, i64_w, i32_w]
    rfl
   refine pure_ (i := 17) (N := some 82) (v := ?_) (a' := ?_) #[true, true, true, true, true, true, true, true, true, true, true, true, true, true, true, true, true, true, false, false, false, false] rfl rfl (by kernel_rfl) (fun _ _ _ h => h) (Or.inl ⟨by rfl, ?_⟩) ?_ ?_
   rotate_left
   ·
    intro w'
    go_simp
    with_reducible rfl
   rotate_left
   ·
    simp only [Act.put, List.setIfInBounds_toArray, List.set_cons_zero, List.set_cons_succ, i64_w, i32_w]
    rfl
   refine take_ (i := 18) (N := some 83) (v := ?_) (a' := ?_) #[true, true, true, true, true, true, true, true, true, true, true, true, true, true, true, true, true, true, true, false, false, false] rfl rfl (by kernel_rfl) (fun _ _ _ h => h) (Or.inl ⟨by rfl, ?_⟩) hHeld ?_ ?_
   rotate_left
   ·
    intro w' hS
    have t0 := (hS.cell (World.block_lt_of_cell? w7 _ r0)).trans r0
    have t1 := (hS.cell (World.block_lt_of_cell? w7 _ r1)).trans r1
    have t2 := (hS.cell (World.block_lt_of_cell? w7 _ r2)).trans r2
    have t3 := (hS.cell (World.block_lt_of_cell? w7 _ r3)).trans r3
    have t4 := (hS.cell (World.block_lt_of_cell? w7 _ r4)).trans r4
    have t5 := (hS.cell (World.block_lt_of_cell? w7 _ r5)).trans r5
    have t6 := (hS.cell (World.block_lt_of_cell? w7 _ r6)).trans r6
    have t7 := (hS.cell (World.block_lt_of_cell? w7 _ r7)).trans r7
    have t8 := (hS.cell (World.block_lt_of_cell? w7 _ r8)).trans r8
    have t9 := (hS.cell (World.block_lt_of_cell? w7 _ r9)).trans r9
    have t10 := (hS.cell (World.block_lt_of_cell? w7 _ r10)).trans r10
    have t11 := (hS.cell (World.block_lt_of_cell? w7 _ r11)).trans r11
    have t12 := (hS.cell (World.block_lt_of_cell? w7 _ r12)).trans r12
    have t13 := (hS.cell (World.block_lt_of_cell? w7 _ r13)).trans r13
    go_simp
    with_reducible rfl
   rotate_left
   ·
    simp only [Act.put, List.setIfInBounds_toArray, List.set_cons_zero, List.set_cons_succ, i64_w, i32_w]
    rfl
   refine one_ (i := 19) (N := some 84) #[true, true, true, true, true, true, true, true, true, true, true, true, true, true, true, true, true, true, true, true, false, false] rfl rfl (by kernel_rfl) (by decide) (fun K hK => ?_)
   go_simp
   refine (same_at x x Aq Ar cq cr w9 (Kd.C_below GQ.out hHeld) (Kd.C_below GR.out hHeld) LQ.out LR.out (by have := hsl.out; omega)).mono ?_
   rintro e w8 ⟨b, rfl, hb, hb8⟩
   obtain rfl : b = true := hb.2 rfl
   have hS8 := hHeld.trans (hb8.mono (Nat.le_of_eq hsz9.symm))
   dsimp only
   refine hK.out _ _ hS8 (fun hHeld => ?_)
   clear hK K hb
   refine pure_ (i := 20) (N := some 85) (v := ?_) (a' := ?_) #[true, true, true, true, true, true, true, true, true, true, true, true, true, true, true, true, true, true, true, true, true, false] rfl rfl (by kernel_rfl) (fun _ _ _ h => h) (Or.inl ⟨by rfl, ?_⟩) ?_ ?_
   rotate_left
   ·
    intro w'
    go_simp
    with_reducible rfl
   rotate_left
   ·
    simp only [Act.put, List.setIfInBounds_toArray, List.set_cons_zero, List.set_cons_succ, i64_w, i32_w]
    rfl
   refine pure_ (i := 21) (N := some 86) (v := ?_) (a' := ?_) #[true, true, true, true, true, true, true, true, true, true, true, true, true, true, true, true, true, true, true, true, true, true] rfl rfl (by kernel_rfl) (fun _ _ _ h => h) (Or.inl ⟨by rfl, ?_⟩) ?_ ?_
   rotate_left
   ·
    intro w'
    go_simp
    with_reducible rfl
   rotate_left
   ·
    simp only [Act.put, List.setIfInBounds_toArray, List.set_cons_zero, List.set_cons_succ, i64_w, i32_w]
    rfl
   refine done_ (by kernel_rfl) ?_
   have HB8 := Aside0.mk (HB7.out.trans (hS8.mono HB7.out.size))
   clear hHeld hS8 hb8 hsz9 q0 r0 q1 r1 q2 r2 q3 r3 q4 r4 q5 r5 q6 r6 q7 r7 q8 r8 q9 r9 q10 r10 q11 r11 q12 r12 q13 r13
   by_cases hnn : 20000 ≤ n
   ·
    skip
    have HR : Aside0 (FR = ([], 1)) := ⟨by rw [HF.out, HDR.out]; exact showF_full HLT.out _ _ (by have := HN.out; omega)⟩
    have j1 : ((20000 : Int) < ((n + 1 : Nat) : Int)) = True := eq_true (by omega)
    have j2 : decide ((20000 : Int) < ((n + 1 : Nat) : Int)) = true := decide_eq_true (by omega)
    have j3 : (20000 < n + 1) = True := eq_true (by omega)
    have j4 : ((20000 : Int) < (n : Int) + 1) = True := eq_true (by omega)
    clear hnn h20
    go_wp2_with (fail)
    go_roundg k2
    case measure => omega
    case rel => exact ⟨i1, _, 1, rfl, rfl, rfl, HB8, ⟨.inr ⟨by have := HI.out; have := I1.out; omega, by decide, HR.out⟩⟩⟩
   ·
    have HNX : Aside0 (FR = showF (l.drop (i + 1)) (T.data.toList ++ t ++ [10])) := ⟨by rw [HF.out, HDR.out]; exact showF_next HLT.out _ _ (by have := HN.out; omega)⟩
    have HTN : Aside0 (textL (l.take (i + 1)) = some (T.data.toList ++ t ++ [10])) := ⟨by rw [HTK.out]; exact textL_snoc _ _ _ _ HTX.out HLT.out⟩
    have HNN := Aside0.mk hnn
    have j1 : ((20000 : Int) < ((n + 1 : Nat) : Int)) = False := eq_false (by omega)
    have j2 : decide ((20000 : Int) < ((n + 1 : Nat) : Int)) = false := decide_eq_false (by omega)
    have j3 : (20000 < n + 1) = False := eq_false (by omega)
    have j4 : ((20000 : Int) < (n : Int) + 1) = False := eq_false (by omega)
    clear hnn h20
    go_wp2_with (fail)
    go_roundg k2
    case measure => omega
    case rel => exact ⟨i1, T ++ S ++ ⟨#[10]⟩, 0, rfl, rfl, rfl, HB8, ⟨.inl ⟨by have := HI.out; have := I1.out; omega, rfl, by rw [cat_line, HTD.out, List.length_append, List.length_append]; have := HN.out; have := HNN.out; show T.data.toList.length + t.length + 1 ≤ 20000; omega, by rw [cat_line, HTD.out, I1.out]; exact HNX.out, by rw [cat_line, HTD.out, I1.out]; exact HTN.out⟩⟩⟩
  ·
   have hie : i = l.length := by have := HI.out; omega
   subst hie
   have d1 : ((l.length : Int) < (l.length : Int)) = False := eq_false (by omega)
   rw [List.take_length] at HTX
   have hFv : FR = (T.data.toList, 0) := by rw [HF.out, List.drop_length]; first | done | rfl
   have f1 : (⟨FR.1.toArray⟩ : ByteArray) = T := by rw [hFv]; try exact bytes_of T
   have f2 : FR.2 = 0 := by rw [hFv]
   rw [f1, f2]
   obtain ⟨kl, ls, z1, z2, z3, z4⟩ := text_lines l T.data.toList HTX.out HTL.out
   rw [bytes_of] at z1
   clear hlt hFv f1 f2
   go_wp2_with (fail)
   refine (parse_at kl T ls 0 0 z1 z3 z4 wr (HK.out.mono H3.out HBl.out) (Nat.lt_of_lt_of_le H3.out HBl.out.size)).mono ?_
   rintro e w7 ⟨hb7, v, out, n7, f7, rfl, ho, hr⟩
   rw [if_pos rfl, z2] at ho
   obtain ⟨ho1, ho2⟩ := Prod.mk.inj ho
   obtain ⟨ho2, ho3⟩ := Prod.mk.inj ho2
   subst ho2 ho3 ho1
   obtain ⟨Ao, co, rfl, hco, hCo⟩ := Kd.R_reads hr
   have HB7 := Aside0.mk (HBl.out.trans (hb7.mono HBl.out.size))
   have HCO := Aside0.mk hCo
   have s1 : (T.toList != T.toList) = false := by simp
   have s2 : (T.toList == T.toList) = true := beq_self_eq_true _
   have s3 : ((out.length : Int) != (out.length : Int)) = false := by simp
   clear z1 z2 z3 z4 hb7 hr ho hCo hco
   go_wp2_with (fail)
   go_loopg [16] (out.length) (fun kq v16 w' => ∃ (i : Nat), v16 = .int .i64 (i : Int) ∧ Aside0 (i + kq = out.length) ∧ Aside0 (Below w7.heap.size w7 w'))
   case atStart => exact ⟨0, rfl, ⟨Nat.zero_add _⟩, ⟨Below.refl _ _⟩⟩
   case round =>
    obtain ⟨i, rfl, HI2, HBm⟩ := hrel
    by_cases hlt : i < out.length
    ·
     obtain ⟨k2, rfl⟩ : ∃ k2, gk = k2 + 1 := ⟨gk - 1, by have := HI2.out; omega⟩
     have d1 : ((i : Int) < (out.length : Int)) = True := eq_true (by omega)
     have d2 : decide ((i : Int) < (out.length : Int)) = true := decide_eq_true (by omega)
     have d3 : (i < out.length) = True := eq_true hlt
     obtain ⟨i1, hi1⟩ : ∃ i1, i1 = i + 1 := ⟨_, rfl⟩
     have e10 : IntKind.i64.wrap ((i : Int) + 1) = (i1 : Int) := by have := HL.out; rw [i64_w]; unfold wrap64; omega
     have I1 := Aside0.mk hi1
     have HBr := Aside0.mk (HB7.out.trans (HBm.out.mono HB7.out.size))
     clear hi1
     obtain ⟨adq, Aq, cq, eadq, q0, q1, q2, q3, q4, q5, q6, q7, q8, q9, q10, q11, q12, q13, lq, gq⟩ := at_T58 (Kd.C_below HCO.out HBm.out) ((i : Int)) (by omega) (by omega)
     subst eadq
     obtain ⟨adr, Ar, cr, eadr, r0, r1, r2, r3, r4, r5, r6, r7, r8, r9, r10, r11, r12, r13, lr, gr⟩ := at_T58 (Kd.C_below HC.out HBr.out) ((i : Int)) (by omega) (by omega)
     obtain rfl := eadr
     have hmem : Short (rd_T58 out (i : Int)) := by
      have e : rd_T58 out (i : Int) = out[i] := by unfold rd_T58; rw [Int.toNat_natCast, List.getD_eq_getElem?_getD, List.getElem?_eq_getElem hlt]; rfl
      rw [e]; exact (HS.out _ (List.getElem_mem hlt)).1
     generalize rd_T58 out (i : Int) = x at q0 q1 q2 q3 q4 q5 q6 q7 q8 q9 q10 q11 q12 q13 lq gq r0 r1 r2 r3 r4 r5 r6 r7 r8 r9 r10 r11 r12 r13 lr gr hmem
     simp only [Int.toNat_natCast] at q0 q1 q2 q3 q4 q5 q6 q7 q8 q9 q10 q11 q12 q13 r0 r1 r2 r3 r4 r5 r6 r7 r8 r9 r10 r11 r12 r13
     have LQ := Aside0.mk lq
     have GQ := Aside0.mk gq
     have LR := Aside0.mk lr
     have GR := Aside0.mk gr
     have hsl := Aside0.mk hmem.1
     clear lq gq lr gr hmem hlt
     go_upto_region 28 with (fail)
     refine start_ (n := 10) (S := fun w' => Below wr.heap.size wr w') (ds := []) #[false, false, false, false, false, false, false, false, false, false] (by kernel_rfl) rfl rfl (Below.refl _ _).drew (fun hHeld => ?_)
     have hsz9 : wr.drew.heap.size = wr.heap.size := rfl
     generalize wr.drew = w9 at *
     refine pure_ (i := 0) (N := some 141) (v := ?_) (a' := ?_) #[true, false, false, false, false, false, false, false, false, false] rfl rfl (by kernel_rfl) (fun _ _ _ h => h) (Or.inl ⟨by rfl, ?_⟩) ?_ ?_
     rotate_left
     ·
      intro w'
      go_simp
      with_reducible rfl
     rotate_left
     ·
      simp only [Act.put, List.setIfInBounds_toArray, List.set_cons_zero, List.set_cons_succ, i64_w, i32_w]
      rfl
     refine pure_ (i := 1) (N := some 142) (v := ?_) (a' := ?_) #[true, true, false, false, false, false, false, false, false, false] rfl rfl (by kernel_rfl) (fun _ _ _ h => h) (Or.inl ⟨by rfl, ?_⟩) ?_ ?_
     rotate_left
     ·
      intro w'
      go_simp
      with_reducible rfl
     rotate_left
     ·
      simp only [Act.put, List.setIfInBounds_toArray, List.set_cons_zero, List.set_cons_succ, i64_w, i32_w]
      rfl
     refine pure_ (i := 2) (N := some 143) (v := ?_) (a' := ?_) #[true, true, true, false, false, false, false, false, false, false] rfl rfl (by kernel_rfl) (fun _ _ _ h => h) (Or.inl ⟨by rfl, ?_⟩) ?_ ?_
     rotate_left
     ·
      intro w'
      go_simp
      with_reducible rfl
     rotate_left
     ·
      simp only [Act.put, List.setIfInBounds_toArray, List.set_cons_zero, List.set_cons_succ, i64_w, i32_w]
      rfl
     refine take_ (i := 3) (N := some 144) (v := ?_) (a' := ?_) #[true, true, true, true, false, false, false, false, false, false] rfl rfl (by kernel_rfl) (fun _ _ _ h => h) (Or.inl ⟨by rfl, ?_⟩) hHeld ?_ ?_
     rotate_left
     ·
      intro w' hS
      have t0 := (hS.cell (World.block_lt_of_cell? wr _ q0)).trans q0
      have t1 := (hS.cell (World.block_lt_of_cell? wr _ q1)).trans q1
      have t2 := (hS.cell (World.block_lt_of_cell? wr _ q2)).trans q2
      have t3 := (hS.cell (World.block_lt_of_cell? wr _ q3)).trans q3
      have t4 := (hS.cell (World.block_lt_of_cell? wr _ q4)).trans q4
      have t5 := (hS.cell (World.block_lt_of_cell? wr _ q5)).trans q5
      have t6 := (hS.cell (World.block_lt_of_cell? wr _ q6)).trans q6
      have t7 := (hS.cell (World.block_lt_of_cell? wr _ q7)).trans q7
      have t8 := (hS.cell (World.block_lt_of_cell? wr _ q8)).trans q8
      have t9 := (hS.cell (World.block_lt_of_cell? wr _ q9)).trans q9
      have t10 := (hS.cell (World.block_lt_of_cell? wr _ q10)).trans q10
      have t11 := (hS.cell (World.block_lt_of_cell? wr _ q11)).trans q11
      have t12 := (hS.cell (World.block_lt_of_cell? wr _ q12)).trans q12
      have t13 := (hS.cell (World.block_lt_of_cell? wr _ q13)).trans q13
      go_simp
      with_reducible rfl
     rotate_left
     ·
      simp only [Act.put, List.setIfInBounds_toArray, List.set_cons_zero, List.set_cons_succ, i64_w, i32_w]
      rfl
     refine pure_ (i := 4) (N := some 145) (v := ?_) (a' := ?_) #[true, true, true, true, true, false, false, false, false, false] rfl rfl (by kernel_rfl) (fun _ _ _ h => h) (Or.inl ⟨by rfl, ?_⟩) ?_ ?_
     rotate_left
     ·
      intro w'
      go_simp
      with_reducible rfl
     rotate_left
     ·
      simp only [Act.put, List.setIfInBounds_toArray, List.set_cons_zero, List.set_cons_succ, i64_w, i32_w]
      rfl
     refine pure_ (i := 5) (N := some 146) (v := ?_) (a' := ?_) #[true, true, true, true, true, true, false, false, false, false] rfl rfl (by kernel_rfl) (fun _ _ _ h => h) (Or.inl ⟨by rfl, ?_⟩) ?_ ?_
     rotate_left
     ·
      intro w'
      go_simp
      with_reducible rfl
     rotate_left
     ·
      simp only [Act.put, List.setIfInBounds_toArray, List.set_cons_zero, List.set_cons_succ, i64_w, i32_w]
      rfl
     refine pure_ (i := 6) (N := some 147) (v := ?_) (a' := ?_) #[true, true, true, true, true, true, true, false, false, false] rfl rfl (by kernel_rfl) (fun _ _ _ h => h) (Or.inl ⟨by rfl, ?_⟩) ?_ ?_
     rotate_left
     ·
      intro w'
      go_simp
      with_reducible rfl
     rotate_left
     ·
      simp only [Act.put, List.setIfInBounds_toArray, List.set_cons_zero, List.set_cons_succ, i64_w, i32_w]
      rfl
     refine take_ (i := 7) (N := some 148) (v := ?_) (a' := ?_) #[true, true, true, true, true, true, true, true, false, false] rfl rfl (by kernel_rfl) (fun _ _ _ h => h) (Or.inl ⟨by rfl, ?_⟩) hHeld ?_ ?_
     rotate_left
     ·
      intro w' hS
      have t0 := (hS.cell (World.block_lt_of_cell? wr _ r0)).trans r0
      have t1 := (hS.cell (World.block_lt_of_cell? wr _ r1)).trans r1
      have t2 := (hS.cell (World.block_lt_of_cell? wr _ r2)).trans r2
      have t3 := (hS.cell (World.block_lt_of_cell? wr _ r3)).trans r3
      have t4 := (hS.cell (World.block_lt_of_cell? wr _ r4)).trans r4
      have t5 := (hS.cell (World.block_lt_of_cell? wr _ r5)).trans r5
      have t6 := (hS.cell (World.block_lt_of_cell? wr _ r6)).trans r6
      have t7 := (hS.cell (World.block_lt_of_cell? wr _ r7)).trans r7
      have t8 := (hS.cell (World.block_lt_of_cell? wr _ r8)).trans r8
      have t9 := (hS.cell (World.block_lt_of_cell? wr _ r9)).trans r9
      have t10 := (hS.cell (World.block_lt_of_cell? wr _ r10)).trans r10
      have t11 := (hS.cell (World.block_lt_of_cell? wr _ r11)).trans r11
      have t12 := (hS.cell (World.block_lt_of_cell? wr _ r12)).trans r12
      have t13 := (hS.cell (World.block_lt_of_cell? wr _ r13)).trans r13
      go_simp
      with_reducible rfl
     rotate_left
     ·
      simp only [Act.put, List.setIfInBounds_toArray, List.set_cons_zero, List.set_cons_succ, i64_w, i32_w]
      rfl
     refine one_ (i := 8) (N := some 149) #[true, true, true, true, true, true, true, true, true, false] rfl rfl (by kernel_rfl) (by decide) (fun K hK => ?_)
     go_simp
     refine (same_at x x Aq Ar cq cr w9 (Kd.C_below GQ.out hHeld) (Kd.C_below GR.out hHeld) LQ.out LR.out (by have := hsl.out; omega)).mono ?_
     rintro e w8 ⟨b, rfl, hb, hb8⟩
     obtain rfl : b = true := hb.2 rfl
     have hS8 := hHeld.trans (hb8.mono (Nat.le_of_eq hsz9.symm))
     dsimp only
     refine hK.out _ _ hS8 (fun hHeld => ?_)
     clear hK K hb
     refine pure_ (i := 9) (N := some 150) (v := ?_) (a' := ?_) #[true, true, true, true, true, true, true, true, true, true] rfl rfl (by kernel_rfl) (fun _ _ _ h => h) (Or.inl ⟨by rfl, ?_⟩) ?_ ?_
     rotate_left
     ·
      intro w'
      go_simp
      with_reducible rfl
     rotate_left
     ·
      simp only [Act.put, List.setIfInBounds_toArray, List.set_cons_zero, List.set_cons_succ, i64_w, i32_w]
      rfl
     refine done_ (by kernel_rfl) ?_
     go_wp2_with (fail)
     go_roundg k2
     case measure => omega
     case rel => exact ⟨i1, rfl, ⟨by have := HI2.out; have := I1.out; omega⟩, ⟨HBm.out.trans (hS8.mono HBm.out.size)⟩⟩
    ·
     have hie : i = out.length := by have := HI2.out; omega
     subst hie
     have d1 : ((out.length : Int) < (out.length : Int)) = False := eq_false (by omega)
     clear hlt
     go_wp2_with (fail)
     go_ret
     exact ⟨rfl, HB7.out.trans (HBm.out.mono HB7.out.size)⟩
end Go.Proofs.YtlkbeddlmbghkaaGreatDoor.PR

namespace Go.Proofs.YtlkbeddlmbghkaaGreatDoor.PR
open Go Go.Proofs Go.RowKit Go.ChangeShapes Go.WideShapes Go.Deep Go.Joins Go.Proofs.YtlkbeddlmbghkaaGreatDoorW.PrintWords Go.Proofs.YtlkbeddlmbghkaaGreatDoorW.PrintLast Go.Proofs.YtlkbeddlmbghkaaGreatDoorW.PrintMore
set_option linter.unusedVariables false
set_option linter.unusedSimpArgs false
set_option maxRecDepth 100000
/-- The table of the calls' names lies as the program lays it. -/
def kindsB : List (List UInt8) := kindsL.map (·.data.toList)
theorem kat_of {W : World} {L : List (String × DataW Unit)} (h : laidMetH Tryz.prog L W) (hp : (L.all fun x => x.2.handleName?.isNone) = true) (hf : (L.filter fun x => x.1 == "rundle/script.kinds") = [("rundle/script.kinds", Rows.laid_rundle_script_kinds)]) : KAt W ∧ 0 < W.heap.size := by
 rw [MakeChecks.laidMetH_plain _ _ _ hp] at h
 have h := h.filter (fun x => x.1 == "rundle/script.kinds")
 rw [hf] at h
 obtain ⟨ps, ⟨g, t, cs, fuel, p, q, hg, ht, hv, hd, _, _⟩, _, _⟩ := h
 obtain rfl := Option.some.inj ((show Tryz.prog.globalNamed "rundle/script.kinds" = some 0 by kernel_rfl).symm.trans hg)
 obtain rfl := Option.some.inj ((show (Tryz.prog.globals[0]?).map (·.type) = some 100 by kernel_rfl).symm.trans ht)
 obtain ⟨xs, m, _, ex, _, hl, hel⟩ := DataW.trod_array Tryz.underlying100 hd
 have c9 : Tryz.prog.cellsOf 9 = 1 := by kernel_rfl
 have e3 : (xs.map (·.1)) = kindsB.map fun s => .lit (.string s) := (DataW.agg.inj (Prod.mk.inj ex).1).symm.trans (by kernel_rfl)
 have hK : KAt W := by
  intro r s hs
  have hr : r < 11 := (List.getElem?_eq_some_iff.1 hs).1
  have hE := hel r hr
  rw [c9, Nat.mul_one, List.getElem?_eq_getElem (by omega)] at hE
  obtain ⟨z, e1, e2, _⟩ := DataW.trod_string Tryz.underlying9 hE
  have e4 : (xs.map (·.1))[r]? = (kindsB.map fun s => (DataW.lit (.string s) : DataW Unit))[r]? := by rw [e3]
  rw [List.getElem?_map, List.getElem?_map, List.getElem?_eq_getElem (by omega : r < xs.length), e2, kindsB, List.getElem?_map, hs] at e4
  have hz : z = s := by
   simp only [Option.map_some, Option.some.injEq, DataW.lit.injEq, Lit.string.injEq] at e4
   cases z with
   | mk z =>
    cases s with
    | mk s => exact congrArg ByteArray.mk (Array.toList_inj.1 e4)
  rw [World.var?_cell hg hv r, ← hz]
  have : cs.toList[r]? = some (.string z) := by
   have h0 : ((cs.toList.drop r).take 1)[0]? = some (.string z) := by rw [e1]; rfl
   simpa using h0
  simpa using this
 exact ⟨hK, World.block_lt_of_cell? W ⟨0, 0, none⟩ (hK 0 _ rfl)⟩
end Go.Proofs.YtlkbeddlmbghkaaGreatDoor.PR

namespace Go.Proofs.YtlkbeddlmbghkaaGreatDoor.PR
open Go Go.Proofs Go.RowKit Go.Proofs.YtlkbeddlmbghkaaGreatDoorW.PrintWords Go.Proofs.YtlkbeddlmbghkaaGreatDoorW.PrintLast Go.Proofs.YtlkbeddlmbghkaaGreatDoorW.PrintMore Go.Proofs.YtlkbeddlmbghkaaGreatDoor.Lx
set_option linter.unusedVariables false
set_option linter.unusedSimpArgs false
set_option maxRecDepth 100000
theorem ten_of {W : World} {L : List (String × DataW Unit)} (h : laidMetH Tryz.prog L W) (hp : (L.all fun x => x.2.handleName?.isNone) = true) (hf : (L.filter fun x => x.1 == "internal/strconv.uint64pow10") = [("internal/strconv.uint64pow10", Lib.tabData .u64 Lib.pow10Tab)]) : TenAt W := by
 rw [MakeChecks.laidMetH_plain _ _ _ hp] at h
 have h := h.filter (fun x => x.1 == "internal/strconv.uint64pow10")
 rw [hf] at h
 exact Lib.tabIs_of_head (g := 2) (t := 185) (e := 172) (n := 20) (by kernel_rfl) (by kernel_rfl) (by kernel_rfl) (by kernel_rfl) (by kernel_rfl) (by kernel_rfl) h
end Go.Proofs.YtlkbeddlmbghkaaGreatDoor.PR

namespace Go.Proofs.YtlkbeddlmbghkaaGreatDoor.PR
open Go Go.Proofs Go.RowKit Go.Proofs.YtlkbeddlmbghkaaGreatDoorW.PrintWords Go.Proofs.YtlkbeddlmbghkaaGreatDoorW.PrintLast Go.Proofs.YtlkbeddlmbghkaaGreatDoorW.PrintMore Go.Proofs.YtlkbeddlmbghkaaGreatDoor.Lx
set_option linter.unusedVariables false
set_option linter.unusedSimpArgs false
set_option maxRecDepth 100000
theorem back_walk (l : List StepT) (A : Option Addr) (c : Nat) (w : World) (hL : laidMetH Tryz.prog Rows.scriptBackRow.laid w) (hc : l.length ≤ c) (hC : Kd.C k58 w A l.length l) (hi : ∀ x ∈ l, InS x) :
  Calls Tryz.prog 7 #[.slice A l.length c] w fun e w' => e = .returned (.bool true) ∧ Below w.heap.size w w' := by
 obtain ⟨hk, h3⟩ := kat_of hL (by kernel_rfl) (by kernel_rfl)
 have hT := ten_of hL (by kernel_rfl) (by kernel_rfl)
 exact back_law l A c w hT hk h3 hc hC hi
end Go.Proofs.YtlkbeddlmbghkaaGreatDoor.PR
