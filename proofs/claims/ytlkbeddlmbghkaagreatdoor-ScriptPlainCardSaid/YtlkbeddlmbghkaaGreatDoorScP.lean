/- script.Parse: the lines of words, read one by one. -/
import Derived.Test.YtlkbeddlmbghkaaGreatDoorScD
import Derived.Test.YtlkbeddlmbghkaaGreatDoorPRx4
namespace Go.Proofs.YtlkbeddlmbghkaaGreatDoor.PR
open Go Go.Proofs Go.RowKit Go.Proofs.YtlkbeddlmbghkaaGreatDoorW.PrintWords Go.Proofs.YtlkbeddlmbghkaaGreatDoorW.PrintLast Go.Proofs.YtlkbeddlmbghkaaGreatDoorW.PrintMore
attribute [local go_sem] Wd.one Wd.run_store
set_option linter.unusedVariables false
set_option linter.unusedSimpArgs false
set_option maxRecDepth 100000

theorem infoStep : (Tryz.prog.info? 58).map (fun i => (i.zero, i.size, i.bytes)) = some (some (.agg #[(.int .i64 0), (.int .i64 0), (.int .i64 0), (.int .i64 0), (.string ⟨#[]⟩), (.string ⟨#[]⟩), (.slice none 0 0), (.string ⟨#[]⟩), (.string ⟨#[]⟩), (.bool false), (.int .i64 0), (.int .i64 0), (.int .i64 0), (.int .i64 0)]), 14, 160) := by kernel_rfl
/-- The steps of lines, behind those read already. -/
def parseL : List S39 → List S58 → List S58 × Int × Int
 | [], out => (out, 0, 0)
 | l :: r, out => match stepS (l.f1.map fun b => b.f0) with
  | some x => parseL r (out ++ [x])
  | none => ([], l.f0, 7)
theorem words_at {w : World} {A : Option Addr} {l : List S49} (h : Kd.C k49 w A l.length l) : WordsAt w A (l.map fun b => b.f0) := by
 intro j b hj
 rw [List.getElem?_map] at hj
 obtain ⟨y, hy, rfl⟩ := Option.map_eq_some_iff.1 hj
 have hlt : j < l.length := (List.getElem?_eq_some_iff.1 hy).1
 obtain ⟨ad, ea, hc⟩ := at_T49 h (j : Int) (by omega) (by omega)
 refine ⟨ad, ea, ?_⟩
 rw [Int.toNat_natCast] at hc
 rw [hc]
 unfold rd_T49
 rw [Int.toNat_natCast, List.getD_eq_getElem?_getD, hy]
 rfl
set_option maxHeartbeats 8000000 in
theorem parse_at (k : Nat) (a0 : ByteArray) (ls : List S39) (at_ er : Int) (hf : lex_Lines.f k a0 = some (ls, at_, er)) (hl : ls.length ≤ 1000000) (hw : ∀ l ∈ ls, l.f1.length ≤ 1000000) (w : World) (hk : KAt w) (h3 : 0 < w.heap.size) :
  Calls Tryz.prog 16 #[.string a0] w fun e w' => Below w.heap.size w w' ∧ ∃ v out n f, e = .returned (.tuple #[v, .int .i64 n, .int .i64 f]) ∧ (out, n, f) = (if er = 0 then parseL ls [] else ([], at_, er)) ∧ k58.R 58 w' w.heap.size (fun _ => True) v out := by
 have hu35 := Tryz.underlying39
 have hu48 := Tryz.underlying58
 have HK := Aside0.mk hk
 have H3 := Aside0.mk h3
 have HL := Aside0.mk hl
 have HW := Aside0.mk hw
 clear hk h3 hl hw
 go_enter Tryz.func16, Tryz.ntmps16
 go_wp2_with (fail)
 refine (lex_Lines.calls k a0 ls at_ er w hf).mono ?_
 rintro e w1 ⟨v0, rfl, hS, hB⟩
 obtain ⟨A, c, rfl, hlc, hC⟩ := Kd.S_reads hS
 have HB1 := Aside0.mk hB
 have HC := Aside0.mk hC
 clear hS hB hC hlc
 by_cases he : er = 0
 ·
  subst he
  go_wp2_with (fail)
  go_loopg [8, 25] (ls.length) (fun kq v8 v25 w' => ∃ (i : Nat) (xs : List S58), v25 = .int .i64 (i : Int) ∧ Aside0 (i + kq = ls.length) ∧ Aside0 (xs.length = i) ∧ Aside0 (parseL ls [] = parseL (ls.drop i) xs) ∧ Aside0 (k58.R 58 w' w1.heap.size (fun _ => True) v8 xs) ∧ Aside0 (Below w1.heap.size w1 w'))
  case atStart => exact ⟨0, [], rfl, ⟨Nat.zero_add _⟩, ⟨rfl⟩, ⟨rfl⟩, ⟨Kd.R_nil _ _ _ _ _⟩, ⟨Below.refl _ _⟩⟩
  case round =>
   obtain ⟨i, xs, rfl, HI, HX, HP, HO, HBl⟩ := hrel
   by_cases hlt : i < ls.length
   ·
    obtain ⟨k2, rfl⟩ : ∃ k2, gk = k2 + 1 := ⟨gk - 1, by have := HI.out; omega⟩
    have d1 : ((i : Int) < (ls.length : Int)) = True := eq_true (by omega)
    have d2 : decide ((i : Int) < (ls.length : Int)) = true := decide_eq_true (by omega)
    have d3 : (i < ls.length) = True := eq_true hlt
    obtain ⟨i1, hi1⟩ : ∃ i1, i1 = i + 1 := ⟨_, rfl⟩
    have e10 : IntKind.i64.wrap ((i : Int) + 1) = (i1 : Int) := by have := HL.out; rw [i64_w]; unfold wrap64; omega
    have I1 := Aside0.mk hi1
    clear hi1
    have CCr := Aside0.mk (Kd.C_below HC.out HBl.out)
    obtain ⟨ac, Ax, cx, eac, hx0, hx1, lx, gx⟩ := at_T39 CCr.out (i : Int) (by omega) (by omega)
    subst eac
    simp only [Int.toNat_natCast] at hx0 hx1
    have hL1 : rd_T39 ls (i : Int) = ls[i] := by unfold rd_T39; rw [Int.toNat_natCast, List.getD_eq_getElem?_getD, List.getElem?_eq_getElem hlt]; rfl
    have hdr : ls.drop i = ls[i] :: ls.drop (i + 1) := List.drop_eq_getElem_cons hlt
    have hwi := HW.out _ (List.getElem_mem hlt)
    rw [← hL1] at hdr hwi
    generalize rd_T39 ls (i : Int) = l at hx0 hx1 lx gx hL1 hdr hwi
    have HD := Aside0.mk hdr
    have GX := Aside0.mk gx
    have LX := Aside0.mk lx
    have HWI := Aside0.mk hwi
    clear hdr gx lx hwi hL1
    go_wp2_with (fail)
    have hal : Below wr.heap.size wr (wr.alloc (.cells #[.int .i64 l.f0, .slice Ax l.f1.length cx] 39)) := (Below.refl _ _).alloc (Nat.le_refl _) _
    have hrd := read_at Ax cx (l.f1.map fun b => b.f0) (by rw [List.length_map]; exact HWI.out) (by rw [List.length_map]; exact LX.out) (wr.alloc (.cells #[.int .i64 l.f0, .slice Ax l.f1.length cx] 39)) (words_at (Kd.C_below GX.out hal)) (HK.out.mono H3.out (HB1.out.trans ((HBl.out.trans (hal.mono HBl.out.size)).mono HB1.out.size))) (by have := H3.out; have := HB1.out.size; have := HBl.out.size; rw [World.size_alloc]; omega)
    rw [List.length_map] at hrd
    refine hrd.mono ?_
    clear hrd
    rintro e w3 ⟨hb3, ⟨x, v, hs, rfl, ho⟩ | ⟨hn, rfl⟩⟩
    case inr =>
     have hc3 := blk_alloc (blk_below (blk_new wr (.cells #[.int .i64 l.f0, .slice Ax l.f1.length cx] 39)) hb3) (.cells #[.int .i64 0, .int .i64 0, .int .i64 0, .int .i64 0, .string ⟨#[]⟩, .string ⟨#[]⟩, .slice none 0 0, .string ⟨#[]⟩, .string ⟨#[]⟩, .bool false, .int .i64 0, .int .i64 0, .int .i64 0, .int .i64 0] 58)
     have hb4 : Below wr.heap.size wr (w3.alloc (.cells #[.int .i64 0, .int .i64 0, .int .i64 0, .int .i64 0, .string ⟨#[]⟩, .string ⟨#[]⟩, .slice none 0 0, .string ⟨#[]⟩, .string ⟨#[]⟩, .bool false, .int .i64 0, .int .i64 0, .int .i64 0, .int .i64 0] 58)) := (hal.trans (hb3.mono (by rw [World.size_alloc]; omega))).trans ((Below.refl _ _).alloc (by have h1 := hb3.size; rw [World.size_alloc] at h1; omega) _)
     have HN := Aside0.mk hn
     clear hb3 hal hn
     simp only [stepV, z58, z52]
     go_upto_region 9 with (fail)
     change Code.wp _ _ _ _ (w3.alloc (.cells #[.int .i64 0, .int .i64 0, .int .i64 0, .int .i64 0, .string ⟨#[]⟩, .string ⟨#[]⟩, .slice none 0 0, .string ⟨#[]⟩, .string ⟨#[]⟩, .bool false, .int .i64 0, .int .i64 0, .int .i64 0, .int .i64 0] 58))
     generalize (w3.alloc (.cells #[.int .i64 0, .int .i64 0, .int .i64 0, .int .i64 0, .string ⟨#[]⟩, .string ⟨#[]⟩, .slice none 0 0, .string ⟨#[]⟩, .string ⟨#[]⟩, .bool false, .int .i64 0, .int .i64 0, .int .i64 0, .int .i64 0] 58)) = w4 at hc3 hb4 ⊢
     have HB4 := Aside0.mk hb4
     have hc0 : w4.cell? ⟨wr.heap.size, 0, none⟩ = some (.int .i64 l.f0) := (blk_cell hc3 0).trans rfl
     clear hb4 hc3
     go_upto_region 10 with (fail)
     go_region
     all_goals go_wp2_with (fail)
     all_goals refine bodyPost_ret (results_tmp3 rfl _ _ _) rfl ?_
     all_goals exact ⟨(HB1.out.trans ((HBl.out.trans (HB4.out.mono HBl.out.size)).mono HB1.out.size)).drew, _, [], l.f0, 7, rfl, by rw [HP.out, HD.out, parseL, HN.out], Kd.R_nil _ _ _ _ _⟩
    obtain ⟨Ao, co, ev⟩ := Kd.R_slice ho
    subst ev
    have HB3 := Aside0.mk (hal.trans (hb3.mono (by rw [World.size_alloc]; omega)))
    have hsz : wr.heap.size ≤ (wr.alloc (.cells #[.int .i64 l.f0, .slice Ax l.f1.length cx] 39)).heap.size := hal.size
    have HV : Aside0 (k93.R 93 w3 w1.heap.size (fun k_ => wr.heap.size ≤ k_) (.slice Ao x.f3.f3.length co) x.f3.f3) := ⟨Kd.R_lower (Kd.R_mono (Kd.R_bound ho) (fun k_ hk_ => Nat.le_trans hsz hk_.2.1)) (Nat.le_trans HBl.out.size hsz)⟩
    have HO3 := Aside0.mk (Kd.R_below HO.out HB3.out)
    have HOB : Aside0 (∀ k_, wr.heap.size ≤ k_ → some k_ ≠ u8.ownBlock) := ⟨fun k_ hk_ he_ => by have := ((Kd.R_bound HO.out).1 k_ he_.symm).2.2.1; omega⟩
    have HS := Aside0.mk hs
    clear hb3 hal ho hs hsz
    simp only [stepV]
    go_upto_region 9 with (fail)
    have BN := blk_new w3 (.cells #[.int .i64 x.f0, .int .i64 x.f1, .int .i64 x.f2, .int .i64 x.f3.f0, .string x.f3.f1, .string x.f3.f2, .slice Ao x.f3.f3.length co, .string x.f3.f4, .string x.f3.f5, .bool x.f3.f6, .int .i64 x.f3.f7, .int .i64 x.f3.f8, .int .i64 x.f3.f9, .int .i64 x.f3.f10] 58)
    have hab : Below w3.heap.size w3 (w3.alloc (.cells #[.int .i64 x.f0, .int .i64 x.f1, .int .i64 x.f2, .int .i64 x.f3.f0, .string x.f3.f1, .string x.f3.f2, .slice Ao x.f3.f3.length co, .string x.f3.f4, .string x.f3.f5, .bool x.f3.f6, .int .i64 x.f3.f7, .int .i64 x.f3.f8, .int .i64 x.f3.f9, .int .i64 x.f3.f10] 58)) := (Below.refl _ _).alloc (Nat.le_refl _) _
    have hO4 := Kd.R_below HO3.out hab
    have hV4 := Kd.R_below HV.out hab
    have hB4 : Below wr.heap.size wr (w3.alloc (.cells #[.int .i64 x.f0, .int .i64 x.f1, .int .i64 x.f2, .int .i64 x.f3.f0, .string x.f3.f1, .string x.f3.f2, .slice Ao x.f3.f3.length co, .string x.f3.f4, .string x.f3.f5, .bool x.f3.f6, .int .i64 x.f3.f7, .int .i64 x.f3.f8, .int .i64 x.f3.f9, .int .i64 x.f3.f10] 58)) := HB3.out.trans (hab.mono HB3.out.size)
    clear hab HO3 HV HB3
    change Code.wp _ _ _ _ (w3.alloc (.cells #[.int .i64 x.f0, .int .i64 x.f1, .int .i64 x.f2, .int .i64 x.f3.f0, .string x.f3.f1, .string x.f3.f2, .slice Ao x.f3.f3.length co, .string x.f3.f4, .string x.f3.f5, .bool x.f3.f6, .int .i64 x.f3.f7, .int .i64 x.f3.f8, .int .i64 x.f3.f9, .int .i64 x.f3.f10] 58))
    generalize (w3.alloc (.cells #[.int .i64 x.f0, .int .i64 x.f1, .int .i64 x.f2, .int .i64 x.f3.f0, .string x.f3.f1, .string x.f3.f2, .slice Ao x.f3.f3.length co, .string x.f3.f4, .string x.f3.f5, .bool x.f3.f6, .int .i64 x.f3.f7, .int .i64 x.f3.f8, .int .i64 x.f3.f9, .int .i64 x.f3.f10] 58)) = w4 at BN hO4 hV4 hB4 ⊢
    have cc0 : w4.cell? ⟨w3.heap.size, 0, none⟩ = some (.int .i64 x.f0) := (blk_cell BN 0).trans rfl
    have cc1 : w4.cell? ⟨w3.heap.size, 1, none⟩ = some (.int .i64 x.f1) := (blk_cell BN 1).trans rfl
    have cc2 : w4.cell? ⟨w3.heap.size, 2, none⟩ = some (.int .i64 x.f2) := (blk_cell BN 2).trans rfl
    have cc3 : w4.cell? ⟨w3.heap.size, 3, none⟩ = some (.int .i64 x.f3.f0) := (blk_cell BN 3).trans rfl
    have cc4 : w4.cell? ⟨w3.heap.size, 4, none⟩ = some (.string x.f3.f1) := (blk_cell BN 4).trans rfl
    have cc5 : w4.cell? ⟨w3.heap.size, 5, none⟩ = some (.string x.f3.f2) := (blk_cell BN 5).trans rfl
    have cc6 : w4.cell? ⟨w3.heap.size, 6, none⟩ = some (.slice Ao x.f3.f3.length co) := (blk_cell BN 6).trans rfl
    have cc7 : w4.cell? ⟨w3.heap.size, 7, none⟩ = some (.string x.f3.f4) := (blk_cell BN 7).trans rfl
    have cc8 : w4.cell? ⟨w3.heap.size, 8, none⟩ = some (.string x.f3.f5) := (blk_cell BN 8).trans rfl
    have cc9 : w4.cell? ⟨w3.heap.size, 9, none⟩ = some (.bool x.f3.f6) := (blk_cell BN 9).trans rfl
    have cc10 : w4.cell? ⟨w3.heap.size, 10, none⟩ = some (.int .i64 x.f3.f7) := (blk_cell BN 10).trans rfl
    have cc11 : w4.cell? ⟨w3.heap.size, 11, none⟩ = some (.int .i64 x.f3.f8) := (blk_cell BN 11).trans rfl
    have cc12 : w4.cell? ⟨w3.heap.size, 12, none⟩ = some (.int .i64 x.f3.f9) := (blk_cell BN 12).trans rfl
    have cc13 : w4.cell? ⟨w3.heap.size, 13, none⟩ = some (.int .i64 x.f3.f10) := (blk_cell BN 13).trans rfl
    have HO4 := Aside0.mk hO4
    have HV4 := Aside0.mk hV4
    have HB4 := Aside0.mk hB4
    clear BN hO4 hV4 hB4
    go_wp2_with ((with_reducible refine gate_builtin (b := .append) (xs := #[.tmp 39, .tmp 41]) rfl ?_); (try (refine gate_guard (by rfl) ?_; dsimp only)); at_builtin; refine Kd.R_append k58 (w0 := w4) w1.heap.size rfl (.tmp 39) (.tmp 41) 42 58 (.agg #[(.int .i64 0), (.int .i64 0), (.int .i64 0), (.int .i64 0), (.string ⟨#[]⟩), (.string ⟨#[]⟩), (.slice none 0 0), (.string ⟨#[]⟩), (.string ⟨#[]⟩), (.bool false), (.int .i64 0), (.int .i64 0), (.int .i64 0), (.int .i64 0)]) 160 rfl Tryz.underlying42 infoStep rfl (by decide) (by omega) u8 xs (x : S58) [.int .i64 x.f0, .int .i64 x.f1, .int .i64 x.f2, .int .i64 x.f3.f0, .string x.f3.f1, .string x.f3.f2, .slice Ao x.f3.f3.length co, .string x.f3.f4, .string x.f3.f5, .bool x.f3.f6, .int .i64 x.f3.f7, .int .i64 x.f3.f8, .int .i64 x.f3.f9, .int .i64 x.f3.f10] (fun _ => True) (fun k_ => wr.heap.size ≤ k_) rfl rfl ?aP (fun k_ hk_ => ⟨trivial, HOB.out k_ hk_⟩) (fun _ _ => trivial) HO4.out (Below.refl _ _) ?aS ?aL ?_; (case aP => exact k58_mkM _ _ _ x HV4.out); (case aS => have h2 := HBl.out.size; have h3 := HB4.out.size; omega); (case aL => have h1 := HX.out; have h2 := HL.out; omega); intro v6 w6 ho hb hg hat; have O6 := Aside0.mk ho; have B6 := Aside0.mk hb; clear ho hb hg hat)
    go_roundg k2
    case measure => omega
    case rel => exact ⟨i1, xs ++ [x], rfl, ⟨by have := HI.out; have := I1.out; omega⟩, ⟨by have h1 := HX.out; have h2 := I1.out; rw [List.length_append, List.length_singleton]; omega⟩, ⟨by rw [HP.out, HD.out, parseL, HS.out, I1.out]⟩, O6, ⟨HBl.out.trans ((HB4.out.mono HBl.out.size).trans B6.out)⟩⟩
   ·
    have d1 : ((i : Int) < (ls.length : Int)) = False := eq_false (by omega)
    have d2 : decide ((i : Int) < (ls.length : Int)) = false := decide_eq_false (by omega)
    have d3 : (i < ls.length) = False := eq_false hlt
    have hO := HO.out
    obtain ⟨Ao, co, eo⟩ := Kd.R_slice hO
    subst eo
    go_wp2_with (fail)
    refine bodyPost_ret (results_tmp3 rfl _ _ _) rfl ?_
    refine ⟨HB1.out.trans (HBl.out.mono HB1.out.size), _, xs, 0, 0, rfl, ?_, Kd.R_lower HO.out HB1.out.size⟩
    rw [HP.out, List.drop_eq_nil_of_le (by omega), parseL]
 ·
  have q1 : (er = 0) = False := eq_false he
  have q2 : (er == 0) = false := beq_eq_false_iff_ne.2 he
  have q3 : (er != 0) = true := bne_iff_ne.2 he
  go_wp2_with (fail)
  refine bodyPost_ret (results_tmp3 rfl _ _ _) rfl ?_
  exact ⟨HB1.out, _, [], at_, er, rfl, by simp, Kd.R_nil _ _ _ _ _⟩
end Go.Proofs.YtlkbeddlmbghkaaGreatDoor.PR
