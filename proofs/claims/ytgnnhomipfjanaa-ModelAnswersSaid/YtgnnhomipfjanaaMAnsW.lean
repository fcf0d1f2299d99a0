/- The walk of ModelAnswers. -/
import Derived.Test.YtgnnhomipfjanaaPMx4
import Derived.Test.YtgnnhomipfjanaaPMx6
import Derived.Test.YtgnnhomipfjanaaMAdd
import Derived.StillTailTactics
namespace Go.Proofs.Ytgnnhomipfjanaa.PM
open Go Go.Proofs Go.RowKit Go.Proofs.YtgnnhomipfjanaaW.PrintWords Go.Proofs.YtgnnhomipfjanaaW.PrintLast Go.Proofs.YtgnnhomipfjanaaW.PrintMore

set_option linter.unusedVariables false
set_option linter.unusedSimpArgs false
/-- The call's cells. -/
abbrev callC (x0 : Int) (x1 x2 : ByteArray) (A : Option Addr) (n c : Nat) (x4 x5 : ByteArray) (x6 : Bool) (x7 x8 x9 x10 : Int) : Array Value := #[.int .i64 x0, .string x1, .string x2, .slice A n c, .string x4, .string x5, .bool x6, .int .i64 x7, .int .i64 x8, .int .i64 x9, .int .i64 x10]
abbrev respC (r1 : Int) (r2 : Bool) (r3 : ByteArray) (A : Option Addr) (n c : Nat) (r5 r6 : Int) : Array Value := #[.int .i64 r1, .bool r2, .string r3, .slice A n c, .int .i64 r5, .int .i64 r6]

theorem set74 {W : World} {base g n c : Nat} {xs : List S74} (h : Kd.R k74 74 W base (fun _ => True) (.slice (some ⟨g, 0, none⟩) n c) xs) (i : Nat) (hi : i < n) (s : ByteArray) :
    Kd.R k74 74 (W.setCell ⟨g, i * 2, none⟩ (.string s)) base (fun _ => True) (.slice (some ⟨g, 0, none⟩) n c) (xs.set i ⟨s, (xs.getD i z74).f1⟩) ∧
    Kd.R k74 74 (W.setCell ⟨g, i * 2 + 1, none⟩ (.string s)) base (fun _ => True) (.slice (some ⟨g, 0, none⟩) n c) (xs.set i ⟨(xs.getD i z74).f0, s⟩) ∧
    W.cell? ⟨g, i * 2, none⟩ = some (.string (xs.getD i z74).f0) ∧ W.cell? ⟨g, i * 2 + 1, none⟩ = some (.string (xs.getD i z74).f1) ∧ W.frozen? ⟨g, i * 2, none⟩ = false ∧ W.frozen? ⟨g, i * 2 + 1, none⟩ = false := by
  obtain ⟨ce, hcl, hM, hcc, hfr⟩ := Kd.R_elem h z74 (i : Int) (by omega) (by omega)
  obtain rfl := k74_openM hM
  have e : (i : Int).toNat = i := by omega
  refine ⟨?_, ?_, ?_, ?_, ?_, ?_⟩
  · have := (Kd.R_seg h (i : Int) (by omega) (by omega) (seg := [.string s]) (j := 0) hcl hcc (show 1 ≤ 2 by decide) (okp := fun k => k ≠ g) (x' := ⟨s, (xs.getD (i : Int).toNat z74).f1⟩) (k74_mkM _ _ _ (⟨s, (xs.getD (i : Int).toNat z74).f1⟩ : S74)) (fun _ hk => ⟨trivial, hk⟩)).1
    rw [e] at this
    exact this
  · have := (Kd.R_seg h (i : Int) (by omega) (by omega) (seg := [.string s]) (j := 1) hcl hcc (show 2 ≤ 2 by decide) (okp := fun k => k ≠ g) (x' := ⟨(xs.getD (i : Int).toNat z74).f0, s⟩) (k74_mkM _ _ _ (⟨(xs.getD (i : Int).toNat z74).f0, s⟩ : S74)) (fun _ hk => ⟨trivial, hk⟩)).1
    rw [e] at this
    exact this
  · have := hcc 0 _ rfl; rw [e] at this; exact this
  · have := hcc 1 _ rfl; rw [e] at this; exact this
  · have := hfr 0; rw [e] at this; exact this
  · have := hfr 1; rw [e] at this; exact this

set_option maxHeartbeats 8000000 in
set_option maxRecDepth 100000 in
theorem ans_walk (K : Nat) (A0 : Option Addr) (c0 : Nat) (l0 : List S78) (x0 : Int) (x1 x2 : ByteArray) (A3 : Option Addr) (c3 : Nat) (l3 : List S37) (x4 x5 : ByteArray) (x6 : Bool) (x7 x8 x9 x10 a2 a3 : Int) (w : World)
    (hr0 : Kd.C k78 w A0 l0.length l0) (hc0 : l0.length ≤ c0) (hr3 : Kd.C k37 w A3 l3.length l3) (hc3 : l3.length ≤ c3)
    (haw : rundlelaw24_awake.f = some true) (hlg : rundlelaw24_long.f K l0 = some false) (ms : List S112) (rs : List S109) (hlay : rundlelaw24_lay.f K l0 = some (ms, rs, true))
    (r2 : Bool) (r3 : ByteArray) (r4 : List S74) (r6 : Int) (r7 : Bool) (hans : model_Answer.f K ms x0 x1 x2 l3 x4 x5 x6 x7 x8 x9 x10 a2 = some (0, r2, r3, r4, 0, r6, r7))
    (hs1 : model_Same.f K 0 r2 r3 r4 0 r6 0 r2 r3 r4 0 r6 = some true)
    (hs5 : ∀ i, (r4.getD i z74).f0.size + 1 ≤ 9223372036854775807 ∧ (r4.getD i z74).f1.size + 1 ≤ 9223372036854775807) (hsz : r3.size + 1 ≤ 9223372036854775807) (hln : r4.length < 1000000000000)
    (hs : ∀ (o0 : Int) (o1 : Bool) (o2 : ByteArray) (ys : List S74) (o4 o5 : Int), ¬ (o0 = 0 ∧ o1 = r2 ∧ o2 = r3 ∧ ys = r4 ∧ o4 = 0 ∧ o5 = r6) → ys.length ≤ r4.length + 1 → model_Same.f K 0 r2 r3 r4 0 r6 o0 o1 o2 ys o4 o5 = some false ∧ model_Same.f K o0 o1 o2 ys o4 o5 0 r2 r3 r4 0 r6 = some false)
    (hk : ((x0 = 1 ∨ x0 = 7) ∧ model_Get.f ms a2 x1 = some (r3, r2) ∧ r4 = [] ∧ a2 = r6 ∧ r7 = true) ∨ ((x0 = 5 ∨ x0 = 8) ∧ model_Scan.f K ms a2 x4 x5 x6 x7 = some r4 ∧ r2 = false ∧ r3 = ⟨#[]⟩ ∧ a2 = r6 ∧ r7 = true) ∨ ((x0 ≠ 1 ∧ x0 ≠ 7 ∧ x0 ≠ 5 ∧ x0 ≠ 8) ∧ r2 = false ∧ r3 = ⟨#[]⟩ ∧ r4 = [] ∧ r6 = 0 ∧ r7 = false)) :
    Calls Try.prog 11 #[.slice A0 l0.length c0, .agg #[.int .i64 x0, .string x1, .string x2, .slice A3 l3.length c3, .string x4, .string x5, .bool x6, .int .i64 x7, .int .i64 x8, .int .i64 x9, .int .i64 x10], .int .i64 a2, .int .u8 a3] w fun e w' => e = .returned (.bool true) ∧ Below w.heap.size w w' := by
  have HR0 := Aside0.mk hr0
  have HC0 := Aside0.mk hc0
  have HR3 := Aside0.mk hr3
  have HC3 := Aside0.mk hc3
  have AW := Aside0.mk haw
  have LG := Aside0.mk hlg
  have LY := Aside0.mk hlay
  have AN := Aside0.mk hans
  have HK := Aside0.mk hk
  have S1 := Aside0.mk hs1
  have LN := Aside0.mk hln
  have S3 := Aside0.mk hsz
  have S5 := Aside0.mk hs5
  clear hs5
  have HS := Aside0.mk hs
  clear hk hs1 hln hs hsz
  clear hr0 hc0 hr3 hc3 haw hlg hlay hans
  have hu87 := Try.underlying87
  have hu57 := Try.underlying57
  have hu89 := Try.underlying89
  have hu44 := Try.underlying44
  have hu74 := Try.underlying74
  have HB0 := Aside0.mk (below_alloc (Below.refl w.heap.size w) (.cells (callC x0 x1 x2 A3 l3.length c3 x4 x5 x6 x7 x8 x9 x10) 87))
  go_enter Try.func11, Try.ntmps11
  go_upto_region 3 with (first
    | (go_at_call 26; refine (rundlelaw24_awake.calls true _ AW.out).mono ?_; rintro e w1 ⟨rfl, hb⟩; have HB1 := Aside0.mk hb; clear hb)
    | (go_at_call 27; refine (rundlelaw24_long.calls K A0 c0 l0 false _ (Kd.C_below HR0.out (HB0.out.trans (HB1.out.mono (by simp [World.size_alloc])))) HC0.out LG.out).mono ?_; rintro e w2 ⟨rfl, hb⟩; have HB2 := Aside0.mk hb; clear hb))
  have HB2w := Aside0.mk (HB0.out.trans ((HB1.out.mono (by simp [World.size_alloc])).trans (HB2.out.mono (by have := HB1.out.size; simp only [World.size_alloc] at this; omega))))
  have B52 := Aside0.mk (blk_below (blk_below (blk_new w (.cells (callC x0 x1 x2 A3 l3.length c3 x4 x5 x6 x7 x8 x9 x10) 87)) HB1.out) HB2.out)
  clear HB0 HB1 HB2
  go_cut [9, 10, 11] (fun v9 v10 v11 wc => ∃ (g9 : Nat) (Am : Option Addr) (cm : Nat), v9 = .pointer (some ⟨g9, 0, none⟩) ∧ v11 = .bool true ∧ Aside0 (Below w.heap.size w wc) ∧ Aside0 (wc.heap[w.heap.size]? = some (.cells (callC x0 x1 x2 A3 l3.length c3 x4 x5 x6 x7 x8 x9 x10) 87 (0, 0))) ∧ Aside0 (wc.heap[g9]? = some (.cells #[.slice Am ms.length cm] 57 (0, 0))) ∧ Aside0 (Kd.F k112 wc (fun k => w.heap.size < k ∧ k < g9) Am ms.length ms) ∧ Aside0 (ms.length ≤ cm) ∧ Aside0 (w.heap.size < g9))
  case first =>
    as_aux_lemma =>
      go_wp2_with (go_at_call 28; refine (rundlelaw24_lay.calls K A0 c0 l0 ms rs true _ (Kd.C_below HR0.out HB2w.out) HC0.out LY.out).mono ?_; rintro e w3 ⟨v3, v3', rfl, ho, ho', hb⟩; obtain ⟨Am, cm, rfl⟩ := Kd.N_slice ho; have HO := Aside0.mk ho; have HB3 := Aside0.mk hb; clear hb ho ho')
      have hs2 := blk_lt B52.out
      have hn := Kd.N_reads' HO.out
      go_meet
      case rel =>
        refine ⟨w3.heap.size, Am, cm, rfl, rfl, ⟨(HB2w.out.trans (HB3.out.mono (by omega))).alloc (by have := HB3.out.size; omega) _⟩, ⟨blk_alloc (blk_below B52.out HB3.out) _⟩, ⟨blk_new _ _⟩, ⟨Kd.F_alloc (Kd.F_mono (Kd.F_bound (Kd.N_F HO.out)) (fun k hk => ⟨by have := hk.1.1; omega, hk.2⟩)) _⟩, ⟨hn.2.1⟩, ⟨by have := HB3.out.size; omega⟩⟩
  case rest =>
    obtain ⟨g9, Am, cm, rfl, rfl, HB, B5, B9, HM, HCM, H59⟩ := hcut
    clear HB2w B52
    have h59 := H59.out
    have hl9 := blk_lt B9.out
    have q5_0 : wc.cell? ⟨w.heap.size, 0, none⟩ = some (.int .i64 x0) := (blk_cell B5.out 0).trans rfl
    have q5_1 : wc.cell? ⟨w.heap.size, 1, none⟩ = some (.string x1) := (blk_cell B5.out 1).trans rfl
    have q5_2 : wc.cell? ⟨w.heap.size, 2, none⟩ = some (.string x2) := (blk_cell B5.out 2).trans rfl
    have q5_3 : wc.cell? ⟨w.heap.size, 3, none⟩ = some (.slice A3 l3.length c3) := (blk_cell B5.out 3).trans rfl
    have q5_4 : wc.cell? ⟨w.heap.size, 4, none⟩ = some (.string x4) := (blk_cell B5.out 4).trans rfl
    have q5_5 : wc.cell? ⟨w.heap.size, 5, none⟩ = some (.string x5) := (blk_cell B5.out 5).trans rfl
    have q5_6 : wc.cell? ⟨w.heap.size, 6, none⟩ = some (.bool x6) := (blk_cell B5.out 6).trans rfl
    have q5_7 : wc.cell? ⟨w.heap.size, 7, none⟩ = some (.int .i64 x7) := (blk_cell B5.out 7).trans rfl
    have q5_8 : wc.cell? ⟨w.heap.size, 8, none⟩ = some (.int .i64 x8) := (blk_cell B5.out 8).trans rfl
    have q5_9 : wc.cell? ⟨w.heap.size, 9, none⟩ = some (.int .i64 x9) := (blk_cell B5.out 9).trans rfl
    have q5_10 : wc.cell? ⟨w.heap.size, 10, none⟩ = some (.int .i64 x10) := (blk_cell B5.out 10).trans rfl
    have q9_0 : wc.cell? ⟨g9, 0, none⟩ = some (.slice Am ms.length cm) := (blk_cell B9.out 0).trans rfl
    go_upto_region 6 with (fail)
    go_cut [12, 13] (fun v12 v13 wx => ∃ (g12 : Nat) (A4 : Option Addr) (c4 : Nat), v12 = .pointer (some ⟨g12, 0, none⟩) ∧ v13 = .bool r7 ∧ Aside0 (Below w.heap.size w wx) ∧ Aside0 (wx.heap[w.heap.size]? = some (.cells (callC x0 x1 x2 A3 l3.length c3 x4 x5 x6 x7 x8 x9 x10) 87 (0, 0))) ∧ Aside0 (wx.heap[g9]? = some (.cells #[.slice Am ms.length cm] 57 (0, 0))) ∧ Aside0 (wx.heap[g12]? = some (.cells (respC 0 r2 r3 A4 r4.length c4 0 r6) 89 (0, 0))) ∧ Aside0 (Kd.F k112 wx (fun k => w.heap.size < k ∧ k < g9) Am ms.length ms) ∧ Aside0 (Kd.F k74 wx (fun k => g9 < k ∧ k < g12) A4 r4.length r4) ∧ Aside0 (r4.length ≤ c4) ∧ Aside0 (g9 < g12))
    case first =>
      as_aux_lemma =>
        go_wp2_with (go_at_call 39; refine (model_Answer.calls K Am cm ms x0 x1 x2 A3 c3 l3 x4 x5 x6 x7 x8 x9 x10 a2 0 r2 r3 r4 0 r6 r7 _ (Kd.F_now HM.out) HCM.out (Kd.C_below HR3.out HB.out) HC3.out AN.out).mono ?_; rintro e w4 ⟨v4, rfl, ho, hb⟩; obtain ⟨A4, c4, rfl⟩ := Kd.R_slice ho; have HO := Aside0.mk ho; have HB4 := Aside0.mk hb; clear hb ho)
        have hn := Kd.R_reads' HO.out
        have hz := HB4.out.size
        have hzw := HB.out.size
        go_meet
        case rel =>
          refine ⟨w4.heap.size, A4, c4, rfl, rfl, ⟨(HB.out.trans (HB4.out.mono hzw)).alloc (by omega) _⟩, ⟨blk_alloc (blk_below B5.out HB4.out) _⟩, ⟨blk_alloc (blk_below B9.out HB4.out) _⟩, ⟨blk_new _ _⟩, ⟨Kd.F_alloc (Kd.F_below HM.out HB4.out) _⟩, ⟨Kd.F_alloc (Kd.F_mono (Kd.F_bound (Kd.R_F (Kd.R_bound HO.out))) (fun k hk => ⟨by have := hk.1.2.1; omega, hk.2⟩)) _⟩, ⟨hn.2.1⟩, ⟨by omega⟩⟩
    case rest =>
      obtain ⟨g12, A4, c4, rfl, rfl, HB', B5', B9', B12, HM', HL, HCL, H912⟩ := hcut
      clear HB B5 B9 HM q5_0 q5_1 q5_2 q5_3 q5_4 q5_5 q5_6 q5_7 q5_8 q5_9 q5_10 q9_0
      have hl9 := blk_lt B9'.out
      have hl12 := blk_lt B12.out
      have hl5 := blk_lt B5'.out
      have q5_0 : wc.cell? ⟨w.heap.size, 0, none⟩ = some (.int .i64 x0) := (blk_cell B5'.out 0).trans rfl
      have q5_1 : wc.cell? ⟨w.heap.size, 1, none⟩ = some (.string x1) := (blk_cell B5'.out 1).trans rfl
      have q5_2 : wc.cell? ⟨w.heap.size, 2, none⟩ = some (.string x2) := (blk_cell B5'.out 2).trans rfl
      have q5_3 : wc.cell? ⟨w.heap.size, 3, none⟩ = some (.slice A3 l3.length c3) := (blk_cell B5'.out 3).trans rfl
      have q5_4 : wc.cell? ⟨w.heap.size, 4, none⟩ = some (.string x4) := (blk_cell B5'.out 4).trans rfl
      have q5_5 : wc.cell? ⟨w.heap.size, 5, none⟩ = some (.string x5) := (blk_cell B5'.out 5).trans rfl
      have q5_6 : wc.cell? ⟨w.heap.size, 6, none⟩ = some (.bool x6) := (blk_cell B5'.out 6).trans rfl
      have q5_7 : wc.cell? ⟨w.heap.size, 7, none⟩ = some (.int .i64 x7) := (blk_cell B5'.out 7).trans rfl
      have q5_8 : wc.cell? ⟨w.heap.size, 8, none⟩ = some (.int .i64 x8) := (blk_cell B5'.out 8).trans rfl
      have q5_9 : wc.cell? ⟨w.heap.size, 9, none⟩ = some (.int .i64 x9) := (blk_cell B5'.out 9).trans rfl
      have q5_10 : wc.cell? ⟨w.heap.size, 10, none⟩ = some (.int .i64 x10) := (blk_cell B5'.out 10).trans rfl
      have q9_0 : wc.cell? ⟨g9, 0, none⟩ = some (.slice Am ms.length cm) := (blk_cell B9'.out 0).trans rfl
      go_upto_block 0 with (fail)
      go_cut [14, 15] (fun v14 v15 wx => ∃ (g14 : Nat) (A5 : Option Addr) (c5 : Nat), v14 = .pointer (some ⟨g14, 0, none⟩) ∧ v15 = .bool r7 ∧ Aside0 (Below w.heap.size w wx) ∧ Aside0 (wx.heap[w.heap.size]? = some (.cells (callC x0 x1 x2 A3 l3.length c3 x4 x5 x6 x7 x8 x9 x10) 87 (0, 0))) ∧ Aside0 (wx.heap[g9]? = some (.cells #[.slice Am ms.length cm] 57 (0, 0))) ∧ Aside0 (wx.heap[g12]? = some (.cells (respC 0 r2 r3 A4 r4.length c4 0 r6) 89 (0, 0))) ∧ Aside0 (Kd.F k112 wx (fun k => w.heap.size < k ∧ k < g9) Am ms.length ms) ∧ Aside0 (Kd.F k74 wx (fun k => g9 < k ∧ k < g12) A4 r4.length r4) ∧ Aside0 (wx.heap[g14]? = some (.cells (respC 0 r2 r3 A5 r4.length c5 0 r6) 89 (0, 0))) ∧ Aside0 (Kd.C k74 wx A5 r4.length r4) ∧ Aside0 (r4.length ≤ c5) ∧ Aside0 (g12 < g14))
      case first =>
        rcases HK.out with ⟨h1, hg, rfl, rfl, rfl⟩ | ⟨h1, hg, rfl, rfl, rfl, rfl⟩ | ⟨⟨h1, h7, h5, h8⟩, rfl, rfl, rfl, rfl, rfl⟩
        · have GT := Aside0.mk hg
          clear hg HK
          rcases h1 with rfl | rfl
          ·
            as_aux_lemma =>
              go_wp2_with (go_at_call 29; refine (model_Get.calls Am cm ms a2 x1 r3 r2 _ (Kd.C_alloc (Kd.F_now HM'.out) _) HCM.out GT.out).mono ?_; rintro e w5 ⟨rfl, hb⟩; have HB5 := Aside0.mk hb; clear hb; have B14 := Aside0.mk (blk_below (blk_new wc (.cells #[.int .i64 0, .bool false, .string ⟨#[]⟩, .slice none 0 0, .int .i64 0, .int .i64 0] 89)) HB5.out); have q14_0 : w5.cell? ⟨wc.heap.size, 0, none⟩ = some (.int .i64 0) := (blk_cell B14.out 0).trans rfl; have q14f_0 : w5.frozen? ⟨wc.heap.size, 0, none⟩ = false := blk_frozen B14.out 0; have q14_1 : w5.cell? ⟨wc.heap.size, 1, none⟩ = some (.bool false) := (blk_cell B14.out 1).trans rfl; have q14f_1 : w5.frozen? ⟨wc.heap.size, 1, none⟩ = false := blk_frozen B14.out 1; have q14_2 : w5.cell? ⟨wc.heap.size, 2, none⟩ = some (.string ⟨#[]⟩) := (blk_cell B14.out 2).trans rfl; have q14f_2 : w5.frozen? ⟨wc.heap.size, 2, none⟩ = false := blk_frozen B14.out 2; have q14_3 : w5.cell? ⟨wc.heap.size, 3, none⟩ = some (.slice none 0 0) := (blk_cell B14.out 3).trans rfl; have q14f_3 : w5.frozen? ⟨wc.heap.size, 3, none⟩ = false := blk_frozen B14.out 3; have q14_4 : w5.cell? ⟨wc.heap.size, 4, none⟩ = some (.int .i64 0) := (blk_cell B14.out 4).trans rfl; have q14f_4 : w5.frozen? ⟨wc.heap.size, 4, none⟩ = false := blk_frozen B14.out 4; have q14_5 : w5.cell? ⟨wc.heap.size, 5, none⟩ = some (.int .i64 0) := (blk_cell B14.out 5).trans rfl; have q14f_5 : w5.frozen? ⟨wc.heap.size, 5, none⟩ = false := blk_frozen B14.out 5)
              go_meet
              case rel =>
                have hB := Aside0.mk ((((((below_alloc (Below.refl wc.heap.size wc) _).trans (HB5.out.mono (by simp only [World.size_alloc]; omega))).setCell (show wc.heap.size ≤ (⟨wc.heap.size, 2, none⟩ : Addr).block from Nat.le_refl _) (.string r3)).setCell (show wc.heap.size ≤ (⟨wc.heap.size, 1, none⟩ : Addr).block from Nat.le_refl _) (.bool r2)).setCell (show wc.heap.size ≤ (⟨wc.heap.size, 5, none⟩ : Addr).block from Nat.le_refl _) (.int .i64 a2)))
                exact ⟨_, none, 0, rfl, rfl, ⟨HB'.out.trans (hB.out.mono (Nat.le_of_lt hl5))⟩, ⟨blk_below B5'.out hB.out⟩, ⟨blk_below B9'.out hB.out⟩, ⟨blk_below B12.out hB.out⟩, ⟨Kd.F_below HM'.out hB.out⟩, ⟨Kd.F_below HL.out hB.out⟩, ⟨(blk_put (cs := #[.int .i64 0, .bool r2, .string r3, .slice none 0 0, .int .i64 0, .int .i64 0]) (blk_put (cs := #[.int .i64 0, .bool false, .string r3, .slice none 0 0, .int .i64 0, .int .i64 0]) (blk_put (cs := #[.int .i64 0, .bool false, .string ⟨#[]⟩, .slice none 0 0, .int .i64 0, .int .i64 0]) B14.out 2 _ rfl) 1 _ rfl) 5 _ rfl)⟩, ⟨Kd.C_nil _ _⟩, ⟨Nat.le_refl _⟩, ⟨hl12⟩⟩
          ·
            as_aux_lemma =>
              go_wp2_with (go_at_call 29; refine (model_Get.calls Am cm ms a2 x1 r3 r2 _ (Kd.C_alloc (Kd.F_now HM'.out) _) HCM.out GT.out).mono ?_; rintro e w5 ⟨rfl, hb⟩; have HB5 := Aside0.mk hb; clear hb; have B14 := Aside0.mk (blk_below (blk_new wc (.cells #[.int .i64 0, .bool false, .string ⟨#[]⟩, .slice none 0 0, .int .i64 0, .int .i64 0] 89)) HB5.out); have q14_0 : w5.cell? ⟨wc.heap.size, 0, none⟩ = some (.int .i64 0) := (blk_cell B14.out 0).trans rfl; have q14f_0 : w5.frozen? ⟨wc.heap.size, 0, none⟩ = false := blk_frozen B14.out 0; have q14_1 : w5.cell? ⟨wc.heap.size, 1, none⟩ = some (.bool false) := (blk_cell B14.out 1).trans rfl; have q14f_1 : w5.frozen? ⟨wc.heap.size, 1, none⟩ = false := blk_frozen B14.out 1; have q14_2 : w5.cell? ⟨wc.heap.size, 2, none⟩ = some (.string ⟨#[]⟩) := (blk_cell B14.out 2).trans rfl; have q14f_2 : w5.frozen? ⟨wc.heap.size, 2, none⟩ = false := blk_frozen B14.out 2; have q14_3 : w5.cell? ⟨wc.heap.size, 3, none⟩ = some (.slice none 0 0) := (blk_cell B14.out 3).trans rfl; have q14f_3 : w5.frozen? ⟨wc.heap.size, 3, none⟩ = false := blk_frozen B14.out 3; have q14_4 : w5.cell? ⟨wc.heap.size, 4, none⟩ = some (.int .i64 0) := (blk_cell B14.out 4).trans rfl; have q14f_4 : w5.frozen? ⟨wc.heap.size, 4, none⟩ = false := blk_frozen B14.out 4; have q14_5 : w5.cell? ⟨wc.heap.size, 5, none⟩ = some (.int .i64 0) := (blk_cell B14.out 5).trans rfl; have q14f_5 : w5.frozen? ⟨wc.heap.size, 5, none⟩ = false := blk_frozen B14.out 5)
              go_meet
              case rel =>
                have hB := Aside0.mk ((((((below_alloc (Below.refl wc.heap.size wc) _).trans (HB5.out.mono (by simp only [World.size_alloc]; omega))).setCell (show wc.heap.size ≤ (⟨wc.heap.size, 2, none⟩ : Addr).block from Nat.le_refl _) (.string r3)).setCell (show wc.heap.size ≤ (⟨wc.heap.size, 1, none⟩ : Addr).block from Nat.le_refl _) (.bool r2)).setCell (show wc.heap.size ≤ (⟨wc.heap.size, 5, none⟩ : Addr).block from Nat.le_refl _) (.int .i64 a2)))
                exact ⟨_, none, 0, rfl, rfl, ⟨HB'.out.trans (hB.out.mono (Nat.le_of_lt hl5))⟩, ⟨blk_below B5'.out hB.out⟩, ⟨blk_below B9'.out hB.out⟩, ⟨blk_below B12.out hB.out⟩, ⟨Kd.F_below HM'.out hB.out⟩, ⟨Kd.F_below HL.out hB.out⟩, ⟨(blk_put (cs := #[.int .i64 0, .bool r2, .string r3, .slice none 0 0, .int .i64 0, .int .i64 0]) (blk_put (cs := #[.int .i64 0, .bool false, .string r3, .slice none 0 0, .int .i64 0, .int .i64 0]) (blk_put (cs := #[.int .i64 0, .bool false, .string ⟨#[]⟩, .slice none 0 0, .int .i64 0, .int .i64 0]) B14.out 2 _ rfl) 1 _ rfl) 5 _ rfl)⟩, ⟨Kd.C_nil _ _⟩, ⟨Nat.le_refl _⟩, ⟨hl12⟩⟩
        · have SC := Aside0.mk hg
          clear hg HK
          rcases h1 with rfl | rfl
          ·
            as_aux_lemma =>
              go_wp2_with (go_at_call 33; refine (model_Scan.calls K Am cm ms a2 x4 x5 x6 x7 r4 _ (Kd.C_alloc (Kd.F_now HM'.out) _) HCM.out SC.out).mono ?_; rintro e w5 ⟨v5, rfl, ho, hb⟩; obtain ⟨A5, c5, rfl⟩ := Kd.R_slice ho; have HO := Aside0.mk ho; clear ho; have HB5 := Aside0.mk hb; clear hb; have B14 := Aside0.mk (blk_below (blk_new wc (.cells #[.int .i64 0, .bool false, .string ⟨#[]⟩, .slice none 0 0, .int .i64 0, .int .i64 0] 89)) HB5.out); have q14_0 : w5.cell? ⟨wc.heap.size, 0, none⟩ = some (.int .i64 0) := (blk_cell B14.out 0).trans rfl; have q14f_0 : w5.frozen? ⟨wc.heap.size, 0, none⟩ = false := blk_frozen B14.out 0; have q14_1 : w5.cell? ⟨wc.heap.size, 1, none⟩ = some (.bool false) := (blk_cell B14.out 1).trans rfl; have q14f_1 : w5.frozen? ⟨wc.heap.size, 1, none⟩ = false := blk_frozen B14.out 1; have q14_2 : w5.cell? ⟨wc.heap.size, 2, none⟩ = some (.string ⟨#[]⟩) := (blk_cell B14.out 2).trans rfl; have q14f_2 : w5.frozen? ⟨wc.heap.size, 2, none⟩ = false := blk_frozen B14.out 2; have q14_3 : w5.cell? ⟨wc.heap.size, 3, none⟩ = some (.slice none 0 0) := (blk_cell B14.out 3).trans rfl; have q14f_3 : w5.frozen? ⟨wc.heap.size, 3, none⟩ = false := blk_frozen B14.out 3; have q14_4 : w5.cell? ⟨wc.heap.size, 4, none⟩ = some (.int .i64 0) := (blk_cell B14.out 4).trans rfl; have q14f_4 : w5.frozen? ⟨wc.heap.size, 4, none⟩ = false := blk_frozen B14.out 4; have q14_5 : w5.cell? ⟨wc.heap.size, 5, none⟩ = some (.int .i64 0) := (blk_cell B14.out 5).trans rfl; have q14f_5 : w5.frozen? ⟨wc.heap.size, 5, none⟩ = false := blk_frozen B14.out 5)
              go_meet
              case rel =>
                have hB := Aside0.mk (((((below_alloc (Below.refl wc.heap.size wc) _).trans (HB5.out.mono (by simp only [World.size_alloc]; omega))).setCell (show wc.heap.size ≤ (⟨wc.heap.size, 3, none⟩ : Addr).block from Nat.le_refl _) (.slice A5 r4.length c5)).setCell (show wc.heap.size ≤ (⟨wc.heap.size, 5, none⟩ : Addr).block from Nat.le_refl _) (.int .i64 a2)))
                exact ⟨_, A5, c5, rfl, rfl, ⟨HB'.out.trans (hB.out.mono (Nat.le_of_lt hl5))⟩, ⟨blk_below B5'.out hB.out⟩, ⟨blk_below B9'.out hB.out⟩, ⟨blk_below B12.out hB.out⟩, ⟨Kd.F_below HM'.out hB.out⟩, ⟨Kd.F_below HL.out hB.out⟩, ⟨(blk_put (cs := #[.int .i64 0, .bool false, .string ⟨#[]⟩, .slice A5 r4.length c5, .int .i64 0, .int .i64 0]) (blk_put (cs := #[.int .i64 0, .bool false, .string ⟨#[]⟩, .slice none 0 0, .int .i64 0, .int .i64 0]) B14.out 3 _ rfl) 5 _ rfl)⟩, ⟨Kd.F_now (Kd.F_far (p := ⟨wc.heap.size, 5, none⟩) (Kd.F_far (p := ⟨wc.heap.size, 3, none⟩) (Kd.F_mono (Kd.R_F (Kd.R_bound HO.out)) (ok' := fun k => wc.heap.size < k) (fun k hk => by have := hk.2.1; simp only [World.size_alloc] at this; omega)) (fun k hk => Nat.ne_of_gt hk) _) (fun k hk => Nat.ne_of_gt hk) _)⟩, ⟨(Kd.R_reads' HO.out).2.1⟩, ⟨hl12⟩⟩
          ·
            as_aux_lemma =>
              go_wp2_with (go_at_call 33; refine (model_Scan.calls K Am cm ms a2 x4 x5 x6 x7 r4 _ (Kd.C_alloc (Kd.F_now HM'.out) _) HCM.out SC.out).mono ?_; rintro e w5 ⟨v5, rfl, ho, hb⟩; obtain ⟨A5, c5, rfl⟩ := Kd.R_slice ho; have HO := Aside0.mk ho; clear ho; have HB5 := Aside0.mk hb; clear hb; have B14 := Aside0.mk (blk_below (blk_new wc (.cells #[.int .i64 0, .bool false, .string ⟨#[]⟩, .slice none 0 0, .int .i64 0, .int .i64 0] 89)) HB5.out); have q14_0 : w5.cell? ⟨wc.heap.size, 0, none⟩ = some (.int .i64 0) := (blk_cell B14.out 0).trans rfl; have q14f_0 : w5.frozen? ⟨wc.heap.size, 0, none⟩ = false := blk_frozen B14.out 0; have q14_1 : w5.cell? ⟨wc.heap.size, 1, none⟩ = some (.bool false) := (blk_cell B14.out 1).trans rfl; have q14f_1 : w5.frozen? ⟨wc.heap.size, 1, none⟩ = false := blk_frozen B14.out 1; have q14_2 : w5.cell? ⟨wc.heap.size, 2, none⟩ = some (.string ⟨#[]⟩) := (blk_cell B14.out 2).trans rfl; have q14f_2 : w5.frozen? ⟨wc.heap.size, 2, none⟩ = false := blk_frozen B14.out 2; have q14_3 : w5.cell? ⟨wc.heap.size, 3, none⟩ = some (.slice none 0 0) := (blk_cell B14.out 3).trans rfl; have q14f_3 : w5.frozen? ⟨wc.heap.size, 3, none⟩ = false := blk_frozen B14.out 3; have q14_4 : w5.cell? ⟨wc.heap.size, 4, none⟩ = some (.int .i64 0) := (blk_cell B14.out 4).trans rfl; have q14f_4 : w5.frozen? ⟨wc.heap.size, 4, none⟩ = false := blk_frozen B14.out 4; have q14_5 : w5.cell? ⟨wc.heap.size, 5, none⟩ = some (.int .i64 0) := (blk_cell B14.out 5).trans rfl; have q14f_5 : w5.frozen? ⟨wc.heap.size, 5, none⟩ = false := blk_frozen B14.out 5)
              go_meet
              case rel =>
                have hB := Aside0.mk (((((below_alloc (Below.refl wc.heap.size wc) _).trans (HB5.out.mono (by simp only [World.size_alloc]; omega))).setCell (show wc.heap.size ≤ (⟨wc.heap.size, 3, none⟩ : Addr).block from Nat.le_refl _) (.slice A5 r4.length c5)).setCell (show wc.heap.size ≤ (⟨wc.heap.size, 5, none⟩ : Addr).block from Nat.le_refl _) (.int .i64 a2)))
                exact ⟨_, A5, c5, rfl, rfl, ⟨HB'.out.trans (hB.out.mono (Nat.le_of_lt hl5))⟩, ⟨blk_below B5'.out hB.out⟩, ⟨blk_below B9'.out hB.out⟩, ⟨blk_below B12.out hB.out⟩, ⟨Kd.F_below HM'.out hB.out⟩, ⟨Kd.F_below HL.out hB.out⟩, ⟨(blk_put (cs := #[.int .i64 0, .bool false, .string ⟨#[]⟩, .slice A5 r4.length c5, .int .i64 0, .int .i64 0]) (blk_put (cs := #[.int .i64 0, .bool false, .string ⟨#[]⟩, .slice none 0 0, .int .i64 0, .int .i64 0]) B14.out 3 _ rfl) 5 _ rfl)⟩, ⟨Kd.F_now (Kd.F_far (p := ⟨wc.heap.size, 5, none⟩) (Kd.F_far (p := ⟨wc.heap.size, 3, none⟩) (Kd.F_mono (Kd.R_F (Kd.R_bound HO.out)) (ok' := fun k => wc.heap.size < k) (fun k hk => by have := hk.2.1; simp only [World.size_alloc] at this; omega)) (fun k hk => Nat.ne_of_gt hk) _) (fun k hk => Nat.ne_of_gt hk) _)⟩, ⟨(Kd.R_reads' HO.out).2.1⟩, ⟨hl12⟩⟩
        · have b1 : (x0 == 1) = false := beq_eq_false_iff_ne.mpr h1
          have b7 : (x0 == 7) = false := beq_eq_false_iff_ne.mpr h7
          have b5 : (x0 == 5) = false := beq_eq_false_iff_ne.mpr h5
          have b8 : (x0 == 8) = false := beq_eq_false_iff_ne.mpr h8
          clear h1 h7 h5 h8 HK
          go_wp2_with (fail)
          go_meet
          case rel =>
            have hB := Aside0.mk (below_alloc (Below.refl wc.heap.size wc) (.cells #[.int .i64 0, .bool false, .string ⟨#[]⟩, .slice none 0 0, .int .i64 0, .int .i64 0] 89))
            exact ⟨_, none, 0, rfl, rfl, ⟨HB'.out.trans (hB.out.mono (Nat.le_of_lt hl5))⟩, ⟨blk_below B5'.out hB.out⟩, ⟨blk_below B9'.out hB.out⟩, ⟨blk_below B12.out hB.out⟩, ⟨Kd.F_below HM'.out hB.out⟩, ⟨Kd.F_below HL.out hB.out⟩, ⟨blk_new _ _⟩, ⟨Kd.C_nil _ _⟩, ⟨Nat.le_refl _⟩, ⟨hl12⟩⟩
      case rest =>
        obtain ⟨g14, A5, c5, rfl, rfl, HB, B5, B9, B12x, HM, HL4, B14, C5, L5, L1214⟩ := hcut
        clear HB' B5' B9' B12 HM' HL HK q5_0 q5_1 q5_2 q5_3 q5_4 q5_5 q5_6 q5_7 q5_8 q5_9 q5_10 q9_0
        have hl14 := blk_lt B14.out
        have hl12x := blk_lt B12x.out
        have q12_0 : wc.cell? ⟨g12, 0, none⟩ = some (.int .i64 0) := (blk_cell B12x.out 0).trans rfl
        have q12_1 : wc.cell? ⟨g12, 1, none⟩ = some (.bool r2) := (blk_cell B12x.out 1).trans rfl
        have q12_2 : wc.cell? ⟨g12, 2, none⟩ = some (.string r3) := (blk_cell B12x.out 2).trans rfl
        have q12_3 : wc.cell? ⟨g12, 3, none⟩ = some (.slice A4 r4.length c4) := (blk_cell B12x.out 3).trans rfl
        have q12_4 : wc.cell? ⟨g12, 4, none⟩ = some (.int .i64 0) := (blk_cell B12x.out 4).trans rfl
        have q12_5 : wc.cell? ⟨g12, 5, none⟩ = some (.int .i64 r6) := (blk_cell B12x.out 5).trans rfl
        have q14_0 : wc.cell? ⟨g14, 0, none⟩ = some (.int .i64 0) := (blk_cell B14.out 0).trans rfl
        have q14_1 : wc.cell? ⟨g14, 1, none⟩ = some (.bool r2) := (blk_cell B14.out 1).trans rfl
        have q14_2 : wc.cell? ⟨g14, 2, none⟩ = some (.string r3) := (blk_cell B14.out 2).trans rfl
        have q14_3 : wc.cell? ⟨g14, 3, none⟩ = some (.slice A5 r4.length c5) := (blk_cell B14.out 3).trans rfl
        have q14_4 : wc.cell? ⟨g14, 4, none⟩ = some (.int .i64 0) := (blk_cell B14.out 4).trans rfl
        have q14_5 : wc.cell? ⟨g14, 5, none⟩ = some (.int .i64 r6) := (blk_cell B14.out 5).trans rfl
        have BB := Aside0.mk (Below.refl wc.heap.size wc)
        go_upto_region 19 with (first
          | (go_at_call 40; with_reducible refine (model_Same.calls K 0 r2 r3 A4 c4 r4 0 r6 0 r2 r3 A5 c5 r4 0 r6 true _ ?s1 ?s2 ?s3 ?s4 S1.out).mono ?_; (case s1 => exact Kd.C_below (Kd.F_now HL4.out) (by first | exact BB.out | exact below_drew1 BB.out)); (case s2 => exact HCL.out); (case s3 => exact Kd.C_below C5.out (by first | exact BB.out | exact below_drew1 BB.out)); (case s4 => exact L5.out); rintro e w6 ⟨rfl, hb⟩; have BB6 := Aside0.mk (below_step (by first | exact BB.out | exact below_drew1 BB.out) hb); clear hb; have B12y := Aside0.mk (blk_below B12x.out BB6.out); have q12y_0 : w6.cell? ⟨g12, 0, none⟩ = some (.int .i64 0) := (blk_cell B12y.out 0).trans rfl; have q12y_1 : w6.cell? ⟨g12, 1, none⟩ = some (.bool r2) := (blk_cell B12y.out 1).trans rfl; have q12y_2 : w6.cell? ⟨g12, 2, none⟩ = some (.string r3) := (blk_cell B12y.out 2).trans rfl; have q12y_3 : w6.cell? ⟨g12, 3, none⟩ = some (.slice A4 r4.length c4) := (blk_cell B12y.out 3).trans rfl; have q12y_4 : w6.cell? ⟨g12, 4, none⟩ = some (.int .i64 0) := (blk_cell B12y.out 4).trans rfl; have q12y_5 : w6.cell? ⟨g12, 5, none⟩ = some (.int .i64 r6) := (blk_cell B12y.out 5).trans rfl)
          | (go_at_call 40; with_reducible refine (model_Same.calls K 0 r2 r3 A4 c4 r4 0 r6 0 r2 r3 A4 c4 r4 0 r6 true _ ?s1 ?s2 ?s3 ?s4 S1.out).mono ?_; (case s1 => exact Kd.C_below (Kd.F_now HL4.out) (by first | exact BB6.out | exact below_drew1 BB6.out)); (case s2 => exact HCL.out); (case s3 => exact Kd.C_below (Kd.F_now HL4.out) (by first | exact BB6.out | exact below_drew1 BB6.out)); (case s4 => exact HCL.out); rintro e w7 ⟨rfl, hb⟩; have BB7 := Aside0.mk (below_step (by first | exact BB6.out | exact below_drew1 BB6.out) hb); clear hb; have B12z := Aside0.mk (blk_below B12x.out BB7.out); have q12z_0 : w7.cell? ⟨g12, 0, none⟩ = some (.int .i64 0) := (blk_cell B12z.out 0).trans rfl; have q12z_1 : w7.cell? ⟨g12, 1, none⟩ = some (.bool r2) := (blk_cell B12z.out 1).trans rfl; have q12z_2 : w7.cell? ⟨g12, 2, none⟩ = some (.string r3) := (blk_cell B12z.out 2).trans rfl; have q12z_3 : w7.cell? ⟨g12, 3, none⟩ = some (.slice A4 r4.length c4) := (blk_cell B12z.out 3).trans rfl; have q12z_4 : w7.cell? ⟨g12, 4, none⟩ = some (.int .i64 0) := (blk_cell B12z.out 4).trans rfl; have q12z_5 : w7.cell? ⟨g12, 5, none⟩ = some (.int .i64 r6) := (blk_cell B12z.out 5).trans rfl))
        have hs1 := BB7.out.size
        have hbs := HB.out.size
        have HBn := Aside0.mk (HB.out.trans (BB7.out.mono hbs))
        have HLn := Aside0.mk (Kd.F_below HL4.out BB7.out)
        have hl12z := blk_lt B12z.out
        clear BB BB6 BB7 B12x B12y HB B5 B9 HM HL4 B14 C5 L5 S1 hl14 hl12x hs1 hbs
        clear q12_0 q12_1 q12_2 q12_3 q12_4 q12_5 q14_0 q14_1 q14_2 q14_3 q14_4 q14_5 q12y_0 q12y_1 q12y_2 q12y_3 q12y_4 q12y_5
        have HW := Aside0.mk (below_alloc (Below.refl w7.heap.size w7) (.cells (respC 0 r2 r3 A4 r4.length c4 0 r6) 89))
        have B16 := Aside0.mk (blk_new w7 (.cells (respC 0 r2 r3 A4 r4.length c4 0 r6) 89))
        go_upto_block 1 with (first
          | ((with_reducible refine gate_dst (N := 91) rfl ?_); refine Kd.R_lit k74 _ 74 ?hg (N := 91) ?hd (xs := ([] : List (S74))) (inner := []) (ok := fun _ => True) (okp := fun _ => True) ?hr ?hp (fun _ hk => hk) trivial (Below.refl _ _) (Nat.le_refl _) (by simp) ?_; (case hd => rfl); (case hg => rfl); (case hr => first | (go_simp; done) | (go_simp; rfl)); (case hp => exact (Reps.none _ _)); intro v8 w8 ho hb hg hnew; have HO := Aside0.mk ho; have HB8 := Aside0.mk hb; clear ho hb hg hnew; have B12w := Aside0.mk (blk_below (blk_alloc B12z.out _) HB8.out); have q12w_0 : w8.cell? ⟨g12, 0, none⟩ = some (.int .i64 0) := (blk_cell B12w.out 0).trans rfl; have q12w_1 : w8.cell? ⟨g12, 1, none⟩ = some (.bool r2) := (blk_cell B12w.out 1).trans rfl; have q12w_2 : w8.cell? ⟨g12, 2, none⟩ = some (.string r3) := (blk_cell B12w.out 2).trans rfl; have q12w_3 : w8.cell? ⟨g12, 3, none⟩ = some (.slice A4 r4.length c4) := (blk_cell B12w.out 3).trans rfl; have q12w_4 : w8.cell? ⟨g12, 4, none⟩ = some (.int .i64 0) := (blk_cell B12w.out 4).trans rfl; have q12w_5 : w8.cell? ⟨g12, 5, none⟩ = some (.int .i64 r6) := (blk_cell B12w.out 5).trans rfl)
          | ((with_reducible refine gate_builtin (b := .append) (xs := #[.tmp 91, .tmp 93]) rfl ?_); at_builtin; refine Kd.R_append_rows k74 (w0 := w7.alloc (.cells (respC 0 r2 r3 A4 r4.length c4 0 r6) 89)) (w7.alloc (.cells (respC 0 r2 r3 A4 r4.length c4 0 r6) 89)).heap.size rfl (.tmp 91) (.tmp 93) 69 74 (.agg #[(.string ⟨#[]⟩), (.string ⟨#[]⟩)]) 32 rfl Try.underlying69 info74 rfl (by decide) (by omega) v8 [] r4 _ _ _ (fun _ => True) (fun _ => False) rfl rfl ?aO ?aR (fun _ _ h => h) (fun _ h => h.elim) ?aF ?aB ?aS ?aL ?_; (case aO => exact HO.out); (case aR => exact Kd.F_now (Kd.F_below (Kd.F_alloc HLn.out _) HB8.out)); (case aF => exact fun _ _ => trivial); (case aB => exact HB8.out); (case aS => exact HB8.out.size); (case aL => have := LN.out; simp only [List.length_nil]; omega); intro v9 w9 ho hb hg hnew; rw [List.nil_append] at ho; obtain ⟨A9, c9, rfl⟩ := Kd.R_slice ho; have HO9 := Aside0.mk ho; have HB9 := Aside0.mk hb; clear ho hb hg hnew; have B16w := Aside0.mk (blk_below B16.out HB9.out); have q16w_0 : w9.cell? ⟨w7.heap.size, 0, none⟩ = some (.int .i64 0) := (blk_cell B16w.out 0).trans rfl; have q16wf_0 : w9.frozen? ⟨w7.heap.size, 0, none⟩ = false := blk_frozen B16w.out 0; have q16w_1 : w9.cell? ⟨w7.heap.size, 1, none⟩ = some (.bool r2) := (blk_cell B16w.out 1).trans rfl; have q16wf_1 : w9.frozen? ⟨w7.heap.size, 1, none⟩ = false := blk_frozen B16w.out 1; have q16w_2 : w9.cell? ⟨w7.heap.size, 2, none⟩ = some (.string r3) := (blk_cell B16w.out 2).trans rfl; have q16wf_2 : w9.frozen? ⟨w7.heap.size, 2, none⟩ = false := blk_frozen B16w.out 2; have q16w_3 : w9.cell? ⟨w7.heap.size, 3, none⟩ = some (.slice A4 r4.length c4) := (blk_cell B16w.out 3).trans rfl; have q16wf_3 : w9.frozen? ⟨w7.heap.size, 3, none⟩ = false := blk_frozen B16w.out 3; have q16w_4 : w9.cell? ⟨w7.heap.size, 4, none⟩ = some (.int .i64 0) := (blk_cell B16w.out 4).trans rfl; have q16wf_4 : w9.frozen? ⟨w7.heap.size, 4, none⟩ = false := blk_frozen B16w.out 4; have q16w_5 : w9.cell? ⟨w7.heap.size, 5, none⟩ = some (.int .i64 r6) := (blk_cell B16w.out 5).trans rfl; have q16wf_5 : w9.frozen? ⟨w7.heap.size, 5, none⟩ = false := blk_frozen B16w.out 5))
        have hwz := HW.out.size
        simp only [World.size_alloc] at hwz
        have hz9 := HB9.out.size
        simp only [World.size_alloc] at hz9
        have hbz := HBn.out.size
        have h16 : w7.heap.size < (w9.setCell ⟨w7.heap.size, 3, none⟩ (.slice A9 r4.length c9)).heap.size := by simp only [World.size_setCell]; omega
        have hne : g12 ≠ w7.heap.size := Nat.ne_of_lt hl12z
        have F1 := Aside0.mk (show Kd.F k74 (w9.setCell ⟨w7.heap.size, 3, none⟩ (.slice A9 r4.length c9)) (fun k => g9 < k ∧ k < g12) A4 r4.length r4 from Kd.F_far (Kd.F_below (Kd.F_alloc HLn.out _) HB9.out) (fun k hk => by have := hk.2; show k ≠ w7.heap.size; omega) _)
        have R1 := Aside0.mk (show Kd.R k74 74 (w9.setCell ⟨w7.heap.size, 3, none⟩ (.slice A9 r4.length c9)) (w7.heap.size + 1) (fun _ => True) (.slice A9 r4.length c9) r4 from Kd.R_mono (Kd.R_far (p := ⟨w7.heap.size, 3, none⟩) (Kd.R_bound (by have h := HO9.out; rw [World.size_alloc] at h; exact h)) (fun k hk => by have := hk.2.1; show k ≠ w7.heap.size; omega) _) (fun _ _ => trivial))
        have K12 := Aside0.mk (blk_far (blk_below (blk_alloc B12z.out _) HB9.out) hne (p := ⟨w7.heap.size, 3, none⟩) (.slice A9 r4.length c9))
        have K16 := Aside0.mk (blk_put (cs := #[.int .i64 0, .bool r2, .string r3, .slice A4 r4.length c4, .int .i64 0, .int .i64 r6]) B16w.out 3 (.slice A9 r4.length c9) rfl)
        have HBt := Aside0.mk (show Below w.heap.size w (w9.setCell ⟨w7.heap.size, 3, none⟩ (.slice A9 r4.length c9)) from ((HBn.out.trans (HW.out.mono hbz)).trans (HB9.out.mono (by simp only [World.size_alloc]; omega))).setCell hbz _)
        clear B12z B16 B12w B16w HO HO9 HB8 HB9 HLn HW HBn
        clear q12z_0 q12z_1 q12z_2 q12z_3 q12z_4 q12z_5 q12w_0 q12w_1 q12w_2 q12w_3 q12w_4 q12w_5 q16w_0 q16w_1 q16w_2 q16w_3 q16w_4 q16w_5 q16wf_0 q16wf_1 q16wf_2 q16wf_3 q16wf_4 q16wf_5
        generalize (w9.setCell ⟨w7.heap.size, 3, none⟩ (.slice A9 r4.length c9)) = w10 at *
        generalize w7.heap.size = g16 at *
        have q16_0 : w10.cell? ⟨g16, 0, none⟩ = some (.int .i64 0) := (blk_cell K16.out 0).trans rfl
        have q16f_0 : w10.frozen? ⟨g16, 0, none⟩ = false := blk_frozen K16.out 0
        have q16_1 : w10.cell? ⟨g16, 1, none⟩ = some (.bool r2) := (blk_cell K16.out 1).trans rfl
        have q16f_1 : w10.frozen? ⟨g16, 1, none⟩ = false := blk_frozen K16.out 1
        have q16_2 : w10.cell? ⟨g16, 2, none⟩ = some (.string r3) := (blk_cell K16.out 2).trans rfl
        have q16f_2 : w10.frozen? ⟨g16, 2, none⟩ = false := blk_frozen K16.out 2
        have q16_3 : w10.cell? ⟨g16, 3, none⟩ = some (.slice A9 r4.length c9) := (blk_cell K16.out 3).trans rfl
        have q16f_3 : w10.frozen? ⟨g16, 3, none⟩ = false := blk_frozen K16.out 3
        have q16_4 : w10.cell? ⟨g16, 4, none⟩ = some (.int .i64 0) := (blk_cell K16.out 4).trans rfl
        have q16f_4 : w10.frozen? ⟨g16, 4, none⟩ = false := blk_frozen K16.out 4
        have q16_5 : w10.cell? ⟨g16, 5, none⟩ = some (.int .i64 r6) := (blk_cell K16.out 5).trans rfl
        have q16f_5 : w10.frozen? ⟨g16, 5, none⟩ = false := blk_frozen K16.out 5
        go_cut [16] (fun v16 wx => v16 = .pointer (some ⟨g16, 0, none⟩) ∧ ∃ (o0 : Int) (o1 : Bool) (o2 : ByteArray) (Ay : Option Addr) (ys : List S74) (cy : Nat) (o4 o5 : Int), Aside0 (wx.heap[g16]? = some (.cells #[.int .i64 o0, .bool o1, .string o2, .slice Ay ys.length cy, .int .i64 o4, .int .i64 o5] 89 (0, 0))) ∧ Aside0 (wx.heap[g12]? = some (.cells (respC 0 r2 r3 A4 r4.length c4 0 r6) 89 (0, 0))) ∧ Aside0 (Kd.C k74 wx A4 r4.length r4) ∧ Aside0 (Kd.C k74 wx Ay ys.length ys) ∧ Aside0 (ys.length ≤ cy) ∧ Aside0 (Below w.heap.size w wx) ∧ Aside0 (model_Same.f K 0 r2 r3 r4 0 r6 o0 o1 o2 ys o4 o5 = some false ∧ model_Same.f K o0 o1 o2 ys o4 o5 0 r2 r3 r4 0 r6 = some false))
        case first =>
          by_cases e0 : Int.tmod a3 8 = 0
          · have f0 : (Int.tmod a3 8 == 0) = true := beq_iff_eq.mpr e0
            clear e0
            as_aux_lemma =>
              go_wp2_with (fail)
              go_meet
              case rel =>
                refine ⟨rfl, _, _, _, A9, r4, c9, _, _, ⟨blk_put (cs := #[.int .i64 0, .bool r2, .string r3, .slice A9 r4.length c9, .int .i64 0, .int .i64 r6]) K16.out 0 _ rfl⟩, ⟨blk_far K12.out hne _⟩, ⟨Kd.F_now (Kd.F_far F1.out (fun k hk => by have := hk.2; show k ≠ g16; omega) _)⟩, ⟨(Kd.R_reads' (Kd.R_far (p := ⟨g16, 0, none⟩) (Kd.R_bound R1.out) (fun k hk => by have := hk.2.1; show k ≠ g16; omega) _)).2.2⟩, ⟨(Kd.R_reads' R1.out).2.1⟩, ⟨HBt.out.setCell hbz _⟩, ⟨HS.out _ _ _ _ _ _ (fun h => ?_) (Nat.le_succ _)⟩⟩
                have := h.1; revert this; decide
          · have f0 : (Int.tmod a3 8 == 0) = false := beq_eq_false_iff_ne.mpr e0
            by_cases e1 : Int.tmod a3 8 = 1
            · have f1 : (Int.tmod a3 8 == 1) = true := beq_iff_eq.mpr e1
              clear e1
              as_aux_lemma =>
                go_wp2_with (fail)
                go_meet
                case rel =>
                  refine ⟨rfl, _, _, _, A9, r4, c9, _, _, ⟨blk_put (cs := #[.int .i64 0, .bool r2, .string r3, .slice A9 r4.length c9, .int .i64 0, .int .i64 r6]) K16.out 1 _ rfl⟩, ⟨blk_far K12.out hne _⟩, ⟨Kd.F_now (Kd.F_far F1.out (fun k hk => by have := hk.2; show k ≠ g16; omega) _)⟩, ⟨(Kd.R_reads' (Kd.R_far (p := ⟨g16, 1, none⟩) (Kd.R_bound R1.out) (fun k hk => by have := hk.2.1; show k ≠ g16; omega) _)).2.2⟩, ⟨(Kd.R_reads' R1.out).2.1⟩, ⟨HBt.out.setCell hbz _⟩, ⟨HS.out _ _ _ _ _ _ (fun h => ?_) (Nat.le_succ _)⟩⟩
                  have := h.2.1; revert this; cases r2 <;> decide
            · have f1 : (Int.tmod a3 8 == 1) = false := beq_eq_false_iff_ne.mpr e1
              by_cases e2 : Int.tmod a3 8 = 2
              · have f2 : (Int.tmod a3 8 == 2) = true := beq_iff_eq.mpr e2
                clear e2
                have z0 := eq_true S3.out
                have z1 : decide (r3.size + 1 ≤ 9223372036854775807) = true := decide_eq_true S3.out
                have z2 : (9223372036854775807 < r3.size + 1) = False := eq_false (Nat.not_lt.2 S3.out)
                as_aux_lemma =>
                  go_wp2_with (fail)
                  go_meet
                  case rel =>
                    refine ⟨rfl, _, _, _, A9, r4, c9, _, _, ⟨blk_put (cs := #[.int .i64 0, .bool r2, .string r3, .slice A9 r4.length c9, .int .i64 0, .int .i64 r6]) K16.out 2 _ rfl⟩, ⟨blk_far K12.out hne _⟩, ⟨Kd.F_now (Kd.F_far F1.out (fun k hk => by have := hk.2; show k ≠ g16; omega) _)⟩, ⟨(Kd.R_reads' (Kd.R_far (p := ⟨g16, 2, none⟩) (Kd.R_bound R1.out) (fun k hk => by have := hk.2.1; show k ≠ g16; omega) _)).2.2⟩, ⟨(Kd.R_reads' R1.out).2.1⟩, ⟨HBt.out.setCell hbz _⟩, ⟨HS.out _ _ _ _ _ _ (fun h => ?_) (Nat.le_succ _)⟩⟩
                    have := congrArg ByteArray.size h.2.2.1; rw [ByteArray.size_append] at this; revert this; show ¬ r3.size + 1 = r3.size; omega
              · have f2 : (Int.tmod a3 8 == 2) = false := beq_eq_false_iff_ne.mpr e2
                by_cases e3 : Int.tmod a3 8 = 3
                · have f3 : (Int.tmod a3 8 == 3) = true := beq_iff_eq.mpr e3
                  clear e3
                  as_aux_lemma =>
                    go_wp2_with (fail)
                    go_meet
                    case rel =>
                      refine ⟨rfl, _, _, _, A9, r4, c9, _, _, ⟨blk_put (cs := #[.int .i64 0, .bool r2, .string r3, .slice A9 r4.length c9, .int .i64 0, .int .i64 r6]) K16.out 4 _ rfl⟩, ⟨blk_far K12.out hne _⟩, ⟨Kd.F_now (Kd.F_far F1.out (fun k hk => by have := hk.2; show k ≠ g16; omega) _)⟩, ⟨(Kd.R_reads' (Kd.R_far (p := ⟨g16, 4, none⟩) (Kd.R_bound R1.out) (fun k hk => by have := hk.2.1; show k ≠ g16; omega) _)).2.2⟩, ⟨(Kd.R_reads' R1.out).2.1⟩, ⟨HBt.out.setCell hbz _⟩, ⟨HS.out _ _ _ _ _ _ (fun h => ?_) (Nat.le_succ _)⟩⟩
                      have := h.2.2.2.2.1; first | omega | (unfold wrap64 at this; omega)
                · have f3 : (Int.tmod a3 8 == 3) = false := beq_eq_false_iff_ne.mpr e3
                  by_cases e4 : Int.tmod a3 8 = 4
                  · have f4 : (Int.tmod a3 8 == 4) = true := beq_iff_eq.mpr e4
                    clear e4
                    as_aux_lemma =>
                      go_wp2_with (fail)
                      go_meet
                      case rel =>
                        refine ⟨rfl, _, _, _, A9, r4, c9, _, _, ⟨blk_put (cs := #[.int .i64 0, .bool r2, .string r3, .slice A9 r4.length c9, .int .i64 0, .int .i64 r6]) K16.out 5 _ rfl⟩, ⟨blk_far K12.out hne _⟩, ⟨Kd.F_now (Kd.F_far F1.out (fun k hk => by have := hk.2; show k ≠ g16; omega) _)⟩, ⟨(Kd.R_reads' (Kd.R_far (p := ⟨g16, 5, none⟩) (Kd.R_bound R1.out) (fun k hk => by have := hk.2.1; show k ≠ g16; omega) _)).2.2⟩, ⟨(Kd.R_reads' R1.out).2.1⟩, ⟨HBt.out.setCell hbz _⟩, ⟨HS.out _ _ _ _ _ _ (fun h => ?_) (Nat.le_succ _)⟩⟩
                        have := h.2.2.2.2.2; first | omega | (unfold wrap64 at this; omega)
                  · have f4 : (Int.tmod a3 8 == 4) = false := beq_eq_false_iff_ne.mpr e4
                    by_cases e5 : Int.tmod a3 8 = 5
                    · have f5 : (Int.tmod a3 8 == 5) = true := beq_iff_eq.mpr e5
                      clear e5
                      as_aux_lemma =>
                        obtain ⟨ys, hys⟩ : ∃ ys : List S74, ys = r4 ++ [⟨⟨#[]⟩, ⟨#[]⟩⟩] := ⟨_, rfl⟩
                        have YS := Aside0.mk hys
                        clear hys
                        go_wp2_with ((with_reducible refine gate_builtin (b := .append) (xs := #[.tmp 157, .tmp 159]) rfl ?_); at_builtin; refine Kd.R_append k74 (w0 := w10) (g16 + 1) rfl (.tmp 157) (.tmp 159) 69 74 (.agg #[(.string ⟨#[]⟩), (.string ⟨#[]⟩)]) 32 rfl Try.underlying69 info74 rfl (by decide) (by omega) (.slice A9 r4.length c9) r4 (⟨⟨#[]⟩, ⟨#[]⟩⟩ : S74) [.string (⟨#[]⟩ : ByteArray), .string (⟨#[]⟩ : ByteArray)] (fun _ => True) (fun _ => False) rfl (by first | (go_simp; done) | (go_simp; rfl)) ?aP (fun _ hk => hk.elim) ?aF ?aO ?aB ?aS ?aL ?_; (case aP => exact k74_mkM _ _ _ (⟨⟨#[]⟩, ⟨#[]⟩⟩ : S74)); (case aF => exact fun _ _ => trivial); (case aO => exact R1.out); (case aB => exact Below.refl _ _); (case aS => exact h16); (case aL => have := LN.out; omega); intro v11 w11 ho hb hg hat; rw [← YS.out] at ho; obtain ⟨A11, c11, rfl⟩ := Kd.R_slice ho; have HO11 := Aside0.mk ho; have HB11 := Aside0.mk hb; clear ho hb hg hat; have K16w := Aside0.mk ((HB11.out.block g16 (Nat.lt_succ_self _)).trans K16.out); have q16w_0 : w11.cell? ⟨g16, 0, none⟩ = some (.int .i64 0) := (blk_cell K16w.out 0).trans rfl; have q16wf_0 : w11.frozen? ⟨g16, 0, none⟩ = false := blk_frozen K16w.out 0; have q16w_1 : w11.cell? ⟨g16, 1, none⟩ = some (.bool r2) := (blk_cell K16w.out 1).trans rfl; have q16wf_1 : w11.frozen? ⟨g16, 1, none⟩ = false := blk_frozen K16w.out 1; have q16w_2 : w11.cell? ⟨g16, 2, none⟩ = some (.string r3) := (blk_cell K16w.out 2).trans rfl; have q16wf_2 : w11.frozen? ⟨g16, 2, none⟩ = false := blk_frozen K16w.out 2; have q16w_3 : w11.cell? ⟨g16, 3, none⟩ = some (.slice A9 r4.length c9) := (blk_cell K16w.out 3).trans rfl; have q16wf_3 : w11.frozen? ⟨g16, 3, none⟩ = false := blk_frozen K16w.out 3; have q16w_4 : w11.cell? ⟨g16, 4, none⟩ = some (.int .i64 0) := (blk_cell K16w.out 4).trans rfl; have q16wf_4 : w11.frozen? ⟨g16, 4, none⟩ = false := blk_frozen K16w.out 4; have q16w_5 : w11.cell? ⟨g16, 5, none⟩ = some (.int .i64 r6) := (blk_cell K16w.out 5).trans rfl; have q16wf_5 : w11.frozen? ⟨g16, 5, none⟩ = false := blk_frozen K16w.out 5)
                        go_meet
                        case rel =>
                          refine ⟨rfl, _, _, _, A11, ys, c11, _, _, ⟨blk_put (cs := #[.int .i64 0, .bool r2, .string r3, .slice A9 r4.length c9, .int .i64 0, .int .i64 r6]) K16w.out 3 _ rfl⟩, ⟨blk_far ((HB11.out.block g12 (Nat.lt_succ_of_lt hl12z)).trans K12.out) hne _⟩, ⟨Kd.F_now (Kd.F_far (Kd.F_step F1.out (fun k hk _ => HB11.out.block k (by have := hk.2; omega))) (fun k hk => by have := hk.2; show k ≠ g16; omega) _)⟩, ⟨(Kd.R_reads' (Kd.R_far (p := ⟨g16, 3, none⟩) (Kd.R_bound HO11.out) (fun k hk => by have := hk.2.1; show k ≠ g16; omega) _)).2.2⟩, ⟨(Kd.R_reads' HO11.out).2.1⟩, ⟨(HBt.out.trans (HB11.out.mono (by omega))).setCell hbz _⟩, ⟨HS.out _ _ _ _ _ _ (fun h => ?_) (by rw [YS.out]; simp)⟩⟩
                          have := congrArg List.length h.2.2.2.1; rw [YS.out] at this; simp at this
                    · have f5 : (Int.tmod a3 8 == 5) = false := beq_eq_false_iff_ne.mpr e5
                      by_cases e6 : Int.tmod a3 8 = 6
                      · have f6 : (Int.tmod a3 8 == 6) = true := beq_iff_eq.mpr e6
                        clear e6
                        by_cases hl : 0 < r4.length
                        ·
                          as_aux_lemma =>
                            obtain ⟨ga, ca, eo, gb, gl, _⟩ := Kd.R_form R1.out hl
                            injection eo with e1 e2 e3
                            subst e1
                            subst e3
                            clear e2
                            have s5 := (S5.out (0)).1
                            obtain ⟨⟨X0, X1⟩, hX⟩ : ∃ X, r4.getD (0) z74 = X := ⟨_, rfl⟩
                            obtain ⟨hR0, hR1, hx0, hx1, hz0, hz1⟩ := set74 R1.out (0) (by omega) (X0 ++ ⟨#[120]⟩)
                            rw [hX] at s5 hR0 hR1 hx0 hx1
                            change X0.size + 1 ≤ 9223372036854775807 at s5
                            obtain ⟨ys, hys⟩ : ∃ ys, ys = r4.set (0) ⟨X0 ++ ⟨#[120]⟩, X1⟩ := ⟨_, rfl⟩
                            have hyl : ys.length = r4.length := by rw [hys, List.length_set]
                            have hyn : ys ≠ r4 := fun h => by
                              have h1 : (r4.set (0) (⟨X0 ++ ⟨#[120]⟩, X1⟩ : S74)).getD (0) z74 = r4.getD (0) z74 := by rw [← hys, h]
                              rw [hX, List.getD_eq_getElem?_getD, List.getElem?_set_self (by omega), Option.getD_some] at h1
                              have h2 := congrArg (fun x => x.f0.size) h1
                              simp only [ByteArray.size_append] at h2
                              revert h2
                              show ¬ X0.size + 1 = X0.size
                              omega
                            have HR := Aside0.mk (show Kd.R k74 74 _ (g16 + 1) (fun _ => True) (.slice (some ⟨ga, 0, none⟩) r4.length c9) ys from hys ▸ hR0)
                            have YL := Aside0.mk hyl
                            have YN := Aside0.mk hyn
                            clear hR0 hR1 hX hys hyl hyn
                            (try simp only [Nat.zero_mul, Nat.zero_add] at hx0)
                            (try simp only [Nat.zero_mul, Nat.zero_add] at hx1)
                            (try simp only [Nat.zero_mul, Nat.zero_add] at hz0)
                            (try simp only [Nat.zero_mul, Nat.zero_add] at hz1)
                            have hl1 : decide ((0 : Int) < (r4.length : Int)) = true := decide_eq_true (by omega)
                            have hl2 : ((0 : Int) < (r4.length : Int)) = True := eq_true (by omega)
                            have hl3 : (0 < r4.length) = True := eq_true hl
                            have z0 := eq_true s5
                            have z1 : decide (X0.size + 1 ≤ 9223372036854775807) = true := decide_eq_true s5
                            have z2 : (9223372036854775807 < X0.size + 1) = False := eq_false (Nat.not_lt.2 s5)
                            clear s5
                            go_upto_region 39 with (fail)
                            go_still_tail 10, (by kernel_rfl)
                            change wpList _ _ _ _ _ w10.drew
                            go_wp2_with (fail)
                            have hga : g16 ≠ ga := by omega
                            have hgb : g12 ≠ ga := by omega
                            go_meet
                            case rel =>
                              have G := Aside0.mk (Kd.R_reads' (by have h := HR.out; rw [← YL.out] at h; exact h))
                              refine ⟨rfl, 0, r2, r3, some ⟨ga, 0, none⟩, ys, c9, 0, r6, ⟨?_⟩, ⟨?_⟩, ⟨?_⟩, ⟨?_⟩, ⟨?_⟩, ⟨?_⟩, ⟨HS.out _ _ _ _ _ _ (fun h => YN.out h.2.2.2.1) (by rw [YL.out]; omega)⟩⟩
                              · rw [YL.out]; exact blk_far K16.out hga _
                              · exact blk_far K12.out hgb _
                              · exact Kd.F_now (Kd.F_far F1.out (fun k hk => by have := hk.2; show k ≠ ga; omega) _)
                              · exact G.out.2.2
                              · exact G.out.2.1
                              · have Q := HBt.out.setCell (p := ⟨ga, 0, none⟩) (show w.heap.size ≤ ga by omega) (.string (X0 ++ ⟨#[120]⟩))
                                first | exact Q | exact below_drew1 Q
                        · have hl0 : r4.length = 0 := by omega
                          have hl1 : decide ((0 : Int) < (r4.length : Int)) = false := decide_eq_false (by omega)
                          have hl2 : ((0 : Int) < (r4.length : Int)) = False := eq_false (by omega)
                          have hl3 : (0 < r4.length) = False := eq_false (by omega)
                          as_aux_lemma =>
                            go_wp2_with (fail)
                            go_meet
                            case rel =>
                              refine ⟨rfl, _, _, _, A9, r4, c9, _, _, ⟨blk_put (cs := #[.int .i64 0, .bool r2, .string r3, .slice A9 r4.length c9, .int .i64 0, .int .i64 r6]) K16.out 4 _ rfl⟩, ⟨blk_far K12.out hne _⟩, ⟨Kd.F_now (Kd.F_far F1.out (fun k hk => by have := hk.2; show k ≠ g16; omega) _)⟩, ⟨(Kd.R_reads' (Kd.R_far (p := ⟨g16, 4, none⟩) (Kd.R_bound R1.out) (fun k hk => by have := hk.2.1; show k ≠ g16; omega) _)).2.2⟩, ⟨(Kd.R_reads' R1.out).2.1⟩, ⟨HBt.out.setCell hbz _⟩, ⟨HS.out _ _ _ _ _ _ (fun h => ?_) (Nat.le_succ _)⟩⟩
                              have := h.2.2.2.2.1; first | omega | (unfold wrap64 at this; omega)
                      · have f6 : (Int.tmod a3 8 == 6) = false := beq_eq_false_iff_ne.mpr e6
                        by_cases hl : 0 < r4.length
                        ·
                          obtain ⟨m, hm⟩ : ∃ m, m = r4.length - 1 := ⟨_, rfl⟩
                          have em : IntKind.i64.wrap ((r4.length : Int) - 1) = (m : Int) := by have := LN.out; rw [i64_w]; unfold wrap64; omega
                          have EM := Aside0.mk em
                          have hml : m < r4.length := by omega
                          clear em hm
                          as_aux_lemma =>
                            obtain ⟨ga, ca, eo, gb, gl, _⟩ := Kd.R_form R1.out hl
                            injection eo with e1 e2 e3
                            subst e1
                            subst e3
                            clear e2
                            have s5 := (S5.out (m)).2
                            obtain ⟨⟨X0, X1⟩, hX⟩ : ∃ X, r4.getD (m) z74 = X := ⟨_, rfl⟩
                            obtain ⟨hR0, hR1, hx0, hx1, hz0, hz1⟩ := set74 R1.out (m) (by omega) (X1 ++ ⟨#[120]⟩)
                            rw [hX] at s5 hR0 hR1 hx0 hx1
                            change X1.size + 1 ≤ 9223372036854775807 at s5
                            obtain ⟨ys, hys⟩ : ∃ ys, ys = r4.set (m) ⟨X0, X1 ++ ⟨#[120]⟩⟩ := ⟨_, rfl⟩
                            have hyl : ys.length = r4.length := by rw [hys, List.length_set]
                            have hyn : ys ≠ r4 := fun h => by
                              have h1 : (r4.set (m) (⟨X0, X1 ++ ⟨#[120]⟩⟩ : S74)).getD (m) z74 = r4.getD (m) z74 := by rw [← hys, h]
                              rw [hX, List.getD_eq_getElem?_getD, List.getElem?_set_self (by omega), Option.getD_some] at h1
                              have h2 := congrArg (fun x => x.f1.size) h1
                              simp only [ByteArray.size_append] at h2
                              revert h2
                              show ¬ X1.size + 1 = X1.size
                              omega
                            have HR := Aside0.mk (show Kd.R k74 74 _ (g16 + 1) (fun _ => True) (.slice (some ⟨ga, 0, none⟩) r4.length c9) ys from hys ▸ hR1)
                            have YL := Aside0.mk hyl
                            have YN := Aside0.mk hyn
                            clear hR0 hR1 hX hys hyl hyn
                            (try simp only [Nat.zero_mul, Nat.zero_add] at hx0)
                            (try simp only [Nat.zero_mul, Nat.zero_add] at hx1)
                            (try simp only [Nat.zero_mul, Nat.zero_add] at hz0)
                            (try simp only [Nat.zero_mul, Nat.zero_add] at hz1)
                            have hl1 : decide ((0 : Int) < (r4.length : Int)) = true := decide_eq_true (by omega)
                            have hl2 : ((0 : Int) < (r4.length : Int)) = True := eq_true (by omega)
                            have hl3 : (0 < r4.length) = True := eq_true hl
                            have hm1 : ((m : Int) < (r4.length : Int)) = True := eq_true (by omega)
                            have hm2 : (m < r4.length) = True := eq_true (by omega)
                            have hm3 : ((0 : Int) ≤ (m : Int)) = True := eq_true (by omega)
                            have em := EM.out
                            have z0 := eq_true s5
                            have z1 : decide (X1.size + 1 ≤ 9223372036854775807) = true := decide_eq_true s5
                            have z2 : (9223372036854775807 < X1.size + 1) = False := eq_false (Nat.not_lt.2 s5)
                            clear s5
                            go_upto_region 23 with (fail)
                            go_still_tail 18, (by kernel_rfl)
                            change wpList _ _ _ _ _ w10.drew
                            go_wp2_with (fail)
                            have hga : g16 ≠ ga := by omega
                            have hgb : g12 ≠ ga := by omega
                            go_meet
                            case rel =>
                              have G := Aside0.mk (Kd.R_reads' (by have h := HR.out; rw [← YL.out] at h; exact h))
                              refine ⟨rfl, 0, r2, r3, some ⟨ga, 0, none⟩, ys, c9, 0, r6, ⟨?_⟩, ⟨?_⟩, ⟨?_⟩, ⟨?_⟩, ⟨?_⟩, ⟨?_⟩, ⟨HS.out _ _ _ _ _ _ (fun h => YN.out h.2.2.2.1) (by rw [YL.out]; omega)⟩⟩
                              · rw [YL.out]; exact blk_far K16.out hga _
                              · exact blk_far K12.out hgb _
                              · exact Kd.F_now (Kd.F_far F1.out (fun k hk => by have := hk.2; show k ≠ ga; omega) _)
                              · exact G.out.2.2
                              · exact G.out.2.1
                              · have Q := HBt.out.setCell (p := ⟨ga, m * 2 + 1, none⟩) (show w.heap.size ≤ ga by omega) (.string (X1 ++ ⟨#[120]⟩))
                                first | exact Q | exact below_drew1 Q
                        · have hl0 : r4.length = 0 := by omega
                          have hl1 : decide ((0 : Int) < (r4.length : Int)) = false := decide_eq_false (by omega)
                          have hl2 : ((0 : Int) < (r4.length : Int)) = False := eq_false (by omega)
                          have hl3 : (0 < r4.length) = False := eq_false (by omega)
                          as_aux_lemma =>
                            go_wp2_with (fail)
                            go_meet
                            case rel =>
                              refine ⟨rfl, _, _, _, A9, r4, c9, _, _, ⟨blk_put (cs := #[.int .i64 0, .bool r2, .string r3, .slice A9 r4.length c9, .int .i64 0, .int .i64 r6]) K16.out 4 _ rfl⟩, ⟨blk_far K12.out hne _⟩, ⟨Kd.F_now (Kd.F_far F1.out (fun k hk => by have := hk.2; show k ≠ g16; omega) _)⟩, ⟨(Kd.R_reads' (Kd.R_far (p := ⟨g16, 4, none⟩) (Kd.R_bound R1.out) (fun k hk => by have := hk.2.1; show k ≠ g16; omega) _)).2.2⟩, ⟨(Kd.R_reads' R1.out).2.1⟩, ⟨HBt.out.setCell hbz _⟩, ⟨HS.out _ _ _ _ _ _ (fun h => ?_) (Nat.le_succ _)⟩⟩
                              have := h.2.2.2.2.1; first | omega | (unfold wrap64 at this; omega)
        case rest =>
          obtain ⟨rfl, o0, o1, o2, Ay, ys, cy, o4, o5, K16', K12', CA, CY, LY', HBf, S2⟩ := hcut
          clear F1 R1 K12 K16 HBt HS
          clear q16_0 q16_1 q16_2 q16_3 q16_4 q16_5 q16f_0 q16f_1 q16f_2 q16f_3 q16f_4 q16f_5
          have p12_0 : wc.cell? ⟨g12, 0, none⟩ = some (.int .i64 0) := (blk_cell K12'.out 0).trans rfl
          have p12_1 : wc.cell? ⟨g12, 1, none⟩ = some (.bool r2) := (blk_cell K12'.out 1).trans rfl
          have p12_2 : wc.cell? ⟨g12, 2, none⟩ = some (.string r3) := (blk_cell K12'.out 2).trans rfl
          have p12_3 : wc.cell? ⟨g12, 3, none⟩ = some (.slice A4 r4.length c4) := (blk_cell K12'.out 3).trans rfl
          have p12_4 : wc.cell? ⟨g12, 4, none⟩ = some (.int .i64 0) := (blk_cell K12'.out 4).trans rfl
          have p12_5 : wc.cell? ⟨g12, 5, none⟩ = some (.int .i64 r6) := (blk_cell K12'.out 5).trans rfl
          have p16_0 : wc.cell? ⟨g16, 0, none⟩ = some (.int .i64 o0) := (blk_cell K16'.out 0).trans rfl
          have p16_1 : wc.cell? ⟨g16, 1, none⟩ = some (.bool o1) := (blk_cell K16'.out 1).trans rfl
          have p16_2 : wc.cell? ⟨g16, 2, none⟩ = some (.string o2) := (blk_cell K16'.out 2).trans rfl
          have p16_3 : wc.cell? ⟨g16, 3, none⟩ = some (.slice Ay ys.length cy) := (blk_cell K16'.out 3).trans rfl
          have p16_4 : wc.cell? ⟨g16, 4, none⟩ = some (.int .i64 o4) := (blk_cell K16'.out 4).trans rfl
          have p16_5 : wc.cell? ⟨g16, 5, none⟩ = some (.int .i64 o5) := (blk_cell K16'.out 5).trans rfl
          as_aux_lemma =>
            go_wp2_with (first
              | (go_at_call 40; with_reducible refine (model_Same.calls K 0 r2 r3 A4 c4 r4 0 r6 o0 o1 o2 Ay cy ys o4 o5 false _ ?s1 ?s2 ?s3 ?s4 S2.out.1).mono ?_; (case s1 => exact CA.out); (case s2 => exact HCL.out); (case s3 => exact CY.out); (case s4 => exact LY'.out); rintro e wa ⟨rfl, hb⟩; have HA := Aside0.mk hb; clear hb; have P12 := Aside0.mk (blk_below K12'.out HA.out); have P16 := Aside0.mk (blk_below K16'.out HA.out); have pa12_0 : wa.cell? ⟨g12, 0, none⟩ = some (.int .i64 0) := (blk_cell P12.out 0).trans rfl; have pa12_1 : wa.cell? ⟨g12, 1, none⟩ = some (.bool r2) := (blk_cell P12.out 1).trans rfl; have pa12_2 : wa.cell? ⟨g12, 2, none⟩ = some (.string r3) := (blk_cell P12.out 2).trans rfl; have pa12_3 : wa.cell? ⟨g12, 3, none⟩ = some (.slice A4 r4.length c4) := (blk_cell P12.out 3).trans rfl; have pa12_4 : wa.cell? ⟨g12, 4, none⟩ = some (.int .i64 0) := (blk_cell P12.out 4).trans rfl; have pa12_5 : wa.cell? ⟨g12, 5, none⟩ = some (.int .i64 r6) := (blk_cell P12.out 5).trans rfl; have pa16_0 : wa.cell? ⟨g16, 0, none⟩ = some (.int .i64 o0) := (blk_cell P16.out 0).trans rfl; have pa16_1 : wa.cell? ⟨g16, 1, none⟩ = some (.bool o1) := (blk_cell P16.out 1).trans rfl; have pa16_2 : wa.cell? ⟨g16, 2, none⟩ = some (.string o2) := (blk_cell P16.out 2).trans rfl; have pa16_3 : wa.cell? ⟨g16, 3, none⟩ = some (.slice Ay ys.length cy) := (blk_cell P16.out 3).trans rfl; have pa16_4 : wa.cell? ⟨g16, 4, none⟩ = some (.int .i64 o4) := (blk_cell P16.out 4).trans rfl; have pa16_5 : wa.cell? ⟨g16, 5, none⟩ = some (.int .i64 o5) := (blk_cell P16.out 5).trans rfl)
              | (go_at_call 40; with_reducible refine (model_Same.calls K o0 o1 o2 Ay cy ys o4 o5 0 r2 r3 A4 c4 r4 0 r6 false _ ?s1 ?s2 ?s3 ?s4 S2.out.2).mono ?_; (case s1 => exact Kd.C_below CY.out HA.out); (case s2 => exact LY'.out); (case s3 => exact Kd.C_below CA.out HA.out); (case s4 => exact HCL.out); rintro e wb ⟨rfl, hb⟩; have HAb := Aside0.mk hb; clear hb))
            go_ret
            exact ⟨rfl, HBf.out.trans ((HA.out.trans (HAb.out.mono HA.out.size)).mono HBf.out.size)⟩
end Go.Proofs.Ytgnnhomipfjanaa.PM
