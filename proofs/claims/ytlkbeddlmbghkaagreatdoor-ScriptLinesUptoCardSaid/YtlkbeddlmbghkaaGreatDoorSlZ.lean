/- rundlelaw26.ScriptLines, at a line of at most sixty words. -/
import Derived.Test.YtlkbeddlmbghkaaGreatDoorSlA
import Derived.Deep.RegionWith
import Derived.Test.YtlkbeddlmbghkaaGreatDoorRL
import Derived.Lib.LaidTab
import Derived.LaidSub
import Derived.LaidMore
namespace Go.Proofs.YtlkbeddlmbghkaaGreatDoor.PR
open Go Go.Proofs Go.RowKit Go.Proofs.YtlkbeddlmbghkaaGreatDoorW.PrintWords Go.Proofs.YtlkbeddlmbghkaaGreatDoorW.PrintLast Go.Proofs.YtlkbeddlmbghkaaGreatDoorW.PrintMore Go.Proofs.YtlkbeddlmbghkaaGreatDoor.Lx
attribute [local go_sem] Wd.one Wd.run_store
set_option linter.unusedVariables false
set_option linter.unusedSimpArgs false
set_option maxRecDepth 100000

theorem readR_len1 (l : List S46) (x : S58) (hl : l.length ≤ 1000000) (h : readR l = some x) : x.f3.f3.length ≤ 1000000 := Nat.le_trans (readR_len l x h) hl
set_option maxHeartbeats 16000000 in
theorem slines_short (A : Option Addr) (c : Nat) (l : List S46) (hc : l.length ≤ c) (w : World) (hT : TenAt w) (hk : KAt w) (h3 : 0 < w.heap.size) (hC : Kd.C k46 w A l.length l) (hl : l.length ≤ 60) (hfit : FitsAll (bsOf l)) :
  Calls Tryz.prog 5 #[.slice A l.length c] w fun e w' => e = .returned (.bool true) ∧ Below w.heap.size w w' := by
 have HL := Aside0.mk hl
 have HFIT := Aside0.mk hfit
 clear hfit
 have hu39 := Tryz.underlying39
 have hu58 := Tryz.underlying58
 have hu54 := Tryz.underlying54
 have hu46 := Tryz.underlying46
 have hu49 := Tryz.underlying49
 have hu52 := Tryz.underlying52
 have HK := Aside0.mk hk
 have H3 := Aside0.mk h3
 have HT := Aside0.mk hT
 have HC := Aside0.mk hC
 clear hk h3 hT hC
 go_enter Tryz.func5, Tryz.ntmps5
 have s1 : ((60 : Int) < (l.length : Int)) = False := eq_false (by omega)
 have s2 : decide ((60 : Int) < (l.length : Int)) = false := decide_eq_false (by omega)
 have s3 : (60 < l.length) = False := eq_false (by omega)
 clear hl
 go_wp2_with (fail)
 refine (awake_at w HK.out H3.out).mono ?_
 rintro e w1 ⟨rfl, hb1⟩
 have HB1 := Aside0.mk hb1
 clear hb1
 go_wp2_with (fail)
 go_loopg [3, 4] (l.length) (fun kq v3 v4 w' => ∃ (i : Nat), v4 = .int .i64 (i : Int) ∧ Aside0 (i + kq = l.length) ∧ Aside0 (k49.R 49 w' w1.heap.size (fun _ => True) v3 ((bsOf (l.take i)).map S49.mk)) ∧ Aside0 (Below w1.heap.size w1 w'))
 case atStart => exact ⟨0, rfl, ⟨Nat.zero_add _⟩, ⟨Kd.R_nil _ _ _ _ _⟩, ⟨Below.refl _ _⟩⟩
 case round =>
  obtain ⟨i, rfl, HI, HO, HBl⟩ := hrel
  by_cases hlt : i < l.length
  ·
   obtain ⟨k2, rfl⟩ : ∃ k2, gk = k2 + 1 := ⟨gk - 1, by have := HI.out; omega⟩
   have d1 : ((i : Int) < (l.length : Int)) = True := eq_true (by omega)
   have d2 : decide ((i : Int) < (l.length : Int)) = true := decide_eq_true (by omega)
   have d3 : (i < l.length) = True := eq_true hlt
   obtain ⟨i1, hi1⟩ : ∃ i1, i1 = i + 1 := ⟨_, rfl⟩
   have e10 : IntKind.i64.wrap ((i : Int) + 1) = (i1 : Int) := by have := HL.out; rw [i64_w]; unfold wrap64; omega
   have I1 := Aside0.mk hi1
   clear hi1
   obtain ⟨ad, ead, hx0, hx1, hx2⟩ := at_T46 (Kd.C_below HC.out (HB1.out.trans (HBl.out.mono HB1.out.size))) (i : Int) (by omega) (by omega)
   subst ead
   simp only [Int.toNat_natCast] at hx0 hx1 hx2
   have hr1 : rd_T46 l (i : Int) = l[i] := by unfold rd_T46; rw [Int.toNat_natCast, List.getD_eq_getElem?_getD, List.getElem?_eq_getElem hlt]; rfl
   have htk : l.take (i + 1) = l.take i ++ [l[i]] := (List.take_append_getElem hlt).symm
   rw [← hr1] at htk
   generalize rd_T46 l (i : Int) = x at hx0 hx1 hx2 hr1 htk
   have HTK := Aside0.mk (show (bsOf (l.take (i + 1))).map S49.mk = (bsOf (l.take i)).map S49.mk ++ (bsOf [x]).map S49.mk by rw [htk, bsOf_append, List.map_append])
   have HLX : Aside0 (((bsOf (l.take i)).map S49.mk).length ≤ 1000) := ⟨by rw [List.length_map]; refine Nat.le_trans (bsOf_len _).1 ?_; rw [List.length_take]; have := HL.out; omega⟩
   clear hr1 htk hlt
   generalize (bsOf (l.take i)).map S49.mk = L at *
   obtain ⟨Av, cv, ev⟩ := Kd.R_slice HO.out
   subst ev
   by_cases hk1 : x.f0 = 1
   ·
    skip
    have HBS := Aside0.mk (show bsOf [x] = [.num x.f1] by simp [bsOf, hk1])
    have e1 : (x.f0 == 1) = true := beq_iff_eq.2 hk1
    have g1 : (x.f0 = 1) = True := eq_true hk1
    go_wp2_with (fail)
    refine (box_OfNumber.calls x.f1 _ wr rfl).mono ?_
    rintro e w5 ⟨rfl, hb5⟩
    have HO5 := Aside0.mk (Kd.R_below HO.out hb5)
    have HB5 := Aside0.mk (HBl.out.trans (hb5.mono HBl.out.size))
    clear hb5 hx0 hx1 hx2 HO HBl
    go_wp2_with ((with_reducible refine gate_builtin (b := .append) (xs := #[.tmp 33, .tmp 40]) rfl ?_); (try (refine gate_guard (by rfl) ?_; dsimp only)); at_builtin; refine Kd.R_append k49 (w0 := w5) w1.heap.size rfl (.tmp 33) (.tmp 40) 23 49 (.agg #[.nilIface]) 16 rfl Tryz.underlying23 info49 rfl (by decide) (by omega) (.slice Av L.length cv) L ⟨.num x.f1⟩ [Wd.v (.num x.f1)] (fun _ => True) (fun _ => False) rfl rfl ?aP (fun _ hk => hk.elim) (fun _ _ => trivial) HO5.out (Below.refl _ _) ?aS ?aL ?_; (case aP => exact k49_mkM _ _ _ _); (case aS => exact HB5.out.size); (case aL => have := HLX.out; omega); intro v6 w6 ho hb hg hat; have O6 := Aside0.mk ho; have B6 := Aside0.mk hb; clear ho hb hg hat HO5)
    go_roundg k2
    case measure => omega
    case rel => exact ⟨i1, rfl, ⟨by have := HI.out; have := I1.out; omega⟩, ⟨by rw [I1.out, HTK.out, HBS.out]; exact O6.out⟩, ⟨HB5.out.trans (B6.out.mono (Nat.le_refl _))⟩⟩

   by_cases hk2 : x.f0 = 2
   ·
    skip
    have HBS := Aside0.mk (show bsOf [x] = [.name x.f2] by simp [bsOf, hk2])
    have e1 : (x.f0 == 1) = false := beq_eq_false_iff_ne.2 hk1
    have g1 : (x.f0 = 1) = False := eq_false hk1
    have e2 : (x.f0 == 2) = true := beq_iff_eq.2 hk2
    have g2 : (x.f0 = 2) = True := eq_true hk2
    go_wp2_with (fail)
    refine (box_OfName.calls x.f2 _ wr rfl).mono ?_
    rintro e w5 ⟨rfl, hb5⟩
    have HO5 := Aside0.mk (Kd.R_below HO.out hb5)
    have HB5 := Aside0.mk (HBl.out.trans (hb5.mono HBl.out.size))
    clear hb5 hx0 hx1 hx2 HO HBl
    go_wp2_with ((with_reducible refine gate_builtin (b := .append) (xs := #[.tmp 44, .tmp 51]) rfl ?_); (try (refine gate_guard (by rfl) ?_; dsimp only)); at_builtin; refine Kd.R_append k49 (w0 := w5) w1.heap.size rfl (.tmp 44) (.tmp 51) 23 49 (.agg #[.nilIface]) 16 rfl Tryz.underlying23 info49 rfl (by decide) (by omega) (.slice Av L.length cv) L ⟨.name x.f2⟩ [Wd.v (.name x.f2)] (fun _ => True) (fun _ => False) rfl rfl ?aP (fun _ hk => hk.elim) (fun _ _ => trivial) HO5.out (Below.refl _ _) ?aS ?aL ?_; (case aP => exact k49_mkM _ _ _ _); (case aS => exact HB5.out.size); (case aL => have := HLX.out; omega); intro v6 w6 ho hb hg hat; have O6 := Aside0.mk ho; have B6 := Aside0.mk hb; clear ho hb hg hat HO5)
    go_roundg k2
    case measure => omega
    case rel => exact ⟨i1, rfl, ⟨by have := HI.out; have := I1.out; omega⟩, ⟨by rw [I1.out, HTK.out, HBS.out]; exact O6.out⟩, ⟨HB5.out.trans (B6.out.mono (Nat.le_refl _))⟩⟩

   by_cases hk3 : x.f0 = 3
   ·
    skip
    have HBS := Aside0.mk (show bsOf [x] = [.text x.f2] by simp [bsOf, hk3])
    have e1 : (x.f0 == 1) = false := beq_eq_false_iff_ne.2 hk1
    have g1 : (x.f0 = 1) = False := eq_false hk1
    have e2 : (x.f0 == 2) = false := beq_eq_false_iff_ne.2 hk2
    have g2 : (x.f0 = 2) = False := eq_false hk2
    have e3 : (x.f0 == 3) = true := beq_iff_eq.2 hk3
    have g3 : (x.f0 = 3) = True := eq_true hk3
    go_wp2_with (fail)
    refine (box_OfText.calls x.f2 _ wr rfl).mono ?_
    rintro e w5 ⟨rfl, hb5⟩
    have HO5 := Aside0.mk (Kd.R_below HO.out hb5)
    have HB5 := Aside0.mk (HBl.out.trans (hb5.mono HBl.out.size))
    clear hb5 hx0 hx1 hx2 HO HBl
    go_wp2_with ((with_reducible refine gate_builtin (b := .append) (xs := #[.tmp 55, .tmp 62]) rfl ?_); (try (refine gate_guard (by rfl) ?_; dsimp only)); at_builtin; refine Kd.R_append k49 (w0 := w5) w1.heap.size rfl (.tmp 55) (.tmp 62) 23 49 (.agg #[.nilIface]) 16 rfl Tryz.underlying23 info49 rfl (by decide) (by omega) (.slice Av L.length cv) L ⟨.text x.f2⟩ [Wd.v (.text x.f2)] (fun _ => True) (fun _ => False) rfl rfl ?aP (fun _ hk => hk.elim) (fun _ _ => trivial) HO5.out (Below.refl _ _) ?aS ?aL ?_; (case aP => exact k49_mkM _ _ _ _); (case aS => exact HB5.out.size); (case aL => have := HLX.out; omega); intro v6 w6 ho hb hg hat; have O6 := Aside0.mk ho; have B6 := Aside0.mk hb; clear ho hb hg hat HO5)
    go_roundg k2
    case measure => omega
    case rel => exact ⟨i1, rfl, ⟨by have := HI.out; have := I1.out; omega⟩, ⟨by rw [I1.out, HTK.out, HBS.out]; exact O6.out⟩, ⟨HB5.out.trans (B6.out.mono (Nat.le_refl _))⟩⟩

   have HBS := Aside0.mk (show bsOf [x] = [] by simp [bsOf, hk1, hk2, hk3])
   have e1 : (x.f0 == 1) = false := beq_eq_false_iff_ne.2 hk1
   have g1 : (x.f0 = 1) = False := eq_false hk1
   have e2 : (x.f0 == 2) = false := beq_eq_false_iff_ne.2 hk2
   have g2 : (x.f0 = 2) = False := eq_false hk2
   have e3 : (x.f0 == 3) = false := beq_eq_false_iff_ne.2 hk3
   have g3 : (x.f0 = 3) = False := eq_false hk3
   go_wp2_with (fail)
   go_roundg k2
   case measure => omega
   case rel => exact ⟨i1, rfl, ⟨by have := HI.out; have := I1.out; omega⟩, ⟨by rw [I1.out, HTK.out, HBS.out, List.map_nil, List.append_nil]; exact HO.out⟩, HBl⟩
  ·
   have hie : i = l.length := by have := HI.out; omega
   subst hie
   have d1 : ((l.length : Int) < (l.length : Int)) = False := eq_false (by omega)
   rw [List.take_length] at HO
   clear hlt
   have HBO := Aside0.mk (bsOf_len l)
   generalize hws : bsOf l = ws at *
   have HWS := Aside0.mk hws
   have HMM : Aside0 ((ws.map S49.mk).map (fun b => b.f0) = ws) := ⟨by rw [List.map_map]; exact List.map_id _⟩
   clear hws
   obtain ⟨Ap, cp, rfl, hcp, hCp⟩ := Kd.R_reads HO.out
   have HB2 := Aside0.mk (HB1.out.trans (HBl.out.mono HB1.out.size))
   clear HO HBl
   go_wp2_with (fail)
   have hsa := show_at Ap cp (ws.map S49.mk) (by rw [HMM.out]; exact HFIT.out) hcp wr (HT.out.mono HB2.out) hCp
   rw [HMM.out, List.length_map] at hsa
   rw [List.length_map]
   refine hsa.mono ?_
   clear hsa hcp hCp
   rintro e w3 ⟨hb3, ⟨toks, hsh, rfl⟩ | ⟨hsh, rfl⟩⟩
   case inr =>
    go_wp2_with (fail)
    go_ret
    exact ⟨rfl, HB2.out.trans (hb3.mono HB2.out.size)⟩
   have HB3 := Aside0.mk (HB2.out.trans (hb3.mono HB2.out.size))
   have HSH := Aside0.mk hsh
   clear hsh hb3 HB2
   by_cases hne : ws.length = l.length
   case neg =>
    have n1 : ((ws.length : Int) == (l.length : Int)) = false := beq_eq_false_iff_ne.2 (by omega)
    have n2 : ((ws.length : Int) != (l.length : Int)) = true := bne_iff_ne.2 (by omega)
    have n3 : ((ws.length : Int) = (l.length : Int)) = False := eq_false (by omega)
    have n4 : (ws.length = l.length) = False := eq_false hne
    go_wp2_with (fail)
    go_ret
    exact ⟨rfl, HB3.out⟩
   obtain ⟨hAK, hmap⟩ := HBO.out.2 hne
   have HAK := Aside0.mk hAK
   have HMP := Aside0.mk hmap
   clear hAK hmap HBO
   by_cases h0 : ws.length = 0
   ·
    have n1 : ((ws.length : Int) == (l.length : Int)) = true := beq_iff_eq.2 (by omega)
    have n2 : ((ws.length : Int) != (l.length : Int)) = false := by rw [bne, n1]; rfl
    have n3 : ((ws.length : Int) = (l.length : Int)) = True := eq_true (by omega)
    have m1 : ((ws.length : Int) == 0) = true := beq_iff_eq.2 (by omega)
    have m2 : ((ws.length : Int) = 0) = True := eq_true (by omega)
    rw [hne] at *
    go_wp2_with (fail)
    go_ret
    exact ⟨by simp_all, HB3.out⟩
   have hpos : 0 < ws.length := by omega
   have m1 : ((l.length : Int) == 0) = false := beq_eq_false_iff_ne.2 (by omega)
   have m2 : ((l.length : Int) = 0) = False := eq_false (by omega)
   have HPOS := Aside0.mk hpos
   have HNE := Aside0.mk hne
   rw [hne]
   clear hpos hne h0
   have hsz : (⟨(Lib.join toks [32]).toArray⟩ : ByteArray).size = (Lib.join toks [32]).length := by rw [Lib.size_eq]
   by_cases h20 : 20000 < (Lib.join toks [32]).length
   ·
    have g1 : ((20000 : Int) < ((⟨(Lib.join toks [32]).toArray⟩ : ByteArray).size : Int)) = True := eq_true (by rw [hsz]; omega)
    have g2 : decide ((20000 : Int) < ((⟨(Lib.join toks [32]).toArray⟩ : ByteArray).size : Int)) = true := decide_eq_true (by rw [hsz]; omega)
    clear hsz h20
    generalize (⟨(Lib.join toks [32]).toArray⟩ : ByteArray) = S at *
    go_wp2_with (fail)
    go_ret
    exact ⟨rfl, HB3.out⟩
   have g1 : ((20000 : Int) < ((⟨(Lib.join toks [32]).toArray⟩ : ByteArray).size : Int)) = False := eq_false (by rw [hsz]; omega)
   have g2 : decide ((20000 : Int) < ((⟨(Lib.join toks [32]).toArray⟩ : ByteArray).size : Int)) = false := decide_eq_false (by rw [hsz]; omega)
   obtain ⟨kl, hkl⟩ := sl_lines ws toks HSH.out (by omega) HPOS.out
   have HKL := Aside0.mk hkl
   clear hsz h20 hkl HSH
   generalize (⟨(Lib.join toks [32]).toArray⟩ : ByteArray) = S at *
   go_wp2_with (fail)
   refine (parse_at kl S [⟨1, ws.map S49.mk⟩] 0 0 HKL.out (by simp) (by intro q hq; rw [List.mem_singleton] at hq; subst hq; dsimp only; rw [List.length_map, HNE.out]; have := HL.out; omega) w3 (HK.out.mono H3.out HB3.out) (Nat.lt_of_lt_of_le H3.out HB3.out.size)).mono ?_
   rintro e w4 ⟨hb4, v, out, n, f, rfl, ho, hr⟩
   rw [if_pos rfl, sl_parse] at ho
   obtain ⟨Ao, co, rfl, hco, hCo⟩ := Kd.R_reads hr
   have HB4 := Aside0.mk (HB3.out.trans (hb4.mono HB3.out.size))
   have HOUT := Aside0.mk ho
   have CO4 := Aside0.mk hCo
   have C4 := Aside0.mk (Kd.C_below HC.out HB4.out)
   clear hb4 hr ho hCo hco HKL
   go_wp2_with (fail)
   refine (readR_at A c l (by have := HL.out; omega) hc w4 C4.out).mono ?_
   rintro e w6 ⟨n6, y, v6, rfl, hR6, hB6, hcr⟩
   obtain ⟨A6, c6, rfl, hc6, hC6⟩ := Kd.R_reads hR6
   have HCR := Aside0.mk hcr
   have HC6 := Aside0.mk hc6
   have C6 := Aside0.mk hC6
   have HB6 := Aside0.mk (HB4.out.trans (hB6.mono HB4.out.size))
   have CO6 := Aside0.mk (Kd.C_below CO4.out hB6)
   clear hcr hc6 hC6 hB6 hR6 CO4 C4
   unfold stepW
   go_upto_region 19 with (fail)
   have Y7 := Aside0.mk (blk_new w6 (.cells #[.int .i64 y.f0, .int .i64 y.f1, .int .i64 y.f2, .int .i64 y.f3.f0, .string y.f3.f1, .string y.f3.f2, .slice A6 y.f3.f3.length c6, .string y.f3.f4, .string y.f3.f5, .bool y.f3.f6, .int .i64 y.f3.f7, .int .i64 y.f3.f8, .int .i64 y.f3.f9, .int .i64 y.f3.f10] 54))
   have ab7 : Below w6.heap.size w6 (w6.alloc (.cells #[.int .i64 y.f0, .int .i64 y.f1, .int .i64 y.f2, .int .i64 y.f3.f0, .string y.f3.f1, .string y.f3.f2, .slice A6 y.f3.f3.length c6, .string y.f3.f4, .string y.f3.f5, .bool y.f3.f6, .int .i64 y.f3.f7, .int .i64 y.f3.f8, .int .i64 y.f3.f9, .int .i64 y.f3.f10] 54)) := (Below.refl _ _).alloc (Nat.le_refl _) _
   have C7 := Aside0.mk (Kd.C_below C6.out ab7)
   have CO7 := Aside0.mk (Kd.C_below CO6.out (ab7.mono (Nat.le_refl _)))
   have HB7 := Aside0.mk (HB6.out.trans (ab7.mono HB6.out.size))
   change Code.wp _ _ _ _ (w6.alloc (.cells #[.int .i64 y.f0, .int .i64 y.f1, .int .i64 y.f2, .int .i64 y.f3.f0, .string y.f3.f1, .string y.f3.f2, .slice A6 y.f3.f3.length c6, .string y.f3.f4, .string y.f3.f5, .bool y.f3.f6, .int .i64 y.f3.f7, .int .i64 y.f3.f8, .int .i64 y.f3.f9, .int .i64 y.f3.f10] 54))
   generalize (w6.alloc (.cells #[.int .i64 y.f0, .int .i64 y.f1, .int .i64 y.f2, .int .i64 y.f3.f0, .string y.f3.f1, .string y.f3.f2, .slice A6 y.f3.f3.length c6, .string y.f3.f4, .string y.f3.f5, .bool y.f3.f6, .int .i64 y.f3.f7, .int .i64 y.f3.f8, .int .i64 y.f3.f9, .int .i64 y.f3.f10] 54)) = w7 at *
   generalize w6.heap.size = g7 at *
   clear ab7 C6 HB6 CO6
   have HRA := Aside0.mk ((read_any l HAK.out).trans (by rw [← HMP.out]))
   rcases HCR.out with ⟨hn6, hy⟩ | ⟨hn6, hy⟩
   ·
    subst hn6
    have hst : stepS ws = some y := HRA.out.symm.trans hy
    rw [hst] at HOUT
    obtain ⟨ho1, ho2⟩ := Prod.mk.inj HOUT.out
    obtain ⟨ho2, ho3⟩ := Prod.mk.inj ho2
    subst ho2 ho3
    have hyl : Aside0 (y.f3.f3.length ≤ 1000000) := ⟨readR_len1 l y (by have := HL.out; omega) hy⟩
    have hol : out.length = 1 := by rw [ho1]; rfl
    have hox : out[0]? = some y := by rw [ho1]; rfl
    clear ho1 hst hy HCR HOUT HRA
    ·
     have f1 : ((out.length : Int) ≤ 0) = False := eq_false (by omega)
     have f2 : decide ((out.length : Int) ≤ 0) = false := decide_eq_false (by omega)
     have f3 : ((0 : Int) < (out.length : Int)) = True := eq_true (by omega)
     have f4 : (0 < out.length) = True := eq_true (by omega)
     have o1 : ((out.length : Int) == 1) = true := beq_iff_eq.2 (by omega)
     have o2 : ((out.length : Int) = 1) = True := eq_true (by omega)
     obtain ⟨ao, Aq, cq, eao, q0, q1, q2, q3, q4, q5, q6, q7, q8, q9, q10, q11, q12, q13, lq, gq⟩ := at_T58 CO7.out 0 (by decide) (by omega)
     subst eao
     rw [show rd_T58 out 0 = y by unfold rd_T58; rw [List.getD_eq_getElem?_getD]; exact congrArg (fun o => Option.getD o _) hox] at q0 q1 q2 q3 q4 q5 q6 q7 q8 q9 q10 q11 q12 q13 lq gq
     simp only [show ((0 : Int).toNat * 14) = 0 from rfl, Addr.add_zero'] at q0 q1 q2 q3 q4 q5 q6 q7 q8 q9 q10 q11 q12 q13
     have LQ := Aside0.mk lq
     have GQ := Aside0.mk gq
     clear hox lq gq hol
     have r0 : w7.cell? ⟨g7, 0, none⟩ = some (.int .i64 y.f0) := (blk_cell Y7.out 0).trans rfl
     have r1 : w7.cell? ⟨g7, 1, none⟩ = some (.int .i64 y.f1) := (blk_cell Y7.out 1).trans rfl
     have r2 : w7.cell? ⟨g7, 2, none⟩ = some (.int .i64 y.f2) := (blk_cell Y7.out 2).trans rfl
     have r3 : w7.cell? ⟨g7, 3, none⟩ = some (.int .i64 y.f3.f0) := (blk_cell Y7.out 3).trans rfl
     have r4 : w7.cell? ⟨g7, 4, none⟩ = some (.string y.f3.f1) := (blk_cell Y7.out 4).trans rfl
     have r5 : w7.cell? ⟨g7, 5, none⟩ = some (.string y.f3.f2) := (blk_cell Y7.out 5).trans rfl
     have r6 : w7.cell? ⟨g7, 6, none⟩ = some (.slice A6 y.f3.f3.length c6) := (blk_cell Y7.out 6).trans rfl
     have r7 : w7.cell? ⟨g7, 7, none⟩ = some (.string y.f3.f4) := (blk_cell Y7.out 7).trans rfl
     have r8 : w7.cell? ⟨g7, 8, none⟩ = some (.string y.f3.f5) := (blk_cell Y7.out 8).trans rfl
     have r9 : w7.cell? ⟨g7, 9, none⟩ = some (.bool y.f3.f6) := (blk_cell Y7.out 9).trans rfl
     have r10 : w7.cell? ⟨g7, 10, none⟩ = some (.int .i64 y.f3.f7) := (blk_cell Y7.out 10).trans rfl
     have r11 : w7.cell? ⟨g7, 11, none⟩ = some (.int .i64 y.f3.f8) := (blk_cell Y7.out 11).trans rfl
     have r12 : w7.cell? ⟨g7, 12, none⟩ = some (.int .i64 y.f3.f9) := (blk_cell Y7.out 12).trans rfl
     have r13 : w7.cell? ⟨g7, 13, none⟩ = some (.int .i64 y.f3.f10) := (blk_cell Y7.out 13).trans rfl
     go_upto_region 21 with (fail)
     refine start_ (n := 19) (S := fun w' => Below w7.heap.size w7 w') (ds := []) #[false, false, false, false, false, false, false, false, false, false, false, false, false, false, false, false, false, false, false] (by kernel_rfl) rfl rfl (Below.refl _ _).drew (fun hHeld => ?_)
     have hsz9 : w7.drew.heap.size = w7.heap.size := rfl
     generalize w7.drew = w9 at *
     refine pure_ (i := 0) (N := some 112) (v := ?_) (a' := ?_) #[true, false, false, false, false, false, false, false, false, false, false, false, false, false, false, false, false, false, false] rfl rfl (by kernel_rfl) (fun _ _ _ h => h) (Or.inl ⟨by rfl, ?_⟩) ?_ ?_
     rotate_left
     ·
      intro w'
      go_simp
      with_reducible rfl
     rotate_left
     ·
      simp only [Act.put, List.setIfInBounds_toArray, List.set_cons_zero, List.set_cons_succ, i64_w, i32_w]
      rfl
     refine pure_ (i := 1) (N := some 113) (v := ?_) (a' := ?_) #[true, true, false, false, false, false, false, false, false, false, false, false, false, false, false, false, false, false, false] rfl rfl (by kernel_rfl) (fun _ _ _ h => h) (Or.inl ⟨by rfl, ?_⟩) ?_ ?_
     rotate_left
     ·
      intro w'
      go_simp
      with_reducible rfl
     rotate_left
     ·
      simp only [Act.put, List.setIfInBounds_toArray, List.set_cons_zero, List.set_cons_succ, i64_w, i32_w]
      rfl
     refine pure_ (i := 2) (N := some 114) (v := ?_) (a' := ?_) #[true, true, true, false, false, false, false, false, false, false, false, false, false, false, false, false, false, false, false] rfl rfl (by kernel_rfl) (fun _ _ _ h => h) (Or.inl ⟨by rfl, ?_⟩) ?_ ?_
     rotate_left
     ·
      intro w'
      go_simp
      with_reducible rfl
     rotate_left
     ·
      simp only [Act.put, List.setIfInBounds_toArray, List.set_cons_zero, List.set_cons_succ, i64_w, i32_w]
      rfl
     refine pure_ (i := 3) (N := some 115) (v := ?_) (a' := ?_) #[true, true, true, true, false, false, false, false, false, false, false, false, false, false, false, false, false, false, false] rfl rfl (by kernel_rfl) (fun _ _ _ h => h) (Or.inl ⟨by rfl, ?_⟩) ?_ ?_
     rotate_left
     ·
      intro w'
      go_simp
      with_reducible rfl
     rotate_left
     ·
      simp only [Act.put, List.setIfInBounds_toArray, List.set_cons_zero, List.set_cons_succ, i64_w, i32_w]
      rfl
     refine pure_ (i := 4) (N := some 116) (v := ?_) (a' := ?_) #[true, true, true, true, true, false, false, false, false, false, false, false, false, false, false, false, false, false, false] rfl rfl (by kernel_rfl) (fun _ _ _ h => h) (Or.inl ⟨by rfl, ?_⟩) ?_ ?_
     rotate_left
     ·
      intro w'
      go_simp
      with_reducible rfl
     rotate_left
     ·
      simp only [Act.put, List.setIfInBounds_toArray, List.set_cons_zero, List.set_cons_succ, i64_w, i32_w]
      rfl
     refine pure_ (i := 5) (N := some 117) (v := ?_) (a' := ?_) #[true, true, true, true, true, true, false, false, false, false, false, false, false, false, false, false, false, false, false] rfl rfl (by kernel_rfl) (fun _ _ _ h => h) (Or.inl ⟨by rfl, ?_⟩) ?_ ?_
     rotate_left
     ·
      intro w'
      go_simp
      with_reducible rfl
     rotate_left
     ·
      simp only [Act.put, List.setIfInBounds_toArray, List.set_cons_zero, List.set_cons_succ, i64_w, i32_w]
      rfl
     refine pure_ (i := 6) (N := some 118) (v := ?_) (a' := ?_) #[true, true, true, true, true, true, true, false, false, false, false, false, false, false, false, false, false, false, false] rfl rfl (by kernel_rfl) (fun _ _ _ h => h) (Or.inl ⟨by rfl, ?_⟩) ?_ ?_
     rotate_left
     ·
      intro w'
      go_simp
      with_reducible rfl
     rotate_left
     ·
      simp only [Act.put, List.setIfInBounds_toArray, List.set_cons_zero, List.set_cons_succ, i64_w, i32_w]
      rfl
     refine pure_ (i := 7) (N := some 119) (v := ?_) (a' := ?_) #[true, true, true, true, true, true, true, true, false, false, false, false, false, false, false, false, false, false, false] rfl rfl (by kernel_rfl) (fun _ _ _ h => h) (Or.inl ⟨by rfl, ?_⟩) ?_ ?_
     rotate_left
     ·
      intro w'
      go_simp
      with_reducible rfl
     rotate_left
     ·
      simp only [Act.put, List.setIfInBounds_toArray, List.set_cons_zero, List.set_cons_succ, i64_w, i32_w]
      rfl
     refine pure_ (i := 8) (N := some 120) (v := ?_) (a' := ?_) #[true, true, true, true, true, true, true, true, true, false, false, false, false, false, false, false, false, false, false] rfl rfl (by kernel_rfl) (fun _ _ _ h => h) (Or.inl ⟨by rfl, ?_⟩) ?_ ?_
     rotate_left
     ·
      intro w'
      go_simp
      with_reducible rfl
     rotate_left
     ·
      simp only [Act.put, List.setIfInBounds_toArray, List.set_cons_zero, List.set_cons_succ, i64_w, i32_w]
      rfl
     refine pure_ (i := 9) (N := some 121) (v := ?_) (a' := ?_) #[true, true, true, true, true, true, true, true, true, true, false, false, false, false, false, false, false, false, false] rfl rfl (by kernel_rfl) (fun _ _ _ h => h) (Or.inl ⟨by rfl, ?_⟩) ?_ ?_
     rotate_left
     ·
      intro w'
      go_simp
      with_reducible rfl
     rotate_left
     ·
      simp only [Act.put, List.setIfInBounds_toArray, List.set_cons_zero, List.set_cons_succ, i64_w, i32_w]
      rfl
     refine pure_ (i := 10) (N := some 122) (v := ?_) (a' := ?_) #[true, true, true, true, true, true, true, true, true, true, true, false, false, false, false, false, false, false, false] rfl rfl (by kernel_rfl) (fun _ _ _ h => h) (Or.inl ⟨by rfl, ?_⟩) ?_ ?_
     rotate_left
     ·
      intro w'
      go_simp
      with_reducible rfl
     rotate_left
     ·
      simp only [Act.put, List.setIfInBounds_toArray, List.set_cons_zero, List.set_cons_succ, i64_w, i32_w]
      rfl
     refine pure_ (i := 11) (N := some 123) (v := ?_) (a' := ?_) #[true, true, true, true, true, true, true, true, true, true, true, true, false, false, false, false, false, false, false] rfl rfl (by kernel_rfl) (fun _ _ _ h => h) (Or.inl ⟨by rfl, ?_⟩) ?_ ?_
     rotate_left
     ·
      intro w'
      go_simp
      with_reducible rfl
     rotate_left
     ·
      simp only [Act.put, List.setIfInBounds_toArray, List.set_cons_zero, List.set_cons_succ, i64_w, i32_w]
      rfl
     refine pure_ (i := 12) (N := some 124) (v := ?_) (a' := ?_) #[true, true, true, true, true, true, true, true, true, true, true, true, true, false, false, false, false, false, false] rfl rfl (by kernel_rfl) (fun _ _ _ h => h) (Or.inl ⟨by rfl, ?_⟩) ?_ ?_
     rotate_left
     ·
      intro w'
      go_simp
      with_reducible rfl
     rotate_left
     ·
      simp only [Act.put, List.setIfInBounds_toArray, List.set_cons_zero, List.set_cons_succ, i64_w, i32_w]
      rfl
     refine pure_ (i := 13) (N := some 125) (v := ?_) (a' := ?_) #[true, true, true, true, true, true, true, true, true, true, true, true, true, true, false, false, false, false, false] rfl rfl (by kernel_rfl) (fun _ _ _ h => h) (Or.inl ⟨by rfl, ?_⟩) ?_ ?_
     rotate_left
     ·
      intro w'
      go_simp
      with_reducible rfl
     rotate_left
     ·
      simp only [Act.put, List.setIfInBounds_toArray, List.set_cons_zero, List.set_cons_succ, i64_w, i32_w]
      rfl
     refine take_ (i := 14) (N := some 126) (v := ?_) (a' := ?_) #[true, true, true, true, true, true, true, true, true, true, true, true, true, true, true, false, false, false, false] rfl rfl (by kernel_rfl) (fun _ _ _ h => h) (Or.inl ⟨by rfl, ?_⟩) hHeld ?_ ?_
     rotate_left
     ·
      intro w' hS
      have t0 := (hS.cell (World.block_lt_of_cell? w7 _ q0)).trans q0
      have t1 := (hS.cell (World.block_lt_of_cell? w7 _ q1)).trans q1
      have t2 := (hS.cell (World.block_lt_of_cell? w7 _ q2)).trans q2
      have t3 := (hS.cell (World.block_lt_of_cell? w7 _ q3)).trans q3
      have t4 := (hS.cell (World.block_lt_of_cell? w7 _ q4)).trans q4
      have t5 := (hS.cell (World.block_lt_of_cell? w7 _ q5)).trans q5
      have t6 := (hS.cell (World.block_lt_of_cell? w7 _ q6)).trans q6
      have t7 := (hS.cell (World.block_lt_of_cell? w7 _ q7)).trans q7
      have t8 := (hS.cell (World.block_lt_of_cell? w7 _ q8)).trans q8
      have t9 := (hS.cell (World.block_lt_of_cell? w7 _ q9)).trans q9
      have t10 := (hS.cell (World.block_lt_of_cell? w7 _ q10)).trans q10
      have t11 := (hS.cell (World.block_lt_of_cell? w7 _ q11)).trans q11
      have t12 := (hS.cell (World.block_lt_of_cell? w7 _ q12)).trans q12
      have t13 := (hS.cell (World.block_lt_of_cell? w7 _ q13)).trans q13
      go_simp
      with_reducible rfl
     rotate_left
     ·
      simp only [Act.put, List.setIfInBounds_toArray, List.set_cons_zero, List.set_cons_succ, i64_w, i32_w]
      rfl
     refine take_ (i := 15) (N := some 127) (v := ?_) (a' := ?_) #[true, true, true, true, true, true, true, true, true, true, true, true, true, true, true, true, false, false, false] rfl rfl (by kernel_rfl) (fun _ _ _ h => h) (Or.inl ⟨by rfl, ?_⟩) hHeld ?_ ?_
     rotate_left
     ·
      intro w' hS
      have t0 := (hS.cell (World.block_lt_of_cell? w7 _ r0)).trans r0
      have t1 := (hS.cell (World.block_lt_of_cell? w7 _ r1)).trans r1
      have t2 := (hS.cell (World.block_lt_of_cell? w7 _ r2)).trans r2
      have t3 := (hS.cell (World.block_lt_of_cell? w7 _ r3)).trans r3
      have t4 := (hS.cell (World.block_lt_of_cell? w7 _ r4)).trans r4
      have t5 := (hS.cell (World.block_lt_of_cell? w7 _ r5)).trans r5
      have t6 := (hS.cell (World.block_lt_of_cell? w7 _ r6)).trans r6
      have t7 := (hS.cell (World.block_lt_of_cell? w7 _ r7)).trans r7
      have t8 := (hS.cell (World.block_lt_of_cell? w7 _ r8)).trans r8
      have t9 := (hS.cell (World.block_lt_of_cell? w7 _ r9)).trans r9
      have t10 := (hS.cell (World.block_lt_of_cell? w7 _ r10)).trans r10
      have t11 := (hS.cell (World.block_lt_of_cell? w7 _ r11)).trans r11
      have t12 := (hS.cell (World.block_lt_of_cell? w7 _ r12)).trans r12
      have t13 := (hS.cell (World.block_lt_of_cell? w7 _ r13)).trans r13
      go_simp
      with_reducible rfl
     rotate_left
     ·
      simp only [Act.put, List.setIfInBounds_toArray, List.set_cons_zero, List.set_cons_succ, i64_w, i32_w]
      rfl
     refine one_ (i := 16) (N := some 128) #[true, true, true, true, true, true, true, true, true, true, true, true, true, true, true, true, true, false, false] rfl rfl (by kernel_rfl) (by decide) (fun K hK => ?_)
     go_simp
     refine (sameR_at y y Aq A6 cq c6 w9 (Kd.C_below GQ.out hHeld) (Kd.C_below C7.out hHeld) LQ.out HC6.out hyl.out).mono ?_
     rintro e w8 ⟨b, rfl, hb, hb8⟩
     obtain rfl : b = true := hb.2 rfl
     have hS8 := hHeld.trans (hb8.mono (Nat.le_of_eq hsz9.symm))
     dsimp only
     refine hK.out _ _ hS8 (fun hHeld => ?_)
     clear hK K hb
     refine pure_ (i := 17) (N := some 129) (v := ?_) (a' := ?_) #[true, true, true, true, true, true, true, true, true, true, true, true, true, true, true, true, true, true, false] rfl rfl (by kernel_rfl) (fun _ _ _ h => h) (Or.inl ⟨by rfl, ?_⟩) ?_ ?_
     rotate_left
     ·
      intro w'
      go_simp
      with_reducible rfl
     rotate_left
     ·
      simp only [Act.put, List.setIfInBounds_toArray, List.set_cons_zero, List.set_cons_succ, i64_w, i32_w]
      rfl
     refine pure_ (i := 18) (N := some 2) (v := ?_) (a' := ?_) #[true, true, true, true, true, true, true, true, true, true, true, true, true, true, true, true, true, true, true] rfl rfl (by kernel_rfl) (fun _ _ _ h => h) (Or.inl ⟨by rfl, ?_⟩) ?_ ?_
     rotate_left
     ·
      intro w'
      go_simp
      with_reducible rfl
     rotate_left
     ·
      simp only [Act.put, List.setIfInBounds_toArray, List.set_cons_zero, List.set_cons_succ, i64_w, i32_w]
      rfl
     refine done_ (by kernel_rfl) ?_
     go_wp2_with (fail)
     go_ret
     exact ⟨rfl, HB7.out.trans (hS8.mono HB7.out.size)⟩
   ·
    subst hn6
    have hst : stepS ws = none := HRA.out.symm.trans hy
    rw [hst] at HOUT
    obtain ⟨ho1, ho2⟩ := Prod.mk.inj HOUT.out
    obtain ⟨ho2, ho3⟩ := Prod.mk.inj ho2
    subst ho2 ho3
    have hol : out.length = 0 := by rw [ho1]; rfl
    have o1 : ((out.length : Int) == 0) = true := beq_iff_eq.2 (by omega)
    have o2 : ((out.length : Int) = 0) = True := eq_true (by omega)
    have o3 : (out.length = 0) = True := eq_true hol
    clear ho1 hst hy HCR HOUT HRA
    go_wp2_with (fail)
    go_ret
    exact ⟨by simp [hol], HB7.out⟩
end Go.Proofs.YtlkbeddlmbghkaaGreatDoor.PR

namespace Go.Proofs.YtlkbeddlmbghkaaGreatDoor.PR
open Go Go.Proofs Go.RowKit Go.Proofs.YtlkbeddlmbghkaaGreatDoorW.PrintWords Go.Proofs.YtlkbeddlmbghkaaGreatDoorW.PrintLast Go.Proofs.YtlkbeddlmbghkaaGreatDoorW.PrintMore Go.Proofs.YtlkbeddlmbghkaaGreatDoor.Lx
set_option linter.unusedVariables false
set_option linter.unusedSimpArgs false
set_option maxRecDepth 100000
/-- A word of at most a megabyte. -/
def Mid : Wd → Prop
 | .text t => t.size ≤ 1048576
 | .name s => s.size ≤ 1048576
 | .num n => -9223372036854775808 ≤ n ∧ n ≤ 9223372036854775807
 | .nil => True
theorem nDigits_le : ∀ (k u : Nat), u < 10 ^ k → 1 ≤ k → Lib.nDigits u ≤ k
 | 0, u, h, h1 => absurd h1 (by omega)
 | k + 1, u, h, h1 => by
  by_cases hu : u < 10
  ·
   rw [Lib.nDigits_small hu]; omega
  ·
   rw [Lib.nDigits_big hu]
   have hk : 1 ≤ k := by
    rcases Nat.eq_zero_or_pos k with h0 | h0
    ·
     subst h0; simp at h; omega
    ·
     exact h0
   have := nDigits_le k (u / 10) (by rw [Nat.pow_succ] at h; omega) hk
   omega
theorem piece_len (s : ByteArray) (p : Nat) (hp : p < s.data.toList.length) : (pieceQ s p).length ≤ 4 * stepQ s p ∧ 1 ≤ stepQ s p := by
 rcases piece_cases s p hp with ⟨h1, h2⟩ | ⟨h1, h2, h3⟩ | ⟨w, h0, h1, -, hl, h2, h3⟩
 ·
  rw [h1, h2]; simp
 ·
  rw [h1, h3]; simp
 ·
  rw [h1, h2]
  refine ⟨?_, by omega⟩
  rw [List.length_take, List.length_drop]
  omega
theorem quoteF_length (s : ByteArray) : ∀ (k p : Nat), p ≤ s.data.toList.length → (quoteF s k p).length ≤ 4 * (s.data.toList.length + 4 - p)
 | 0, p, h => by rw [quoteF]; simp
 | k + 1, p, h => by
  have hsz := Lib.size_eq s
  rw [quoteF]
  by_cases hp : p < s.data.toList.length
  ·
   rw [if_pos (by omega), List.length_append]
   have hl := piece_len s p hp
   rcases Nat.lt_or_ge s.data.toList.length (p + stepQ s p) with h2 | h2
   ·
    exfalso
    rcases piece_cases s p hp with ⟨h1, _⟩ | ⟨h1, _⟩ | ⟨w, h0, h1, -, hw, _⟩ <;> omega
   ·
    have := quoteF_length s k (p + stepQ s p) h2
    omega
  ·
   rw [if_neg (by omega)]; simp
theorem shown_len (b : Wd) (t : List UInt8) (hs : Mid b) (h : shownW b = some t) : t.length ≤ 5000000 := by
 cases b with
 | nil => cases h
 | text s =>
  obtain rfl := Option.some.inj h
  have h1 := quoteF_length s s.size 0 (Nat.zero_le _)
  have h2 : s.size ≤ 1048576 := hs
  have hsz := Lib.size_eq s
  simp only [quoteL, List.length_cons, List.length_append, List.length_nil]
  omega
 | num n =>
  change (if isNum (Lib.itoa n) = true then some (Lib.itoa n) else none) = some t at h
  split at h
  ·
   obtain rfl := Option.some.inj h
   have hb : -9223372036854775808 ≤ n ∧ n ≤ 9223372036854775807 := hs
   have hd : ∀ u : Nat, u ≤ 9223372036854775808 → (Lib.decDigits u).length ≤ 20 := fun u hu => by rw [Lib.decDigits_length]; exact nDigits_le 20 u (by omega) (by omega)
   unfold Lib.itoa
   split
   ·
    have := hd n.natAbs (by omega); simp only [List.length_cons]; omega
   ·
    have := hd n.toNat (by omega); omega
  ·
   cases h
 | name s =>
  change (if isName s.data.toList = true then some s.data.toList else none) = some t at h
  split at h
  ·
   obtain rfl := Option.some.inj h
   have h2 : s.size ≤ 1048576 := hs
   have hsz := Lib.size_eq s
   omega
  ·
   cases h
theorem join_bound : ∀ (ws : List Wd) (toks : List (List UInt8)), (∀ b ∈ ws, Mid b) → showW ws = some toks → (Lib.join toks [32]).length ≤ 6000000 * ws.length
 | [], toks, _, h => by
  obtain rfl := Option.some.inj h
  simp [Lib.join]
 | b :: ws, toks, hs, h => by
  rw [showW] at h
  cases hb : shownW b with
  | none => rw [hb] at h; cases h
  | some t =>
   rw [hb] at h
   cases hr : showW ws with
   | none => rw [hr] at h; cases h
   | some ts =>
    rw [hr] at h
    obtain rfl := Option.some.inj h
    have h1 := shown_len b t (hs b (by simp)) hb
    have h2 := join_bound ws ts (fun c hc => hs c (by simp [hc])) hr
    rw [join_cons, List.length_append, List.length_cons]
    split
    ·
     simp only [List.length_nil]; omega
    ·
     simp only [List.length_cons]; omega
theorem fits_of (ws : List Wd) (hl : ws.length ≤ 60) (hs : ∀ b ∈ ws, Mid b) : FitsAll ws := by
 refine ⟨by omega, fun b hb => ?_, fun toks ht => by have := join_bound ws toks hs ht; omega⟩
 have := hs b hb
 cases b with
 | text t => have h : t.size ≤ 1048576 := this; show t.size ≤ 1000000000000; omega
 | num n => exact this
 | name s => trivial
 | nil => trivial
theorem mid_bs (l : List SW) (hw : ∀ x ∈ l, (-9223372036854775808 ≤ x.f1 ∧ x.f1 ≤ 9223372036854775807) ∧ x.f2.size ≤ 1048576) : ∀ b ∈ bsOf l, Mid b := by
 induction l with
 | nil => intro b hb; cases hb
 | cons x t ih =>
  have hx := hw x (by simp)
  have ht := ih (fun y hy => hw y (by simp [hy]))
  intro b hb
  rw [bsOf] at hb
  split at hb
  ·
   rcases List.mem_cons.1 hb with rfl | hb
   ·
    exact hx.1
   ·
    exact ht b hb
  ·
   split at hb
   ·
    rcases List.mem_cons.1 hb with rfl | hb
    ·
     exact hx.2
    ·
     exact ht b hb
   ·
    split at hb
    ·
     rcases List.mem_cons.1 hb with rfl | hb
     ·
      exact hx.2
     ·
      exact ht b hb
    ·
     exact ht b hb
theorem ten_of {W : World} {L : List (String × DataW Unit)} (h : laidMetH Tryz.prog L W) (hp : (L.all fun x => x.2.handleName?.isNone) = true) (hf : (L.filter fun x => x.1 == "internal/strconv.uint64pow10") = [("internal/strconv.uint64pow10", Lib.tabData .u64 Lib.pow10Tab)]) : TenAt W := by
 rw [MakeChecks.laidMetH_plain _ _ _ hp] at h
 have h := h.filter (fun x => x.1 == "internal/strconv.uint64pow10")
 rw [hf] at h
 exact Lib.tabIs_of_head (g := 2) (t := 185) (e := 172) (n := 20) (by kernel_rfl) (by kernel_rfl) (by kernel_rfl) (by kernel_rfl) (by kernel_rfl) (by kernel_rfl) h
theorem slines_walk (A : Option Addr) (c : Nat) (l : List SW) (w : World) (hw : ∀ x ∈ l, (-9223372036854775808 ≤ x.f1 ∧ x.f1 ≤ 9223372036854775807) ∧ x.f2.size ≤ 1048576) (hc : l.length ≤ c) (hC : Kd.C k46 w A l.length l) (hL : laidMetH Tryz.prog Rows.scriptLinesUptoRow.laid w) :
  Calls Tryz.prog 5 #[.slice A l.length c] w fun e w' => e = .returned (.bool true) ∧ Below w.heap.size w w' := by
 obtain ⟨hk, h3⟩ := kat_of hL (by kernel_rfl) (by kernel_rfl)
 have hT := ten_of hL (by kernel_rfl) (by kernel_rfl)
 by_cases hl : l.length ≤ 60
 ·
  exact slines_short A c l hc w hT hk h3 hC hl (fits_of (bsOf l) (Nat.le_trans (bsOf_len l).1 hl) (mid_bs l hw))
 ·
  exact slines_long A c l hc w hT hk h3 hC hl
end Go.Proofs.YtlkbeddlmbghkaaGreatDoor.PR
