/- rundlelaw09.BatchParts: the walk. -/
import Derived.Test.YtgnnhomipfjanaaPAx5
import Derived.Test.YtgnnhomipfjanaaPureA
import Derived.Laws.Cover1
import Derived.Deep.RegionLaw
import Derived.Deep.RegionHeld3
namespace Go.Proofs.Ytgnnhomipfjanaa.PA
open Go Go.Proofs Go.RowKit Go.Proofs.YtgnnhomipfjanaaW.PrintWords Go.Proofs.YtgnnhomipfjanaaW.PrintLast Go.Proofs.YtgnnhomipfjanaaW.PrintMore

theorem R_empty37 {W : World} {g base : Nat} {ok : Nat → Prop} (hg : W.heap[g]? = some (.cells #[] 37 (0, 0))) (hb : base ≤ g) (hok : ok g) : Kd.R k37 37 W base ok (.slice (some ⟨g, 0, none⟩) 0 0) [] :=
  ⟨fun k hk => by
    have : g = k := by simpa [Value.ownBlock] using hk
    exact this ▸ hok, [], ⟨rfl, .inr ⟨g, 0, #[], rfl, hb, hg, Nat.le_refl _, Nat.zero_le _, rfl, rfl⟩⟩, Reps.none _ _⟩
theorem C_drop37 {W : World} {A : Option Addr} {xs : List S37} {m c : Nat} (h : Kd.C k37 W A xs.length xs) (hm : m ≤ xs.length) (hc : xs.length ≤ c) : Kd.C k37 W (if c = m then A else A.map (·.add (m * 3))) (xs.length - m) (xs.drop m) := by
  have q := Kd.C_drop h hm hc
  rw [List.length_drop] at q
  exact q
def spansOf (lo mid high : ByteArray) : List S44 := [⟨lo, mid, false⟩, ⟨mid, high, false⟩, ⟨high, ⟨#[]⟩, true⟩]
/-- What is left of entries in order, without those ahead of a text. -/
def dropLt (lo : ByteArray) : List S37 → List S37
  | [] => []
  | x :: t => if Srt.ltB x.f0 lo = true then dropLt lo t else x :: t
def partsBad (l : List S94) (lo mid high : ByteArray) : Bool := !fewB l || decide (40 < lo.size) || decide (40 < mid.size) || decide (40 < high.size) || Srt.ltB mid lo || Srt.ltB high mid

theorem gt_ltB (a b : ByteArray) : (!Op.bytesLess a.toList b.toList && !a.toList == b.toList) = Srt.ltB b a := by
  have h := leq_ltB a b
  rw [← Bool.not_or, h, Bool.not_not]

theorem bad_is (l : List S94) (lo mid high : ByteArray) (h : fewB l = true) : partsBad l lo mid high = (decide ((40 : Int) < (lo.size : Int)) || decide ((40 : Int) < (mid.size : Int)) || decide ((40 : Int) < (high.size : Int)) ||
    !Op.bytesLess lo.toList mid.toList && !lo.toList == mid.toList || !Op.bytesLess mid.toList high.toList && !mid.toList == high.toList) := by
  have c : ∀ n : Nat, decide ((40 : Int) < (n : Int)) = decide (40 < n) := fun n => by rw [decide_eq_decide]; omega
  unfold partsBad
  rw [h, gt_ltB, gt_ltB, c, c, c]
  rfl

theorem dropLt_nil (lo : ByteArray) (t : List S37) (h : t.length = 0) : dropLt lo t = t := by
  obtain rfl := List.length_eq_zero_iff.1 h
  rfl
theorem dropLt_drop (lo : ByteArray) (t : List S37) (h : 0 < t.length) : (Srt.ltB (rd_T37 t 0).f0 lo = true → dropLt lo t = dropLt lo (t.drop 1)) ∧ (Srt.ltB (rd_T37 t 0).f0 lo = false → dropLt lo t = t) := by
  cases t with
  | nil => simp at h
  | cons x t =>
    have e : rd_T37 (x :: t) 0 = x := rfl
    rw [e]
    refine ⟨fun h => ?_, fun h => ?_⟩
    · rw [dropLt, if_pos h]; rfl
    · rw [dropLt, if_neg (by rw [h]; simp)]
theorem dropLt_le (lo : ByteArray) : ∀ l : List S37, (dropLt lo l).length ≤ l.length
  | [] => Nat.le_refl _
  | x :: t => by
    rw [dropLt]; split
    · have := dropLt_le lo t; rw [List.length_cons]; omega
    · exact Nat.le_refl _
theorem parts_len {l : List S94} {lo : ByteArray} {p0 p1 p2 : List S37} (h : p0 ++ (p1 ++ p2) = dropLt lo (sortE (l.map conv))) : p0.length + (p1.length + p2.length) ≤ l.length := by
  have := congrArg List.length h
  rw [List.length_append, List.length_append] at this
  have h2 := dropLt_le lo (sortE (l.map conv))
  have h3 : (sortE (l.map conv)).length = l.length := by rw [sort_is, List.length_map, rsE_length]
  omega

set_option maxHeartbeats 8000000 in
set_option maxRecDepth 100000 in
theorem rundlelaw09_BatchParts.calls (A0 : Option Addr) (c0 : Nat) (l0 : List S94) (lo mid high : ByteArray) (w : World) (hr0 : Kd.C k94 w A0 l0.length l0) (hc0 : l0.length ≤ c0)
    (hP : partsBad l0 lo mid high = false → ∃ p0 p1 p2 : List S37, batch_Parts.f 6000 (l0.map conv) (spansOf lo mid high) = some [p0, p1, p2] ∧ p0 ++ (p1 ++ p2) = dropLt lo (sortE (l0.map conv))) :
    Calls Try.prog 6 #[.slice A0 l0.length c0, .string lo, .string mid, .string high] w fun e w' => e = .returned (.bool true) ∧ Below w.heap.size w w' := by
  have HR0 := Aside0.mk hr0
  have HC0 := Aside0.mk hc0
  have HP := Aside0.mk hP
  clear hr0 hc0 hP
  have HB := Aside0.mk (Below.refl w.heap.size w)
  have AW := Aside0.mk (awake_says 6000 (by omega))
  have FW := Aside0.mk (few_says l0 6000 (by omega))
  go_enter Try.func6, Try.ntmps6
  go_upto_region 1 with (fail)
  go_cut [45] (fun v45 wc => ∃ b : Bool, v45 = .bool b ∧ Aside0 (partsBad l0 lo mid high = b) ∧ Aside0 (Below w.heap.size w wc))
  case first =>
    cases hf : fewB l0 with
    | false =>
      rw [hf] at FW
      have FW := Aside0.mk (show rundlelaw08_Few.f 6000 l0 = some 0 from FW.out)
      have HE : Aside0 (partsBad l0 lo mid high = true) := ⟨by unfold partsBad; simp [hf]⟩
      clear hf
      go_wp2_with (first | ((with_reducible refine gate_callee (f := 12) rfl ?_); refine goesL_ (some 14) rfl rfl Try.func12 (by kernel_rfl) rfl #[] rfl (by (try simp only [List.map_toArray, List.map_cons, List.map_nil]); first | done | rfl) ?_; (refine (rundlelaw09_awake.calls 6000 true _ AW.out).mono ?_); rintro e w6 ⟨rfl, hb⟩; refine ⟨_, rfl, ?_⟩; have n0_ := Aside0.mk (below_step (by repeat (first | (with_reducible first | exact HB.out | apply below_alloc | apply pw_below_drewN | apply below_drew1) | exact HB.out)) hb); clear HB; have HB := n0_; clear n0_ hb) | (go_at_call 13; (refine (rundlelaw08_Few.calls 6000 _ _ l0 _ _ (Kd.C_below HR0.out HB.out) HC0.out FW.out).mono ?_); rintro e w7 ⟨rfl, hd⟩; have hb := hd.below; clear hd; have n0_ := Aside0.mk (below_step (by repeat (first | (with_reducible first | exact HB.out | apply below_alloc | apply pw_below_drewN | apply below_drew1) | exact HB.out)) hb); clear HB; have HB := n0_; clear n0_ hb))
      go_meet
      case rel => exact ⟨_, (by first | rfl | (simp; done)), HE, HB⟩
    | true =>
      rw [hf] at FW
      have FW := Aside0.mk (show rundlelaw08_Few.f 6000 l0 = some 1 from FW.out)
      have EQ := Aside0.mk (bad_is l0 lo mid high hf)
      clear hf
      go_wp2_with (first | ((with_reducible refine gate_callee (f := 12) rfl ?_); refine goesL_ (some 14) rfl rfl Try.func12 (by kernel_rfl) rfl #[] rfl (by (try simp only [List.map_toArray, List.map_cons, List.map_nil]); first | done | rfl) ?_; (refine (rundlelaw09_awake.calls 6000 true _ AW.out).mono ?_); rintro e w6 ⟨rfl, hb⟩; refine ⟨_, rfl, ?_⟩; have n0_ := Aside0.mk (below_step (by repeat (first | (with_reducible first | exact HB.out | apply below_alloc | apply pw_below_drewN | apply below_drew1) | exact HB.out)) hb); clear HB; have HB := n0_; clear n0_ hb) | (go_at_call 13; (refine (rundlelaw08_Few.calls 6000 _ _ l0 _ _ (Kd.C_below HR0.out HB.out) HC0.out FW.out).mono ?_); rintro e w7 ⟨rfl, hd⟩; have hb := hd.below; clear hd; have n0_ := Aside0.mk (below_step (by repeat (first | (with_reducible first | exact HB.out | apply below_alloc | apply pw_below_drewN | apply below_drew1) | exact HB.out)) hb); clear HB; have HB := n0_; clear n0_ hb))
      all_goals (first | exact absurd (Or.inr ⟨Bool.eq_false_iff.2 fun h => ‹¬(Op.bytesLess lo.toList mid.toList = true ∨ lo.toList = mid.toList)› (.inl h), fun h => ‹¬(Op.bytesLess lo.toList mid.toList = true ∨ lo.toList = mid.toList)› (.inr h)⟩) ‹¬(((40 < (lo.size : Int) ∨ 40 < (mid.size : Int)) ∨ 40 < (high.size : Int)) ∨ (Op.bytesLess lo.toList mid.toList = false ∧ ¬lo.toList = mid.toList))› | skip)
      all_goals (go_meet; (case rel => refine ⟨_, rfl, ⟨?_⟩, HB⟩; first | exact EQ.out | (rw [EQ.out]; simp only [Bool.or_eq_true, decide_eq_true_eq, Bool.and_eq_true, Bool.not_eq_true', beq_eq_false_iff_ne, ne_eq]; first | exact .inl (.inl (.inl (.inl (by omega)))) | exact .inl (.inl (.inl (.inr (by omega)))) | exact .inl (.inl (.inr (by omega))) | exact .inl (.inr ⟨Bool.eq_false_iff.2 fun h => ‹¬(Op.bytesLess lo.toList mid.toList = true ∨ lo.toList = mid.toList)› (.inl h), fun h => ‹¬(Op.bytesLess lo.toList mid.toList = true ∨ lo.toList = mid.toList)› (.inr h)⟩))))
  case rest =>
    obtain ⟨b, rfl, HE, HB⟩ := hcut
    cases b with
    | true =>
      go_wp2_with (first | ((with_reducible refine gate_callee (f := 12) rfl ?_); refine goesL_ (some 46) rfl rfl Try.func12 (by kernel_rfl) rfl #[] rfl (by (try simp only [List.map_toArray, List.map_cons, List.map_nil]); first | done | rfl) ?_; (refine (rundlelaw09_awake.calls 6000 true _ AW.out).mono ?_); rintro e w6 ⟨rfl, hb⟩; refine ⟨_, rfl, ?_⟩; have n0_ := Aside0.mk (below_step (by repeat (first | (with_reducible first | exact HB.out | apply below_alloc | apply pw_below_drewN | apply below_drew1) | exact HB.out)) hb); clear HB; have HB := n0_; clear n0_ hb))
      go_ret
      exact ⟨rfl, HB.out⟩
    | false =>
      obtain ⟨p0, p1, p2, hP1, hP2⟩ := HP.out HE.out
      have h70 : l0.length ≤ 70 := by have := HE.out; unfold partsBad fewB at this; simp only [Bool.or_eq_false_iff, Bool.not_eq_false', Bool.and_eq_true, decide_eq_true_eq] at this; exact this.1.1.1.1.1.1
      have hST : batch_Sorted.f (l0.map conv) = some (sortE (l0.map conv)) := by unfold batch_Sorted.f; rw [if_pos (by rw [List.length_map]; omega)]
      have LM := Aside0.mk (Nat.le_trans (parts_len hP2) h70)
      have hOF := of_says l0 h70 6000 (by omega)
      obtain ⟨s, hs⟩ : ∃ s, s = sortE (l0.map conv) := ⟨_, rfl⟩
      rw [← hs] at hP2 hST
      have hsl : s.length ≤ 70 := by rw [hs, sort_is, List.length_map, rsE_length]; exact h70
      obtain ⟨X, hX⟩ : ∃ X, X = l0.map conv := ⟨_, rfl⟩
      rw [← hX] at hP1 hST hOF
      obtain ⟨sp, hsp⟩ : ∃ sp, sp = spansOf lo mid high := ⟨_, rfl⟩
      rw [← hsp] at hP1
      obtain ⟨ps, hps⟩ : ∃ ps, ps = [p0, p1, p2] := ⟨_, rfl⟩
      rw [← hps] at hP1
      have OF := Aside0.mk hOF
      have ST := Aside0.mk hST
      have HSP := Aside0.mk hsp
      have HPS := Aside0.mk hps
      have HSL := Aside0.mk hsl
      have HP1 := Aside0.mk hP1
      have HP2 := Aside0.mk hP2
      have h3 : ps.length = 3 := by rw [hps]; rfl
      have n3 : (((ps.length : Nat) : Int) != 3) = false := by rw [h3]; rfl
      clear hP1 hP2 HP HE h70 hs hX hsp hps hOF hST hsl h3
      go_upto_block 0 with (first | ((with_reducible refine gate_callee (f := 14) rfl ?_); refine goesL_ (some 48) rfl rfl Try.func14 (by kernel_rfl) rfl #[.slice A0 l0.length c0] rfl (by (try simp only [List.map_toArray, List.map_cons, List.map_nil]); first | done | rfl) ?_; (refine (rundlelaw08_Of.calls 6000 _ _ l0 X _ (Kd.C_below HR0.out HB.out) HC0.out OF.out).mono ?_); rintro e w8 ⟨v8, rfl, hR, hb⟩; refine ⟨_, rfl, ?_⟩; obtain ⟨A1, c1, rfl, hc1, hC1⟩ := Kd.R_reads hR; have HC1 := Aside0.mk hC1; have HL1 := Aside0.mk hc1; clear hC1 hc1 hR; have n0_ := Aside0.mk (below_step (by repeat (first | (with_reducible first | exact HB.out | apply below_alloc | apply pw_below_drewN | apply below_drew1) | exact HB.out)) hb); clear HB; have HB := n0_; clear n0_ hb) | ((with_reducible refine gate_dst (N := 58) rfl ?_); (try (refine gate_guard (by rfl) ?_; dsimp only)); refine Kd.R_lit k44 _ 44 ?hg (N := 58) ?hd (xs := ([⟨lo, mid, false⟩, ⟨mid, high, false⟩, ⟨high, (⟨#[]⟩ : ByteArray), true⟩] : List S44)) (inner := [.string lo, .string mid, .bool false, .string mid, .string high, .bool false, .string high, .string (⟨#[]⟩ : ByteArray), .bool true]) (ok := fun _ => True) (okp := fun _ => True) ?hr ?hp (fun _ hk => hk) trivial (Below.refl _ _) (Nat.le_refl _) (by simp) ?_; (case hd => rfl); (case hg => rfl); (case hr => first | (go_simp; done) | (go_simp; rfl)); (case hp => exact (Reps.c3 (show Kd.M k44 _ _ _ (⟨lo, mid, false⟩ : S44) _ from (k44_mkM _ _ _ _)) (Reps.c3 (show Kd.M k44 _ _ _ (⟨mid, high, false⟩ : S44) _ from (k44_mkM _ _ _ _)) (Reps.c3 (show Kd.M k44 _ _ _ (⟨high, (⟨#[]⟩ : ByteArray), true⟩ : S44) _ from (k44_mkM _ _ _ _)) (Reps.none _ _))))); intro v58 w9 ho hb hg_ hnew_; clear hg_ hnew_; rw [show ([⟨lo, mid, false⟩, ⟨mid, high, false⟩, ⟨high, (⟨#[]⟩ : ByteArray), true⟩] : List S44) = sp from HSP.out.symm] at ho; obtain ⟨A2, c2, rfl, hc2, hC2⟩ := Kd.R_reads ho; have HC2 := Aside0.mk hC2; have HL2 := Aside0.mk hc2; have HC1n := Aside0.mk (Kd.C_below HC1.out (by first | exact hb)); clear HC1; have HC1 := HC1n; clear HC1n hC2 hc2 ho; have n0_ := Aside0.mk (below_step (by repeat (first | (with_reducible first | exact HB.out | apply below_alloc | apply pw_below_drewN | apply below_drew1) | exact HB.out)) hb); clear HB; have HB := n0_; clear n0_ hb) | ((with_reducible refine gate_callee (f := 21) rfl ?_); refine goesL_ (some 59) rfl rfl Try.func21 (by kernel_rfl) rfl #[.slice A1 X.length c1, .slice A2 sp.length c2] rfl (by (try simp only [List.map_toArray, List.map_cons, List.map_nil]); first | done | rfl) ?_; (refine (batch_Parts.calls 6000 A1 c1 X A2 c2 sp ps _ HC1.out HL1.out HC2.out HL2.out HP1.out).mono ?_); rintro e w10 ⟨v10, rfl, hS, hb⟩; refine ⟨_, rfl, ?_⟩; obtain ⟨A3, c3, rfl, hc3, hC3⟩ := Kd.S_reads hS; have HC3 := Aside0.mk hC3; have HL3 := Aside0.mk hc3; have HC1n := Aside0.mk (Kd.C_below HC1.out hb); clear HC1; have HC1 := HC1n; clear HC1n hC3 hc3 hS; have n0_ := Aside0.mk (below_step (by repeat (first | (with_reducible first | exact HB.out | apply below_alloc | apply pw_below_drewN | apply below_drew1) | exact HB.out)) hb); clear HB; have HB := n0_; clear n0_ hb) | ((with_reducible refine gate_callee (f := 18) rfl ?_); refine goesL_ (some 64) rfl rfl Try.func18 (by kernel_rfl) rfl #[.slice A1 X.length c1] rfl (by (try simp only [List.map_toArray, List.map_cons, List.map_nil]); first | done | rfl) ?_; (refine (batch_Sorted.calls A1 c1 X s _ HC1.out HL1.out ST.out).mono ?_); rintro e w11 ⟨v11, rfl, hR, hb⟩; refine ⟨_, rfl, ?_⟩; obtain ⟨A4, c4, rfl, hc4, hC4⟩ := Kd.R_reads hR; have HC4 := Aside0.mk hC4; have HL4 := Aside0.mk hc4; have HC3n := Aside0.mk (Kd.C_below HC3.out hb); clear HC3; have HC3 := HC3n; clear HC3n hC4 hc4 hR; have n0_ := Aside0.mk (below_step (by repeat (first | (with_reducible first | exact HB.out | apply below_alloc | apply pw_below_drewN | apply below_drew1) | exact HB.out)) hb); clear HB; have HB := n0_; clear n0_ hb))
      go_cut [11] (fun v11 wc => ∃ (A5 : Option Addr) (c5 : Nat) (t : List S37), v11 = .slice A5 t.length c5 ∧ Aside0 (t = dropLt lo s) ∧ Aside0 (t.length ≤ c5) ∧ Aside0 (Kd.C k37 w11 A5 t.length t) ∧ Drawn0 w11 wc)
      case first =>
        clear n3 HC1 HL1 HC2 HL2 HC3 HL3 HP1 HP2 HSP HPS OF
        go_wp2_with fail
        go_loopg [11] s.length (fun kq v11 w2 => ∃ (A5 : Option Addr) (c5 : Nat) (t : List S37), v11 = .slice A5 t.length c5 ∧ t.length ≤ kq ∧ Aside0 (dropLt lo t = dropLt lo s) ∧ Aside0 (t.length ≤ c5) ∧ Aside0 (Kd.C k37 w11 A5 t.length t) ∧ Drawn0 w11 w2)
        case atStart => exact ⟨A4, c4, s, rfl, Nat.le_refl _, ⟨rfl⟩, HL4, HC4, Drawn0.refl _⟩
        case round =>
          obtain ⟨A5, c5, t, rfl, hk, HE, HL5, HC5, HD⟩ := hrel
          by_cases ht : 0 < t.length
          · have z1 : (0 : Int) < (t.length : Int) := by omega
            have d1 : decide ((t.length : Int) > 0) = true := decide_eq_true z1
            have z0 : (0 : Int) ≤ 0 := Int.le_refl 0
            obtain ⟨ad1, e1, ha0, _, _⟩ := at_T37 HC5.out 0 z0 z1
            subst e1
            have hx0 := (HD.below.cell (World.block_lt_of_cell? w11 _ ha0)).trans ha0
            rw [show (Int.toNat 0) * 3 = 0 from rfl, Addr.add_zero'] at hx0
            have c1 : 1 ≤ t.length := ht
            have hlc : t.length ≤ c5 := HL5.out
            have DP := Aside0.mk (dropLt_drop lo t ht)
            generalize rd_T37 t 0 = x at *
            cases hL : Srt.ltB x.f0 lo with
            | true =>
              have DQ := Aside0.mk (DP.out.1 hL)
              have z2 : Op.bytesLess x.f0.toList lo.toList = true := hL
              have CD := C_drop37 HC5.out c1 hlc
              rw [← List.length_drop] at CD
              have hdl : (t.drop 1).length = t.length - 1 := List.length_drop
              clear ha0 hL DP
              by_cases h51 : c5 = 1
              · subst h51
                rw [if_pos rfl] at CD
                have HCD := Aside0.mk CD
                have HDL := Aside0.mk hdl
                clear CD hdl
                go_wp2_with fail
                go_roundg (t.length - 1)
                case measure => omega
                case rel => exact ⟨some ad1, 0, t.drop 1, by rw [HDL.out, show t.length - 1 = 0 from by omega], by rw [HDL.out]; first | done | omega, ⟨by rw [← DQ.out, HE.out]⟩, ⟨by rw [HDL.out]; omega⟩, HCD, by repeat (first | exact HD | apply Drawn0.step)⟩
              · rw [if_neg h51] at CD
                have HCD := Aside0.mk CD
                have HDL := Aside0.mk hdl
                clear CD hdl
                go_wp2_with fail
                go_roundg (t.length - 1)
                case measure => omega
                case rel => exact ⟨some (ad1.add 3), c5 - 1, t.drop 1, by rw [HDL.out]; rfl, by rw [HDL.out]; first | done | omega, ⟨by rw [← DQ.out, HE.out]⟩, ⟨by rw [HDL.out]; omega⟩, HCD, by repeat (first | exact HD | apply Drawn0.step)⟩
            | false =>
              have DQ := Aside0.mk (DP.out.2 hL)
              have z2 : Op.bytesLess x.f0.toList lo.toList = false := hL
              clear ha0 hL DP
              go_wp2_with fail
              go_meet
              case rel => exact ⟨_, c5, t, rfl, ⟨by rw [← HE.out, DQ.out]⟩, HL5, HC5, by repeat (first | exact HD | apply Drawn0.step)⟩
          · have z1 : ¬ (0 : Int) < (t.length : Int) := by omega
            have d1 : decide ((t.length : Int) > 0) = false := decide_eq_false (by omega)
            go_wp2_with fail
            go_meet
            case rel => exact ⟨_, c5, t, rfl, ⟨by rw [← HE.out, dropLt_nil lo t (by omega)]⟩, HL5, HC5, by repeat (first | exact HD | apply Drawn0.step)⟩
      case rest =>
        obtain ⟨A5, c5, t, rfl, HT, HL5, HC5, HD⟩ := hcut
        have HBc := Aside0.mk (below_then HB.out HB.out.size HD.below)
        have hCp := Kd.C_below HC3.out HD.below
        have hCt := Kd.C_below HC5.out HD.below
        rw [HPS.out] at hCp
        obtain ⟨ad3, B0, d0, e3, hx0, hd0, hQ0⟩ := at_L3 hCp 0 (by decide) (by show (0 : Int) < ((3 : Nat) : Int); decide)
        obtain ⟨ad3', B1, d1, e3', hx1, hd1, hQ1⟩ := at_L3 hCp 1 (by decide) (by show (1 : Int) < ((3 : Nat) : Int); decide)
        cases e3.symm.trans e3'
        obtain ⟨ad3', B2, d2, e3', hx2, hd2, hQ2⟩ := at_L3 hCp 2 (by decide) (by show (2 : Int) < ((3 : Nat) : Int); decide)
        cases e3.symm.trans e3'
        subst e3
        rw [show (Int.toNat 0) = 0 from rfl, Addr.add_zero'] at hx0
        rw [show (Int.toNat 1) = 1 from rfl] at hx1
        rw [show (Int.toNat 2) = 2 from rfl] at hx2
        replace hx0 : wc.cell? ad3 = some (.slice B0 p0.length d0) := hx0
        replace hx1 : wc.cell? ⟨ad3.block, ad3.off + 1, none⟩ = some (.slice B1 p1.length d1) := hx1
        replace hx2 : wc.cell? ⟨ad3.block, ad3.off + 2, none⟩ = some (.slice B2 p2.length d2) := hx2
        have HQ0 := Aside0.mk (show Kd.C k37 wc B0 p0.length p0 from hQ0)
        have HQ1 := Aside0.mk (show Kd.C k37 wc B1 p1.length p1 from hQ1)
        have HQ2 := Aside0.mk (show Kd.C k37 wc B2 p2.length p2 from hQ2)
        have HCt := Aside0.mk hCt
        have hn0 := World.new_ne wc _ hx0
        have hn1 := World.new_ne wc _ hx1
        have hn2 := World.new_ne wc _ hx2
        have i0 : (0 : Int) < (ps.length : Int) := by rw [HPS.out]; show (0 : Int) < ((3 : Nat) : Int); decide
        have i1 : (1 : Int) < (ps.length : Int) := by rw [HPS.out]; show (1 : Int) < ((3 : Nat) : Int); decide
        have i2 : (2 : Int) < (ps.length : Int) := by rw [HPS.out]; show (2 : Int) < ((3 : Nat) : Int); decide
        have j0 : (0 < ps.length) = True := eq_true (by omega)
        clear hCp hCt hQ0 hQ1 hQ2 hd0 hd1 hd2 HC3 HC5 HC4 HC1 HC2 HD HB e3'
        go_wp2_with fail
        go_region_held3 (fun w' => w'.cell? ad3 = some (.slice B0 p0.length d0) ∧ w'.cell? ⟨ad3.block, ad3.off + 1, none⟩ = some (.slice B1 p1.length d1) ∧ w'.cell? ⟨ad3.block, ad3.off + 2, none⟩ = some (.slice B2 p2.length d2)) (go_keep) ((first | (refine Kd.R_append_rows_step k37 (w0 := wc) wc.heap.size (by rfl) (.tmp 78) (.tmp 81) 25 37 (.agg #[(.string ⟨#[]⟩), (.string ⟨#[]⟩), (.bool false)]) 40 rfl Try.underlying25 info37 rfl (by decide) (by omega) _ [] p0 _ _ _ (fun k => wc.heap.size ≤ k) (fun _ => False) rfl rfl ?aO ?aR (fun _ _ h => h) (fun _ h => h.elim) (fun _ h => Nat.le_trans (below_size (by repeat (first | (with_reducible first | exact Below.refl _ _ | assumption | apply below_alloc | apply below_drew1 | apply pw_below_drewN) | exact Below.refl _ _))) h) (by repeat (first | (with_reducible first | exact Below.refl _ _ | assumption | apply below_alloc | apply below_drew1 | apply pw_below_drewN) | exact Below.refl _ _)) (below_size (by repeat (first | (with_reducible first | exact Below.refl _ _ | assumption | apply below_alloc | apply below_drew1 | apply pw_below_drewN) | exact Below.refl _ _))) ?aL ?_; (case aO => exact R_empty37 (by first | exact hp1 _ _ | exact hp2 _ _ _ | exact hp3 _ _ _) (by simp) (by simp)); (case aR => exact Kd.C_below HQ0.out (by repeat (first | (with_reducible first | exact Below.refl _ _ | assumption | apply below_alloc | apply below_drew1 | apply pw_below_drewN) | exact Below.refl _ _))); (case aL => have := LM.out; simp; omega); intro v1 w1 hov1 hbv1 hgv1 hatv1; have k0 := (hbv1.cell (World.block_lt_of_cell? wc _ hx0)).trans hx0; have k1 := (hbv1.cell (World.block_lt_of_cell? wc _ hx1)).trans hx1; have k2 := (hbv1.cell (World.block_lt_of_cell? wc _ hx2)).trans hx2) | (refine Kd.R_append_rows_step k37 (w0 := wc) wc.heap.size (by rfl) (.tmp 82) (.tmp 85) 25 37 (.agg #[(.string ⟨#[]⟩), (.string ⟨#[]⟩), (.bool false)]) 40 rfl Try.underlying25 info37 rfl (by decide) (by omega) v1 ([] ++ p0) p1 _ _ _ (fun k => wc.heap.size ≤ k) (fun _ => False) rfl rfl ?bO ?bR (fun _ _ h => h) (fun _ h => h.elim) (fun _ h => Nat.le_trans (below_size (by repeat (first | (with_reducible first | exact Below.refl _ _ | assumption | apply below_alloc | apply below_drew1 | apply pw_below_drewN) | exact Below.refl _ _))) h) (by repeat (first | (with_reducible first | exact Below.refl _ _ | assumption | apply below_alloc | apply below_drew1 | apply pw_below_drewN) | exact Below.refl _ _)) (below_size (by repeat (first | (with_reducible first | exact Below.refl _ _ | assumption | apply below_alloc | apply below_drew1 | apply pw_below_drewN) | exact Below.refl _ _))) ?bL ?_; (case bO => first | exact hov1 | exact Kd.R_alloc hov1 _ | exact Kd.R_drew hov1); (case bR => exact Kd.C_below HQ1.out (by repeat (first | (with_reducible first | exact Below.refl _ _ | assumption | apply below_alloc | apply below_drew1 | apply pw_below_drewN) | exact Below.refl _ _))); (case bL => have := LM.out; simp; omega); intro v2 w2 hov2 hbv2 hgv2 hatv2; have k0 := (hbv2.cell (World.block_lt_of_cell? wc _ hx0)).trans hx0; have k1 := (hbv2.cell (World.block_lt_of_cell? wc _ hx1)).trans hx1; have k2 := (hbv2.cell (World.block_lt_of_cell? wc _ hx2)).trans hx2) | (refine Kd.R_append_rows_step k37 (w0 := wc) wc.heap.size (by rfl) (.tmp 86) (.tmp 89) 25 37 (.agg #[(.string ⟨#[]⟩), (.string ⟨#[]⟩), (.bool false)]) 40 rfl Try.underlying25 info37 rfl (by decide) (by omega) v2 (([] ++ p0) ++ p1) p2 _ _ _ (fun k => wc.heap.size ≤ k) (fun _ => False) rfl rfl ?cO ?cR (fun _ _ h => h) (fun _ h => h.elim) (fun _ h => Nat.le_trans (below_size (by repeat (first | (with_reducible first | exact Below.refl _ _ | assumption | apply below_alloc | apply below_drew1 | apply pw_below_drewN) | exact Below.refl _ _))) h) (by repeat (first | (with_reducible first | exact Below.refl _ _ | assumption | apply below_alloc | apply below_drew1 | apply pw_below_drewN) | exact Below.refl _ _)) (below_size (by repeat (first | (with_reducible first | exact Below.refl _ _ | assumption | apply below_alloc | apply below_drew1 | apply pw_below_drewN) | exact Below.refl _ _))) ?cL ?_; (case cO => first | exact hov2 | exact Kd.R_drew hov2); (case cR => exact Kd.C_below HQ2.out (by repeat (first | (with_reducible first | exact Below.refl _ _ | assumption | apply below_alloc | apply below_drew1 | apply pw_below_drewN) | exact Below.refl _ _))); (case cL => have := LM.out; simp; omega); intro v3 w3 hov3 hbv3 hgv3 hatv3; have k0 := (hbv3.cell (World.block_lt_of_cell? wc _ hx0)).trans hx0; have k1 := (hbv3.cell (World.block_lt_of_cell? wc _ hx1)).trans hx1; have k2 := (hbv3.cell (World.block_lt_of_cell? wc _ hx2)).trans hx2)))
        have et : ([] ++ p0 ++ p1) ++ p2 = t := by rw [HT.out, ← HP2.out]; simp
        rw [et] at hov3
        obtain ⟨A6, c6, rfl, hc6, hC6⟩ := Kd.R_reads hov3
        have HC6 := Aside0.mk hC6
        have HC7 := Aside0.mk (Kd.C_below HCt.out hbv3)
        have HB3 := Aside0.mk (below_then HBc.out HBc.out.size hbv3)
        have HET := Aside0.mk et
        have n4 : (((t.length : Nat) : Int) != ((t.length : Nat) : Int)) = false := by simp
        have HTL : t.length ≤ 70 := by have h1 := LM.out; have h2 := congrArg List.length et; simp at h2; omega
        have LT := Aside0.mk HTL
        clear hC6 hc6 hov1 hov2 hov3 hbv1 hbv2 hbv3 et HTL
        go_wp2_with fail

        go_loopg [13] t.length (fun kq v13 w' => ∃ i : Nat, v13 = .int .i64 i ∧ i ≤ t.length ∧ t.length - i ≤ kq ∧ Drawn0 w3 w')
        case atStart => exact ⟨0, rfl, by omega, by omega, Drawn0.refl _⟩
        case round =>
          obtain ⟨i, rfl, hi, hk, HD⟩ := hrel
          by_cases hlt : i < t.length
          · have z1 : (i : Int) < (t.length : Int) := by omega
            have z0 : (0 : Int) ≤ (i : Int) := by omega
            obtain ⟨ad5, e5, ha0, ha1, ha2⟩ := at_T37 HC7.out i z0 z1
            subst e5
            obtain ⟨ad6, e6, hb0, hb1, hb2⟩ := at_T37 HC6.out i z0 z1
            subst e6
            replace ha0 := (HD.below.cell (World.block_lt_of_cell? w3 _ ha0)).trans ha0
            replace ha1 := (HD.below.cell (World.block_lt_of_cell? w3 _ ha1)).trans ha1
            replace ha2 := (HD.below.cell (World.block_lt_of_cell? w3 _ ha2)).trans ha2
            replace hb0 := (HD.below.cell (World.block_lt_of_cell? w3 _ hb0)).trans hb0
            replace hb1 := (HD.below.cell (World.block_lt_of_cell? w3 _ hb1)).trans hb1
            replace hb2 := (HD.below.cell (World.block_lt_of_cell? w3 _ hb2)).trans hb2
            rw [Int.toNat_natCast] at ha0 ha1 ha2 hb0 hb1 hb2
            generalize rd_T37 t i = x at *
            have hlm := LT.out
            go_wp2_with fail
            go_quiet (fail)
            go_wp2_with fail
            go_roundg (t.length - (i + 1))
            case measure => omega
            case rel => exact ⟨i + 1, by go_num, by omega, by omega, by repeat (first | exact HD | apply Drawn0.step)⟩
          · have z1 : ¬ (i : Int) < (t.length : Int) := by omega
            go_wp2_with fail
            go_ret
            exact ⟨rfl, below_then HB3.out HB3.out.size HD.below⟩
end Go.Proofs.Ytgnnhomipfjanaa.PA
