/- rundlelaw09.BatchWithin: the walk. -/
import Derived.Test.YtgnnhomipfjanaaRefParts
namespace Go.Proofs.Ytgnnhomipfjanaa.PA
open Go Go.Proofs Go.RowKit Go.Proofs.YtgnnhomipfjanaaW.PrintWords Go.Proofs.YtgnnhomipfjanaaW.PrintLast Go.Proofs.YtgnnhomipfjanaaW.PrintMore

def s44 (s : S40) : S44 := ⟨s.f0, s.f1, s.f2⟩
theorem C_three40 {W : World} {g : Nat} {a b c : S40} (hg : W.heap[g]? = some (.cells #[.string a.f0, .string a.f1, .bool a.f2, .string b.f0, .string b.f1, .bool b.f2, .string c.f0, .string c.f1, .bool c.f2] 40 (0, 0))) : Kd.C k40 W (some ⟨g, 0, none⟩) 3 [a, b, c] := by
  have h : Kd.R k40 40 W g (fun _ => True) (.slice (some ⟨g, 0, none⟩) [a, b, c].length 3) [a, b, c] :=
    ⟨fun _ _ => trivial, [.string a.f0, .string a.f1, .bool a.f2, .string b.f0, .string b.f1, .bool b.f2, .string c.f0, .string c.f1, .bool c.f2], ⟨rfl, .inr ⟨g, 3, _, rfl, Nat.le_refl _, hg, Nat.le_refl _, by simp [maxLen], rfl, rfl⟩⟩, by
      exact Reps.c3 (k40_mkM _ _ _ _) (Reps.c3 (k40_mkM _ _ _ _) (Reps.c3 (k40_mkM _ _ _ _) (Reps.none _ _)))⟩
  obtain ⟨A, c, e, _, hC⟩ := Kd.R_reads h
  injection e with e1 e2 e3
  subst e1
  exact hC
theorem C_three44 {W : World} {g : Nat} {a b c : S44} (hg : W.heap[g]? = some (.cells #[.string a.f0, .string a.f1, .bool a.f2, .string b.f0, .string b.f1, .bool b.f2, .string c.f0, .string c.f1, .bool c.f2] 44 (0, 0))) : Kd.C k44 W (some ⟨g, 0, none⟩) 3 [a, b, c] := by
  have h : Kd.R k44 44 W g (fun _ => True) (.slice (some ⟨g, 0, none⟩) [a, b, c].length 3) [a, b, c] :=
    ⟨fun _ _ => trivial, [.string a.f0, .string a.f1, .bool a.f2, .string b.f0, .string b.f1, .bool b.f2, .string c.f0, .string c.f1, .bool c.f2], ⟨rfl, .inr ⟨g, 3, _, rfl, Nat.le_refl _, hg, Nat.le_refl _, by simp [maxLen], rfl, rfl⟩⟩, by
      exact Reps.c3 (k44_mkM _ _ _ _) (Reps.c3 (k44_mkM _ _ _ _) (Reps.c3 (k44_mkM _ _ _ _) (Reps.none _ _)))⟩
  obtain ⟨A, c, e, _, hC⟩ := Kd.R_reads h
  injection e with e1 e2 e3
  subst e1
  exact hC

/-! ### what is answered -/
def shortB (s : S40) : Bool := decide (s.f0.size ≤ 1100) && decide (s.f1.size ≤ 1100)
theorem short_loop (l : List S40) (hl : l.length ≤ 100) : ∀ (n k i : Nat), l.length - i = n → i ≤ l.length → n < k → (∀ j (h : j < l.length), j < i → shortB l[j] = true) →
    rundlelaw04_Short.l0 k l (i : Int) = some (if l.all shortB = true then 1 else 0)
  | n, 0, i, hn, hi, hk, hj => by omega
  | n, k + 1, i, hn, hi, hk, hj => by
    rw [rundlelaw04_Short.l0]
    by_cases c : i < l.length
    · have e : rd_T40 l (i : Int) = l[i] := by unfold rd_T40; simp [c]
      have hno : shortB l[i] = false → l.all shortB = false := fun h => List.all_eq_false.2 ⟨l[i], List.getElem_mem c, by rw [h]; simp⟩
      rw [if_pos (by omega), if_pos (by omega), e]
      by_cases c1 : ((l[i].f0.size : Nat) : Int) > 1100
      · rw [if_pos c1, hno (by unfold shortB; rw [decide_eq_false (by omega)]; rfl)]; rfl
      · rw [if_neg c1]
        by_cases c2 : ((l[i].f1.size : Nat) : Int) > 1100
        · rw [if_pos c2, hno (by unfold shortB; rw [decide_eq_false (p := l[i].f1.size ≤ 1100) (by omega), Bool.and_false])]; rfl
        · rw [if_neg c2, w64 _ (by omega), show (i : Int) + 1 = ((i + 1 : Nat) : Int) from by omega]
          refine short_loop l hl (n - 1) k (i + 1) (by omega) (by omega) (by omega) fun j h2 hji => ?_
          by_cases e : j = i
          · subst e
            unfold shortB
            rw [decide_eq_true (by omega), decide_eq_true (by omega)]; rfl
          · exact hj j h2 (by omega)
    · rw [if_neg (by omega), if_pos (List.all_eq_true.2 fun x hx => by
        obtain ⟨j, h, rfl⟩ := List.mem_iff_getElem.1 hx
        exact hj j h (by omega))]
theorem short_says (l : List S40) (hl : l.length ≤ 100) (k : Nat) (hk : l.length < k) : rundlelaw04_Short.f k l = some (if l.all shortB = true then 1 else 0) :=
  short_loop l hl l.length k 0 rfl (Nat.zero_le _) hk (fun j _ h => absurd h (by omega))

def wBad (l : List S94) (sa sb sc : S40) : Bool := !fewB l || ![sa, sb, sc].all shortB

theorem dropLt_conv (lo : ByteArray) : ∀ l : List S94, dropLt lo (l.map conv) = (dropLtR lo l).map conv
  | [] => rfl
  | x :: t => by
    rw [List.map_cons, dropLt, dropLtR]
    have e : (conv x).f0 = x.f0 := rfl
    rw [e]
    split
    · exact dropLt_conv lo t
    · rfl
theorem within_conv (s : S40) (l : List S94) : withinE (s44 s) (l.map conv) = (withinR s l).map conv := by
  unfold withinE withinR
  rw [List.takeWhile_map]
  rfl
theorem parts_conv : ∀ (sps : List S40) (l : List S94), partsE (sps.map s44) (l.map conv) = (partsR sps l).map (List.map conv)
  | [], _ => rfl
  | s :: t, l => by
    rw [List.map_cons, partsE, partsR, List.map_cons]
    have e : dropLt (s44 s).f0 (l.map conv) = (dropLtR s.f0 l).map conv := dropLt_conv s.f0 l
    rw [e, within_conv, List.length_map, ← List.map_drop, parts_conv t]

theorem C_nil44 {W : World} : Kd.C k44 W none ([] : List S44).length [] := ⟨rfl, by show 0 ≤ _; omega, fun h => absurd h (Nat.lt_irrefl 0)⟩
theorem same_quiet (A0 : Option Addr) (c0 : Nat) (l0 : List S37) (A1 : Option Addr) (c1 : Nat) (l1 : List S94) (w : World) (hr0 : Kd.C k37 w A0 l0.length l0) (hc0 : l0.length ≤ c0) (hr1 : Kd.C k94 w A1 l1.length l1) (hc1 : l1.length ≤ c1) (h : rundlelaw09_Same.f 6000 l0 l1 = some 1) :
    Calls Try.prog 17 #[.slice A0 l0.length c0, .slice A1 l1.length c1] w fun e w' => e = .returned (.int .i64 1) ∧ ∃ m, w' = w.drewN m :=
  (rundlelaw09_Same.calls 6000 A0 c0 l0 A1 c1 l1 1 w hr0 hc0 hr1 hc1 h).mono fun _ _ ⟨he, hd⟩ => ⟨he, hd.out⟩
theorem Of_any (a b : ByteArray) (c : Bool) (w : World) : Calls Try.prog 22 #[.agg #[.string a, .string b, .bool c]] w fun e w' => e = .returned (.agg #[.string a, .string b, .bool c]) ∧ Below w.heap.size w w' := rundlelaw04_Of.calls a b c a b c w rfl

theorem dropLtR_le (lo : ByteArray) : ∀ l : List S94, (dropLtR lo l).length ≤ l.length
  | [] => Nat.le_refl _
  | x :: t => by
    rw [dropLtR]; split
    · have := dropLtR_le lo t; rw [List.length_cons]; omega
    · exact Nat.le_refl _
theorem partsR_le : ∀ (sps : List S40) (l r : List S94), r ∈ partsR sps l → r.length ≤ l.length
  | [], _, r, h => by cases h
  | s :: t, l, r, h => by
    have h0 := dropLtR_le s.f0 l
    rw [partsR] at h
    rcases List.mem_cons.1 h with rfl | h
    · have := withinR_le s (dropLtR s.f0 l); omega
    · have := partsR_le t _ r h
      rw [List.length_drop] at this
      omega
theorem C_withinR {W : World} {A : Option Addr} {l : List S94} {s : S40} (h : Kd.C k94 W A l.length l) : Kd.C k94 W A (withinR s l).length (withinR s l) := by
  have := C_take' h (withinR_le s l)
  rw [← withinR_take] at this
  exact this

set_option maxHeartbeats 8000000 in
set_option maxRecDepth 100000 in
theorem rundlelaw09_BatchWithin.calls (A0 : Option Addr) (c0 : Nat) (l0 : List S94) (sa sb sc : S40) (w : World) (hr0 : Kd.C k94 w A0 l0.length l0) (hc0 : l0.length ≤ c0) :
    Calls Try.prog 5 #[.slice A0 l0.length c0, .agg #[.string sa.f0, .string sa.f1, .bool sa.f2], .agg #[.string sb.f0, .string sb.f1, .bool sb.f2], .agg #[.string sc.f0, .string sc.f1, .bool sc.f2]] w fun e w' => e = .returned (.bool true) ∧ Below w.heap.size w w' := by
  have HR0 := Aside0.mk hr0
  have HC0 := Aside0.mk hc0
  clear hr0 hc0
  have HB := Aside0.mk (Below.refl w.heap.size w)
  have AW := Aside0.mk (awake_says 6000 (by omega))
  have FW := Aside0.mk (few_says l0 6000 (by omega))
  have SW := Aside0.mk (short_says [sa, sb, sc] (by show 3 ≤ 100; omega) 6000 (by show 3 < 6000; omega))
  go_enter Try.func5, Try.ntmps5
  go_upto_region 1 with (first | ((with_reducible refine gate_dst (N := 5) rfl ?_); refine box_event ?hg (N := 5) ?hd (cs := #[.string sa.f0, .string sa.f1, .bool sa.f2]) (t := 40) ?hr ?_; (case hd => rfl); (case hg => rfl); (case hr => first | (go_simp; done) | (go_simp; rfl)); intro gb5 hg w5 hbox hb; have BK5 := Aside0.mk hbox; clear hbox hg; have n0_ := Aside0.mk (below_step (by repeat (first | (with_reducible first | exact HB.out | apply below_alloc | apply pw_below_drewN | apply below_drew1) | exact HB.out)) hb); clear HB; have HB := n0_; clear n0_ hb) | ((with_reducible refine gate_dst (N := 6) rfl ?_); refine box_event ?hg (N := 6) ?hd (cs := #[.string sb.f0, .string sb.f1, .bool sb.f2]) (t := 40) ?hr ?_; (case hd => rfl); (case hg => rfl); (case hr => first | (go_simp; done) | (go_simp; rfl)); intro gb6 hg w6 hbox hb; have BK6 := Aside0.mk hbox; clear hbox hg; have m_ := Aside0.mk (blk_below BK5.out hb); clear BK5; have BK5 := m_; clear m_; have n0_ := Aside0.mk (below_step (by repeat (first | (with_reducible first | exact HB.out | apply below_alloc | apply pw_below_drewN | apply below_drew1) | exact HB.out)) hb); clear HB; have HB := n0_; clear n0_ hb) | ((with_reducible refine gate_dst (N := 7) rfl ?_); refine box_event ?hg (N := 7) ?hd (cs := #[.string sc.f0, .string sc.f1, .bool sc.f2]) (t := 40) ?hr ?_; (case hd => rfl); (case hg => rfl); (case hr => first | (go_simp; done) | (go_simp; rfl)); intro gb7 hg w7 hbox hb; have BK7 := Aside0.mk hbox; clear hbox hg; have m_ := Aside0.mk (blk_below BK5.out hb); clear BK5; have BK5 := m_; clear m_; have m_ := Aside0.mk (blk_below BK6.out hb); clear BK6; have BK6 := m_; clear m_; have n0_ := Aside0.mk (below_step (by repeat (first | (with_reducible first | exact HB.out | apply below_alloc | apply pw_below_drewN | apply below_drew1) | exact HB.out)) hb); clear HB; have HB := n0_; clear n0_ hb))
  obtain ⟨wb, rfl⟩ : ∃ wb : World, wb = w7 := ⟨_, rfl⟩
  have b50 : wb.cell? ⟨gb5, 0, none⟩ = some (.string sa.f0) := (blk_cell BK5.out 0).trans rfl
  have b51 : wb.cell? ⟨gb5, 1, none⟩ = some (.string sa.f1) := (blk_cell BK5.out 1).trans rfl
  have b52 : wb.cell? ⟨gb5, 2, none⟩ = some (.bool sa.f2) := (blk_cell BK5.out 2).trans rfl
  have b60 : wb.cell? ⟨gb6, 0, none⟩ = some (.string sb.f0) := (blk_cell BK6.out 0).trans rfl
  have b61 : wb.cell? ⟨gb6, 1, none⟩ = some (.string sb.f1) := (blk_cell BK6.out 1).trans rfl
  have b62 : wb.cell? ⟨gb6, 2, none⟩ = some (.bool sb.f2) := (blk_cell BK6.out 2).trans rfl
  have b70 : wb.cell? ⟨gb7, 0, none⟩ = some (.string sc.f0) := (blk_cell BK7.out 0).trans rfl
  have b71 : wb.cell? ⟨gb7, 1, none⟩ = some (.string sc.f1) := (blk_cell BK7.out 1).trans rfl
  have b72 : wb.cell? ⟨gb7, 2, none⟩ = some (.bool sc.f2) := (blk_cell BK7.out 2).trans rfl
  have HR0n := Aside0.mk (Kd.C_below HR0.out HB.out)
  clear HR0
  have HR0 := HR0n
  clear HR0n
  have HBX := Aside0.mk (Below.refl wb.heap.size wb)
  go_cut [27] (fun v27 wc => ∃ b : Bool, v27 = .bool b ∧ Aside0 (wBad l0 sa sb sc = b) ∧ Aside0 (Below wb.heap.size wb wc))
  case first =>
    cases hf : fewB l0 with
    | false =>
      rw [hf] at FW
      have FW := Aside0.mk (show rundlelaw08_Few.f 6000 l0 = some 0 from FW.out)
      have HE : Aside0 (wBad l0 sa sb sc = true) := ⟨by unfold wBad; rw [hf]; rfl⟩
      clear hf
      go_wp2_with (first | ((with_reducible refine gate_callee (f := 12) rfl ?_); refine goesL_ (some 13) rfl rfl Try.func12 (by kernel_rfl) rfl #[] rfl (by (try simp only [List.map_toArray, List.map_cons, List.map_nil]); first | done | rfl) ?_; (refine (rundlelaw09_awake.calls 6000 true _ AW.out).mono ?_); rintro e w8 ⟨rfl, hb⟩; refine ⟨_, rfl, ?_⟩; have n0_ := Aside0.mk (below_step (by repeat (first | (with_reducible first | exact HBX.out | apply below_alloc | apply pw_below_drewN | apply below_drew1) | exact HBX.out)) hb); clear HBX; have HBX := n0_; clear n0_; have k50 := (HBX.out.cell (World.block_lt_of_cell? wb _ b50)).trans b50; have k51 := (HBX.out.cell (World.block_lt_of_cell? wb _ b51)).trans b51; have k52 := (HBX.out.cell (World.block_lt_of_cell? wb _ b52)).trans b52; have k60 := (HBX.out.cell (World.block_lt_of_cell? wb _ b60)).trans b60; have k61 := (HBX.out.cell (World.block_lt_of_cell? wb _ b61)).trans b61; have k62 := (HBX.out.cell (World.block_lt_of_cell? wb _ b62)).trans b62; have k70 := (HBX.out.cell (World.block_lt_of_cell? wb _ b70)).trans b70; have k71 := (HBX.out.cell (World.block_lt_of_cell? wb _ b71)).trans b71; have k72 := (HBX.out.cell (World.block_lt_of_cell? wb _ b72)).trans b72) | (go_at_call 13; (refine (rundlelaw08_Few.calls 6000 _ _ l0 _ _ (Kd.C_below HR0.out (by repeat (first | (with_reducible first | exact HBX.out | apply below_alloc | apply pw_below_drewN | apply below_drew1) | exact HBX.out))) HC0.out FW.out).mono ?_); rintro e w9 ⟨rfl, hd⟩; have hb := hd.below; clear hd; have n0_ := Aside0.mk (below_step (by repeat (first | (with_reducible first | exact HBX.out | apply below_alloc | apply pw_below_drewN | apply below_drew1) | exact HBX.out)) hb); clear HBX; have HBX := n0_; clear n0_; have k50 := (HBX.out.cell (World.block_lt_of_cell? wb _ b50)).trans b50; have k51 := (HBX.out.cell (World.block_lt_of_cell? wb _ b51)).trans b51; have k52 := (HBX.out.cell (World.block_lt_of_cell? wb _ b52)).trans b52; have k60 := (HBX.out.cell (World.block_lt_of_cell? wb _ b60)).trans b60; have k61 := (HBX.out.cell (World.block_lt_of_cell? wb _ b61)).trans b61; have k62 := (HBX.out.cell (World.block_lt_of_cell? wb _ b62)).trans b62; have k70 := (HBX.out.cell (World.block_lt_of_cell? wb _ b70)).trans b70; have k71 := (HBX.out.cell (World.block_lt_of_cell? wb _ b71)).trans b71; have k72 := (HBX.out.cell (World.block_lt_of_cell? wb _ b72)).trans b72) | (go_at_call 20; (refine (rundlelaw04_Short.calls 6000 _ 3 [sa, sb, sc] _ _ (C_three40 (hp1 _ _)) (Nat.le_refl _) SW.out).mono ?_); rintro e w10 ⟨rfl, hd⟩; have hb := hd.below; clear hd; have n0_ := Aside0.mk (below_step (by repeat (first | (with_reducible first | exact HBX.out | apply below_alloc | apply pw_below_drewN | apply below_drew1) | exact HBX.out)) hb); clear HBX; have HBX := n0_; clear n0_; have k50 := (HBX.out.cell (World.block_lt_of_cell? wb _ b50)).trans b50; have k51 := (HBX.out.cell (World.block_lt_of_cell? wb _ b51)).trans b51; have k52 := (HBX.out.cell (World.block_lt_of_cell? wb _ b52)).trans b52; have k60 := (HBX.out.cell (World.block_lt_of_cell? wb _ b60)).trans b60; have k61 := (HBX.out.cell (World.block_lt_of_cell? wb _ b61)).trans b61; have k62 := (HBX.out.cell (World.block_lt_of_cell? wb _ b62)).trans b62; have k70 := (HBX.out.cell (World.block_lt_of_cell? wb _ b70)).trans b70; have k71 := (HBX.out.cell (World.block_lt_of_cell? wb _ b71)).trans b71; have k72 := (HBX.out.cell (World.block_lt_of_cell? wb _ b72)).trans b72))
      go_meet
      case rel => exact ⟨_, (by first | rfl | (simp; done)), HE, HBX⟩
    | true =>
      rw [hf] at FW
      have FW := Aside0.mk (show rundlelaw08_Few.f 6000 l0 = some 1 from FW.out)
      cases hs : [sa, sb, sc].all shortB with
      | false =>
        rw [hs] at SW
        have SW := Aside0.mk (show rundlelaw04_Short.f 6000 [sa, sb, sc] = some 0 from SW.out)
        have HE : Aside0 (wBad l0 sa sb sc = true) := ⟨by unfold wBad; rw [hf, hs]; rfl⟩
        clear hf hs
        go_wp2_with (first | ((with_reducible refine gate_callee (f := 12) rfl ?_); refine goesL_ (some 13) rfl rfl Try.func12 (by kernel_rfl) rfl #[] rfl (by (try simp only [List.map_toArray, List.map_cons, List.map_nil]); first | done | rfl) ?_; (refine (rundlelaw09_awake.calls 6000 true _ AW.out).mono ?_); rintro e w8 ⟨rfl, hb⟩; refine ⟨_, rfl, ?_⟩; have n0_ := Aside0.mk (below_step (by repeat (first | (with_reducible first | exact HBX.out | apply below_alloc | apply pw_below_drewN | apply below_drew1) | exact HBX.out)) hb); clear HBX; have HBX := n0_; clear n0_; have k50 := (HBX.out.cell (World.block_lt_of_cell? wb _ b50)).trans b50; have k51 := (HBX.out.cell (World.block_lt_of_cell? wb _ b51)).trans b51; have k52 := (HBX.out.cell (World.block_lt_of_cell? wb _ b52)).trans b52; have k60 := (HBX.out.cell (World.block_lt_of_cell? wb _ b60)).trans b60; have k61 := (HBX.out.cell (World.block_lt_of_cell? wb _ b61)).trans b61; have k62 := (HBX.out.cell (World.block_lt_of_cell? wb _ b62)).trans b62; have k70 := (HBX.out.cell (World.block_lt_of_cell? wb _ b70)).trans b70; have k71 := (HBX.out.cell (World.block_lt_of_cell? wb _ b71)).trans b71; have k72 := (HBX.out.cell (World.block_lt_of_cell? wb _ b72)).trans b72) | (go_at_call 13; (refine (rundlelaw08_Few.calls 6000 _ _ l0 _ _ (Kd.C_below HR0.out (by repeat (first | (with_reducible first | exact HBX.out | apply below_alloc | apply pw_below_drewN | apply below_drew1) | exact HBX.out))) HC0.out FW.out).mono ?_); rintro e w9 ⟨rfl, hd⟩; have hb := hd.below; clear hd; have n0_ := Aside0.mk (below_step (by repeat (first | (with_reducible first | exact HBX.out | apply below_alloc | apply pw_below_drewN | apply below_drew1) | exact HBX.out)) hb); clear HBX; have HBX := n0_; clear n0_; have k50 := (HBX.out.cell (World.block_lt_of_cell? wb _ b50)).trans b50; have k51 := (HBX.out.cell (World.block_lt_of_cell? wb _ b51)).trans b51; have k52 := (HBX.out.cell (World.block_lt_of_cell? wb _ b52)).trans b52; have k60 := (HBX.out.cell (World.block_lt_of_cell? wb _ b60)).trans b60; have k61 := (HBX.out.cell (World.block_lt_of_cell? wb _ b61)).trans b61; have k62 := (HBX.out.cell (World.block_lt_of_cell? wb _ b62)).trans b62; have k70 := (HBX.out.cell (World.block_lt_of_cell? wb _ b70)).trans b70; have k71 := (HBX.out.cell (World.block_lt_of_cell? wb _ b71)).trans b71; have k72 := (HBX.out.cell (World.block_lt_of_cell? wb _ b72)).trans b72) | (go_at_call 20; (refine (rundlelaw04_Short.calls 6000 _ 3 [sa, sb, sc] _ _ (C_three40 (hp1 _ _)) (Nat.le_refl _) SW.out).mono ?_); rintro e w10 ⟨rfl, hd⟩; have hb := hd.below; clear hd; have n0_ := Aside0.mk (below_step (by repeat (first | (with_reducible first | exact HBX.out | apply below_alloc | apply pw_below_drewN | apply below_drew1) | exact HBX.out)) hb); clear HBX; have HBX := n0_; clear n0_; have k50 := (HBX.out.cell (World.block_lt_of_cell? wb _ b50)).trans b50; have k51 := (HBX.out.cell (World.block_lt_of_cell? wb _ b51)).trans b51; have k52 := (HBX.out.cell (World.block_lt_of_cell? wb _ b52)).trans b52; have k60 := (HBX.out.cell (World.block_lt_of_cell? wb _ b60)).trans b60; have k61 := (HBX.out.cell (World.block_lt_of_cell? wb _ b61)).trans b61; have k62 := (HBX.out.cell (World.block_lt_of_cell? wb _ b62)).trans b62; have k70 := (HBX.out.cell (World.block_lt_of_cell? wb _ b70)).trans b70; have k71 := (HBX.out.cell (World.block_lt_of_cell? wb _ b71)).trans b71; have k72 := (HBX.out.cell (World.block_lt_of_cell? wb _ b72)).trans b72))
        go_meet
        case rel => exact ⟨_, (by first | rfl | (simp; done)), HE, HBX⟩
      | true =>
        rw [hs] at SW
        have SW := Aside0.mk (show rundlelaw04_Short.f 6000 [sa, sb, sc] = some 1 from SW.out)
        have HE : Aside0 (wBad l0 sa sb sc = false) := ⟨by unfold wBad; rw [hf, hs]; rfl⟩
        clear hf hs
        go_wp2_with (first | ((with_reducible refine gate_callee (f := 12) rfl ?_); refine goesL_ (some 13) rfl rfl Try.func12 (by kernel_rfl) rfl #[] rfl (by (try simp only [List.map_toArray, List.map_cons, List.map_nil]); first | done | rfl) ?_; (refine (rundlelaw09_awake.calls 6000 true _ AW.out).mono ?_); rintro e w8 ⟨rfl, hb⟩; refine ⟨_, rfl, ?_⟩; have n0_ := Aside0.mk (below_step (by repeat (first | (with_reducible first | exact HBX.out | apply below_alloc | apply pw_below_drewN | apply below_drew1) | exact HBX.out)) hb); clear HBX; have HBX := n0_; clear n0_; have k50 := (HBX.out.cell (World.block_lt_of_cell? wb _ b50)).trans b50; have k51 := (HBX.out.cell (World.block_lt_of_cell? wb _ b51)).trans b51; have k52 := (HBX.out.cell (World.block_lt_of_cell? wb _ b52)).trans b52; have k60 := (HBX.out.cell (World.block_lt_of_cell? wb _ b60)).trans b60; have k61 := (HBX.out.cell (World.block_lt_of_cell? wb _ b61)).trans b61; have k62 := (HBX.out.cell (World.block_lt_of_cell? wb _ b62)).trans b62; have k70 := (HBX.out.cell (World.block_lt_of_cell? wb _ b70)).trans b70; have k71 := (HBX.out.cell (World.block_lt_of_cell? wb _ b71)).trans b71; have k72 := (HBX.out.cell (World.block_lt_of_cell? wb _ b72)).trans b72) | (go_at_call 13; (refine (rundlelaw08_Few.calls 6000 _ _ l0 _ _ (Kd.C_below HR0.out (by repeat (first | (with_reducible first | exact HBX.out | apply below_alloc | apply pw_below_drewN | apply below_drew1) | exact HBX.out))) HC0.out FW.out).mono ?_); rintro e w9 ⟨rfl, hd⟩; have hb := hd.below; clear hd; have n0_ := Aside0.mk (below_step (by repeat (first | (with_reducible first | exact HBX.out | apply below_alloc | apply pw_below_drewN | apply below_drew1) | exact HBX.out)) hb); clear HBX; have HBX := n0_; clear n0_; have k50 := (HBX.out.cell (World.block_lt_of_cell? wb _ b50)).trans b50; have k51 := (HBX.out.cell (World.block_lt_of_cell? wb _ b51)).trans b51; have k52 := (HBX.out.cell (World.block_lt_of_cell? wb _ b52)).trans b52; have k60 := (HBX.out.cell (World.block_lt_of_cell? wb _ b60)).trans b60; have k61 := (HBX.out.cell (World.block_lt_of_cell? wb _ b61)).trans b61; have k62 := (HBX.out.cell (World.block_lt_of_cell? wb _ b62)).trans b62; have k70 := (HBX.out.cell (World.block_lt_of_cell? wb _ b70)).trans b70; have k71 := (HBX.out.cell (World.block_lt_of_cell? wb _ b71)).trans b71; have k72 := (HBX.out.cell (World.block_lt_of_cell? wb _ b72)).trans b72) | (go_at_call 20; (refine (rundlelaw04_Short.calls 6000 _ 3 [sa, sb, sc] _ _ (C_three40 (hp1 _ _)) (Nat.le_refl _) SW.out).mono ?_); rintro e w10 ⟨rfl, hd⟩; have hb := hd.below; clear hd; have n0_ := Aside0.mk (below_step (by repeat (first | (with_reducible first | exact HBX.out | apply below_alloc | apply pw_below_drewN | apply below_drew1) | exact HBX.out)) hb); clear HBX; have HBX := n0_; clear n0_; have k50 := (HBX.out.cell (World.block_lt_of_cell? wb _ b50)).trans b50; have k51 := (HBX.out.cell (World.block_lt_of_cell? wb _ b51)).trans b51; have k52 := (HBX.out.cell (World.block_lt_of_cell? wb _ b52)).trans b52; have k60 := (HBX.out.cell (World.block_lt_of_cell? wb _ b60)).trans b60; have k61 := (HBX.out.cell (World.block_lt_of_cell? wb _ b61)).trans b61; have k62 := (HBX.out.cell (World.block_lt_of_cell? wb _ b62)).trans b62; have k70 := (HBX.out.cell (World.block_lt_of_cell? wb _ b70)).trans b70; have k71 := (HBX.out.cell (World.block_lt_of_cell? wb _ b71)).trans b71; have k72 := (HBX.out.cell (World.block_lt_of_cell? wb _ b72)).trans b72))
        go_meet
        case rel => exact ⟨_, (by first | rfl | (simp; done)), HE, HBX⟩
  case rest =>
    obtain ⟨b, rfl, HE, HBX⟩ := hcut
    cases b with
    | true =>
      go_wp2_with (first | ((with_reducible refine gate_callee (f := 12) rfl ?_); refine goesL_ (some 28) rfl rfl Try.func12 (by kernel_rfl) rfl #[] rfl (by (try simp only [List.map_toArray, List.map_cons, List.map_nil]); first | done | rfl) ?_; (refine (rundlelaw09_awake.calls 6000 true _ AW.out).mono ?_); rintro e w8 ⟨rfl, hb⟩; refine ⟨_, rfl, ?_⟩; have n0_ := Aside0.mk (below_step (by repeat (first | (with_reducible first | exact HBX.out | apply below_alloc | apply pw_below_drewN | apply below_drew1) | exact HBX.out)) hb); clear HBX; have HBX := n0_; clear n0_; have k50 := (HBX.out.cell (World.block_lt_of_cell? wb _ b50)).trans b50; have k51 := (HBX.out.cell (World.block_lt_of_cell? wb _ b51)).trans b51; have k52 := (HBX.out.cell (World.block_lt_of_cell? wb _ b52)).trans b52; have k60 := (HBX.out.cell (World.block_lt_of_cell? wb _ b60)).trans b60; have k61 := (HBX.out.cell (World.block_lt_of_cell? wb _ b61)).trans b61; have k62 := (HBX.out.cell (World.block_lt_of_cell? wb _ b62)).trans b62; have k70 := (HBX.out.cell (World.block_lt_of_cell? wb _ b70)).trans b70; have k71 := (HBX.out.cell (World.block_lt_of_cell? wb _ b71)).trans b71; have k72 := (HBX.out.cell (World.block_lt_of_cell? wb _ b72)).trans b72))
      go_ret
      exact ⟨rfl, below_then HB.out HB.out.size HBX.out⟩
    | false =>
      have hbad := HE.out
      unfold wBad at hbad
      rw [Bool.or_eq_false_iff, Bool.not_eq_false', Bool.not_eq_false'] at hbad
      obtain ⟨hfew, hsho⟩ := hbad
      have h70 : l0.length ≤ 70 := by unfold fewB at hfew; rw [Bool.and_eq_true, decide_eq_true_eq] at hfew; exact hfew.1
      have hsk : shortK l0 = true := by
        unfold fewB at hfew; rw [Bool.and_eq_true] at hfew
        unfold shortK
        rw [List.all_eq_true] at *
        intro x hx
        have := hfew.2 x hx
        rw [Bool.and_eq_true] at this
        have := of_decide_eq_true this.1
        exact decide_eq_true (by omega)
      have hok : okS [sa, sb, sc] := fun x hx => by
        have := List.all_eq_true.1 hsho x hx
        unfold shortB at this
        rw [Bool.and_eq_true, decide_eq_true_eq, decide_eq_true_eq] at this
        omega
      have H70 := Aside0.mk h70
      have HSK := Aside0.mk hsk
      have HOK := Aside0.mk hok
      have HOA := Aside0.mk (hok sa List.mem_cons_self)
      have hOF := of_says l0 h70 6000 (by omega)
      have hm : (l0.map conv).length = l0.length := by rw [List.length_map]
      have hP1 := parts_says (l0.map conv) ([sa, sb, sc].map s44) (by show 3 ≤ 5000; omega) (by omega) 6000 (by show 2 * 3 + _ + 1 < 6000; omega)
      rw [sort_is, parts_conv] at hP1
      have hP0 := parts_says (l0.map conv) [] (by show 0 ≤ 5000; omega) (by omega) 6000 (by show 2 * 0 + _ + 1 < 6000; omega)
      have hWI := within_says (l0.map conv) (s44 sa) (by omega) 6000 (by omega)
      rw [within_conv] at hWI
      have hzl := withinR_le sa l0
      have hSM := same_says (withinR sa l0) (by omega) 6000 (by omega)
      have hq : ∀ r ∈ partsR [sa, sb, sc] (rsE l0), r.length ≤ 70 := fun r hr => by
        have := partsR_le _ _ r hr
        rw [rsE_length] at this
        omega
      obtain ⟨X, hX⟩ : ∃ X, X = l0.map conv := ⟨_, rfl⟩
      obtain ⟨q, hqe⟩ : ∃ q, partsR [sa, sb, sc] (rsE l0) = q := ⟨_, rfl⟩
      obtain ⟨z, hz⟩ : ∃ z, withinR sa l0 = z := ⟨_, rfl⟩
      rw [hqe] at hP1 hq
      rw [hz] at hWI hSM hzl
      obtain ⟨y, hy⟩ : ∃ y, y = z.map conv := ⟨_, rfl⟩
      obtain ⟨ps, hps⟩ : ∃ ps, ps = q.map (List.map conv) := ⟨_, rfl⟩
      rw [← hX] at hP1 hOF hP0 hWI
      rw [← hps] at hP1
      rw [← hy] at hWI hSM
      have hpl : ps.length = q.length := by rw [hps, List.length_map]
      have n6 : (((ps.length : Nat) : Int) != (q.length : Int)) = false := by rw [hpl]; simp
      have hql : q.length = 3 := by rw [← hqe]; rfl
      have HPI : Aside0 (∀ i (h : i < q.length), rundlelaw09_Same.f 6000 (rd_L3 ps i) (rd_L5 q i) = some 1) := ⟨fun i h => by
        have e1 : rd_L5 q (i : Int) = q[i] := by unfold rd_L5; simp [h]
        have e2 : rd_L3 ps (i : Int) = q[i].map conv := by unfold rd_L3; rw [hps]; simp [h]
        rw [e1, e2]
        have := hq q[i] (List.getElem_mem h)
        exact same_says _ (by omega) 6000 (by omega)⟩
      have OF := Aside0.mk hOF
      have HP1 := Aside0.mk (show batch_Parts.f 6000 X [⟨sa.f0, sa.f1, sa.f2⟩, ⟨sb.f0, sb.f1, sb.f2⟩, ⟨sc.f0, sc.f1, sc.f2⟩] = some ps from hP1)
      have HP0 := Aside0.mk (show batch_Parts.f 6000 X [] = some [] from hP0)
      have WI := Aside0.mk (show batch_Within.f 6000 X sa.f0 sa.f1 sa.f2 = some y from hWI)
      have SM := Aside0.mk hSM
      have HQ := Aside0.mk hqe
      have HZ := Aside0.mk hz
      have HLZ : Aside0 (z.length ≤ c0) := ⟨Nat.le_trans hzl HC0.out⟩
      have HPL := Aside0.mk hpl
      have HQL := Aside0.mk hql
      clear hP1 hP0 hWI hSM hqe hz hzl hOF hX hy hps hq hpl hql hm hok hsk h70 hfew hsho HE
      go_upto_region 4 with (first | ((with_reducible refine gate_callee (f := 14) rfl ?_); refine goesL_ (some 30) rfl rfl Try.func14 (by kernel_rfl) rfl #[.slice A0 l0.length c0] rfl (by (try simp only [List.map_toArray, List.map_cons, List.map_nil]); first | done | rfl) ?_; (refine (rundlelaw08_Of.calls 6000 _ _ l0 X _ (Kd.C_below HR0.out (by repeat (first | (with_reducible first | exact HBX.out | apply below_alloc | apply pw_below_drewN | apply below_drew1) | exact HBX.out))) HC0.out OF.out).mono ?_); rintro e w11 ⟨v11, rfl, hR, hb⟩; refine ⟨_, rfl, ?_⟩; obtain ⟨A1, c1, rfl, hc1, hC1⟩ := Kd.R_reads hR; have HC1 := Aside0.mk hC1; have HL1 := Aside0.mk hc1; clear hC1 hc1 hR; have n0_ := Aside0.mk (below_step (by repeat (first | (with_reducible first | exact HBX.out | apply below_alloc | apply pw_below_drewN | apply below_drew1) | exact HBX.out)) hb); clear HBX; have HBX := n0_; clear n0_))
      replace b50 := (HBX.out.cell (World.block_lt_of_cell? wb _ b50)).trans b50
      replace b51 := (HBX.out.cell (World.block_lt_of_cell? wb _ b51)).trans b51
      replace b52 := (HBX.out.cell (World.block_lt_of_cell? wb _ b52)).trans b52
      replace b60 := (HBX.out.cell (World.block_lt_of_cell? wb _ b60)).trans b60
      replace b61 := (HBX.out.cell (World.block_lt_of_cell? wb _ b61)).trans b61
      replace b62 := (HBX.out.cell (World.block_lt_of_cell? wb _ b62)).trans b62
      replace b70 := (HBX.out.cell (World.block_lt_of_cell? wb _ b70)).trans b70
      replace b71 := (HBX.out.cell (World.block_lt_of_cell? wb _ b71)).trans b71
      replace b72 := (HBX.out.cell (World.block_lt_of_cell? wb _ b72)).trans b72
      have n_ := Aside0.mk (Kd.C_below HR0.out HBX.out)
      clear HR0
      have HR0 := n_
      clear n_
      have n_ := Aside0.mk (below_then HB.out HB.out.size HBX.out)
      clear HB
      have HB := n_
      clear n_ HBX
      have HBX := Aside0.mk (Below.refl w11.heap.size w11)
      go_region_held3 (fun w' => w'.cell? ⟨gb5, 0, none⟩ = some (.string sa.f0) ∧ w'.cell? ⟨gb5, 1, none⟩ = some (.string sa.f1) ∧ w'.cell? ⟨gb5, 2, none⟩ = some (.bool sa.f2) ∧ w'.cell? ⟨gb6, 0, none⟩ = some (.string sb.f0) ∧ w'.cell? ⟨gb6, 1, none⟩ = some (.string sb.f1) ∧ w'.cell? ⟨gb6, 2, none⟩ = some (.bool sb.f2) ∧ w'.cell? ⟨gb7, 0, none⟩ = some (.string sc.f0) ∧ w'.cell? ⟨gb7, 1, none⟩ = some (.string sc.f1) ∧ w'.cell? ⟨gb7, 2, none⟩ = some (.bool sc.f2)) (go_keep) ((first | (go_at_call 22; (refine (Of_any _ _ _ _).mono ?_); rintro e w12 ⟨rfl, hb⟩; have n0_ := Aside0.mk (below_step (by repeat (first | (with_reducible first | exact HBX.out | apply below_alloc | apply pw_below_drewN | apply below_drew1) | exact HBX.out)) hb); clear HBX; have HBX := n0_; clear n0_; have k50 := (HBX.out.cell (World.block_lt_of_cell? w11 _ b50)).trans b50; have k51 := (HBX.out.cell (World.block_lt_of_cell? w11 _ b51)).trans b51; have k52 := (HBX.out.cell (World.block_lt_of_cell? w11 _ b52)).trans b52; have k60 := (HBX.out.cell (World.block_lt_of_cell? w11 _ b60)).trans b60; have k61 := (HBX.out.cell (World.block_lt_of_cell? w11 _ b61)).trans b61; have k62 := (HBX.out.cell (World.block_lt_of_cell? w11 _ b62)).trans b62; have k70 := (HBX.out.cell (World.block_lt_of_cell? w11 _ b70)).trans b70; have k71 := (HBX.out.cell (World.block_lt_of_cell? w11 _ b71)).trans b71; have k72 := (HBX.out.cell (World.block_lt_of_cell? w11 _ b72)).trans b72) | (go_at_call 21; (refine (batch_Parts.calls 6000 A1 c1 X _ 3 [⟨sa.f0, sa.f1, sa.f2⟩, ⟨sb.f0, sb.f1, sb.f2⟩, ⟨sc.f0, sc.f1, sc.f2⟩] ps _ (Kd.C_below HC1.out (by repeat (first | (with_reducible first | exact HBX.out | apply below_alloc | apply pw_below_drewN | apply below_drew1) | exact HBX.out))) HL1.out (C_three44 (a := ⟨sa.f0, sa.f1, sa.f2⟩) (b := ⟨sb.f0, sb.f1, sb.f2⟩) (c := ⟨sc.f0, sc.f1, sc.f2⟩) (hp1 _ _)) (Nat.le_refl _) HP1.out).mono ?_); rintro e w15 ⟨v15, rfl, hS, hb⟩; obtain ⟨A3, c3, rfl, hc3, hC3⟩ := Kd.S_reads hS; have HC3 := Aside0.mk hC3; have HL3 := Aside0.mk hc3; clear hC3 hc3 hS; have n0_ := Aside0.mk (below_step (by repeat (first | (with_reducible first | exact HBX.out | apply below_alloc | apply pw_below_drewN | apply below_drew1) | exact HBX.out)) hb); clear HBX; have HBX := n0_; clear n0_; have k50 := (HBX.out.cell (World.block_lt_of_cell? w11 _ b50)).trans b50; have k51 := (HBX.out.cell (World.block_lt_of_cell? w11 _ b51)).trans b51; have k52 := (HBX.out.cell (World.block_lt_of_cell? w11 _ b52)).trans b52; have k60 := (HBX.out.cell (World.block_lt_of_cell? w11 _ b60)).trans b60; have k61 := (HBX.out.cell (World.block_lt_of_cell? w11 _ b61)).trans b61; have k62 := (HBX.out.cell (World.block_lt_of_cell? w11 _ b62)).trans b62; have k70 := (HBX.out.cell (World.block_lt_of_cell? w11 _ b70)).trans b70; have k71 := (HBX.out.cell (World.block_lt_of_cell? w11 _ b71)).trans b71; have k72 := (HBX.out.cell (World.block_lt_of_cell? w11 _ b72)).trans b72)))
      replace b50 := (HBX.out.cell (World.block_lt_of_cell? w11 _ b50)).trans b50
      replace b51 := (HBX.out.cell (World.block_lt_of_cell? w11 _ b51)).trans b51
      replace b52 := (HBX.out.cell (World.block_lt_of_cell? w11 _ b52)).trans b52
      replace b60 := (HBX.out.cell (World.block_lt_of_cell? w11 _ b60)).trans b60
      replace b61 := (HBX.out.cell (World.block_lt_of_cell? w11 _ b61)).trans b61
      replace b62 := (HBX.out.cell (World.block_lt_of_cell? w11 _ b62)).trans b62
      replace b70 := (HBX.out.cell (World.block_lt_of_cell? w11 _ b70)).trans b70
      replace b71 := (HBX.out.cell (World.block_lt_of_cell? w11 _ b71)).trans b71
      replace b72 := (HBX.out.cell (World.block_lt_of_cell? w11 _ b72)).trans b72
      have n_ := Aside0.mk (Kd.C_below HR0.out HBX.out)
      clear HR0
      have HR0 := n_
      clear n_
      have n_ := Aside0.mk (Kd.C_below HC1.out HBX.out)
      clear HC1
      have HC1 := n_
      clear n_
      have n_ := Aside0.mk (below_then HB.out HB.out.size HBX.out)
      clear HB
      have HB := n_
      clear n_ HBX
      have HBX := Aside0.mk (Below.refl w15.heap.size w15)
      go_upto_region 6 with (first | ((with_reducible refine gate_callee (f := 23) rfl ?_); refine goesL_ (some 45) rfl rfl Try.func23 (by kernel_rfl) rfl _ rfl (by (try simp only [List.map_toArray, List.map_cons, List.map_nil]); first | done | rfl) ?_; (refine (refParts_calls A0 c0 l0 _ 3 [sa, sb, sc] _ (Kd.C_below HR0.out (by repeat (first | (with_reducible first | exact HBX.out | apply below_alloc | apply pw_below_drewN | apply below_drew1) | exact HBX.out))) HC0.out (C_three40 (hp1 _ _)) H70.out HSK.out (Nat.le_refl _) HOK.out).mono ?_); rw [HQ.out]; rintro e w16 ⟨B5, d5, rfl, hd5, hC5, hb⟩; refine ⟨_, rfl, ?_⟩; have HC5 := Aside0.mk hC5; have HL5 := Aside0.mk hd5; clear hC5 hd5; have n0_ := Aside0.mk (below_step (by repeat (first | (with_reducible first | exact HBX.out | apply below_alloc | apply pw_below_drewN | apply below_drew1) | exact HBX.out)) hb); clear HBX; have HBX := n0_; clear n0_))
      replace b50 := (HBX.out.cell (World.block_lt_of_cell? w15 _ b50)).trans b50
      replace b51 := (HBX.out.cell (World.block_lt_of_cell? w15 _ b51)).trans b51
      replace b52 := (HBX.out.cell (World.block_lt_of_cell? w15 _ b52)).trans b52
      replace b60 := (HBX.out.cell (World.block_lt_of_cell? w15 _ b60)).trans b60
      replace b61 := (HBX.out.cell (World.block_lt_of_cell? w15 _ b61)).trans b61
      replace b62 := (HBX.out.cell (World.block_lt_of_cell? w15 _ b62)).trans b62
      replace b70 := (HBX.out.cell (World.block_lt_of_cell? w15 _ b70)).trans b70
      replace b71 := (HBX.out.cell (World.block_lt_of_cell? w15 _ b71)).trans b71
      replace b72 := (HBX.out.cell (World.block_lt_of_cell? w15 _ b72)).trans b72
      have n_ := Aside0.mk (Kd.C_below HR0.out HBX.out)
      clear HR0
      have HR0 := n_
      clear n_
      have n_ := Aside0.mk (Kd.C_below HC1.out HBX.out)
      clear HC1
      have HC1 := n_
      clear n_
      have n_ := Aside0.mk (Kd.C_below HC3.out HBX.out)
      clear HC3
      have HC3 := n_
      clear n_
      have n_ := Aside0.mk (below_then HB.out HB.out.size HBX.out)
      clear HB
      have HB := n_
      clear n_ HBX
      have HBX := Aside0.mk (Below.refl w16.heap.size w16)
      have HCZ : Aside0 (Kd.C k94 w16 A0 z.length z) := ⟨by have h := C_withinR (s := sa) HR0.out; rw [HZ.out] at h; exact h⟩
      go_region_held3 (fun w' => w'.cell? ⟨gb5, 0, none⟩ = some (.string sa.f0) ∧ w'.cell? ⟨gb5, 1, none⟩ = some (.string sa.f1) ∧ w'.cell? ⟨gb5, 2, none⟩ = some (.bool sa.f2) ∧ w'.cell? ⟨gb6, 0, none⟩ = some (.string sb.f0) ∧ w'.cell? ⟨gb6, 1, none⟩ = some (.string sb.f1) ∧ w'.cell? ⟨gb6, 2, none⟩ = some (.bool sb.f2) ∧ w'.cell? ⟨gb7, 0, none⟩ = some (.string sc.f0) ∧ w'.cell? ⟨gb7, 1, none⟩ = some (.string sc.f1) ∧ w'.cell? ⟨gb7, 2, none⟩ = some (.bool sc.f2)) (go_keep) ((first | (go_at_call 22; (refine (Of_any _ _ _ _).mono ?_); rintro e w12 ⟨rfl, hb⟩; have n0_ := Aside0.mk (below_step (by repeat (first | (with_reducible first | exact HBX.out | apply below_alloc | apply pw_below_drewN | apply below_drew1) | exact HBX.out)) hb); clear HBX; have HBX := n0_; clear n0_; have k50 := (HBX.out.cell (World.block_lt_of_cell? w16 _ b50)).trans b50; have k51 := (HBX.out.cell (World.block_lt_of_cell? w16 _ b51)).trans b51; have k52 := (HBX.out.cell (World.block_lt_of_cell? w16 _ b52)).trans b52; have k60 := (HBX.out.cell (World.block_lt_of_cell? w16 _ b60)).trans b60; have k61 := (HBX.out.cell (World.block_lt_of_cell? w16 _ b61)).trans b61; have k62 := (HBX.out.cell (World.block_lt_of_cell? w16 _ b62)).trans b62; have k70 := (HBX.out.cell (World.block_lt_of_cell? w16 _ b70)).trans b70; have k71 := (HBX.out.cell (World.block_lt_of_cell? w16 _ b71)).trans b71; have k72 := (HBX.out.cell (World.block_lt_of_cell? w16 _ b72)).trans b72) | (go_at_call 24; (refine (batch_Within.calls 6000 A1 c1 X sa.f0 sa.f1 sa.f2 y _ (Kd.C_below HC1.out (by repeat (first | (with_reducible first | exact HBX.out | apply below_alloc | apply pw_below_drewN | apply below_drew1) | exact HBX.out))) HL1.out WI.out).mono ?_); rintro e w18 ⟨v18, rfl, hR, hb⟩; obtain ⟨A6, c6, rfl, hc6, hC6⟩ := Kd.R_reads hR; have HC6 := Aside0.mk hC6; have HL6 := Aside0.mk hc6; clear hC6 hc6 hR; have n0_ := Aside0.mk (below_step (by repeat (first | (with_reducible first | exact HBX.out | apply below_alloc | apply pw_below_drewN | apply below_drew1) | exact HBX.out)) hb); clear HBX; have HBX := n0_; clear n0_; have k50 := (HBX.out.cell (World.block_lt_of_cell? w16 _ b50)).trans b50; have k51 := (HBX.out.cell (World.block_lt_of_cell? w16 _ b51)).trans b51; have k52 := (HBX.out.cell (World.block_lt_of_cell? w16 _ b52)).trans b52; have k60 := (HBX.out.cell (World.block_lt_of_cell? w16 _ b60)).trans b60; have k61 := (HBX.out.cell (World.block_lt_of_cell? w16 _ b61)).trans b61; have k62 := (HBX.out.cell (World.block_lt_of_cell? w16 _ b62)).trans b62; have k70 := (HBX.out.cell (World.block_lt_of_cell? w16 _ b70)).trans b70; have k71 := (HBX.out.cell (World.block_lt_of_cell? w16 _ b71)).trans b71; have k72 := (HBX.out.cell (World.block_lt_of_cell? w16 _ b72)).trans b72) | (go_at_call 25; (refine (refWithin_calls A0 c0 l0 sa _ (Kd.C_below HR0.out (by repeat (first | (with_reducible first | exact HBX.out | apply below_alloc | apply pw_below_drewN | apply below_drew1) | exact HBX.out))) HC0.out (Nat.le_trans H70.out (by omega)) HSK.out HOA.out).mono ?_); rw [HZ.out]; rintro e w19 ⟨rfl, hb⟩; have n_ := Aside0.mk (Kd.C_below HC6.out (by first | exact hb | exact below_then (below_drew1 (Below.refl _ _)) (Nat.le_refl _) hb)); clear HC6; have HC6 := n_; clear n_; have n0_ := Aside0.mk (below_step (by repeat (first | (with_reducible first | exact HBX.out | apply below_alloc | apply pw_below_drewN | apply below_drew1) | exact HBX.out)) hb); clear HBX; have HBX := n0_; clear n0_; have k50 := (HBX.out.cell (World.block_lt_of_cell? w16 _ b50)).trans b50; have k51 := (HBX.out.cell (World.block_lt_of_cell? w16 _ b51)).trans b51; have k52 := (HBX.out.cell (World.block_lt_of_cell? w16 _ b52)).trans b52; have k60 := (HBX.out.cell (World.block_lt_of_cell? w16 _ b60)).trans b60; have k61 := (HBX.out.cell (World.block_lt_of_cell? w16 _ b61)).trans b61; have k62 := (HBX.out.cell (World.block_lt_of_cell? w16 _ b62)).trans b62; have k70 := (HBX.out.cell (World.block_lt_of_cell? w16 _ b70)).trans b70; have k71 := (HBX.out.cell (World.block_lt_of_cell? w16 _ b71)).trans b71; have k72 := (HBX.out.cell (World.block_lt_of_cell? w16 _ b72)).trans b72) | (go_at_call 17; (refine (rundlelaw09_Same.calls 6000 A6 c6 y A0 c0 z 1 _ (by first | exact HC6.out | exact Kd.C_drew HC6.out) HL6.out (Kd.C_below HCZ.out (by repeat (first | (with_reducible first | exact HBX.out | apply below_alloc | apply pw_below_drewN | apply below_drew1) | exact HBX.out))) HLZ.out SM.out).mono ?_); rintro e w20 ⟨rfl, hd⟩; have hb := hd.below; clear hd HC6; have n0_ := Aside0.mk (below_step (by repeat (first | (with_reducible first | exact HBX.out | apply below_alloc | apply pw_below_drewN | apply below_drew1) | exact HBX.out)) hb); clear HBX; have HBX := n0_; clear n0_; have k50 := (HBX.out.cell (World.block_lt_of_cell? w16 _ b50)).trans b50; have k51 := (HBX.out.cell (World.block_lt_of_cell? w16 _ b51)).trans b51; have k52 := (HBX.out.cell (World.block_lt_of_cell? w16 _ b52)).trans b52; have k60 := (HBX.out.cell (World.block_lt_of_cell? w16 _ b60)).trans b60; have k61 := (HBX.out.cell (World.block_lt_of_cell? w16 _ b61)).trans b61; have k62 := (HBX.out.cell (World.block_lt_of_cell? w16 _ b62)).trans b62; have k70 := (HBX.out.cell (World.block_lt_of_cell? w16 _ b70)).trans b70; have k71 := (HBX.out.cell (World.block_lt_of_cell? w16 _ b71)).trans b71; have k72 := (HBX.out.cell (World.block_lt_of_cell? w16 _ b72)).trans b72)))
      have n_ := Aside0.mk (below_then HB.out HB.out.size HBX.out)
      have m1_ := Aside0.mk (Kd.C_below HC1.out HBX.out)
      have m3_ := Aside0.mk (Kd.C_below HC3.out HBX.out)
      have m5_ := Aside0.mk (Kd.C_below HC5.out HBX.out)
      clear HB HC1 HC3 HC5 HCZ HBX
      have HB := n_
      have HC1 := m1_
      have HC3 := m3_
      have HC5 := m5_
      clear n_ m1_ m3_ m5_
      go_wp2_with fail
      go_loopg [12] q.length (fun kq v12 w' => ∃ i : Nat, v12 = .int .i64 i ∧ i ≤ q.length ∧ q.length - i ≤ kq ∧ Drawn0 w20 w')
      case atStart => exact ⟨0, rfl, by omega, by omega, Drawn0.refl _⟩
      case round =>
        obtain ⟨i, rfl, hi, hk, HD⟩ := hrel
        by_cases hlt : i < q.length
        · have z1 : (i : Int) < (q.length : Int) := by omega
          have z2 : (i : Int) < (ps.length : Int) := by rw [HPL.out]; exact z1
          have z0 : (0 : Int) ≤ (i : Int) := by omega
          obtain ⟨adp, Ap, cp, ep, hpc, hpl, hpC⟩ := at_L3 HC3.out i z0 z2
          subst ep
          obtain ⟨adq, Aq, cq, eq, hqc, hql, hqC⟩ := at_L5 HC5.out i z0 z1
          subst eq
          replace hpc := (HD.below.cell (World.block_lt_of_cell? w20 _ hpc)).trans hpc
          replace hqc := (HD.below.cell (World.block_lt_of_cell? w20 _ hqc)).trans hqc
          rw [Int.toNat_natCast] at hpc hqc
          have hF := fun n => same_quiet Ap cp (rd_L3 ps i) Aq cq (rd_L5 q i) (wr.drewN n) (Kd.C_below (Kd.C_below hpC HD.below) (pw_below_drewN (Below.refl _ _) n)) hpl (Kd.C_below (Kd.C_below hqC HD.below) (pw_below_drewN (Below.refl _ _) n)) hql (HPI.out i hlt)
          have hlm := HQL.out
          clear hpC hqC hpl hql
          generalize rd_L3 ps i = pe at *
          generalize rd_L5 q i = qe at *
          go_wp2_with fail
          go_quiet ((go_at_call 17; exact Calls.quiet_of (hF _)))
          go_wp2_with fail
          go_roundg (q.length - (i + 1))
          case measure => omega
          case rel => exact ⟨i + 1, by go_num, by omega, by omega, by repeat (first | exact HD | apply Drawn0.step)⟩
        · have z1 : ¬ (i : Int) < (q.length : Int) := by omega
          have HBX := Aside0.mk HD.below
          go_wp2_with (first | ((with_reducible refine gate_callee (f := 21) rfl ?_); refine goesL_ (some 79) rfl rfl Try.func21 (by kernel_rfl) rfl #[.slice A1 X.length c1, .slice none 0 0] rfl (by (try simp only [List.map_toArray, List.map_cons, List.map_nil]); first | done | rfl) ?_; (refine (batch_Parts.calls 6000 A1 c1 X none 0 [] [] _ (Kd.C_below HC1.out (by repeat (first | (with_reducible first | exact HBX.out | apply below_alloc | apply pw_below_drewN | apply below_drew1) | exact HBX.out))) HL1.out C_nil44 (Nat.le_refl _) HP0.out).mono ?_); rintro e w22 ⟨v22, rfl, hS, hb⟩; refine ⟨_, rfl, ?_⟩; obtain ⟨A8, c8, e8⟩ := Kd.S_slice hS; subst e8; clear hS; have n0_ := Aside0.mk (below_step (by repeat (first | (with_reducible first | exact HBX.out | apply below_alloc | apply pw_below_drewN | apply below_drew1) | exact HBX.out)) hb); clear HBX; have HBX := n0_; clear n0_))
          go_ret
          exact ⟨rfl, below_then HB.out HB.out.size HBX.out⟩
end Go.Proofs.Ytgnnhomipfjanaa.PA
