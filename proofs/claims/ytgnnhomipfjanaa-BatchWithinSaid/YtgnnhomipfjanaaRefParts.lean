/- rundleref09.Within and rundleref09.Parts: what they answer, told by reading. -/
import Derived.Test.YtgnnhomipfjanaaPureC
namespace Go.Proofs.Ytgnnhomipfjanaa.PA
open Go Go.Proofs Go.RowKit Go.Proofs.YtgnnhomipfjanaaW.PrintWords Go.Proofs.YtgnnhomipfjanaaW.PrintLast Go.Proofs.YtgnnhomipfjanaaW.PrintMore

def hasS (sp : S40) (k : ByteArray) : Bool := hasE sp.f0 sp.f1 sp.f2 k
/-- The first entries that lie in a span. -/
def withinR (sp : S40) (l : List S94) : List S94 := l.takeWhile fun x => hasS sp x.f0

theorem refHas_calls (sp : S40) (k : ByteArray) (r : Bool) (w : World) (h1 : sp.f0.size ≤ 9223372036854775807) (h2 : sp.f1.size ≤ 9223372036854775807) (h3 : k.size ≤ 9223372036854775807) (hr : hasS sp k = r) :
    Calls Try.prog 48 #[.agg #[.string sp.f0, .string sp.f1, .bool sp.f2], .string k] w fun e w' => e = .returned (.bool r) ∧ Below w.heap.size w w' := by
  subst hr
  refine rundleref04_Has.calls _ _ _ _ _ w ?_
  unfold rundleref04_Has.f rundleref04_Less.f hasS hasE
  rw [if_pos (show k.size ≤ 9223372036854775807 ∧ sp.f0.size ≤ 9223372036854775807 from ⟨h3, h1⟩), if_pos (show k.size ≤ 9223372036854775807 ∧ sp.f1.size ≤ 9223372036854775807 from ⟨h3, h2⟩)]
  simp only [Option.bind_some]
  cases Srt.ltB k sp.f0 <;> cases sp.f2 <;> simp

set_option maxHeartbeats 8000000 in
set_option maxRecDepth 100000 in
theorem refWithin_calls (A0 : Option Addr) (c0 : Nat) (l0 : List S94) (sp : S40) (w : World) (hr0 : Kd.C k94 w A0 l0.length l0) (hc0 : l0.length ≤ c0) (hl : l0.length ≤ 5000) (hs : shortK l0 = true) (hok : sp.f0.size ≤ 9223372036854775807 ∧ sp.f1.size ≤ 9223372036854775807) :
    Calls Try.prog 25 #[.slice A0 l0.length c0, .agg #[.string sp.f0, .string sp.f1, .bool sp.f2]] w fun e w' => e = .returned (.slice A0 (withinR sp l0).length c0) ∧ Below w.heap.size w w' := by
  have HR0 := Aside0.mk hr0
  have HC0 := Aside0.mk hc0
  have HS := Aside0.mk hs
  have OK := Aside0.mk hok
  clear hr0 hc0 hs hok
  have HB := Aside0.mk (Below.refl w.heap.size w)
  have HP : Aside0 (l0.take 0 = (l0.take 0).takeWhile fun x => hasS sp x.f0) := ⟨rfl⟩
  have H0 : Aside0 (∀ j (h : j < l0.length), j < 0 → hasS sp l0[j].f0 = true) := ⟨fun j _ h => absurd h (by omega)⟩
  clear HP
  go_enter Try.func25, Try.ntmps25
  go_wp2_with (first | ((with_reducible refine gate_dst (N := 3) rfl ?_); refine box_event ?hg (N := 3) ?hd (cs := #[.string sp.f0, .string sp.f1, .bool sp.f2]) (t := 40) ?hr ?_; (case hd => rfl); (case hg => rfl); (case hr => first | (go_simp; done) | (go_simp; rfl)); intro gb hg w3 hbox hb; have BK := Aside0.mk hbox; clear hbox; have n0_ := Aside0.mk (below_step (by repeat (first | (with_reducible first | exact HB.out | apply below_alloc | apply pw_below_drewN | apply below_drew1) | exact HB.out)) hb); clear HB; have HB := n0_; clear n0_ hb; have HG := Aside0.mk hg; clear hg))
  go_loopg [5] l0.length (fun kq v5 w' => ∃ (i : Nat), v5 = .int .i64 i ∧ i ≤ l0.length ∧ l0.length - i ≤ kq ∧ Aside0 (∀ j (h : j < l0.length), j < i → hasS sp l0[j].f0 = true) ∧ Aside0 (w'.heap[gb]? = some (.cells #[.string sp.f0, .string sp.f1, .bool sp.f2] 40 (0, 0))) ∧ Aside0 (Below w.heap.size w w'))
  case atStart => exact ⟨0, rfl, by omega, by omega, H0, BK, HB⟩
  case round =>
    clear BK
    obtain ⟨i, rfl, hi, hk, HA, BK, HB⟩ := hrel
    by_cases hlt : i < l0.length
    · have z1 : (i : Int) < (l0.length : Int) := by omega
      have p1 : (0 : Int) ≤ (i : Int) := by omega
      obtain ⟨ad1, e1, ha0, _, _⟩ := at_T94 HR0.out i p1 z1
      subst e1
      have ex : rd_T94 l0 (i : Int) = l0[i] := rd94_at l0 i hlt
      rw [ex, Int.toNat_natCast] at ha0
      replace ha0 := (HB.out.cell (World.block_lt_of_cell? w _ ha0)).trans ha0
      have hxs := Aside0.mk (short_at HS.out l0[i] (List.getElem_mem hlt))
      have HN : Aside0 (hasS sp l0[i].f0 = true → ∀ j (h : j < l0.length), j < i + 1 → hasS sp l0[j].f0 = true) := ⟨fun h j hj hji => by
        by_cases e : j = i
        · subst e; exact h
        · exact HA.out j hj (by omega)⟩
      have HF : Aside0 (hasS sp l0[i].f0 = false → l0.take i = withinR sp l0) := ⟨fun h => takeWhile_take _ l0 i hi HA.out (fun _ => h)⟩
      generalize l0[i] = X at *
      have b0 : wr.cell? ⟨gb, 0, none⟩ = some (.string sp.f0) := (blk_cell BK.out 0).trans rfl
      have b1 : wr.cell? ⟨gb, 1, none⟩ = some (.string sp.f1) := (blk_cell BK.out 1).trans rfl
      have b2 : wr.cell? ⟨gb, 2, none⟩ = some (.bool sp.f2) := (blk_cell BK.out 2).trans rfl
      clear ex HA
      cases hH : hasS sp X.f0 with
      | true =>
        have HN2 := Aside0.mk (HN.out hH)
        have HQ := Aside0.mk hH
        clear hH HN HF
        go_wp2_with fail
        go_region_held3 (fun w' => w'.cell? ⟨gb, 0, none⟩ = some (.string sp.f0) ∧ w'.cell? ⟨gb, 1, none⟩ = some (.string sp.f1) ∧ w'.cell? ⟨gb, 2, none⟩ = some (.bool sp.f2) ∧ w'.cell? (ad1.add (i * 3)) = some (.string X.f0)) (go_keep) (((go_at_call 48; (refine (refHas_calls sp X.f0 true _ OK.out.1 OK.out.2 hxs.out HQ.out).mono ?_); rintro e w4 ⟨rfl, hb⟩; have k0 := (hb.cell (World.block_lt_of_cell? wr _ b0)).trans b0; have k1 := (hb.cell (World.block_lt_of_cell? wr _ b1)).trans b1; have k2 := (hb.cell (World.block_lt_of_cell? wr _ b2)).trans b2; have k3 := (hb.cell (World.block_lt_of_cell? wr _ ha0)).trans ha0)))
        have BK2 := Aside0.mk (blk_below (blk_drew BK.out) hb)
        have HB2 := Aside0.mk (below_step (below_drew1 HB.out) hb)
        go_wp2_with fail
        go_roundg (l0.length - (i + 1))
        case measure => omega
        case rel => exact ⟨i + 1, by go_num, by omega, by omega, HN2, BK2, HB2⟩
      | false =>
        have HF2 := Aside0.mk (HF.out hH)
        have HQ := Aside0.mk hH
        clear hH HN HF
        go_wp2_with fail
        go_region_held3 (fun w' => w'.cell? ⟨gb, 0, none⟩ = some (.string sp.f0) ∧ w'.cell? ⟨gb, 1, none⟩ = some (.string sp.f1) ∧ w'.cell? ⟨gb, 2, none⟩ = some (.bool sp.f2) ∧ w'.cell? (ad1.add (i * 3)) = some (.string X.f0)) (go_keep) (((go_at_call 48; (refine (refHas_calls sp X.f0 false _ OK.out.1 OK.out.2 hxs.out HQ.out).mono ?_); rintro e w4 ⟨rfl, hb⟩; have k0 := (hb.cell (World.block_lt_of_cell? wr _ b0)).trans b0; have k1 := (hb.cell (World.block_lt_of_cell? wr _ b1)).trans b1; have k2 := (hb.cell (World.block_lt_of_cell? wr _ b2)).trans b2; have k3 := (hb.cell (World.block_lt_of_cell? wr _ ha0)).trans ha0)))
        have HB2 := Aside0.mk (below_step (below_drew1 HB.out) hb)
        have p2 : (i : Int) ≤ (l0.length : Int) := by omega
        have hcc : i ≤ c0 := by have := HC0.out; omega
        have HLn : Aside0 ((withinR sp l0).length = i) := ⟨by rw [← HF2.out, List.length_take]; omega⟩
        go_wp2_with fail
        go_ret
        exact ⟨by rw [HLn.out]; rfl, HB2.out⟩
    · have z1 : ¬ (i : Int) < (l0.length : Int) := by omega
      obtain rfl : i = l0.length := by omega
      have HE : Aside0 ((withinR sp l0).length = l0.length) := ⟨by
        have e := takeWhile_take (fun x => hasS sp x.f0) l0 l0.length (Nat.le_refl _) HA.out (fun h => absurd h (by omega))
        rw [List.take_length] at e
        show (l0.takeWhile _).length = _
        rw [← e]⟩
      go_wp2_with fail
      go_ret
      exact ⟨by rw [HE.out]; rfl, HB.out⟩

/-! ### rundleref09.Parts -/
theorem info22 : (Try.prog.info? 22).map (fun i => (i.zero, i.size, i.bytes)) = some (some (.slice none 0 0), 1, 24) := by kernel_rfl
def dropLtR (lo : ByteArray) : List S94 → List S94
  | [] => []
  | x :: t => if Srt.ltB x.f0 lo = true then dropLtR lo t else x :: t
/-- Entries in order, parted by spans. -/
def partsR : List S40 → List S94 → List (List S94)
  | [], _ => []
  | sp :: t, rest => withinR sp (dropLtR sp.f0 rest) :: partsR t ((dropLtR sp.f0 rest).drop (withinR sp (dropLtR sp.f0 rest)).length)
/-- A cut of a row, as Go has it. -/
def cutV (A : Option Addr) (c a n : Nat) : Value := .slice (if c = a then A else A.map (·.add (a * 3))) n (c - a)
def valsC (A : Option Addr) (c : Nat) (cs : List (Nat × Nat)) : List (List Value) := cs.map fun p => [cutV A c p.1 p.2]
def outsC (s : List S94) (cs : List (Nat × Nat)) : List (List S94) := cs.map fun p => (s.drop p.1).take p.2
def goodC (s : List S94) (cs : List (Nat × Nat)) : Prop := ∀ p ∈ cs, p.1 + p.2 ≤ s.length
theorem valsC_length (A : Option Addr) (c : Nat) (cs : List (Nat × Nat)) : (valsC A c cs).length = cs.length := List.length_map _
theorem outsC_length (s : List S94) (cs : List (Nat × Nat)) : (outsC s cs).length = cs.length := List.length_map _
/-- A row of cuts reads as the lists. -/
theorem outs_reads {W : World} {A : Option Addr} {c base : Nat} {ok : Nat → Prop} {s : List S94} {cs : List (Nat × Nat)} {v : Value} (hg : goodC s cs) (hs : Kd.C k94 W A s.length s) (hc : s.length ≤ c) (hv : Kd.R (Kd.raw 1) 22 W base ok v (valsC A c cs)) :
    ∃ B d, v = .slice B (outsC s cs).length d ∧ (outsC s cs).length ≤ d ∧ Kd.C (Kd.slice 94 k94) W B (outsC s cs).length (outsC s cs) := by
  obtain ⟨B, d, e, hd, hC⟩ := Kd.R_reads hv
  have hl : (valsC A c cs).length = (outsC s cs).length := by rw [valsC_length, outsC_length]
  refine ⟨B, d, by rw [← hl]; exact e, by rw [← hl]; exact hd, rfl, by rw [← hl]; exact hC.2.1, fun hp => ?_⟩
  obtain ⟨ad, he, hcell⟩ := hC.2.2 (by rw [hl]; exact hp)
  refine ⟨ad, he, fun j p hj => ?_⟩
  obtain ⟨q, hq, rfl⟩ := List.mem_map.1 (List.mem_of_getElem? hj)
  have hj2 : ∃ q', cs[j]? = some q' ∧ (s.drop q'.1).take q'.2 = (s.drop q.1).take q.2 := by
    unfold outsC at hj
    rw [List.getElem?_map] at hj
    obtain ⟨q', h1, h2⟩ := Option.map_eq_some_iff.1 hj
    exact ⟨q', h1, h2⟩
  obtain ⟨q', h1, h2⟩ := hj2
  have hq' := hg q' (List.mem_of_getElem? h1)
  obtain ⟨cells, hsz, hK, hat⟩ := hcell j [cutV A c q'.1 q'.2] (by unfold valsC; rw [List.getElem?_map, h1]; rfl)
  refine ⟨cells, hsz, ?_, hat⟩
  obtain ⟨rfl, _, _⟩ := hK
  rw [← h2]
  have hln : ((s.drop q'.1).take q'.2).length = q'.2 := by rw [List.length_take, List.length_drop]; omega
  have h3 := C_drop' hs (show q'.1 ≤ s.length by omega) hc
  have h4 : Kd.C k94 W (if c = q'.1 then A else A.map (·.add (q'.1 * 3))) (s.drop q'.1).length (s.drop q'.1) := by rw [List.length_drop]; exact h3
  refine ⟨(if c = q'.1 then A else A.map (·.add (q'.1 * 3))), c - q'.1, ?_, by rw [hln]; omega, ?_⟩
  · show [cutV A c q'.1 q'.2] = _
    rw [hln]; rfl
  · rw [hln]
    exact C_take' h4 (by rw [List.length_drop]; omega)

theorem dropLtR_drop (lo : ByteArray) (l : List S94) (a : Nat) (h : a < l.length) : (Srt.ltB (l.getD a z94).f0 lo = true → dropLtR lo (l.drop a) = dropLtR lo (l.drop (a + 1))) ∧ (Srt.ltB (l.getD a z94).f0 lo = false → dropLtR lo (l.drop a) = l.drop a) := by
  rw [drop_getD l a h]
  refine ⟨fun h => ?_, fun h => ?_⟩
  · rw [dropLtR, if_pos h]
  · rw [dropLtR, if_neg (by rw [h]; simp)]
theorem withinR_take (sp : S40) (l : List S94) : withinR sp l = l.take (withinR sp l).length := by
  unfold withinR
  exact (List.prefix_iff_eq_take.1 (List.takeWhile_prefix _))
theorem withinR_le (sp : S40) (l : List S94) : (withinR sp l).length ≤ l.length := (List.takeWhile_sublist _).length_le
theorem drop40 (l : List S40) (i : Nat) (h : i < l.length) : l.drop i = l[i] :: l.drop (i + 1) := List.drop_eq_getElem_cons h
theorem refWithin_at (A0 : Option Addr) (n c0 : Nat) (l0 : List S94) (sp : S40) (w : World) (hn : l0.length = n) (hr0 : Kd.C k94 w A0 n l0) (hc0 : n ≤ c0) (hl : n ≤ 5000) (hs : shortK l0 = true) (hok : sp.f0.size ≤ 9223372036854775807 ∧ sp.f1.size ≤ 9223372036854775807) :
    Calls Try.prog 25 #[.slice A0 n c0, .agg #[.string sp.f0, .string sp.f1, .bool sp.f2]] w fun e w' => e = .returned (.slice A0 (withinR sp l0).length c0) ∧ Below w.heap.size w w' := by
  subst hn
  exact refWithin_calls A0 c0 l0 sp w hr0 hc0 hl hs hok
theorem shortK_of {l l' : List S94} (h : shortK l = true) (hs : ∀ x ∈ l', x ∈ l) : shortK l' = true := by
  unfold shortK at *
  rw [List.all_eq_true] at *
  exact fun x hx => h x (hs x hx)
def okS (l : List S40) : Prop := ∀ x ∈ l, x.f0.size ≤ 9223372036854775807 ∧ x.f1.size ≤ 9223372036854775807

set_option maxHeartbeats 8000000 in
set_option maxRecDepth 100000 in
theorem refParts_calls (A0 : Option Addr) (c0 : Nat) (l0 : List S94) (A1 : Option Addr) (c1 : Nat) (l1 : List S40) (w : World) (hr0 : Kd.C k94 w A0 l0.length l0) (hc0 : l0.length ≤ c0) (hr1 : Kd.C k40 w A1 l1.length l1) (hl : l0.length ≤ 70) (hs : shortK l0 = true) (hl1 : l1.length ≤ 3) (hok : okS l1) :
    Calls Try.prog 23 #[.slice A0 l0.length c0, .slice A1 l1.length c1] w fun e w' => ∃ B d, e = .returned (.slice B (partsR l1 (rsE l0)).length d) ∧ (partsR l1 (rsE l0)).length ≤ d ∧ Kd.C (Kd.slice 94 k94) w' B (partsR l1 (rsE l0)).length (partsR l1 (rsE l0)) ∧ Below w.heap.size w w' := by
  have FS0 : rundleref09_Sorted.f l0 = some (rsE l0) := by unfold rundleref09_Sorted.f; rw [if_pos ⟨by omega, hs⟩]
  have hsl : (rsE l0).length ≤ 70 := by rw [rsE_length]; exact hl
  have hss : shortK (rsE l0) = true := shortK_of hs (fun x hx => mem_rsE hx)
  generalize rsE l0 = s at *
  have FS := Aside0.mk FS0
  have LM := Aside0.mk hsl
  have LM1 := Aside0.mk hl1
  have HSS := Aside0.mk hss
  have HOK := Aside0.mk hok
  have HR0 := Aside0.mk hr0
  have HC0 := Aside0.mk hc0
  have HR1 := Aside0.mk hr1
  have HB := Aside0.mk (Below.refl w.heap.size w)
  clear FS0 hsl hss hok hr0 hc0 hr1 hs hl hl1
  go_enter Try.func23, Try.ntmps23
  go_wp2_with (first | ((with_reducible refine gate_callee (f := 19) rfl ?_); refine goesL_ (some 11) rfl rfl Try.func19 (by kernel_rfl) rfl #[.slice A0 l0.length c0] rfl (by (try simp only [List.map_toArray, List.map_cons, List.map_nil]); first | done | rfl) ?_; (refine (rundleref09_Sorted.calls A0 c0 l0 s _ (Kd.C_below HR0.out HB.out) HC0.out FS.out).mono ?_); rintro e w6 ⟨v6, rfl, hR, hb⟩; refine ⟨_, rfl, ?_⟩; obtain ⟨A4, c4, e4⟩ := Kd.R_slice hR; subst e4; have HSv := Aside0.mk hR; clear hR; have n0_ := Aside0.mk (below_step (by repeat (first | (with_reducible first | exact HB.out | apply below_alloc | apply pw_below_drewN | apply below_drew1) | exact HB.out)) hb); clear HB; have HB := n0_; clear n0_ hb))
  go_loopg [6, 7, 8, 9] l1.length (fun kq v6 v7 v8 _ w' => ∃ (a i : Nat) (cs : List (Nat × Nat)), v6 = .int .i64 a ∧ v8 = .int .i64 i ∧ i ≤ l1.length ∧ l1.length - i ≤ kq ∧ a ≤ s.length ∧ Aside0 (cs.length = i) ∧ Aside0 (goodC s cs) ∧ Aside0 (outsC s cs ++ partsR (l1.drop i) (s.drop a) = partsR l1 s) ∧ Aside0 (Kd.R k94 94 w' w.heap.size (fun _ => True) (.slice A4 s.length c4) s) ∧ Aside0 (Kd.R (Kd.raw 1) 22 w' w.heap.size (fun _ => True) v7 (valsC A4 c4 cs)) ∧ Aside0 (Below w.heap.size w w'))
  case atStart => exact ⟨0, 0, [], rfl, rfl, by omega, by omega, by omega, ⟨rfl⟩, ⟨fun p hp => by cases hp⟩, ⟨rfl⟩, HSv, ⟨Kd.R_nil _ _ _ _ _⟩, HB⟩
  case round =>
    clear HSv
    obtain ⟨a, i, cs, rfl, rfl, hi, hk, ha, HLn, HG, HE, HSv, HV, HB⟩ := hrel
    obtain ⟨wo, rfl⟩ : ∃ wo : World, wo = wr := ⟨_, rfl⟩
    by_cases hlt : i < l1.length
    · have z1 : (i : Int) < (l1.length : Int) := by omega
      have p1 : (0 : Int) ≤ (i : Int) := by omega
      obtain ⟨ad1, e1, hy0, hy1, hy2⟩ := at_T40 HR1.out i p1 z1
      subst e1
      have ex : rd_T40 l1 (i : Int) = l1[i] := by unfold rd_T40; simp [hlt]
      rw [ex, Int.toNat_natCast] at hy0 hy1 hy2
      have HD1 := Aside0.mk (drop40 l1 i hlt)
      have HOK1 := Aside0.mk (HOK.out l1[i] (List.getElem_mem hlt))
      generalize l1[i] = sp at *
      replace hy0 := (HB.out.cell (World.block_lt_of_cell? w _ hy0)).trans hy0
      replace hy1 := (HB.out.cell (World.block_lt_of_cell? w _ hy1)).trans hy1
      replace hy2 := (HB.out.cell (World.block_lt_of_cell? w _ hy2)).trans hy2
      clear ex
      go_upto_block 2 with (fail)
      go_cut [6] (fun v6 wc => ∃ a2 : Nat, v6 = .int .i64 a2 ∧ a2 ≤ s.length ∧ Drawn0 wo wc ∧ Aside0 (s.drop a2 = dropLtR sp.f0 (s.drop a)))
      case first =>
        have HCs := Aside0.mk (Kd.R_reads' HSv.out).2.2
        clear HE HG HV HLn HD1
        go_wp2_with fail
        go_loopg [6] s.length (fun kq2 v6 w2 => ∃ (a2 : Nat), v6 = .int .i64 a2 ∧ a2 ≤ s.length ∧ s.length - a2 ≤ kq2 ∧ Drawn0 wo w2 ∧ Aside0 (dropLtR sp.f0 (s.drop a2) = dropLtR sp.f0 (s.drop a)))
        case atStart => exact ⟨a, rfl, by omega, by omega, Drawn0.refl _, ⟨rfl⟩⟩
        case round =>
          obtain ⟨a2, rfl, ha2, hk2, HD, HI⟩ := hrel
          by_cases hl2 : a2 < s.length
          · have z2 : (a2 : Int) < (s.length : Int) := by omega
            have d2 : decide ((a2 : Int) < (s.length : Int)) = true := decide_eq_true z2
            have q1 : (0 : Int) ≤ (a2 : Int) := by omega
            obtain ⟨ad2, e2, hx0, _, _⟩ := at_T94 HCs.out a2 q1 z2
            subst e2
            replace hx0 := (HD.below.cell (World.block_lt_of_cell? wo _ hx0)).trans hx0
            have hy0' := (HD.below.cell (World.block_lt_of_cell? wo _ hy0)).trans hy0
            have ey : rd_T94 s (a2 : Int) = s.getD a2 z94 := rfl
            rw [ey, Int.toNat_natCast] at hx0
            have hsx : (s.getD a2 z94).f0.size ≤ 9223372036854775807 := short_at HSS.out _ (getD_mem hl2)
            have hDL := dropLtR_drop sp.f0 s a2 hl2
            have hlm := LM.out
            generalize s.getD a2 z94 = X at *
            have hc := fun wx => Srt.Less_quiet X.f0 sp.f0 wx hsx HOK1.out.1
            cases hL : Srt.ltB X.f0 sp.f0 with
            | true =>
              rw [hL] at hc
              have HI2 := Aside0.mk ((hDL.1 hL).symm.trans HI.out)
              clear hL hDL ey hsx
              go_wp2_with fail
              go_quiet ((go_at_call 46; exact Calls.quiet_of (hc _)))
              go_wp2_with fail
              go_roundg (s.length - (a2 + 1))
              case measure => omega
              case rel => exact ⟨a2 + 1, by go_num, by omega, by omega, HD.step _, HI2⟩
            | false =>
              rw [hL] at hc
              have HI2 := Aside0.mk ((hDL.2 hL).symm.trans HI.out)
              clear hL hDL ey hsx
              go_wp2_with fail
              go_quiet ((go_at_call 46; exact Calls.quiet_of (hc _)))
              go_wp2_with fail
              go_meet
              case rel => exact ⟨a2, rfl, by omega, HD.step _, HI2⟩
          · obtain rfl : a2 = s.length := by omega
            have z2 : ¬ (s.length : Int) < (s.length : Int) := by omega
            have d2 : decide ((s.length : Int) < (s.length : Int)) = false := by simp
            have HI2 : Aside0 (s.drop s.length = dropLtR sp.f0 (s.drop a)) := ⟨by rw [← HI.out, List.drop_length]; rfl⟩
            go_wp2_with fail
            go_quiet (fail)
            go_wp2_with fail
            go_meet
            case rel => exact ⟨s.length, rfl, by omega, HD.step _, HI2⟩
      case rest =>
        obtain ⟨a2, rfl, ha2, HD, HI⟩ := hcut
        replace hy0 := (HD.below.cell (World.block_lt_of_cell? wo _ hy0)).trans hy0
        replace hy1 := (HD.below.cell (World.block_lt_of_cell? wo _ hy1)).trans hy1
        replace hy2 := (HD.below.cell (World.block_lt_of_cell? wo _ hy2)).trans hy2
        have HB1 := Aside0.mk (below_then HB.out HB.out.size HD.below)
        have HS1 := Aside0.mk (Kd.R_below HSv.out HD.below)
        have HV1 := Aside0.mk (Kd.R_below HV.out HD.below)
        clear HB HSv HV HD
        have hsc : s.length ≤ c4 := (Kd.R_reads' HS1.out).2.1
        have hac : a2 ≤ c4 := by omega
        have HCa := Aside0.mk (C_drop' (Kd.R_reads' HS1.out).2.2 ha2 hsc)
        have HSK := Aside0.mk (shortK_of HSS.out (fun x hx => List.mem_of_mem_drop (i := a2) hx))
        have hn2le : a2 + (withinR sp (s.drop a2)).length ≤ s.length := by have := withinR_le sp (s.drop a2); rw [List.length_drop] at this; omega
        have HG2 : Aside0 (goodC s (cs ++ [(a2, (withinR sp (s.drop a2)).length)])) := ⟨fun p hp => by
          rcases List.mem_append.1 hp with hp | hp
          · exact HG.out p hp
          · rw [List.mem_singleton.1 hp]; exact hn2le⟩
        have HE2 : Aside0 (outsC s (cs ++ [(a2, (withinR sp (s.drop a2)).length)]) ++ partsR (l1.drop (i + 1)) (s.drop (a2 + (withinR sp (s.drop a2)).length)) = partsR l1 s) := ⟨by
          have h1 := HE.out
          rw [HD1.out, partsR, ← HI.out, List.drop_drop] at h1
          rw [← h1]
          unfold outsC
          rw [List.map_append, List.append_assoc]
          congr 1
          show [(s.drop a2).take _] ++ _ = _
          rw [← withinR_take]
          rfl⟩
        generalize hn2 : (withinR sp (s.drop a2)).length = n2 at HG2 HE2 hn2le
        have HN2 := Aside0.mk hn2
        clear hn2 HE HG HI HD1
        have hlm := LM.out
        have q2 : (a2 : Int) ≤ (s.length : Int) := by omega
        have q0 : (0 : Int) ≤ (a2 : Int) := by omega
        have hn0 := World.new_ne wc _ hy0
        have hn1 := World.new_ne wc _ hy1
        have hn2 := World.new_ne wc _ hy2
        go_wp2_with fail
        go_region_held3 (fun w' => w'.cell? (ad1.add (i * 3)) = some (.string sp.f0) ∧ w'.cell? ⟨(ad1.add (i * 3)).block, (ad1.add (i * 3)).off + 1, none⟩ = some (.string sp.f1) ∧ w'.cell? ⟨(ad1.add (i * 3)).block, (ad1.add (i * 3)).off + 2, none⟩ = some (.bool sp.f2)) (go_keep) ((go_at_call 25; (refine (refWithin_at _ (s.length - a2) (c4 - a2) (s.drop a2) sp _ (by rw [List.length_drop]) (by repeat (first | exact HCa.out | (with_reducible refine Kd.C_alloc ?_ _) | (with_reducible refine Kd.C_drewN ?_ _) | (with_reducible refine Kd.C_drew ?_))) (by omega) (by omega) HSK.out HOK1.out).mono ?_); rintro e w4 ⟨rfl, hb⟩; generalize hAx : (if c4 = a2 then A4 else A4.map (fun x => x.add (a2 * 3))) = Ax at *; have HAx := Aside0.mk hAx; clear hAx; have k0 := (hb.cell (World.block_lt_of_cell? wc _ hy0)).trans hy0; have k1 := (hb.cell (World.block_lt_of_cell? wc _ hy1)).trans hy1; rw [HN2.out]; have k2 := (hb.cell (World.block_lt_of_cell? wc _ hy2)).trans hy2))
        have HB2 := Aside0.mk (below_step (below_drew1 HB1.out) hb)
        have HS2 := Aside0.mk (Kd.R_below (Kd.R_drew HS1.out) hb)
        have HV2 := Aside0.mk (Kd.R_below (Kd.R_drew HV1.out) hb)
        clear HB1 HS1 HV1
        go_wp2_with (first | ((with_reducible refine gate_builtin (b := .append) (xs := #[.tmp 45, .tmp 47]) rfl ?_); (try (refine gate_guard (by rfl) ?_; dsimp only)); at_builtin; refine Kd.R_append (Kd.raw 1) (w0 := w) w.heap.size rfl (.tmp 45) (.tmp 47) 46 22 (.slice none 0 0) 24 rfl Try.underlying46 info22 rfl (by decide) (by omega) u7 (valsC A4 c4 cs) [.slice Ax n2 (c4 - a2)] [.slice Ax n2 (c4 - a2)] (fun _ => True) (fun _ => False) rfl rfl ?aP (fun _ hk => hk.elim) ?aF ?aO ?aB ?aS ?aL ?_; (case aP => exact ⟨rfl, rfl, fun u hu => by rw [List.mem_singleton.1 hu]; rfl⟩); (case aB => exact HB2.out); (case aF => exact (fun _ _ => trivial)); (case aO => exact HV2.out); (case aS => exact below_size HB2.out); (case aL => have h1 := HLn.out; have h2 := LM1.out; rw [valsC_length]; omega); intro v125 w12 ho hb hg hat; have HS3 := Aside0.mk (Kd.R_over' HS2.out (Kd.R_typed HV2.out) (by decide) hg); have HV3 : Aside0 (Kd.R (Kd.raw 1) 22 w12 w.heap.size (fun _ => True) v125 (valsC A4 c4 (cs ++ [(a2, n2)]))) := ⟨by unfold valsC; rw [List.map_append]; show Kd.R _ _ _ _ _ _ (_ ++ [[cutV A4 c4 a2 n2]]); unfold cutV; rw [HAx.out]; exact ho⟩; have HB3 := Aside0.mk hb; clear HS2 HV2 HB2 ho hb hg hat))
        have hlm1 := LM1.out
        go_roundg (l1.length - (i + 1))
        case measure => omega
        case rel => exact ⟨a2 + n2, i + 1, cs ++ [(a2, n2)], (by first | (rw [w64 _ (by omega)]; rfl) | go_num), (by first | (rw [w64 _ (by omega)]; rfl) | go_num), by omega, by omega, by omega, ⟨by rw [List.length_append, HLn.out]; rfl⟩, HG2, HE2, HS3, HV3, HB3⟩
    · have z1 : ¬ (i : Int) < (l1.length : Int) := by omega
      obtain rfl : i = l1.length := by omega
      have hEq := HE.out
      rw [List.drop_length, partsR, List.append_nil] at hEq
      have hrd := outs_reads HG.out (Kd.R_reads' HSv.out).2.2 (Kd.R_reads' HSv.out).2.1 HV.out
      rw [hEq] at hrd
      obtain ⟨B, d, e, hd, hC⟩ := hrd
      subst e
      have HC := Aside0.mk hC
      have HDd := Aside0.mk hd
      clear hC hd hEq HE HV HSv
      go_wp2_with fail
      go_ret
      exact ⟨_, _, rfl, HDd.out, HC.out, HB.out⟩
end Go.Proofs.Ytgnnhomipfjanaa.PA
