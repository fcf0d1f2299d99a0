/- ModelAnswers, over lists alone; and the whole. -/
import Derived.Test.YtgnnhomipfjanaaMAnsW
import Derived.Test.YtgnnhomipfjanaaMScan
namespace Go.Proofs.Ytgnnhomipfjanaa.PM
open Go Go.Proofs Go.RowKit Go.Proofs.YtgnnhomipfjanaaW.PrintWords Go.Proofs.YtgnnhomipfjanaaW.PrintLast Go.Proofs.YtgnnhomipfjanaaW.PrintMore

theorem and_at74 (l : List S74) (i : Nat) (h : i < l.length) : rd_T74 l (i : Int) = l[i] := by unfold rd_T74; simp [h]
theorem wr_nat (n : Nat) (h : n < 1000000000000) : wrap64 ((n : Int) + 1) = ((n + 1 : Nat) : Int) := by unfold wrap64; omega
/-- Two responses are the same just if they are so field by field. -/
theorem same_loop (a0 : Int) (a1 : Bool) (a2 : ByteArray) (la : List S74) (a4 a5 : Int) (b0 : Int) (b1 : Bool) (b2 : ByteArray) (lb : List S74) (b4 b5 : Int) (hl : la.length < 1000000000000) (he : la.length = lb.length) :
    ∀ (d i k : Nat), la.length - i = d → i ≤ la.length → d + 1 ≤ k → ∃ b, model_Same.l0 k la (la.length : Int) (i : Int) a0 a1 a2 la a4 a5 b0 b1 b2 lb b4 b5 = some b ∧ (b = true ↔ (la.drop i = lb.drop i ∧ a0 = b0 ∧ a1 = b1 ∧ a2 = b2 ∧ a4 = b4 ∧ a5 = b5))
  | 0, i, k + 1, hd, hi, _ => by
    have e : la.drop i = lb.drop i := by rw [List.drop_eq_nil_of_le (by omega), List.drop_eq_nil_of_le (by omega)]
    rw [model_Same.l0, if_neg (by omega)]
    by_cases c0 : a0 = b0
    · rw [if_pos c0]
      by_cases c1 : (a1 == b1) = true
      · rw [if_pos c1]
        by_cases c2 : a2.toList = b2.toList
        · rw [if_pos c2]
          by_cases c4 : a4 = b4
          · rw [if_pos c4]
            exact ⟨_, rfl, by rw [beq_iff_eq]; exact ⟨fun h => ⟨e, c0, eq_of_beq c1, toList_inj c2, c4, h⟩, fun h => h.2.2.2.2.2⟩⟩
          · rw [if_neg c4]; exact ⟨_, rfl, fun h => by simp at h, fun h => absurd h.2.2.2.2.1 c4⟩
        · rw [if_neg c2]; exact ⟨_, rfl, fun h => by simp at h, fun h => absurd (congrArg ByteArray.toList h.2.2.2.1) c2⟩
      · rw [if_neg c1]; exact ⟨_, rfl, fun h => by simp at h, fun h => absurd (beq_iff_eq.mpr h.2.2.1) c1⟩
    · rw [if_neg c0]; exact ⟨_, rfl, fun h => by simp at h, fun h => absurd h.2.1 c0⟩
  | d + 1, i, k + 1, hd, hi, hk => by
    have hil : i < la.length := by omega
    have hib : i < lb.length := by omega
    have ea : la.drop i = la[i] :: la.drop (i + 1) := (List.drop_eq_getElem_cons hil)
    have eb : lb.drop i = lb[i] :: lb.drop (i + 1) := (List.drop_eq_getElem_cons hib)
    rw [model_Same.l0, if_pos (by omega), if_pos (by omega), if_pos (by omega), if_pos (by omega), and_at74 la i hil, and_at74 lb i hib]
    by_cases c : (!(la[i].f0.toList == lb[i].f0.toList) || !(la[i].f1.toList == lb[i].f1.toList)) = true
    · rw [if_pos c]
      refine ⟨_, rfl, fun h => by simp at h, fun h => ?_⟩
      have h1 := h.1
      rw [ea, eb] at h1
      have h2 := (List.cons.inj h1).1
      rw [h2] at c
      simp at c
    · rw [if_neg c, wr_nat i (by omega)]
      obtain ⟨b, h1, h2⟩ := same_loop a0 a1 a2 la a4 a5 b0 b1 b2 lb b4 b5 hl he d (i + 1) k (by omega) (by omega) (by omega)
      refine ⟨b, h1, h2.trans ?_⟩
      have c' : la[i] = lb[i] := by
        simp only [Bool.or_eq_true, Bool.not_eq_true', beq_eq_false_iff_ne, ne_eq, not_or, Decidable.not_not] at c
        have p := toList_inj c.1
        have q := toList_inj c.2
        cases hx : la[i]; cases hy : lb[i]
        rw [hx, hy] at p q
        cases p; cases q; rfl
      rw [ea, eb, c', List.cons.injEq]
      simp only [true_and]
theorem same_says (a0 : Int) (a1 : Bool) (a2 : ByteArray) (la : List S74) (a4 a5 : Int) (b0 : Int) (b1 : Bool) (b2 : ByteArray) (lb : List S74) (b4 b5 : Int) (hl : la.length < 1000000000000) (k : Nat) (hk : la.length + 1 ≤ k) :
    ∃ b, model_Same.f k a0 a1 a2 la a4 a5 b0 b1 b2 lb b4 b5 = some b ∧ (b = true ↔ (la = lb ∧ a0 = b0 ∧ a1 = b1 ∧ a2 = b2 ∧ a4 = b4 ∧ a5 = b5)) := by
  unfold model_Same.f
  by_cases he : la.length = lb.length
  · rw [if_pos (by omega)]
    exact same_loop a0 a1 a2 la a4 a5 b0 b1 b2 lb b4 b5 hl he la.length 0 k (by omega) (Nat.zero_le _) hk
  · rw [if_neg (by omega)]
    exact ⟨_, rfl, fun h => by simp at h, fun h => absurd (congrArg List.length h.1) he⟩

/-- All texts of the changes are short. -/
def Short (ms : List S112) : Prop := ∀ c ∈ ms, ∀ x ∈ c.f1, x.f0.size ≤ 10000 ∧ x.f1.size ≤ 10000
theorem look_mem {es : List S37} {k : ByteArray} {e : S37} (h : lookE es k = some e) : e ∈ es := List.mem_of_find?_eq_some h
theorem get_short {ms : List S112} (h : Short ms) (v : Int) (kk : ByteArray) : (getE ms v kk).1.size ≤ 10000 := by
  unfold getE entryE
  cases he : ms.reverse.findSome? (hitE v kk) with
  | none => show (⟨#[]⟩ : ByteArray).size ≤ 10000; decide
  | some e =>
    obtain ⟨c, hc, hx⟩ := List.exists_of_findSome?_eq_some he
    unfold hitE at hx
    split at hx
    · cases hx
    · have := h c (List.mem_reverse.1 hc) e (look_mem hx)
      show ByteArray.size (if e.f2 = true then (⟨#[]⟩, false) else (e.f1, true) : ByteArray × Bool).1 ≤ 10000
      split
      · decide
      · exact this.2
theorem scanL_short {ms : List S112} (h : Short ms) (v : Int) (lo hi : ByteArray) (all : Bool) (lim : Int) : ∀ (ks : List ByteArray) (acc : List S74), (∀ k ∈ ks, k.size ≤ 10000) → (∀ p ∈ acc, p.f0.size ≤ 10000 ∧ p.f1.size ≤ 10000) → ∀ p ∈ scanL ms v lo hi all lim ks acc, p.f0.size ≤ 10000 ∧ p.f1.size ≤ 10000
  | [], acc, _, ha => ha
  | k :: t, acc, hk, ha => by
    rw [scanL]
    split
    · exact ha
    · split
      · refine scanL_short h v lo hi all lim t _ (fun x hx => hk x (by simp [hx])) (fun p hp => ?_)
        rcases List.mem_append.1 hp with hp | hp
        · exact ha p hp
        · rw [List.mem_singleton.1 hp]
          exact ⟨hk k (by simp), get_short h v k⟩
      · exact scanL_short h v lo hi all lim t _ (fun x hx => hk x (by simp [hx])) ha
theorem scan_short {ms : List S112} (h : Short ms) (v : Int) (lo hi : ByteArray) (all : Bool) (lim : Int) : ∀ p ∈ scanE ms v lo hi all lim, p.f0.size ≤ 10000 ∧ p.f1.size ≤ 10000 := by
  refine scanL_short h v lo hi all lim _ _ (fun k hk => ?_) (fun p hp => by cases hp)
  unfold keysE at hk
  obtain ⟨b, hb, rfl⟩ := List.mem_map.1 hk
  have h1 : b ∈ seenK (uptoV ms v) := (mem_dd b _).1 (List.mem_mergeSort.1 hb)
  unfold seenK at h1
  obtain ⟨c, hc, hx⟩ := List.mem_flatMap.1 h1
  unfold entK at hx
  obtain ⟨x, hx, hxb⟩ := List.mem_map.1 hx
  have := (h c ((List.takeWhile_prefix _).subset hc) x hx).1
  rw [← hxb]
  show (x.f0.data.toList.toArray).size ≤ 10000
  rw [List.size_toArray, Array.length_toList]
  exact this
theorem short_ms {l : List S78} (hS : Small l) : Short (msOf (layC 0 l)) := fun c hc x hx => by
  unfold msOf at hc
  obtain ⟨u, hu, rfl⟩ := List.mem_map.1 hc
  exact (layC_small hS u hu).2 x (((sortE_same u.f1).mem swoE x).2 hx)

set_option maxHeartbeats 4000000 in
set_option maxRecDepth 100000 in
/-- More than is looked at: the example again. -/
theorem ans_long (K : Nat) (A0 : Option Addr) (c0 : Nat) (l0 : List S78) (x0 : Int) (x1 x2 : ByteArray) (A3 : Option Addr) (c3 : Nat) (l3 : List S37) (x4 x5 : ByteArray) (x6 : Bool) (x7 x8 x9 x10 a2 a3 : Int) (w : World)
    (hr0 : Kd.C k78 w A0 l0.length l0) (hc0 : l0.length ≤ c0) (hlg : rundlelaw24_long.f K l0 = some true) :
    Calls Try.prog 11 #[.slice A0 l0.length c0, .agg #[.int .i64 x0, .string x1, .string x2, .slice A3 l3.length c3, .string x4, .string x5, .bool x6, .int .i64 x7, .int .i64 x8, .int .i64 x9, .int .i64 x10], .int .i64 a2, .int .u8 a3] w fun e w' => e = .returned (.bool true) ∧ Below w.heap.size w w' := by
  have HR0 := Aside0.mk hr0
  have HC0 := Aside0.mk hc0
  have LG := Aside0.mk hlg
  clear hr0 hc0 hlg
  have hu87 := Try.underlying87
  have HB0 := Aside0.mk (below_alloc (Below.refl w.heap.size w) (.cells (callC x0 x1 x2 A3 l3.length c3 x4 x5 x6 x7 x8 x9 x10) 87))
  go_enter Try.func11, Try.ntmps11
  go_upto_region 2 with (first
    | (go_at_call 26; with_reducible refine (rundlelaw24_awake.calls true _ awake_says).mono ?_; rintro e w1 ⟨rfl, hb⟩; have HB1 := Aside0.mk hb; clear hb)
    | (go_at_call 27; with_reducible refine (rundlelaw24_long.calls K A0 c0 l0 true _ ?s1 HC0.out LG.out).mono ?_; (case s1 => exact Kd.C_below HR0.out (HB0.out.trans (HB1.out.mono (by simp [World.size_alloc])))); rintro e w2 ⟨rfl, hb⟩; have HB2 := Aside0.mk hb; clear hb))
  have HB2w := Aside0.mk (HB0.out.trans ((HB1.out.mono (by simp [World.size_alloc])).trans (HB2.out.mono (by have := HB1.out.size; simp only [World.size_alloc] at this; omega))))
  clear HB0 HB1 HB2
  go_wp2_with (go_at_call 26; with_reducible refine (rundlelaw24_awake.calls true _ awake_says).mono ?_; rintro e w3 ⟨rfl, hb⟩; have HB3 := Aside0.mk hb; clear hb)
  go_ret
  exact ⟨rfl, HB2w.out.trans (HB3.out.mono HB2w.out.size)⟩

theorem answer_says (K : Nat) (ms : List S112) (x0 : Int) (x1 x2 : ByteArray) (l3 : List S37) (x4 x5 : ByteArray) (x6 : Bool) (x7 x8 x9 x10 a2 : Int) (hm : ms.length < 1000000000000) (ps : List S74) (hsc : model_Scan.f K ms a2 x4 x5 x6 x7 = some ps) :
    ∃ (r2 : Bool) (r3 : ByteArray) (r4 : List S74) (r6 : Int) (r7 : Bool), model_Answer.f (K + 1) ms x0 x1 x2 l3 x4 x5 x6 x7 x8 x9 x10 a2 = some (0, r2, r3, r4, 0, r6, r7) ∧
      (((x0 = 1 ∨ x0 = 7) ∧ (r3, r2) = getE ms a2 x1 ∧ r4 = [] ∧ a2 = r6 ∧ r7 = true) ∨ ((x0 = 5 ∨ x0 = 8) ∧ r4 = ps ∧ r2 = false ∧ r3 = ⟨#[]⟩ ∧ a2 = r6 ∧ r7 = true) ∨ ((x0 ≠ 1 ∧ x0 ≠ 7 ∧ x0 ≠ 5 ∧ x0 ≠ 8) ∧ r2 = false ∧ r3 = ⟨#[]⟩ ∧ r4 = [] ∧ r6 = 0 ∧ r7 = false)) := by
  have hg := get_says ms a2 x1 hm
  have j : ∀ b, b = true → model_Answer.j0 (K + 1) a2 x0 b ms x0 x1 x2 l3 x4 x5 x6 x7 x8 x9 x10 = some (0, (getE ms a2 x1).2, (getE ms a2 x1).1, [], 0, a2, true) := fun b hb => by
    rw [model_Answer.j0, if_pos hb, hg]; rfl
  unfold model_Answer.f
  by_cases c1 : x0 = 1
  · rw [if_pos c1, j _ (by rw [c1]; rfl)]
    exact ⟨_, _, _, _, _, rfl, .inl ⟨.inl c1, rfl, rfl, rfl, rfl⟩⟩
  · rw [if_neg c1]
    by_cases c7 : x0 = 7
    · rw [j _ (by rw [c7]; rfl)]
      exact ⟨_, _, _, _, _, rfl, .inl ⟨.inr c7, rfl, rfl, rfl, rfl⟩⟩
    · rw [model_Answer.j0, if_neg (by rw [beq_iff_eq]; exact c7), hsc]
      by_cases c5 : x0 = 5
      · rw [if_pos c5]
        exact ⟨_, _, _, _, _, rfl, .inr (.inl ⟨.inl c5, rfl, rfl, rfl, rfl, rfl⟩)⟩
      · rw [if_neg c5]
        by_cases c8 : x0 = 8
        · rw [if_pos c8]
          exact ⟨_, _, _, _, _, rfl, .inr (.inl ⟨.inr c8, rfl, rfl, rfl, rfl, rfl⟩)⟩
        · rw [if_neg c8]
          exact ⟨_, _, _, _, _, rfl, .inr (.inr ⟨⟨c1, c7, c5, c8⟩, rfl, rfl, rfl, rfl, rfl⟩)⟩

theorem ModelAnswers_calls (A0 : Option Addr) (c0 : Nat) (l0 : List S78) (x0 : Int) (x1 x2 : ByteArray) (A3 : Option Addr) (c3 : Nat) (l3 : List S37) (x4 x5 : ByteArray) (x6 : Bool) (x7 x8 x9 x10 a2 a3 : Int) (w : World)
    (hr0 : Kd.C k78 w A0 l0.length l0) (hc0 : l0.length ≤ c0) (hr3 : Kd.C k37 w A3 l3.length l3) (hc3 : l3.length ≤ c3) :
    Calls Try.prog 11 #[.slice A0 l0.length c0, .agg #[.int .i64 x0, .string x1, .string x2, .slice A3 l3.length c3, .string x4, .string x5, .bool x6, .int .i64 x7, .int .i64 x8, .int .i64 x9, .int .i64 x10], .int .i64 a2, .int .u8 a3] w fun e w' => e = .returned (.bool true) ∧ Below w.heap.size w w' := by
  obtain ⟨b, ⟨K1, h1⟩, hs⟩ := long_says l0
  cases hb : b with
  | true => exact ans_long K1 A0 c0 l0 x0 x1 x2 A3 c3 l3 x4 x5 x6 x7 x8 x9 x10 a2 a3 w hr0 hc0 ((h1 K1 (Nat.le_refl _)).trans (by rw [hb]))
  | false =>
    have hS := hs hb
    have hok := ok_ms (layC 0 l0) (layC_small hS) (by have := layC_len hS; omega)
    obtain ⟨K2, h2⟩ := lay_says l0 hS
    obtain ⟨K3, h3⟩ := scan_says (msOf (layC 0 l0)) hok a2 x4 x5 x6 x7
    have hsl : (scanE (msOf (layC 0 l0)) a2 x4 x5 x6 x7).length ≤ 20000 := by
      have h1 := scanL_len (msOf (layC 0 l0)) a2 x4 x5 x6 x7 (keysE (msOf (layC 0 l0)) a2) []
      have h2 := keysE_length (msOf (layC 0 l0)) a2
      have h3 := (seen_ms (layC 0 l0) (layC_small hS)).1
      have h4 := layC_len hS
      unfold scanE
      rw [List.length_nil] at h1
      omega
    have hss := scan_short (short_ms hS) a2 x4 x5 x6 x7
    have hgs := get_short (short_ms hS) a2 x1
    obtain ⟨ps, hps⟩ : ∃ ps, ps = scanE (msOf (layC 0 l0)) a2 x4 x5 x6 x7 := ⟨_, rfl⟩
    rw [← hps] at h3 hsl hss
    let K := K1 + K2 + K3 + ps.length + 10
    obtain ⟨r2, r3, r4, r6, r7, hans, hkind⟩ := answer_says K (msOf (layC 0 l0)) x0 x1 x2 l3 x4 x5 x6 x7 x8 x9 x10 a2 hok.2.1 ps (h3 K (by show K3 ≤ K1 + K2 + K3 + ps.length + 10; omega))
    have hr4 : r4 = [] ∨ r4 = ps := by
      rcases hkind with ⟨_, _, h, _⟩ | ⟨_, h, _⟩ | ⟨_, _, _, h, _⟩
      · exact .inl h
      · exact .inr h
      · exact .inl h
    have hl4 : r4.length ≤ ps.length := by rcases hr4 with h | h <;> rw [h] <;> simp
    have hp4 : ∀ p ∈ r4, p.f0.size ≤ 10000 ∧ p.f1.size ≤ 10000 := by
      rcases hr4 with h | h
      · rw [h]; intro p hp; cases hp
      · rw [h]; exact hss
    have hr3s : r3.size ≤ 10000 := by
      rcases hkind with ⟨_, h, _⟩ | ⟨_, _, _, h, _⟩ | ⟨_, _, h, _⟩
      · rw [show r3 = (getE (msOf (layC 0 l0)) a2 x1).1 from congrArg Prod.fst h]; exact hgs
      · rw [h]; decide
      · rw [h]; decide
    have hK : K1 + K2 + K3 + ps.length + 10 = K := rfl
    refine ans_walk (K + 1) A0 c0 l0 x0 x1 x2 A3 c3 l3 x4 x5 x6 x7 x8 x9 x10 a2 a3 w hr0 hc0 hr3 hc3 awake_says ((h1 (K + 1) (by omega)).trans (by rw [hb])) (msOf (layC 0 l0)) _ (h2 (K + 1) (by omega)) r2 r3 r4 r6 r7 hans ?_ ?_ ?_ ?_ ?_ ?_
    · obtain ⟨b, e, hb⟩ := same_says 0 r2 r3 r4 0 r6 0 r2 r3 r4 0 r6 (by omega) (K + 1) (by omega)
      rw [e, hb.2 ⟨rfl, rfl, rfl, rfl, rfl, rfl⟩]
    · intro i
      rw [List.getD_eq_getElem?_getD]
      by_cases hi : i < r4.length
      · rw [List.getElem?_eq_getElem hi, Option.getD_some]
        have := hp4 r4[i] (List.getElem_mem hi)
        omega
      · rw [List.getElem?_eq_none (by omega), Option.getD_none]
        decide
    · omega
    · omega
    · intro o0 o1 o2 ys o4 o5 hne hle
      obtain ⟨b1, e1, hb1⟩ := same_says 0 r2 r3 r4 0 r6 o0 o1 o2 ys o4 o5 (by omega) (K + 1) (by omega)
      obtain ⟨b2, e2, hb2⟩ := same_says o0 o1 o2 ys o4 o5 0 r2 r3 r4 0 r6 (by omega) (K + 1) (by omega)
      rw [e1, e2]
      constructor
      · cases b1 with
        | false => rfl
        | true =>
          obtain ⟨p1, p2, p3, p4, p5, p6⟩ := hb1.1 rfl
          exact absurd ⟨p2.symm, p3.symm, p4.symm, p1.symm, p5.symm, p6.symm⟩ hne
      · cases b2 with
        | false => rfl
        | true =>
          obtain ⟨p1, p2, p3, p4, p5, p6⟩ := hb2.1 rfl
          exact absurd ⟨p2, p3, p4, p1, p5, p6⟩ hne
    · rcases hkind with ⟨h, hg, hr⟩ | ⟨h, hp, hr⟩ | h
      · exact .inl ⟨h, by rw [get_says _ _ _ hok.2.1, ← hg], hr⟩
      · exact .inr (.inl ⟨h, by rw [hp]; exact h3 (K + 1) (by omega), hr⟩)
      · exact .inr (.inr h)
end Go.Proofs.Ytgnnhomipfjanaa.PM
