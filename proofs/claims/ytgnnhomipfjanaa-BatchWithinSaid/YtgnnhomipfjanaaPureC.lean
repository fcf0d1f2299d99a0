/- What batch.Within and batch.Parts answer, over lists alone, and that the parts of entries in order are these entries. -/
import Derived.Test.YtgnnhomipfjanaaParts
namespace Go.Proofs.Ytgnnhomipfjanaa.PA
open Go Go.Proofs Go.RowKit Go.Proofs.YtgnnhomipfjanaaW.PrintWords Go.Proofs.YtgnnhomipfjanaaW.PrintLast Go.Proofs.YtgnnhomipfjanaaW.PrintMore

/-- The first entries that lie in a span. -/
def withinE (sp : S44) (l : List S37) : List S37 := l.takeWhile fun x => hasE sp.f0 sp.f1 sp.f2 x.f0
theorem takeWhile_take {α : Type} (p : α → Bool) : ∀ (l : List α) (i : Nat), i ≤ l.length → (∀ j (h : j < l.length), j < i → p l[j] = true) → (∀ h : i < l.length, p l[i] = false) → l.take i = l.takeWhile p
  | [], i, hi, _, _ => by simp
  | x :: t, 0, _, _, h => by
    have := h (by simp)
    rw [List.takeWhile_cons, show p x = false from this]; rfl
  | x :: t, i + 1, hi, h1, h2 => by
    have h0 : p x = true := h1 0 (by simp) (by omega)
    rw [List.takeWhile_cons, if_pos h0, List.take_succ_cons, takeWhile_take p t i (by simpa using hi) (fun j hj hji => h1 (j + 1) (by simpa using hj) (by omega)) (fun hj => h2 (by simpa using hj))]

theorem within_loop (l : List S37) (sp : S44) (hl : l.length ≤ 5000) : ∀ (n k i : Nat), l.length - i = n → i ≤ l.length → n < k → (∀ j (h : j < l.length), j < i → hasE sp.f0 sp.f1 sp.f2 l[j].f0 = true) →
    batch_Within.l0 k l (i : Int) sp.f0 sp.f1 sp.f2 = some (withinE sp l)
  | n, 0, i, hn, hi, hk, hj => by omega
  | n, k + 1, i, hn, hi, hk, hj => by
    rw [batch_Within.l0]
    by_cases c : i < l.length
    · rw [if_pos (by omega), if_pos (by omega), rd37_at l i c]
      unfold key_Has.f
      simp only [Option.bind_some]
      cases h : hasE sp.f0 sp.f1 sp.f2 l[i].f0 with
      | true =>
        rw [if_pos rfl, w64 _ (by omega), show (i : Int) + 1 = ((i + 1 : Nat) : Int) from by omega]
        refine within_loop l sp hl (n - 1) k (i + 1) (by omega) (by omega) (by omega) fun j h2 hji => ?_
        by_cases e : j = i
        · subst e; exact h
        · exact hj j h2 (by omega)
      | false =>
        rw [if_neg (by simp), if_pos (by omega), Int.toNat_natCast]
        have e : l.take i = withinE sp l := takeWhile_take _ l i hi hj (fun _ => h)
        rw [e]
        unfold api_Entry.f
        have : (withinE sp l).length ≤ l.length := by rw [← e]; simp; omega
        rw [if_pos (by omega)]
        rfl
    · obtain rfl : i = l.length := by omega
      rw [if_neg (by omega), if_pos (by omega), if_pos (by omega), Int.toNat_natCast]
      have e : l.take l.length = withinE sp l := takeWhile_take _ l _ hi hj (fun h => absurd h (by omega))
      rw [e]
      unfold api_Entry.f
      have : (withinE sp l).length ≤ l.length := by rw [← e]; simp
      rw [if_pos (by omega)]
      rfl
theorem within_says (l : List S37) (sp : S44) (hl : l.length ≤ 5000) (k : Nat) (hk : l.length < k) : batch_Within.f k l sp.f0 sp.f1 sp.f2 = some (withinE sp l) :=
  within_loop l sp hl l.length k 0 rfl (Nat.zero_le _) hk (fun j _ h => absurd h (by omega))

/-- Entries in order, parted by spans. -/
def partsE : List S44 → List S37 → List (List S37)
  | [], _ => []
  | sp :: t, rest => withinE sp (dropLt sp.f0 rest) :: partsE t ((dropLt sp.f0 rest).drop (withinE sp (dropLt sp.f0 rest)).length)
theorem withinE_le (sp : S44) (l : List S37) : (withinE sp l).length ≤ l.length := (List.takeWhile_sublist _).length_le

theorem drop44 (l : List S44) (i : Nat) (h : i < l.length) : l.drop i = rd_T44 l (i : Int) :: l.drop (i + 1) := by
  rw [List.drop_eq_getElem_cons h]
  unfold rd_T44
  simp [h]

theorem parts_loop (l1 : List S44) (hl : l1.length ≤ 5000) : ∀ (k i : Nat) (acc : List (List S37)) (rest : List S37), i ≤ l1.length → acc.length = i → rest.length ≤ 5000 →
    (2 * (l1.length - i) + rest.length + 1 < k → batch_Parts.l0 k acc rest l1 (l1.length : Int) (i : Int) = some (acc ++ partsE (l1.drop i) rest)) ∧
    (i < l1.length → 2 * (l1.length - i) + rest.length < k → batch_Parts.l1 k acc rest l1 (l1.length : Int) (i : Int) (rd_T44 l1 i).f0 (rd_T44 l1 i).f1 (rd_T44 l1 i).f2 = some (acc ++ partsE (l1.drop i) rest))
  | 0, i, acc, rest, hi, ha, hr => ⟨fun h => by omega, fun _ h => by omega⟩
  | k + 1, i, acc, rest, hi, ha, hr => by
    have step : ∀ (rest : List S37), rest.length ≤ 5000 → i < l1.length → 2 * (l1.length - i) + rest.length ≤ k → dropLt (rd_T44 l1 i).f0 rest = rest →
        ((batch_Within.f k rest (rd_T44 l1 i).f0 (rd_T44 l1 i).f1 (rd_T44 l1 i).f2).bind fun t178 => (if acc.length < 5864062014805 then (if 0 ≤ (t178.length : Int) then (if (t178.length : Int) ≤ (rest.length : Int) then (batch_Parts.l0 k (acc ++ [t178]) (rest.drop ((t178.length : Int) : Int).toNat) l1 (l1.length : Int) (wrap64 ((i : Int) + 1))) else (none)) else (none)) else (none))) = some (acc ++ partsE (l1.drop i) rest) := by
      intro rest hr hlt hk2 hd
      have hw := withinE_le (rd_T44 l1 i) rest
      rw [within_says rest (rd_T44 l1 i) hr k (by omega)]
      simp only [Option.bind_some]
      rw [if_pos (by omega), if_pos (by omega), if_pos (by omega), Int.toNat_natCast, w64 _ (by omega), show (i : Int) + 1 = ((i + 1 : Nat) : Int) from by omega,
        (parts_loop l1 hl k (i + 1) (acc ++ [withinE (rd_T44 l1 i) rest]) (rest.drop (withinE (rd_T44 l1 i) rest).length) (by omega) (by simp; omega) (by simp; omega)).1 (by simp; omega), drop44 l1 i hlt, partsE, hd, List.append_assoc]
      rfl
    have two : i < l1.length → 2 * (l1.length - i) + rest.length < k + 1 → batch_Parts.l1 (k + 1) acc rest l1 (l1.length : Int) (i : Int) (rd_T44 l1 i).f0 (rd_T44 l1 i).f1 (rd_T44 l1 i).f2 = some (acc ++ partsE (l1.drop i) rest) := by
      intro hlt hk2
      rw [batch_Parts.l1]
      by_cases c : 0 < rest.length
      · rw [if_pos (by omega), if_pos (by omega)]
        have hD := dropLt_drop (rd_T44 l1 i).f0 rest c
        cases h : Srt.ltB (rd_T37 rest 0).f0 (rd_T44 l1 i).f0 with
        | true =>
          have h2 : Op.bytesLess (rd_T37 rest 0).f0.toList (rd_T44 l1 i).f0.toList = true := h
          rw [if_pos h2, if_pos (by omega)]
          have hl2 : (rest.drop (1 : Int).toNat).length = rest.length - 1 := by simp
          rw [(parts_loop l1 hl k i acc (rest.drop (1 : Int).toNat) hi ha (by omega)).2 hlt (by omega)]
          have e : dropLt (rd_T44 l1 i).f0 (rest.drop (1 : Int).toNat) = dropLt (rd_T44 l1 i).f0 rest := (hD.1 h).symm
          rw [drop44 l1 i hlt, partsE, partsE, e]
        | false =>
          have h2 : Op.bytesLess (rd_T37 rest 0).f0.toList (rd_T44 l1 i).f0.toList = false := h
          rw [if_neg (by rw [h2]; simp)]
          exact step rest hr hlt (by omega) (hD.2 h)
      · rw [if_neg (by omega)]
        exact step rest hr hlt (by omega) (dropLt_nil _ _ (by omega))
    refine ⟨fun hk => ?_, two⟩
    rw [batch_Parts.l0]
    by_cases c : i < l1.length
    · rw [if_pos (by omega), if_pos (by omega), if_pos (by omega)]
      exact (parts_loop l1 hl k i acc rest hi ha hr).2 c (by omega)
    · rw [if_neg (by omega), List.drop_of_length_le (by omega), partsE, List.append_nil]

theorem parts_says (l : List S37) (l1 : List S44) (hl1 : l1.length ≤ 5000) (hl : l.length ≤ 5000) (k : Nat) (hk : 2 * l1.length + l.length + 1 < k) : batch_Parts.f k l l1 = some (partsE l1 (sortE l)) := by
  have hs : (sortE l).length = l.length := by
    have := sortE_length l
    exact this
  unfold batch_Parts.f
  have hS : batch_Sorted.f l = some (sortE l) := by unfold batch_Sorted.f; rw [if_pos (by omega)]
  rw [hS]
  simp only [Option.bind_some]
  have := (parts_loop l1 hl1 k 0 [] (sortE l) (Nat.zero_le _) rfl (by omega)).1 (by omega)
  rw [List.drop_zero, List.nil_append] at this
  exact this

/-! ### entries in order -/
/-- None is less than a text. -/
def From (lo : ByteArray) (l : List S37) : Prop := ∀ x ∈ l, Srt.ltB x.f0 lo = false
theorem dropLt_srt (lo : ByteArray) : ∀ (l : List S37), Srt.Srt ltE l → Srt.Srt ltE (dropLt lo l) ∧ From lo (dropLt lo l)
  | [], h => ⟨h, fun x hx => by cases hx⟩
  | x :: t, h => by
    rw [dropLt]
    cases c : Srt.ltB x.f0 lo with
    | true => rw [if_pos rfl]; exact dropLt_srt lo t (List.pairwise_cons.1 h).2
    | false =>
      rw [if_neg (by simp)]
      refine ⟨h, fun y hy => ?_⟩
      rcases List.mem_cons.1 hy with rfl | hy
      · exact c
      · exact Srt.bl_ntrans _ _ _ ((List.pairwise_cons.1 h).1 y hy) c
theorem dropLt_from {lo : ByteArray} {l : List S37} (h : From lo l) : dropLt lo l = l := by
  cases l with
  | nil => rfl
  | cons x t => rw [dropLt, if_neg (by rw [h x List.mem_cons_self]; simp)]
/-- Cut at the end of a span that begins where the entries begin. -/
theorem within_cut (lo hi : ByteArray) : ∀ (l : List S37), Srt.Srt ltE l → From lo l →
    l = withinE ⟨lo, hi, false⟩ l ++ l.drop (withinE ⟨lo, hi, false⟩ l).length ∧ Srt.Srt ltE (l.drop (withinE ⟨lo, hi, false⟩ l).length) ∧ From hi (l.drop (withinE ⟨lo, hi, false⟩ l).length)
  | [], h, _ => ⟨rfl, h, fun x hx => by cases hx⟩
  | x :: t, h, hf => by
    have hx : hasE lo hi false x.f0 = Srt.ltB x.f0 hi := by unfold hasE; rw [hf x List.mem_cons_self]; rfl
    cases c : Srt.ltB x.f0 hi with
    | true =>
      have e : withinE ⟨lo, hi, false⟩ (x :: t) = x :: withinE ⟨lo, hi, false⟩ t := by
        unfold withinE; rw [List.takeWhile_cons, if_pos (by rw [hx, c])]
      have ih := within_cut lo hi t (List.pairwise_cons.1 h).2 (fun y hy => hf y (List.mem_cons_of_mem _ hy))
      rw [e, List.length_cons, List.drop_succ_cons, List.cons_append, ← ih.1]
      exact ⟨rfl, ih.2.1, ih.2.2⟩
    | false =>
      have e : withinE ⟨lo, hi, false⟩ (x :: t) = [] := by
        unfold withinE; rw [List.takeWhile_cons, if_neg (by rw [hx, c]; simp)]
      rw [e]
      refine ⟨rfl, h, fun y hy => ?_⟩
      rcases List.mem_cons.1 (show y ∈ x :: t from hy) with rfl | hy
      · exact c
      · exact Srt.bl_ntrans _ _ _ ((List.pairwise_cons.1 h).1 y hy) c
theorem within_all (lo hi : ByteArray) : ∀ (l : List S37), From lo l → withinE ⟨lo, hi, true⟩ l = l
  | [], _ => rfl
  | x :: t, hf => by
    have hx : hasE lo hi true x.f0 = true := by unfold hasE; rw [hf x List.mem_cons_self]; rfl
    unfold withinE
    rw [List.takeWhile_cons, if_pos hx]
    congr 1
    exact within_all lo hi t (fun y hy => hf y (List.mem_cons_of_mem _ hy))

/-- THE LAW BatchParts. -/
theorem BatchParts_pure (l : List S94) (lo mid high : ByteArray) (h : partsBad l lo mid high = false) :
    ∃ p0 p1 p2 : List S37, batch_Parts.f 6000 (l.map conv) (spansOf lo mid high) = some [p0, p1, p2] ∧ p0 ++ (p1 ++ p2) = dropLt lo (sortE (l.map conv)) := by
  have h70 : l.length ≤ 70 := by
    unfold partsBad fewB at h
    simp only [Bool.or_eq_false_iff, Bool.not_eq_false', Bool.and_eq_true, decide_eq_true_eq] at h
    exact h.1.1.1.1.1.1
  have hm : (l.map conv).length = l.length := by rw [List.length_map]
  have hp := parts_says (l.map conv) (spansOf lo mid high) (by show 3 ≤ 5000; omega) (by omega) 6000 (by show 2 * 3 + _ + 1 < 6000; omega)
  obtain ⟨s0, f0⟩ := dropLt_srt lo _ (sortE_srt (l.map conv))
  generalize hr : dropLt lo (sortE (l.map conv)) = r at *
  obtain ⟨e1, s1, f1⟩ := within_cut lo mid r s0 f0
  obtain ⟨e2, s2, f2⟩ := within_cut mid high _ s1 f1
  have e3 := within_all high ⟨#[]⟩ _ f2
  let q1 := r.drop (withinE ⟨lo, mid, false⟩ r).length
  let q2 := q1.drop (withinE ⟨mid, high, false⟩ q1).length
  refine ⟨withinE ⟨lo, mid, false⟩ r, withinE ⟨mid, high, false⟩ q1, withinE ⟨high, ⟨#[]⟩, true⟩ q2, hp.trans ?_, ?_⟩
  · have a1 : dropLt mid q1 = q1 := dropLt_from f1
    have a2 : dropLt high q2 = q2 := dropLt_from f2
    show some [withinE ⟨lo, mid, false⟩ (dropLt lo (sortE (l.map conv))), withinE ⟨mid, high, false⟩ (dropLt mid ((dropLt lo (sortE (l.map conv))).drop (withinE ⟨lo, mid, false⟩ (dropLt lo (sortE (l.map conv)))).length)),
      withinE ⟨high, ⟨#[]⟩, true⟩ (dropLt high ((dropLt mid ((dropLt lo (sortE (l.map conv))).drop (withinE ⟨lo, mid, false⟩ (dropLt lo (sortE (l.map conv)))).length)).drop (withinE ⟨mid, high, false⟩ (dropLt mid ((dropLt lo (sortE (l.map conv))).drop (withinE ⟨lo, mid, false⟩ (dropLt lo (sortE (l.map conv)))).length))).length))] = _
    rw [hr]
    show some [_, withinE _ (dropLt mid q1), withinE _ (dropLt high ((dropLt mid q1).drop (withinE _ (dropLt mid q1)).length))] = _
    rw [a1]
    show some [_, _, withinE _ (dropLt high q2)] = _
    rw [a2]
  · rw [show withinE ⟨high, ⟨#[]⟩, true⟩ q2 = q2 from e3, ← e2, ← e1]
end Go.Proofs.Ytgnnhomipfjanaa.PA
