/- What the functions of chapter 9 answer, over lists alone. -/
import Derived.Test.YtgnnhomipfjanaaPAx5
import Derived.Test.YtgnnhomipfjanaaRefCheck
import Derived.Test.YtgnnhomipfjanaaSorted
namespace Go.Proofs.Ytgnnhomipfjanaa.PA
open Go Go.Proofs Go.RowKit Go.Proofs.YtgnnhomipfjanaaW.PrintWords Go.Proofs.YtgnnhomipfjanaaW.PrintLast Go.Proofs.YtgnnhomipfjanaaW.PrintMore

theorem w64 (n : Int) (h : -9223372036854775808 ≤ n ∧ n ≤ 9223372036854775807) : wrap64 n = n := IntWalk.wrap64_in n h
theorem toList_nil_iff (a : ByteArray) : (a.toList == ([] : List UInt8)) = decide (a.size = 0) := by
  rw [ByteArray.toList_eq, Bool.eq_iff_iff, beq_iff_eq, decide_eq_true_iff]
  constructor
  · intro h; have := congrArg List.length h; simpa using this
  · intro h; exact List.length_eq_zero_iff.1 (by simpa using h)
theorem toList_inj {a b : ByteArray} (h : a.toList = b.toList) : a = b := by
  rw [ByteArray.toList_eq, ByteArray.toList_eq] at h
  cases a; cases b; congr 1; exact Array.toList_inj.1 h

/-- An entry, as the program has it. -/
def conv (x : S94) : S37 := ⟨x.f0, x.f1, x.f2⟩
def ltR (x y : S94) : Bool := Srt.ltB x.f0 y.f0
theorem swoR : Go.Sort.SWO ltR where
  irrefl _ := Srt.bl_irrefl _
  trans _ _ _ := Srt.bl_trans _ _ _
  ntrans _ _ _ := Srt.bl_ntrans _ _ _
theorem lt_conv (x y : S94) : ltE (conv x) (conv y) = ltR x y := rfl
theorem eqv_conv (x y : S94) : Srt.eqv ltE (conv x) (conv y) = Srt.eqv ltR x y := rfl
theorem eqvE_iff (x y : S37) : Srt.eqv ltE x y = true ↔ x.f0 = y.f0 := by
  rw [Srt.eqv_iff]
  constructor
  · rintro ⟨h1, h2⟩; exact toList_inj (Srt.bl_total _ _ h1 h2)
  · intro h
    show Srt.ltB x.f0 y.f0 = false ∧ Srt.ltB y.f0 x.f0 = false
    rw [h]; exact ⟨Srt.bl_irrefl _, Srt.bl_irrefl _⟩

/-! ### the document's sort -/
theorem insK_spec (x : S94) (out : List S94) : ∀ k, (∀ j, insK x out k ≤ j → j < k → Srt.ltB x.f0 (out.getD j z94).f0 = true) ∧ (0 < insK x out k → Srt.ltB x.f0 (out.getD (insK x out k - 1) z94).f0 = false)
  | 0 => ⟨fun j h1 h2 => by omega, fun h => by simp [insK] at h⟩
  | k + 1 => by
    have ih := insK_spec x out k
    rw [insK]
    cases hc : Srt.ltB x.f0 (out.getD k z94).f0 with
    | true =>
      rw [if_pos rfl]
      refine ⟨fun j h1 h2 => ?_, ih.2⟩
      by_cases e : j = k
      · rw [e]; exact hc
      · exact ih.1 j h1 (by omega)
    | false =>
      rw [if_neg (by simp)]
      exact ⟨fun j h1 h2 => by omega, fun _ => by rw [Nat.add_sub_cancel]; exact hc⟩

theorem getD_take (l : List S94) {i j : Nat} (h : j < i) (h2 : i ≤ l.length) : (l.take i)[j]? = some (l.getD j z94) := by
  rw [List.getElem?_take_of_lt h, List.getElem?_eq_getElem (by omega)]
  simp [show j < l.length by omega]

theorem insE_says {out : List S94} (h : Srt.Srt ltR out) (x : S94) : Srt.Srt ltR (insE out x) ∧ Srt.Same ltR (out ++ [x]) (insE out x) := by
  have hs := insK_spec x out out.length
  have hle := insK_le x out out.length
  unfold insE
  generalize insK x out out.length = k at hs hle
  have hd : ∀ y ∈ out.drop k, ltR x y = true := fun y hy => by
    obtain ⟨j, hj, rfl⟩ := List.mem_iff_getElem.1 hy
    rw [List.length_drop] at hj
    have := hs.1 (k + j) (by omega) (by omega)
    rw [List.getD_eq_getElem?_getD, List.getElem?_eq_getElem (by omega)] at this
    simpa [ltR] using this
  have hsplit : out = out.take k ++ out.drop k := (List.take_append_drop k out).symm
  have hp : List.Pairwise (fun x y => ltR y x = false) (out.take k ++ out.drop k) := by rw [← hsplit]; exact h
  rw [List.pairwise_append] at hp
  have ht : ∀ y ∈ out.take k, ltR x y = false := fun y hy => by
    obtain ⟨j, hj, rfl⟩ := List.mem_iff_getElem.1 hy
    rw [List.length_take] at hj
    have h0 := hs.2 (by omega)
    have hk1 : k - 1 < out.length := by omega
    rw [List.getD_eq_getElem?_getD, List.getElem?_eq_getElem hk1] at h0
    have h0' : ltR x out[k - 1] = false := h0
    rw [List.getElem_take]
    by_cases e : j = k - 1
    · subst e; exact h0'
    · have := List.pairwise_iff_getElem.1 h j (k - 1) (by omega) hk1 (by omega)
      exact Srt.le_le swoR this h0'
  refine ⟨?_, ?_⟩
  · unfold Srt.Srt
    rw [List.pairwise_append, List.pairwise_append]
    refine ⟨⟨hp.1, List.pairwise_singleton _ _, fun a ha b hb => ?_⟩, hp.2.1, fun a ha b hb => ?_⟩
    · rw [List.mem_singleton.1 hb]; exact ht a ha
    · rcases List.mem_append.1 ha with ha | ha
      · exact hp.2.2 a ha b hb
      · rw [List.mem_singleton.1 ha]; exact Srt.lt_asymm swoR (hd b hb)
  · conv => lhs; rw [hsplit]
    rw [List.append_assoc, List.append_assoc]
    refine (Srt.Same.refl _).app (Srt.same_swap swoR ?_)
    intro a ha b hb
    rw [List.mem_singleton.1 hb]
    exact hd a ha

theorem foldl_says : ∀ (l acc : List S94), Srt.Srt ltR acc → Srt.Srt ltR (l.foldl insE acc) ∧ Srt.Same ltR (acc ++ l) (l.foldl insE acc)
  | [], acc, h => ⟨h, by rw [List.append_nil]; exact Srt.Same.refl _⟩
  | x :: l, acc, h => by
    have h1 := insE_says h x
    have h2 := foldl_says l (insE acc x) h1.1
    refine ⟨h2.1, Srt.Same.trans ?_ h2.2⟩
    rw [show acc ++ x :: l = (acc ++ [x]) ++ l from by simp]
    exact h1.2.app (Srt.Same.refl _)
theorem rsE_says (l : List S94) : Srt.Srt ltR (rsE l) ∧ Srt.Same ltR l (rsE l) := foldl_says l [] List.Pairwise.nil

theorem filter_conv (l : List S94) (x : S37) : (l.map conv).filter (Srt.eqv ltE x) = (l.filter (Srt.eqv ltR ⟨x.f0, x.f1, x.f2⟩)).map conv := by
  rw [List.filter_map]; rfl
/-- THE TWO SORTS ARE ONE. -/
theorem sort_is (l : List S94) : sortE (l.map conv) = (rsE l).map conv := by
  have h := rsE_says l
  refine (Srt.srt_unique swoE _ _ ?_ (sortE_srt _) (Srt.Same.trans (b := l.map conv) ?_ (sortE_same _))).symm
  · have := h.1
    unfold Srt.Srt at *
    rw [List.pairwise_map]
    exact this
  · intro x
    rw [filter_conv, filter_conv, h.2]

/-! ### small loops -/
def fewB (l : List S94) : Bool := decide (l.length ≤ 70) && l.all fun x => decide (x.f0.size ≤ 40) && decide (x.f1.size ≤ 40)

theorem rd94 (l : List S94) (i : Nat) : rd_T94 l (i : Int) = l.getD i z94 := rfl
theorem rd37 (l : List S37) (i : Nat) : rd_T37 l (i : Int) = l.getD i z37 := rfl
theorem rd94_at (l : List S94) (i : Nat) (h : i < l.length) : rd_T94 l (i : Int) = l[i] := by rw [rd94]; simp [h]
theorem rd37_at (l : List S37) (i : Nat) (h : i < l.length) : rd_T37 l (i : Int) = l[i] := by rw [rd37]; simp [h]

theorem few_loop (l : List S94) (hl : l.length ≤ 70) : ∀ (n k i : Nat), l.length - i = n → i ≤ l.length → n < k →
    rundlelaw08_Few.l0 k l (i : Int) = some (if ((l.drop i).all fun x => decide (x.f0.size ≤ 40) && decide (x.f1.size ≤ 40)) = true then 1 else 0)
  | n, 0, i, _, _, h => by omega
  | 0, k + 1, i, hn, hi, hk => by
    simp only [rundlelaw08_Few.l0]
    rw [if_neg (by omega), List.drop_of_length_le (by omega)]; rfl
  | n + 1, k + 1, i, hn, hi, hk => by
    have hlt : i < l.length := by omega
    simp only [rundlelaw08_Few.l0]
    rw [if_pos (by omega), if_pos (by omega), rd94_at l i hlt, w64 _ (by omega), show ((i : Int) + 1) = ((i + 1 : Nat) : Int) from by omega, few_loop l hl n k (i + 1) (by omega) (by omega) (by omega), List.drop_eq_getElem_cons hlt, List.all_cons]
    by_cases c1 : l[i].f0.size ≤ 40
    · by_cases c2 : l[i].f1.size ≤ 40
      · rw [if_neg (by omega), if_neg (by omega), decide_eq_true c1, decide_eq_true c2]; rfl
      · rw [if_neg (by omega), if_pos (by omega), decide_eq_false c2]; simp
    · rw [if_pos (by omega), decide_eq_false c1]; rfl

theorem few_says (l : List S94) (k : Nat) (hk : 71 < k) : rundlelaw08_Few.f k l = some (if fewB l = true then 1 else 0) := by
  unfold rundlelaw08_Few.f fewB
  by_cases h : l.length ≤ 70
  · rw [if_neg (by omega), show (0 : Int) = ((0 : Nat) : Int) from rfl, few_loop l h l.length k 0 (by omega) (by omega) (by omega), decide_eq_true h]; rfl
  · rw [if_pos (by omega), decide_eq_false h]; rfl

theorem of_loop (l : List S94) (hl : l.length ≤ 70) : ∀ (n k i : Nat), l.length - i = n → i ≤ l.length → n < k →
    rundlelaw08_Of.l0 k l ((l.take i).map conv) (i : Int) = some (l.map conv)
  | n, 0, i, _, _, h => by omega
  | 0, k + 1, i, hn, hi, hk => by
    simp only [rundlelaw08_Of.l0]
    rw [if_neg (by omega), List.take_of_length_le (by omega)]
  | n + 1, k + 1, i, hn, hi, hk => by
    have hlt : i < l.length := by omega
    simp only [rundlelaw08_Of.l0]
    have e : (l.take (i + 1)).map conv = (l.take i).map conv ++ [(⟨(rd_T94 l (i : Int)).f0, (rd_T94 l (i : Int)).f1, (rd_T94 l (i : Int)).f2⟩ : S37)] := by
      rw [List.take_succ_eq_append_getElem hlt, List.map_append, rd94_at l i hlt]; rfl
    rw [if_pos (by omega), if_pos (by omega), if_pos (by rw [List.length_map, List.length_take]; omega), ← e, w64 _ (by omega), show ((i : Int) + 1) = ((i + 1 : Nat) : Int) from by omega]
    exact of_loop l hl n k (i + 1) (by omega) (by omega) (by omega)

theorem of_says (l : List S94) (hl : l.length ≤ 70) (k : Nat) (hk : 71 < k) : rundlelaw08_Of.f k l = some (l.map conv) := by
  unfold rundlelaw08_Of.f
  exact of_loop l hl l.length k 0 (by omega) (by omega) (by omega)

theorem same_loop (l : List S94) (hl : l.length ≤ 5000) : ∀ (n k i : Nat), l.length - i = n → i ≤ l.length → n < k →
    rundlelaw09_Same.l0 k (l.map conv) l (i : Int) = some 1
  | n, 0, i, _, _, h => by omega
  | 0, k + 1, i, hn, hi, hk => by
    simp only [rundlelaw09_Same.l0]
    rw [if_neg (by rw [List.length_map]; omega)]
  | n + 1, k + 1, i, hn, hi, hk => by
    have hlt : i < l.length := by omega
    simp only [rundlelaw09_Same.l0]
    have e : rd_T37 (l.map conv) (i : Int) = conv l[i] := by rw [rd37_at _ i (by rw [List.length_map]; exact hlt)]; simp
    rw [if_pos (by rw [List.length_map]; omega), if_pos (by omega), if_pos (by omega), e, rd94_at l i hlt, if_pos (show (conv l[i]).f0.toList = l[i].f0.toList from rfl), if_pos (show (conv l[i]).f1.toList = l[i].f1.toList from rfl), if_neg (show ¬ ((conv l[i]).f2 != l[i].f2) = true from by show ¬ (l[i].f2 != l[i].f2) = true; simp), w64 _ (by omega), show ((i : Int) + 1) = ((i + 1 : Nat) : Int) from by omega]
    exact same_loop l hl n k (i + 1) (by omega) (by omega) (by omega)
theorem same_says (l : List S94) (hl : l.length ≤ 5000) (k : Nat) (hk : l.length < k) : rundlelaw09_Same.f k (l.map conv) l = some 1 := by
  unfold rundlelaw09_Same.f
  rw [if_pos (by rw [List.length_map])]
  exact same_loop l hl l.length k 0 (by omega) (by omega) hk

/-! ### what may be a batch -/
def okE (x : S37) : Bool := decide (1 ≤ x.f0.size) && decide (x.f0.size ≤ 1024) && decide (x.f1.size ≤ 65536) && (!x.f2 || decide (x.f1.size = 0))
theorem entry_says (x : S37) : batch_entry.f x.f0 x.f1 x.f2 = some (okE x) := by
  unfold batch_entry.f key_Right.f key_Fits.f okE
  rw [toList_nil_iff]
  by_cases c1 : 1 ≤ x.f0.size
  · rw [if_pos (by omega), decide_eq_true c1]
    by_cases c2 : x.f0.size ≤ 1024
    · rw [decide_eq_true c2, decide_eq_true (show (x.f0.size : Int) ≤ 1024 by omega)]
      by_cases c3 : x.f1.size ≤ 65536
      · rw [decide_eq_true c3, decide_eq_true (show (x.f1.size : Int) ≤ 65536 by omega)]
        cases x.f2 <;> rfl
      · rw [decide_eq_false c3, decide_eq_false (show ¬ (x.f1.size : Int) ≤ 65536 by omega)]; rfl
    · rw [decide_eq_false c2, decide_eq_false (show ¬ (x.f0.size : Int) ≤ 1024 by omega)]; rfl
  · rw [if_neg (by omega), decide_eq_false c1]; rfl
theorem ok_conv (x : S94) : okE (conv x) = !badE x := by
  unfold okE badE conv
  by_cases c1 : x.f0.size = 0
  · rw [decide_eq_true c1, decide_eq_false (show ¬ 1 ≤ x.f0.size by omega)]; rfl
  · rw [decide_eq_false c1, decide_eq_true (show 1 ≤ x.f0.size by omega)]
    by_cases c2 : x.f0.size ≤ 1024
    · rw [decide_eq_true c2, decide_eq_false (show ¬ 1024 < x.f0.size by omega)]
      by_cases c3 : x.f1.size ≤ 65536
      · rw [decide_eq_true c3, decide_eq_false (show ¬ 65536 < x.f1.size by omega)]
        by_cases c4 : x.f1.size = 0
        · rw [decide_eq_true c4, decide_eq_false (show ¬ 0 < x.f1.size by omega)]; cases x.f2 <;> rfl
        · rw [decide_eq_false c4, decide_eq_true (show 0 < x.f1.size by omega)]; cases x.f2 <;> rfl
      · rw [decide_eq_false c3, decide_eq_true (show 65536 < x.f1.size by omega)]; cases x.f2 <;> rfl
    · rw [decide_eq_false c2, decide_eq_true (show 1024 < x.f0.size by omega)]; rfl

/-- No key stands twice. -/
def Lone (l : List S37) : Prop := l.Pairwise (fun x y => x.f0 ≠ y.f0)
theorem lone_iff (l : List S37) : Lone l ↔ ∀ x, (l.filter (Srt.eqv ltE x)).length ≤ 1 := by
  induction l with
  | nil => exact ⟨fun _ x => by simp, fun _ => List.Pairwise.nil⟩
  | cons y l ih =>
    unfold Lone at *
    rw [List.pairwise_cons, ih]
    constructor
    · rintro ⟨h1, h2⟩ x
      by_cases hx : Srt.eqv ltE x y = true
      · rw [List.filter_cons_of_pos hx]
        have : l.filter (Srt.eqv ltE x) = [] := by
          rw [List.filter_eq_nil_iff]
          intro z hz hxz
          exact h1 z hz (((eqvE_iff x y).1 hx).symm.trans ((eqvE_iff x z).1 hxz))
        rw [this]; simp
      · rw [List.filter_cons_of_neg hx]; exact h2 x
    · intro h
      refine ⟨fun z hz e => ?_, fun x => ?_⟩
      · have := h y
        rw [List.filter_cons_of_pos (Srt.eqv_self swoE y), List.length_cons] at this
        have hm : z ∈ l.filter (Srt.eqv ltE y) := List.mem_filter.2 ⟨hz, (eqvE_iff y z).2 e⟩
        have hp := List.length_pos_of_mem hm
        omega
      · have := h x
        by_cases hx : Srt.eqv ltE x y = true
        · rw [List.filter_cons_of_pos hx, List.length_cons] at this; omega
        · rw [List.filter_cons_of_neg hx] at this; exact this

/-- Is it a batch? -/
def Good (l : List S37) : Prop := 1 ≤ l.length ∧ l.length ≤ 4096 ∧ (∀ x ∈ l, okE x = true) ∧ Lone l

theorem lone_sort (l : List S37) : Lone (sortE l) ↔ Lone l := by
  rw [lone_iff, lone_iff]
  have := sortE_same l
  exact ⟨fun h x => by rw [this x]; exact h x, fun h x => by rw [← this x]; exact h x⟩
theorem good_sort (l : List S37) : Good (sortE l) ↔ Good l := by
  unfold Good
  rw [sortE_length, lone_sort]
  have := fun x => (sortE_same l).mem swoE x
  exact ⟨fun ⟨a, b, c, d⟩ => ⟨a, b, fun x hx => c x ((this x).1 hx), d⟩, fun ⟨a, b, c, d⟩ => ⟨a, b, fun x hx => c x ((this x).2 hx), d⟩⟩

/-- In entries in order: no neighbours of one key just if no key stands twice. -/
theorem lone_adj {l : List S37} (h : Srt.Srt ltE l) : Lone l ↔ ∀ j, j + 1 < l.length → (l.getD j z37).f0 ≠ (l.getD (j + 1) z37).f0 := by
  have g : ∀ j (hj : j < l.length), l.getD j z37 = l[j] := fun j hj => by simp [hj]
  constructor
  · intro hL j hj
    rw [g j (by omega), g (j + 1) hj]
    exact List.pairwise_iff_getElem.1 hL j (j + 1) (by omega) hj (by omega)
  · intro hA
    unfold Lone
    rw [List.pairwise_iff_getElem]
    have lt1 : ∀ j (hj : j + 1 < l.length), ltE l[j] l[j + 1] = true := fun j hj => by
      have h1 := List.pairwise_iff_getElem.1 h j (j + 1) (by omega) hj (by omega)
      have h2 := hA j hj
      rw [g j (by omega), g (j + 1) hj] at h2
      cases h3 : ltE l[j] l[j + 1] with
      | true => rfl
      | false => exact absurd (toList_inj (Srt.bl_total _ _ h3 h1)) h2
    have lt2 : ∀ d i (hj : i + d + 1 < l.length), ltE l[i] l[i + d + 1] = true := fun d => by
      induction d with
      | zero => exact fun i hj => lt1 i hj
      | succ d ih => exact fun i hj => swoE.trans _ _ _ (ih i (by omega)) (lt1 (i + d + 1) hj)
    intro i j hi hj hij e
    obtain ⟨d, rfl⟩ : ∃ d, j = i + d + 1 := ⟨j - i - 1, by omega⟩
    have := lt2 d i hj
    have h4 : ltE l[i] l[i + d + 1] = false := by
      show Srt.ltB _ _ = false
      rw [e]; exact Srt.bl_irrefl _
    rw [h4] at this; cases this

open Classical in
theorem check_loop (s : List S37) (hl : s.length ≤ 4096) : ∀ (n k i : Nat), s.length - i = n → i ≤ s.length → n < k →
    batch_Check.l0 k s s (s.length : Int) (i : Int) = some (if ∀ j, i ≤ j → j < s.length → okE (s.getD j z37) = true ∧ (0 < j → (s.getD (j - 1) z37).f0 ≠ (s.getD j z37).f0) then 0 else 1)
  | n, 0, i, _, _, h => by omega
  | 0, k + 1, i, hn, hi, hk => by
    simp only [batch_Check.l0]
    rw [if_neg (by omega), if_pos (fun j h1 h2 => by omega)]
  | n + 1, k + 1, i, hn, hi, hk => by
    have hlt : i < s.length := by omega
    simp only [batch_Check.l0]
    rw [if_pos (by omega), if_pos (by omega), if_pos (by omega), rd37, entry_says]
    simp only [Option.bind_some]
    have next := check_loop s hl n k (i + 1) (by omega) (by omega) (by omega)
    have here : ∀ (p : Prop) [Decidable p], (okE (s.getD i z37) = true ∧ (0 < i → (s.getD (i - 1) z37).f0 ≠ (s.getD i z37).f0) ↔ p) → p →
        (if ∀ j, i + 1 ≤ j → j < s.length → okE (s.getD j z37) = true ∧ (0 < j → (s.getD (j - 1) z37).f0 ≠ (s.getD j z37).f0) then (0 : Int) else 1) = if ∀ j, i ≤ j → j < s.length → okE (s.getD j z37) = true ∧ (0 < j → (s.getD (j - 1) z37).f0 ≠ (s.getD j z37).f0) then 0 else 1 := fun p _ hp h => by
      by_cases c : ∀ j, i + 1 ≤ j → j < s.length → okE (s.getD j z37) = true ∧ (0 < j → (s.getD (j - 1) z37).f0 ≠ (s.getD j z37).f0)
      · rw [if_pos c, if_pos fun j h1 h2 => by
          by_cases e : j = i
          · subst e; exact hp.2 h
          · exact c j (by omega) h2]
      · rw [if_neg c, if_neg fun c' => c fun j h1 h2 => c' j (by omega) h2]
    by_cases c1 : okE (s.getD i z37) = true
    · rw [if_pos c1]
      by_cases c2 : 0 < i
      · have ei : ((i : Int) - 1) = ((i - 1 : Nat) : Int) := by omega
        rw [if_pos (by omega), w64 ((i : Int) - 1) (by omega), ei, if_pos (by omega), if_pos (by omega), rd37]
        by_cases c3 : (s.getD (i - 1) z37).f0 = (s.getD i z37).f0
        · rw [if_pos (by rw [c3]), if_neg fun h => ((h i (Nat.le_refl _) hlt).2 c2) c3]
        · rw [if_neg fun h => c3 (toList_inj h), w64 _ (by omega), show ((i : Int) + 1) = ((i + 1 : Nat) : Int) from by omega, next, here True ⟨fun _ => trivial, fun _ => ⟨c1, fun _ => c3⟩⟩ trivial]
      · rw [if_neg (by omega), w64 _ (by omega), show ((i : Int) + 1) = ((i + 1 : Nat) : Int) from by omega, next, here True ⟨fun _ => trivial, fun _ => ⟨c1, fun h => absurd h c2⟩⟩ trivial]
    · rw [if_neg c1, if_neg fun h => c1 (h i (Nat.le_refl _) hlt).1]

open Classical in
theorem check_says (l : List S37) (k : Nat) (hk : 5000 < k) (hl : l.length < 3518437208883) : batch_Check.f k l = some (if Good l then 0 else 1) := by
  obtain ⟨k, rfl⟩ : ∃ k', k = k' + 1 := ⟨k - 1, by omega⟩
  have j0t : batch_Check.j0 (k + 1) l true = some 1 := by simp only [batch_Check.j0]; rw [if_pos trivial]
  unfold batch_Check.f
  by_cases c1 : l.length < 1
  · rw [if_pos (by omega), j0t, if_neg fun h => by have := h.1; omega]
  rw [if_neg (by omega)]
  by_cases c2 : 4096 < l.length
  · rw [decide_eq_true (show (l.length : Int) > 4096 by omega), j0t, if_neg fun h => by have := h.2.1; omega]
  rw [decide_eq_false (show ¬ (l.length : Int) > 4096 by omega)]
  simp only [batch_Check.j0]
  rw [if_neg (by simp)]
  unfold batch_Sorted.f
  rw [if_pos hl]
  simp only [Option.bind_some]
  have hsl := sortE_length l
  rw [show (0 : Int) = ((0 : Nat) : Int) from rfl, check_loop (sortE l) (by omega) _ k 0 rfl (by omega) (by omega)]
  congr 1
  have e : (∀ j, 0 ≤ j → j < (sortE l).length → okE ((sortE l).getD j z37) = true ∧ (0 < j → ((sortE l).getD (j - 1) z37).f0 ≠ ((sortE l).getD j z37).f0)) ↔ Good l := by
    rw [← good_sort]
    unfold Good
    rw [lone_adj (sortE_srt l), hsl]
    constructor
    · intro h
      refine ⟨by omega, by omega, fun x hx => ?_, fun j hj => ?_⟩
      · obtain ⟨j, hj, rfl⟩ := List.mem_iff_getElem.1 hx
        have := (h j (Nat.zero_le _) (by omega)).1
        simpa [hj] using this
      · have := (h (j + 1) (Nat.zero_le _) hj).2 (by omega)
        rw [Nat.add_sub_cancel] at this
        exact this
    · rintro ⟨_, _, h3, h4⟩ j _ hj
      refine ⟨h3 _ ?_, fun h0 => ?_⟩
      · have : j < (sortE l).length := by omega
        rw [List.getD_eq_getElem?_getD, List.getElem?_eq_getElem this]
        exact List.getElem_mem this
      · have := h4 (j - 1) (by omega)
        rw [show j - 1 + 1 = j from by omega] at this
        exact this
  by_cases g : Good l
  · rw [if_pos (e.2 g), if_pos g]; rfl
  · rw [if_neg fun h => g (e.1 h), if_neg g]

/-! ### the document's check -/
theorem find_none (k : ByteArray) : ∀ (l : List S94) (i : Nat), 0 ≤ findI k l i ↔ ∃ x ∈ l, x.f0 = k
  | [], i => by simp [findI]
  | x :: l, i => by
    rw [findI]
    by_cases c : x.f0.toList == k.toList
    · rw [if_pos c]
      exact ⟨fun _ => ⟨x, List.mem_cons_self, toList_inj (beq_iff_eq.1 c)⟩, fun _ => by omega⟩
    · rw [if_neg c, find_none k l (i + 1)]
      constructor
      · rintro ⟨y, hy, e⟩; exact ⟨y, List.mem_cons_of_mem _ hy, e⟩
      · rintro ⟨y, hy, e⟩
        rcases List.mem_cons.1 hy with rfl | hy
        · exact absurd (by rw [e]; simp) c
        · exact ⟨y, hy, e⟩

open Classical in
theorem chk_says (l : List S94) : ∀ n, n ≤ l.length → chkE l n = if ∀ j, l.length - n ≤ j → j < l.length → badE (l.getD j z94) = false ∧ ∀ i, i < j → (l.getD i z94).f0 ≠ (l.getD j z94).f0 then 0 else 1
  | 0, h => by rw [chkE, if_pos fun j h1 h2 => by omega]
  | n + 1, h => by
    rw [chkE]
    generalize hi : l.length - (n + 1) = i
    have hlt : i < l.length := by omega
    have ih := chk_says l n (by omega)
    rw [show l.length - n = i + 1 from by omega] at ih
    by_cases c1 : badE (l.getD i z94) = true
    · rw [if_pos c1, if_neg fun hh => by have := (hh i (by omega) hlt).1; rw [c1] at this; cases this]
    have c1' : badE (l.getD i z94) = false := by simpa using c1
    rw [if_neg c1]
    have ef : 0 ≤ findI (l.getD i z94).f0 (l.take i) 0 ↔ ∃ j, j < i ∧ (l.getD j z94).f0 = (l.getD i z94).f0 := by
      rw [find_none]
      constructor
      · rintro ⟨x, hx, e⟩
        obtain ⟨j, hj, rfl⟩ := List.mem_iff_getElem.1 hx
        rw [List.length_take] at hj
        refine ⟨j, by omega, ?_⟩
        rw [List.getElem_take] at e
        rw [← e]; simp [show j < l.length by omega]
      · rintro ⟨j, hj, e⟩
        refine ⟨l.getD j z94, ?_, e⟩
        have := getD_take l hj (by omega)
        exact List.mem_of_getElem? this
    by_cases c2 : 0 ≤ findI (l.getD i z94).f0 (l.take i) 0
    · rw [if_pos c2]
      obtain ⟨j, hj, e⟩ := ef.1 c2
      rw [if_neg fun hh => (hh i (by omega) hlt).2 j hj e]
    · rw [if_neg c2, ih]
      have c3 : ∀ j, j < i → (l.getD j z94).f0 ≠ (l.getD i z94).f0 := fun j hj e => c2 (ef.2 ⟨j, hj, e⟩)
      by_cases c : ∀ j, i + 1 ≤ j → j < l.length → badE (l.getD j z94) = false ∧ ∀ i, i < j → (l.getD i z94).f0 ≠ (l.getD j z94).f0
      · rw [if_pos c, if_pos fun j h1 h2 => by
          by_cases e : j = i
          · subst e; exact ⟨c1', c3⟩
          · exact c j (by omega) h2]
      · rw [if_neg c, if_neg fun c' => c fun j h1 h2 => c' j (by omega) h2]

open Classical in
theorem refCheck_says (l : List S94) : refCheckE l = if Good (l.map conv) then 0 else 1 := by
  unfold refCheckE
  by_cases c : l.length = 0 ∨ 4096 < l.length
  · rw [if_pos c, if_neg]
    rintro ⟨h1, h2, _⟩
    rw [List.length_map] at h1 h2
    omega
  rw [if_neg c, chk_says l l.length (Nat.le_refl _)]
  have e : (∀ j, l.length - l.length ≤ j → j < l.length → badE (l.getD j z94) = false ∧ ∀ i, i < j → (l.getD i z94).f0 ≠ (l.getD j z94).f0) ↔ Good (l.map conv) := by
    unfold Good Lone
    rw [List.length_map, List.pairwise_map, List.pairwise_iff_getElem]
    have g : ∀ j (hj : j < l.length), l.getD j z94 = l[j] := fun j hj => by simp [hj]
    constructor
    · intro h
      refine ⟨by omega, by omega, fun x hx => ?_, fun i j hi hj hij => ?_⟩
      · obtain ⟨y, hy, rfl⟩ := List.mem_map.1 hx
        obtain ⟨j, hj, rfl⟩ := List.mem_iff_getElem.1 hy
        have := (h j (by omega) hj).1
        rw [g j hj] at this
        rw [ok_conv, this]; rfl
      · have := (h j (by omega) hj).2 i hij
        rw [g i hi, g j hj] at this
        exact this
    · rintro ⟨_, _, h3, h4⟩ j _ hj
      rw [g j hj]
      refine ⟨?_, fun i hi => ?_⟩
      · have := h3 (conv l[j]) (List.mem_map.2 ⟨_, List.getElem_mem hj, rfl⟩)
        rw [ok_conv] at this
        simpa using this
      · rw [g i (by omega)]
        exact h4 i j (by omega) hj hi
  by_cases g : Good (l.map conv)
  · rw [if_pos (e.2 g), if_pos g]
  · rw [if_neg fun h => g (e.1 h), if_neg g]

theorem good_one : Good [(⟨(⟨#[97]⟩ : ByteArray), (⟨#[]⟩ : ByteArray), false⟩ : S37)] :=
  ⟨by decide, by decide, fun x hx => by rw [List.mem_singleton.1 hx]; decide, List.pairwise_singleton _ _⟩
theorem not_good_two : ¬ Good [(⟨(⟨#[97]⟩ : ByteArray), (⟨#[]⟩ : ByteArray), false⟩ : S37), (⟨(⟨#[97]⟩ : ByteArray), (⟨#[]⟩ : ByteArray), false⟩ : S37)] := fun h => by
  have := List.pairwise_cons.1 h.2.2.2
  exact this.1 _ (List.mem_singleton.2 rfl) rfl

theorem awake_says (k : Nat) (hk : 5000 < k) : rundlelaw09_awake.f k = some true := by
  unfold rundlelaw09_awake.f
  rw [check_says _ k hk (by decide), if_neg not_good_two]
  simp only [Option.bind_some]
  rw [if_pos trivial, check_says _ k hk (by decide), if_pos good_one]
  rfl

/-- THE LAW BatchChecks. -/
theorem BatchChecks_pure (l : List S94) (hl : l.length < 3518437208883) : rundlelaw09_BatchChecks.f 6000 l = some true := by
  unfold rundlelaw09_BatchChecks.f
  rw [awake_says _ (by omega)]
  simp only [Option.bind_some]
  rw [if_pos trivial, few_says l _ (by omega)]
  simp only [Option.bind_some, rundlelaw09_BatchChecks.j0]
  cases h : fewB l with
  | false =>
    rw [if_pos (by rfl), awake_says _ (by omega)]; rfl
  | true =>
    have h70 : l.length ≤ 70 := by unfold fewB at h; rw [Bool.and_eq_true] at h; exact of_decide_eq_true h.1
    have hsk : shortK l = true := by
      unfold fewB at h; rw [Bool.and_eq_true] at h
      unfold shortK
      rw [List.all_eq_true] at *
      intro x hx
      have := h.2 x hx
      rw [Bool.and_eq_true] at this
      have := of_decide_eq_true this.1
      exact decide_eq_true (by omega)
    rw [if_neg (by decide), of_says l h70 _ (by omega)]
    simp only [Option.bind_some]
    have hm : (l.map conv).length = l.length := by rw [List.length_map]
    have hC : rundleref09_Check.f l = some (refCheckE l) := by unfold rundleref09_Check.f; rw [if_pos (by omega)]
    have hS : batch_Sorted.f (l.map conv) = some (sortE (l.map conv)) := by unfold batch_Sorted.f; rw [if_pos (by omega)]
    have hR : rundleref09_Sorted.f l = some (rsE l) := by unfold rundleref09_Sorted.f; rw [if_pos ⟨by omega, hsk⟩]
    rw [check_says _ _ (by omega) (by omega), hC, hS, hR, refCheck_says]
    simp only [Option.bind_some]
    rw [if_pos trivial, sort_is, same_says _ (by rw [rsE_length]; omega) _ (by rw [rsE_length]; omega)]
    simp only [Option.bind_some]
    rw [if_pos trivial, same_says l (by omega) _ (by omega)]
    rfl
end Go.Proofs.Ytgnnhomipfjanaa.PA
