/- When entries are a batch, over lists alone. -/
import Derived.Test.YtgnnhomipfjanaaMCheck
namespace Go.Proofs.Ytgnnhomipfjanaa.PM
open Go Go.Proofs Go.RowKit Go.Proofs.YtgnnhomipfjanaaW.PrintWords Go.Proofs.YtgnnhomipfjanaaW.PrintLast Go.Proofs.YtgnnhomipfjanaaW.PrintMore

theorem w64 (n : Int) (h : -9223372036854775808 ≤ n ∧ n ≤ 9223372036854775807) : wrap64 n = n := IntWalk.wrap64_in n h
theorem toList_nil_iff (a : ByteArray) : (a.toList == ([] : List UInt8)) = decide (a.size = 0) := by
  rw [ByteArray.toList_eq, Bool.eq_iff_iff, beq_iff_eq, decide_eq_true_iff]
  constructor
  · intro h; have := congrArg List.length h; simpa using this
  · intro h; exact List.length_eq_zero_iff.1 (by simpa using h)
theorem toList_inj {a b : ByteArray} (h : a.toList = b.toList) : a = b := by
  rw [ByteArray.toList_eq, ByteArray.toList_eq] at h
  cases a; cases b; congr 1; exact Array.toList_inj.1 h

theorem eqvE_iff (x y : S37) : Srt.eqv ltE x y = true ↔ x.f0 = y.f0 := by
  rw [Srt.eqv_iff]
  constructor
  · rintro ⟨h1, h2⟩; exact toList_inj (Srt.bl_total _ _ h1 h2)
  · intro h
    show Srt.ltB x.f0 y.f0 = false ∧ Srt.ltB y.f0 x.f0 = false
    rw [h]; exact ⟨Srt.bl_irrefl _, Srt.bl_irrefl _⟩

theorem rd37 (l : List S37) (i : Nat) : rd_T37 l (i : Int) = l.getD i z37 := rfl
theorem rd37_at (l : List S37) (i : Nat) (h : i < l.length) : rd_T37 l (i : Int) = l[i] := by rw [rd37]; simp [h]

def okE (x : S37) : Bool := decide (1 ≤ x.f0.size) && decide (x.f0.size ≤ 1024) && decide (x.f1.size ≤ 65536) && (!x.f2 || decide (x.f1.size = 0))
theorem entry_says (x : S37) : batch_entry.f x.f0 x.f1 x.f2 = some (okE x) := by
  unfold batch_entry.f key_Right.f key_Fits.f okE
  rw [toList_nil_iff]
  by_cases c1 : 1 ≤ x.f0.size
  · rw [if_pos (by omega), decide_eq_true c1]
    by_cases c2 : x.f0.size ≤ 1024
    · rw [decide_eq_true c2, decide_eq_true (show (x.f0.size : Int) ≤ 1024 by omega)]
      by_cases c3 : x.f1.size ≤ 65536
      · rw [decide_eq_true c3, decide_eq_true (show (x.f1.size : Int) ≤ 65536 by omega)]
        cases x.f2 <;> rfl
      · rw [decide_eq_false c3, decide_eq_false (show ¬ (x.f1.size : Int) ≤ 65536 by omega)]; rfl
    · rw [decide_eq_false c2, decide_eq_false (show ¬ (x.f0.size : Int) ≤ 1024 by omega)]; rfl
  · rw [if_neg (by omega), decide_eq_false c1]; rfl
/-- No key stands twice. -/
def Lone (l : List S37) : Prop := l.Pairwise (fun x y => x.f0 ≠ y.f0)
theorem lone_iff (l : List S37) : Lone l ↔ ∀ x, (l.filter (Srt.eqv ltE x)).length ≤ 1 := by
  induction l with
  | nil => exact ⟨fun _ x => by simp, fun _ => List.Pairwise.nil⟩
  | cons y l ih =>
    unfold Lone at *
    rw [List.pairwise_cons, ih]
    constructor
    · rintro ⟨h1, h2⟩ x
      by_cases hx : Srt.eqv ltE x y = true
      · rw [List.filter_cons_of_pos hx]
        have : l.filter (Srt.eqv ltE x) = [] := by
          rw [List.filter_eq_nil_iff]
          intro z hz hxz
          exact h1 z hz (((eqvE_iff x y).1 hx).symm.trans ((eqvE_iff x z).1 hxz))
        rw [this]; simp
      · rw [List.filter_cons_of_neg hx]; exact h2 x
    · intro h
      refine ⟨fun z hz e => ?_, fun x => ?_⟩
      · have := h y
        rw [List.filter_cons_of_pos (Srt.eqv_self swoE y), List.length_cons] at this
        have hm : z ∈ l.filter (Srt.eqv ltE y) := List.mem_filter.2 ⟨hz, (eqvE_iff y z).2 e⟩
        have hp := List.length_pos_of_mem hm
        omega
      · have := h x
        by_cases hx : Srt.eqv ltE x y = true
        · rw [List.filter_cons_of_pos hx, List.length_cons] at this; omega
        · rw [List.filter_cons_of_neg hx] at this; exact this

/-- Is it a batch? -/
def Good (l : List S37) : Prop := 1 ≤ l.length ∧ l.length ≤ 4096 ∧ (∀ x ∈ l, okE x = true) ∧ Lone l

theorem lone_sort (l : List S37) : Lone (sortE l) ↔ Lone l := by
  rw [lone_iff, lone_iff]
  have := sortE_same l
  exact ⟨fun h x => by rw [this x]; exact h x, fun h x => by rw [← this x]; exact h x⟩
theorem good_sort (l : List S37) : Good (sortE l) ↔ Good l := by
  unfold Good
  rw [sortE_length, lone_sort]
  have := fun x => (sortE_same l).mem swoE x
  exact ⟨fun ⟨a, b, c, d⟩ => ⟨a, b, fun x hx => c x ((this x).1 hx), d⟩, fun ⟨a, b, c, d⟩ => ⟨a, b, fun x hx => c x ((this x).2 hx), d⟩⟩

/-- In entries in order: no neighbours of one key just if no key stands twice. -/
theorem lone_adj {l : List S37} (h : Srt.Srt ltE l) : Lone l ↔ ∀ j, j + 1 < l.length → (l.getD j z37).f0 ≠ (l.getD (j + 1) z37).f0 := by
  have g : ∀ j (hj : j < l.length), l.getD j z37 = l[j] := fun j hj => by simp [hj]
  constructor
  · intro hL j hj
    rw [g j (by omega), g (j + 1) hj]
    exact List.pairwise_iff_getElem.1 hL j (j + 1) (by omega) hj (by omega)
  · intro hA
    unfold Lone
    rw [List.pairwise_iff_getElem]
    have lt1 : ∀ j (hj : j + 1 < l.length), ltE l[j] l[j + 1] = true := fun j hj => by
      have h1 := List.pairwise_iff_getElem.1 h j (j + 1) (by omega) hj (by omega)
      have h2 := hA j hj
      rw [g j (by omega), g (j + 1) hj] at h2
      cases h3 : ltE l[j] l[j + 1] with
      | true => rfl
      | false => exact absurd (toList_inj (Srt.bl_total _ _ h3 h1)) h2
    have lt2 : ∀ d i (hj : i + d + 1 < l.length), ltE l[i] l[i + d + 1] = true := fun d => by
      induction d with
      | zero => exact fun i hj => lt1 i hj
      | succ d ih => exact fun i hj => swoE.trans _ _ _ (ih i (by omega)) (lt1 (i + d + 1) hj)
    intro i j hi hj hij e
    obtain ⟨d, rfl⟩ : ∃ d, j = i + d + 1 := ⟨j - i - 1, by omega⟩
    have := lt2 d i hj
    have h4 : ltE l[i] l[i + d + 1] = false := by
      show Srt.ltB _ _ = false
      rw [e]; exact Srt.bl_irrefl _
    rw [h4] at this; cases this

open Classical in
theorem check_loop (s : List S37) (hl : s.length ≤ 4096) : ∀ (n k i : Nat), s.length - i = n → i ≤ s.length → n < k →
    batch_Check.l0 k s s (s.length : Int) (i : Int) = some (if ∀ j, i ≤ j → j < s.length → okE (s.getD j z37) = true ∧ (0 < j → (s.getD (j - 1) z37).f0 ≠ (s.getD j z37).f0) then 0 else 1)
  | n, 0, i, _, _, h => by omega
  | 0, k + 1, i, hn, hi, hk => by
    simp only [batch_Check.l0]
    rw [if_neg (by omega), if_pos (fun j h1 h2 => by omega)]
  | n + 1, k + 1, i, hn, hi, hk => by
    have hlt : i < s.length := by omega
    simp only [batch_Check.l0]
    rw [if_pos (by omega), if_pos (by omega), if_pos (by omega), rd37, entry_says]
    simp only [Option.bind_some]
    have next := check_loop s hl n k (i + 1) (by omega) (by omega) (by omega)
    have here : ∀ (p : Prop) [Decidable p], (okE (s.getD i z37) = true ∧ (0 < i → (s.getD (i - 1) z37).f0 ≠ (s.getD i z37).f0) ↔ p) → p →
        (if ∀ j, i + 1 ≤ j → j < s.length → okE (s.getD j z37) = true ∧ (0 < j → (s.getD (j - 1) z37).f0 ≠ (s.getD j z37).f0) then (0 : Int) else 1) = if ∀ j, i ≤ j → j < s.length → okE (s.getD j z37) = true ∧ (0 < j → (s.getD (j - 1) z37).f0 ≠ (s.getD j z37).f0) then 0 else 1 := fun p _ hp h => by
      by_cases c : ∀ j, i + 1 ≤ j → j < s.length → okE (s.getD j z37) = true ∧ (0 < j → (s.getD (j - 1) z37).f0 ≠ (s.getD j z37).f0)
      · rw [if_pos c, if_pos fun j h1 h2 => by
          by_cases e : j = i
          · subst e; exact hp.2 h
          · exact c j (by omega) h2]
      · rw [if_neg c, if_neg fun c' => c fun j h1 h2 => c' j (by omega) h2]
    by_cases c1 : okE (s.getD i z37) = true
    · rw [if_pos c1]
      by_cases c2 : 0 < i
      · have ei : ((i : Int) - 1) = ((i - 1 : Nat) : Int) := by omega
        rw [if_pos (by omega), w64 ((i : Int) - 1) (by omega), ei, if_pos (by omega), if_pos (by omega), rd37]
        by_cases c3 : (s.getD (i - 1) z37).f0 = (s.getD i z37).f0
        · rw [if_pos (by rw [c3]), if_neg fun h => ((h i (Nat.le_refl _) hlt).2 c2) c3]
        · rw [if_neg fun h => c3 (toList_inj h), w64 _ (by omega), show ((i : Int) + 1) = ((i + 1 : Nat) : Int) from by omega, next, here True ⟨fun _ => trivial, fun _ => ⟨c1, fun _ => c3⟩⟩ trivial]
      · rw [if_neg (by omega), w64 _ (by omega), show ((i : Int) + 1) = ((i + 1 : Nat) : Int) from by omega, next, here True ⟨fun _ => trivial, fun _ => ⟨c1, fun h => absurd h c2⟩⟩ trivial]
    · rw [if_neg c1, if_neg fun h => c1 (h i (Nat.le_refl _) hlt).1]

open Classical in
theorem check_says (l : List S37) (k : Nat) (hk : 5000 < k) (hl : l.length < 3518437208883) : batch_Check.f k l = some (if Good l then 0 else 1) := by
  obtain ⟨k, rfl⟩ : ∃ k', k = k' + 1 := ⟨k - 1, by omega⟩
  have j0t : batch_Check.j0 (k + 1) l true = some 1 := by simp only [batch_Check.j0]; rw [if_pos trivial]
  unfold batch_Check.f
  by_cases c1 : l.length < 1
  · rw [if_pos (by omega), j0t, if_neg fun h => by have := h.1; omega]
  rw [if_neg (by omega)]
  by_cases c2 : 4096 < l.length
  · rw [decide_eq_true (show (l.length : Int) > 4096 by omega), j0t, if_neg fun h => by have := h.2.1; omega]
  rw [decide_eq_false (show ¬ (l.length : Int) > 4096 by omega)]
  simp only [batch_Check.j0]
  rw [if_neg (by simp)]
  unfold batch_Sorted.f
  rw [if_pos hl]
  simp only [Option.bind_some]
  have hsl := sortE_length l
  rw [show (0 : Int) = ((0 : Nat) : Int) from rfl, check_loop (sortE l) (by omega) _ k 0 rfl (by omega) (by omega)]
  congr 1
  have e : (∀ j, 0 ≤ j → j < (sortE l).length → okE ((sortE l).getD j z37) = true ∧ (0 < j → ((sortE l).getD (j - 1) z37).f0 ≠ ((sortE l).getD j z37).f0)) ↔ Good l := by
    rw [← good_sort]
    unfold Good
    rw [lone_adj (sortE_srt l), hsl]
    constructor
    · intro h
      refine ⟨by omega, by omega, fun x hx => ?_, fun j hj => ?_⟩
      · obtain ⟨j, hj, rfl⟩ := List.mem_iff_getElem.1 hx
        have := (h j (Nat.zero_le _) (by omega)).1
        simpa [hj] using this
      · have := (h (j + 1) (Nat.zero_le _) hj).2 (by omega)
        rw [Nat.add_sub_cancel] at this
        exact this
    · rintro ⟨_, _, h3, h4⟩ j _ hj
      refine ⟨h3 _ ?_, fun h0 => ?_⟩
      · have : j < (sortE l).length := by omega
        rw [List.getD_eq_getElem?_getD, List.getElem?_eq_getElem this]
        exact List.getElem_mem this
      · have := h4 (j - 1) (by omega)
        rw [show j - 1 + 1 = j from by omega] at this
        exact this
  by_cases g : Good l
  · rw [if_pos (e.2 g), if_pos g]; rfl
  · rw [if_neg fun h => g (e.1 h), if_neg g]

end Go.Proofs.Ytgnnhomipfjanaa.PM
