/- The plain model of the library's stable sort answers the entries in order, equals in the order in which they came. -/
import Derived.Test.YtgnnhomipfjanaaSortE
import Derived.Sort.LotA
namespace Go.Proofs.Ytgnnhomipfjanaa.Srt
open Go.Sort
variable {α : Type} [Inhabited α]

section
variable {β : Type}
/-- Neither is ahead of the other. -/
def eqv (lt : β → β → Bool) (x y : β) : Bool := !lt x y && !lt y x
def Srt (lt : β → β → Bool) (l : List β) : Prop := l.Pairwise (fun x y => lt y x = false)
def Same (lt : β → β → Bool) (l l' : List β) : Prop := ∀ x, l.filter (eqv lt x) = l'.filter (eqv lt x)

variable {lt : β → β → Bool}
theorem eqv_self (h : SWO lt) (x : β) : eqv lt x x = true := by simp [eqv, h.irrefl]
theorem eqv_iff (x y : β) : eqv lt x y = true ↔ lt x y = false ∧ lt y x = false := by simp [eqv]
theorem lt_asymm (h : SWO lt) {x y : β} (hxy : lt x y = true) : lt y x = false := by
  cases hyx : lt y x with
  | false => rfl
  | true => have := h.trans x y x hxy hyx; rw [h.irrefl] at this; cases this
/-- le x y, lt y z: lt x z. -/
theorem le_lt (h : SWO lt) {x y z : β} (hxy : lt y x = false) (hyz : lt y z = true) : lt x z = true := by
  cases hxz : lt x z with
  | true => rfl
  | false => have := h.ntrans y x z hxy hxz; rw [this] at hyz; cases hyz
theorem lt_le (h : SWO lt) {x y z : β} (hxy : lt x y = true) (hyz : lt z y = false) : lt x z = true := by
  cases hxz : lt x z with
  | true => rfl
  | false => have := h.ntrans x z y hxz hyz; rw [this] at hxy; cases hxy
/-- le x y, le y z: le x z. -/
theorem le_le (h : SWO lt) {x y z : β} (hxy : lt y x = false) (hyz : lt z y = false) : lt z x = false := h.ntrans z y x hyz hxy

theorem Same.refl (l : List β) : Same lt l l := fun _ => rfl
theorem Same.trans {a b c : List β} (h : Same lt a b) (k : Same lt b c) : Same lt a c := fun x => (h x).trans (k x)
theorem Same.symm {a b : List β} (h : Same lt a b) : Same lt b a := fun x => (h x).symm
theorem Same.app {a b c d : List β} (h : Same lt a b) (k : Same lt c d) : Same lt (a ++ c) (b ++ d) := fun x => by rw [List.filter_append, List.filter_append, h x, k x]
theorem Same.mem (hO : SWO lt) {a b : List β} (h : Same lt a b) (x : β) : x ∈ a ↔ x ∈ b := by
  have e : ∀ l : List β, x ∈ l ↔ x ∈ l.filter (eqv lt x) := fun l => by rw [List.mem_filter]; exact ⟨fun hx => ⟨hx, eqv_self hO x⟩, fun hx => hx.1⟩
  rw [e a, e b, h x]

/-- A row of which all are ahead of all of the next one may change places with it. -/
theorem same_swap (hO : SWO lt) {a b : List β} (h : ∀ x ∈ a, ∀ y ∈ b, lt y x = true) : Same lt (a ++ b) (b ++ a) := fun z => by
  rw [List.filter_append, List.filter_append]
  by_cases ha : a.filter (eqv lt z) = []
  · rw [ha, List.nil_append, List.append_nil]
  · obtain ⟨x, hx⟩ := List.exists_mem_of_ne_nil _ ha
    rw [List.mem_filter, eqv_iff] at hx
    have hb : b.filter (eqv lt z) = [] := by
      rw [List.filter_eq_nil_iff]
      intro y hy
      rw [eqv_iff]
      rintro ⟨h1, h2⟩
      have h3 := h x hx.1 y hy
      -- y < x, x ~ z, so y < z
      have h4 := lt_le hO h3 hx.2.1
      rw [h2] at h4; cases h4
    rw [hb, List.nil_append, List.append_nil]

/-- Two rows in order that are the same class by class are one. -/
theorem srt_unique (hO : SWO lt) : ∀ (a b : List β), Srt lt a → Srt lt b → Same lt a b → a = b
  | [], [], _, _, _ => rfl
  | [], y :: t, _, _, h => by
    have := (h.mem hO y).2 (List.mem_cons_self)
    cases this
  | x :: s, [], _, _, h => by
    have := (h.mem hO x).1 (List.mem_cons_self)
    cases this
  | x :: s, y :: t, ha, hb, h => by
    have hx : lt y x = false := by
      have := (h.mem hO y).2 List.mem_cons_self
      rcases List.mem_cons.1 this with e | e
      · rw [e]; exact hO.irrefl x
      · exact (List.pairwise_cons.1 ha).1 y e
    have hy : lt x y = false := by
      have := (h.mem hO x).1 List.mem_cons_self
      rcases List.mem_cons.1 this with e | e
      · rw [e]; exact hO.irrefl y
      · exact (List.pairwise_cons.1 hb).1 x e
    have e : x = y := by
      have := h x
      rw [List.filter_cons_of_pos (eqv_self hO x), List.filter_cons_of_pos ((eqv_iff x y).2 ⟨hy, hx⟩)] at this
      exact (List.cons.inj this).1
    subst e
    congr 1
    refine srt_unique hO s t (List.pairwise_cons.1 ha).2 (List.pairwise_cons.1 hb).2 fun z => ?_
    have := h z
    by_cases hz : eqv lt z x = true
    · rw [List.filter_cons_of_pos hz, List.filter_cons_of_pos hz] at this
      exact (List.cons.inj this).2
    · rw [List.filter_cons_of_neg hz, List.filter_cons_of_neg hz] at this
      exact this
end

/-! ### parts of a row -/
def seg (d : Array α) (a b : Nat) : List α := (List.range (b - a)).map fun k => d[a + k]!

theorem mem_seg {d : Array α} {a b : Nat} {x : α} : x ∈ seg d a b ↔ ∃ k, a ≤ k ∧ k < b ∧ d[k]! = x := by
  unfold seg
  rw [List.mem_map]
  constructor
  · rintro ⟨k, hk, rfl⟩
    rw [List.mem_range] at hk
    exact ⟨a + k, by omega, by omega, rfl⟩
  · rintro ⟨k, h1, h2, rfl⟩
    exact ⟨k - a, by rw [List.mem_range]; omega, by rw [show a + (k - a) = k from by omega]⟩

theorem seg_nil (d : Array α) {a b : Nat} (h : b ≤ a) : seg d a b = [] := by
  unfold seg; rw [show b - a = 0 from by omega]; rfl

theorem seg_app (d : Array α) {a m b : Nat} (h1 : a ≤ m) (h2 : m ≤ b) : seg d a m ++ seg d m b = seg d a b := by
  unfold seg
  rw [show b - a = (m - a) + (b - m) from by omega, List.range_add, List.map_append, List.map_map]
  congr 1
  apply List.map_congr_left
  intro k _
  show d[m + k]! = d[a + (m - a + k)]!
  rw [show a + (m - a + k) = m + k from by omega]

/-- Parts of two rows, place by place. -/
theorem seg_congr {d r : Array α} {a b a' b' : Nat} (hl : b - a = b' - a') (h : ∀ k, k < b - a → r[a + k]! = d[a' + k]!) : seg r a b = seg d a' b' := by
  unfold seg
  rw [← hl]
  apply List.map_congr_left
  intro k hk
  exact h k (List.mem_range.1 hk)

theorem seg_one (d : Array α) (a : Nat) : seg d a (a + 1) = [d[a]!] := by
  unfold seg; rw [show a + 1 - a = 1 from by omega]; rfl

theorem srt_seg {lt : α → α → Bool} {d : Array α} {a b : Nat} : Srt lt (seg d a b) ↔ ∀ i j, a ≤ i → i < j → j < b → lt d[j]! d[i]! = false := by
  unfold Srt seg
  rw [List.pairwise_map, List.pairwise_iff_getElem]
  constructor
  · intro h i j h1 h2 h3
    have := h (i - a) (j - a) (by rw [List.length_range]; omega) (by rw [List.length_range]; omega) (by omega)
    simp only [List.getElem_range] at this
    rw [show a + (i - a) = i from by omega, show a + (j - a) = j from by omega] at this
    exact this
  · intro h i j hi hj hij
    simp only [List.getElem_range]
    rw [List.length_range] at hi hj
    exact h (a + i) (a + j) (by omega) (by omega) (by omega)

theorem seg_all (d : Array α) : seg d 0 d.size = d.toList := by
  unfold seg
  apply List.ext_getElem
  · simp
  · intro i h1 h2
    simp at h1
    simp [h1]

/-- Outside of a part nothing has changed. -/
def Out (a b : Nat) (d r : Array α) : Prop := ∀ k, k < a ∨ b ≤ k → r[k]! = d[k]!
theorem Out.refl (a b : Nat) (d : Array α) : Out a b d d := fun _ _ => rfl
theorem Out.trans {a b : Nat} {d r s : Array α} (h : Out a b d r) (k : Out a b r s) : Out a b d s := fun i hi => (k i hi).trans (h i hi)
theorem Out.mono {a b a' b' : Nat} {d r : Array α} (h : Out a b d r) (h1 : a' ≤ a) (h2 : b ≤ b') : Out a' b' d r := fun i hi => h i (by omega)
theorem Out.part {a b : Nat} {d r : Array α} (h : Out a b d r) {x y : Nat} (hxy : y ≤ a ∨ b ≤ x) : seg r x y = seg d x y := seg_congr rfl fun k hk => h _ (by omega)

/-- What is the same in a part, and outside of it, is the same in a wider part. -/
theorem Same.wide {lt : α → α → Bool} {a b x y : Nat} {d r : Array α} (h : Same lt (seg d a b) (seg r a b)) (ho : Out a b d r) (h1 : x ≤ a) (h2 : a ≤ b) (h3 : b ≤ y) : Same lt (seg d x y) (seg r x y) := by
  rw [← seg_app d (show x ≤ a from h1) (show a ≤ y from by omega), ← seg_app d h2 h3, ← seg_app r (show x ≤ a from h1) (show a ≤ y from by omega), ← seg_app r h2 h3]
  rw [ho.part (x := x) (y := a) (Or.inl (Nat.le_refl _)), ho.part (x := b) (y := y) (Or.inr (Nat.le_refl _))]
  exact (Same.refl _).app (h.app (Same.refl _))

/-! ### the moves, place by place -/
theorem swapRange_get (d : Array α) (a b : Nat) : ∀ n, a + n ≤ b → b + n ≤ d.size → ∀ k,
    (swapRange d a b n)[k]! = if a ≤ k ∧ k < a + n then d[b + (k - a)]! else if b ≤ k ∧ k < b + n then d[a + (k - b)]! else d[k]!
  | 0, _, _, k => by rw [if_neg (by omega), if_neg (by omega)]; rfl
  | n + 1, h1, h2, k => by
    have ih := swapRange_get d a b n (by omega) (by omega)
    rw [swapRange, swp_get _ (show a + n < (swapRange d a b n).size by rw [size_swapRange]; omega) (show b + n < (swapRange d a b n).size by rw [size_swapRange]; omega), ih, ih, ih]
    (repeat' split) <;> first | (exfalso; omega) | (congr 1 <;> omega)

theorem rot_get (m : Nat) : ∀ (f i j : Nat) (d : Array α), i + j ≤ f → 1 ≤ i → 1 ≤ j → i ≤ m → m + j ≤ d.size → ∀ k,
    (rot m f i j d)[k]! = if m - i ≤ k ∧ k < m - i + j then d[k + i]! else if m - i + j ≤ k ∧ k < m + j then d[k - j]! else d[k]!
  | 0, i, j, d, hf, hi, hj, hm, hs, k => by omega
  | f + 1, i, j, d, hf, hi, hj, hm, hs, k => by
    rw [rot]
    by_cases e : i = j
    · rw [if_pos e, swapRange_get d _ _ _ (by omega) (by omega)]
      (repeat' split) <;> first | (exfalso; omega) | (congr 1 <;> omega)
    · rw [if_neg e]
      by_cases e2 : j < i
      · rw [if_pos e2, rot_get m f (i - j) j _ (by omega) (by omega) hj (by omega) (by rw [size_swapRange]; omega)]
        have g := swapRange_get d (m - i) m j (by omega) (by omega)
        rw [g, g, g]
        (repeat' split) <;> first | (exfalso; omega) | (congr 1 <;> omega)
      · rw [if_neg e2, rot_get m f i (j - i) _ (by omega) hi (by omega) hm (by rw [size_swapRange]; omega)]
        have g := swapRange_get d (m - i) (m + j - i) i (by omega) (by omega)
        rw [g, g, g]
        (repeat' split) <;> first | (exfalso; omega) | (congr 1 <;> omega)

theorem bubUp_get (d : Array α) (a : Nat) : ∀ n, a + n < d.size → ∀ k,
    (bubUp d a n)[k]! = if a ≤ k ∧ k < a + n then d[k + 1]! else if k = a + n then d[a]! else d[k]!
  | 0, h, k => by
    rw [if_neg (by omega)]
    split
    · rename_i e; rw [e]; rfl
    · rfl
  | n + 1, h, k => by
    have ih := bubUp_get d a n (by omega)
    rw [bubUp, swp_get _ (show a + n < (bubUp d a n).size by rw [size_bubUp]; omega) (show a + n + 1 < (bubUp d a n).size by rw [size_bubUp]; omega), ih, ih, ih]
    (repeat' split) <;> first | (exfalso; omega) | (congr 1 <;> omega)

theorem bubDown_get (d : Array α) (m : Nat) : ∀ n, n ≤ m → m < d.size → ∀ k,
    (bubDown d m n)[k]! = if m - n < k ∧ k ≤ m then d[k - 1]! else if k = m - n then d[m]! else d[k]!
  | 0, _, h, k => by
    rw [if_neg (by omega)]
    split
    · rename_i e; rw [e]; rfl
    · rfl
  | n + 1, hn, h, k => by
    have ih := bubDown_get d m n (by omega) h
    rw [bubDown, swp_get _ (show m - n < (bubDown d m n).size by rw [size_bubDown]; omega) (show m - n - 1 < (bubDown d m n).size by rw [size_bubDown]; omega), ih, ih, ih]
    (repeat' split) <;> first | (exfalso; omega) | (congr 1 <;> omega)

theorem bsearch_spec (p : Nat → Bool) : ∀ (f i j : Nat), j - i ≤ f → i ≤ j → (∀ x y, i ≤ x → x < y → y < j → p y = true → p x = true) →
    (∀ x, i ≤ x → x < bsearch p f i j → p x = true) ∧ (∀ x, bsearch p f i j ≤ x → x < j → p x = false)
  | 0, i, j, hf, hij, _ => ⟨fun x h1 h2 => by simp only [bsearch] at h2; omega, fun x h1 h2 => by simp only [bsearch] at h1; omega⟩
  | f + 1, i, j, hf, hij, hm => by
    rw [bsearch]
    by_cases hlt : i < j
    · rw [if_pos hlt]
      cases hp : p ((i + j) / 2) with
      | true =>
        rw [if_pos rfl]
        have ih := bsearch_spec p f ((i + j) / 2 + 1) j (by omega) (by omega) (fun x y h1 h2 h3 h4 => hm x y (by omega) h2 h3 h4)
        refine ⟨fun x h1 h2 => ?_, ih.2⟩
        by_cases hx : (i + j) / 2 + 1 ≤ x
        · exact ih.1 x hx h2
        · by_cases he : x = (i + j) / 2
          · rw [he]; exact hp
          · exact hm x _ h1 (by omega) (by omega) hp
      | false =>
        rw [if_neg (by simp)]
        have ih := bsearch_spec p f i ((i + j) / 2) (by omega) (by omega) (fun x y h1 h2 h3 h4 => hm x y h1 h2 (by omega) h4)
        refine ⟨ih.1, fun x h1 h2 => ?_⟩
        by_cases hx : x < (i + j) / 2
        · exact ih.2 x h1 hx
        · by_cases he : x = (i + j) / 2
          · rw [he]; exact hp
          · cases hq : p x with
            | false => rfl
            | true =>
              have := hm ((i + j) / 2) x (by omega) (by omega) h2 hq
              rw [hp] at this; cases this
    · rw [if_neg hlt]
      exact ⟨fun x h1 h2 => by omega, fun x h1 h2 => by omega⟩
end Go.Proofs.Ytgnnhomipfjanaa.Srt
