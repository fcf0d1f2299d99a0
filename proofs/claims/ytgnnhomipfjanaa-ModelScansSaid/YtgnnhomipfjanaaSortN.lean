/- The library's stable sort answers the entries in order, equals in the order in which they came. -/
import Derived.Test.YtgnnhomipfjanaaSortM
namespace Go.Proofs.Ytgnnhomipfjanaa.Srt
open Go.Sort
variable {α : Type} [Inhabited α] {lt : α → α → Bool}

theorem same_adj (hO : SWO lt) (d : Array α) (a b j : Nat) (h1 : a ≤ j) (h2 : j + 1 < b) (h3 : b ≤ d.size) (h : lt d[j + 1]! d[j]! = true) :
    Out a b d (swp d (j + 1) j) ∧ Same lt (seg d a b) (seg (swp d (j + 1) j) a b) := by
  have g : ∀ k, (swp d (j + 1) j)[k]! = if j ≤ k ∧ k < j + (j + 2 - (j + 1)) then d[k + (j + 1 - j)]! else if j + (j + 2 - (j + 1)) ≤ k ∧ k < j + 2 then d[k - (j + 2 - (j + 1))]! else d[k]! := fun k => by
    rw [swp_get d (show j + 1 < d.size by omega) (show j < d.size by omega)]
    (repeat' split) <;> first | (exfalso; omega) | (congr 1 <;> omega) | rfl
  obtain ⟨o, _, _, sm⟩ := merged_swap hO (a := j) (x := j + 1) (y := j + 2) (b := j + 2) (by omega) (by omega) (Nat.le_refl _) g (fun p q p1 p2 q1 q2 => by
    obtain rfl : p = j := by omega
    obtain rfl : q = p + 1 := by omega
    exact h)
  exact ⟨o.mono h1 (by omega), sm.wide o h1 (by omega) (by omega)⟩

theorem insInner_same (hO : SWO lt) (a b : Nat) : ∀ (j : Nat) (d : Array α), j < b → b ≤ d.size → Out a b d (insInner lt a j d) ∧ Same lt (seg d a b) (seg (insInner lt a j d) a b)
  | 0, d, _, _ => by rw [insInner]; exact ⟨Out.refl _ _ _, Same.refl _⟩
  | j + 1, d, h1, h2 => by
    rw [insInner]
    split
    · rename_i hc
      rw [Bool.and_eq_true, decide_eq_true_iff] at hc
      have k := same_adj hO d a b j (by omega) h1 h2 hc.2
      have ih := insInner_same hO a b j (swp d (j + 1) j) (by omega) (by rw [size_swp]; exact h2)
      exact ⟨k.1.trans ih.1, k.2.trans ih.2⟩
    · exact ⟨Out.refl _ _ _, Same.refl _⟩

theorem insOuter_same (hO : SWO lt) (a b i : Nat) (d : Array α) (h2 : b ≤ d.size) : Out a b d (insOuter lt a b i d) ∧ Same lt (seg d a b) (seg (insOuter lt a b i d) a b) := by
  rw [insOuter]
  split
  · rename_i hi
    have k := insInner_same hO a b i d hi h2
    have ih := insOuter_same hO a b (i + 1) (insInner lt a i d) (by rw [insInner_sz]; exact h2)
    exact ⟨k.1.trans ih.1, k.2.trans ih.2⟩
  · exact ⟨Out.refl _ _ _, Same.refl _⟩
termination_by b - i

theorem ins_merges (hO : SWO lt) (d : Array α) (a b : Nat) (h1 : a ≤ b) (h2 : b ≤ d.size) : Merged lt a b d (Sort.insertionSort lt d a b) :=
  have k := insOuter_same hO a b (a + 1) d h2
  ⟨k.1, srt_seg.2 (insertionSort_holds hO d a b h1 h2).2, k.2⟩

/-- From x on, each part of so many is in order. -/
def Runs (lt : α → α → Bool) (bs n : Nat) (d : Array α) (x : Nat) : Prop := ∀ k, Srt lt (seg d (x + k * bs) (min (x + k * bs + bs) n))

theorem Runs.head {bs n x : Nat} {d : Array α} (h : Runs lt bs n d x) : Srt lt (seg d x (min (x + bs) n)) := by
  have := h 0; rw [Nat.zero_mul, Nat.add_zero] at this; exact this
theorem Runs.tail {bs n x : Nat} {d : Array α} (h : Runs lt bs n d x) : Runs lt bs n d (x + bs) := fun k => by
  have := h (k + 1)
  rw [Nat.succ_mul, ← Nat.add_assoc, Nat.add_right_comm] at this
  exact this
theorem Runs.cons {bs n x : Nat} {d : Array α} (h : Srt lt (seg d x (min (x + bs) n))) (t : Runs lt bs n d (x + bs)) : Runs lt bs n d x := fun k => by
  cases k with
  | zero => rw [Nat.zero_mul, Nat.add_zero]; exact h
  | succ k =>
    have := t k
    rw [Nat.succ_mul, ← Nat.add_assoc, Nat.add_right_comm]
    exact this
theorem Runs.none {bs n x : Nat} {d : Array α} (h : n ≤ x) : Runs lt bs n d x := fun k => by
  rw [seg_nil _ (by omega)]; exact List.Pairwise.nil
theorem Runs.kept {bs n x : Nat} {d r : Array α} (h : Runs lt bs n d x) (o : Out 0 x d r) : Runs lt bs n r x := fun k => by
  rw [o.part (Or.inr (by omega))]; exact h k

theorem insB_says (hO : SWO lt) (n : Nat) : ∀ (f x : Nat) (d : Array α), d.size = n → x ≤ n → n - x ≤ f →
    Out x n d (insB lt n f x d) ∧ Runs lt 20 n (insB lt n f x d) x ∧ Same lt (seg d x n) (seg (insB lt n f x d) x n)
  | f, x, d, hd, hx, hf => by
    by_cases c : x + 20 ≤ n
    · obtain ⟨f, rfl⟩ : ∃ f', f = f' + 1 := ⟨f - 1, by omega⟩
      rw [insB_go _ _ _ _ _ c]
      have M := ins_merges hO d x (x + 20) (by omega) (by omega)
      obtain ⟨o, r, s⟩ := insB_says hO n f (x + 20) (Sort.insertionSort lt d x (x + 20)) (by rw [ins_size]; exact hd) c (by omega)
      refine ⟨(M.out.mono (Nat.le_refl _) c).trans (o.mono (by omega) (Nat.le_refl _)), Runs.cons ?_ r, ?_⟩
      · rw [show min (x + 20) n = x + 20 from by omega, o.part (Or.inl (Nat.le_refl _))]; exact M.srt
      · exact (M.same.wide M.out (Nat.le_refl _) (by omega) c).trans (s.wide o (by omega) c (Nat.le_refl _))
    · rw [insB_end _ _ _ _ _ c]
      have M := ins_merges hO d x n hx (by omega)
      refine ⟨M.out, Runs.cons ?_ (Runs.none (by omega)), M.same⟩
      rw [show min (x + 20) n = n from by omega]; exact M.srt
termination_by f => f

theorem passB_says (hO : SWO lt) (n bs : Nat) (hbs : 1 ≤ bs) : ∀ (f x : Nat) (d : Array α), d.size = n → x ≤ n → n - x < f → Runs lt bs n d x →
    Out x n d (passB lt n bs f x d) ∧ Runs lt (2 * bs) n (passB lt n bs f x d) x ∧ Same lt (seg d x n) (seg (passB lt n bs f x d) x n)
  | 0, x, d, hd, hx, hf, hr => by omega
  | f + 1, x, d, hd, hx, hf, hr => by
    have r1 := hr.head
    have r2 := hr.tail.head
    by_cases c : x + 2 * bs ≤ n
    · rw [passB_go _ _ _ _ _ _ c]
      rw [show min (x + bs) n = x + bs from by omega] at r1
      rw [show min (x + bs + bs) n = x + 2 * bs from by omega] at r2
      have M := symM_merges hO n x (x + bs) (x + 2 * bs) d (by omega) (by omega) (by omega) (by omega) r1 r2
      have hr' : Runs lt bs n (symM lt n x (x + bs) (x + 2 * bs) d) (x + 2 * bs) := by
        have := hr.tail.tail
        rw [show x + bs + bs = x + 2 * bs from by omega] at this
        exact this.kept (M.out.mono (Nat.zero_le _) (Nat.le_refl _))
      obtain ⟨o, r, s⟩ := passB_says hO n bs hbs f (x + 2 * bs) _ (by rw [size_symM]; exact hd) c (by omega) hr'
      refine ⟨(M.out.mono (Nat.le_refl _) c).trans (o.mono (by omega) (Nat.le_refl _)), Runs.cons ?_ r, ?_⟩
      · rw [show min (x + 2 * bs) n = x + 2 * bs from by omega, o.part (Or.inl (Nat.le_refl _))]; exact M.srt
      · exact (M.same.wide M.out (Nat.le_refl _) (by omega) c).trans (s.wide o (by omega) c (Nat.le_refl _))
    · by_cases c2 : x + bs < n
      · rw [passB_one _ _ _ _ _ _ c c2]
        rw [show min (x + bs) n = x + bs from by omega] at r1
        rw [show min (x + bs + bs) n = n from by omega] at r2
        have M := symM_merges hO n x (x + bs) n d (by omega) c2 (by omega) (by omega) r1 r2
        refine ⟨M.out, Runs.cons ?_ (Runs.none (by omega)), M.same⟩
        rw [show min (x + 2 * bs) n = n from by omega]; exact M.srt
      · rw [passB_end _ _ _ _ _ _ c c2]
        refine ⟨Out.refl _ _ _, Runs.cons ?_ (Runs.none (by omega)), Same.refl _⟩
        rw [show min (x + bs) n = n from by omega] at r1
        rw [show min (x + 2 * bs) n = n from by omega]; exact r1

theorem passes_says (hO : SWO lt) (n : Nat) : ∀ (f bs : Nat) (d : Array α), d.size = n → 1 ≤ bs → n - bs ≤ f → Runs lt bs n d 0 →
    Srt lt (seg (passes lt n f bs d) 0 n) ∧ Same lt (seg d 0 n) (seg (passes lt n f bs d) 0 n)
  | f, bs, d, hd, hb, hf, hr => by
    by_cases c : bs < n
    · obtain ⟨f, rfl⟩ : ∃ f', f = f' + 1 := ⟨f - 1, by omega⟩
      rw [passes_go _ _ _ _ _ c]
      obtain ⟨_, r, s⟩ := passB_says hO n bs hb (n + 1) 0 d hd (Nat.zero_le _) (by omega) hr
      obtain ⟨r', s'⟩ := passes_says hO n f (2 * bs) _ (by rw [size_passB]; exact hd) (by omega) (by omega) r
      exact ⟨r', s.trans s'⟩
    · rw [passes_end _ _ _ _ _ c]
      have := hr.head
      rw [show min (0 + bs) n = n from by omega] at this
      exact ⟨this, Same.refl _⟩
termination_by f => f

/-- THE STABLE SORT: in order, the same class by class. -/
theorem stable_says (hO : SWO lt) (d : Array α) : Srt lt (stable lt d).toList ∧ Same lt d.toList (stable lt d).toList := by
  obtain ⟨_, r, s⟩ := insB_says hO d.size (d.size + 1) 0 d rfl (Nat.zero_le _) (by omega)
  obtain ⟨r', s'⟩ := passes_says hO d.size (d.size + 1) 20 _ (size_insB _ _ _ _ _) (by omega) (by omega) r
  have e1 := seg_all d
  have e2 := seg_all (stable lt d)
  rw [size_stable] at e2
  rw [← e1, ← e2]
  exact ⟨r', s.trans s'⟩
end Go.Proofs.Ytgnnhomipfjanaa.Srt
