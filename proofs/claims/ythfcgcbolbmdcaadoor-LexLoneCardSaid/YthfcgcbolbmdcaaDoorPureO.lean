/- Lines of a text put together out of two: the plain law of LexLone. -/
import Derived.Test.YthfcgcbolbmdcaaDoorPureM
namespace Go.Proofs.YthfcgcbolbmdcaaDoor.PR
open Go Go.Proofs Go.RowKit Go.Proofs.YthfcgcbolbmdcaaDoorW.PrintWords Go.Proofs.YthfcgcbolbmdcaaDoorW.PrintLast Go.Proofs.YthfcgcbolbmdcaaDoorW.PrintMore Go.Proofs.YthfcgcbolbmdcaaDoor.Lx
set_option linter.unusedVariables false
set_option linter.unusedSimpArgs false

def wsOf : List (List UInt8) → List (List Wd)
  | [] => []
  | l :: r => match wordsL validB l with
    | none => wsOf r
    | some ws => if 0 < ws.length then ws :: wsOf r else wsOf r
theorem wsOf_append : ∀ a b, wsOf (a ++ b) = wsOf a ++ wsOf b
  | [], b => rfl
  | l :: r, b => by
    rw [List.cons_append, wsOf, wsOf, wsOf_append r b]
    cases wordsL validB l with
    | none => rfl
    | some ws => simp only; split <;> rfl

theorem linesS_good : ∀ (A : List (List UInt8)) (no : Int) (acc : List (Int × List Wd)), (∀ x ∈ A, wordsL validB x ≠ none) → ∃ L, linesS validB A no acc = (acc ++ L, 0, 0) ∧ L.map (·.2) = wsOf A
  | [], no, acc, h => ⟨[], by rw [linesS_nil, List.append_nil], rfl⟩
  | l :: r, no, acc, h => by
    cases ho : wordsL validB l with
    | none => exact absurd ho (h l (by simp))
    | some ws =>
      obtain ⟨L, h1, h2⟩ := linesS_good r (no + 1) (if 0 < ws.length then acc ++ [(no, ws)] else acc) (fun x hx => h x (by simp [hx]))
      rw [linesS_some _ _ _ ho, h1, wsOf, ho]
      simp only
      by_cases hp : 0 < ws.length
      · rw [if_pos hp, if_pos hp]
        exact ⟨(no, ws) :: L, by simp, by rw [List.map_cons, h2]⟩
      · rw [if_neg hp, if_neg hp]
        exact ⟨L, rfl, h2⟩
theorem linesS_ill : ∀ (A : List (List UInt8)) (no : Int) (acc : List (Int × List Wd)), (∃ x ∈ A, wordsL validB x = none) → ∃ m, linesS validB A no acc = ([], m, 7)
  | [], no, acc, h => by obtain ⟨x, hx, _⟩ := h; cases hx
  | l :: r, no, acc, h => by
    cases ho : wordsL validB l with
    | none => exact ⟨no, linesS_bad _ _ _ ho⟩
    | some ws =>
      rw [linesS_some _ _ _ ho]
      obtain ⟨x, hx, hn⟩ := h
      rcases List.mem_cons.1 hx with rfl | hx
      · rw [ho] at hn; cases hn
      · exact linesS_ill r _ _ ⟨x, hx, hn⟩

theorem splitNL_append : ∀ (n : Nat) (a b : List UInt8), a.length ≤ n → splitNL (a ++ 10 :: b) = splitNL a ++ splitNL b
  | 0, a, b, h => by
    have : a = [] := List.length_eq_zero_iff.1 (by omega)
    subst this; exact splitNL_line [] b (by simp)
  | n + 1, a, b, h => by
    rcases line_split a with hn | ⟨x, y, rfl, hx⟩
    · rw [splitNL_line a b hn, splitNL_last a hn]; rfl
    · rw [show (x ++ 10 :: y) ++ 10 :: b = x ++ 10 :: (y ++ 10 :: b) by simp, splitNL_line x _ hx, splitNL_line x y hx, splitNL_append n y b (by simp at h; omega)]
      rfl

/-- The text between: its end, and as many lines that say nothing. -/
def midL : Nat → List UInt8
  | 0 => [10]
  | n + 1 => midL n ++ [32, 35, 32, 120, 10]
theorem blank_line : wordsL validB [32, 35, 32, 120] = some [] := wordsF_hash (c := 35) (t := [32, 120]) (by decide) (by decide)

theorem mid_split : ∀ (n : Nat) (t : List UInt8), ∃ M : List (List UInt8), (∀ s, splitNL (s ++ midL n ++ t) = splitNL s ++ M ++ splitNL t) ∧ wsOf M = [] ∧ ∀ x ∈ M, wordsL validB x ≠ none
  | 0, t => ⟨[], fun s => by rw [midL, List.append_assoc, List.singleton_append, splitNL_append _ s t (Nat.le_refl _), List.append_nil], rfl, by simp⟩
  | n + 1, t => by
    obtain ⟨M, h1, h2, h3⟩ := mid_split n ([32, 35, 32, 120] ++ 10 :: t)
    refine ⟨M ++ [[32, 35, 32, 120]], fun s => ?_, ?_, ?_⟩
    · have e : s ++ midL (n + 1) ++ t = s ++ midL n ++ ([32, 35, 32, 120] ++ 10 :: t) := by simp [midL]
      rw [e, h1 s, splitNL_append _ _ t (Nat.le_refl _), splitNL_last [32, 35, 32, 120] (by decide)]
      simp
    · rw [wsOf_append, h2, wsOf, blank_line]; rfl
    · intro x hx
      rcases List.mem_append.1 hx with hx | hx
      · exact h3 x hx
      · rw [List.mem_singleton.1 hx, blank_line]; simp

theorem midL_len : ∀ n, (midL n).length = 1 + 5 * n
  | 0 => rfl
  | n + 1 => by rw [midL, List.length_append, midL_len n]; simp; omega

theorem linesL_small (l : List UInt8) (h : l.length ≤ 20000) : linesL validB l = linesS validB (splitNL l) 1 [] := by unfold linesL; rw [if_neg (by omega)]

/-- Of two texts, and one put together out of them. -/
theorem lone_law (s t : List UInt8) (n : Nat) (hs : s.length ≤ 3000) (ht : t.length ≤ 3000) (hn : n < 256) :
    (((linesL validB s).2.2 ≠ 0 ∨ (linesL validB t).2.2 ≠ 0) ∧ (linesL validB (s ++ midL n ++ t)).2.2 = 7)
    ∨ ((linesL validB s).2.2 = 0 ∧ (linesL validB t).2.2 = 0 ∧ (linesL validB (s ++ midL n ++ t)).2.2 = 0 ∧
       (linesL validB (s ++ midL n ++ t)).1.map (·.2) = (linesL validB s).1.map (·.2) ++ (linesL validB t).1.map (·.2)) := by
  have hm := midL_len n
  rw [linesL_small s (by omega), linesL_small t (by omega), linesL_small (s ++ midL n ++ t) (by simp; omega)]
  obtain ⟨M, h1, h2, h3⟩ := mid_split n t
  rw [h1 s]
  by_cases ha : ∃ x ∈ splitNL s, wordsL validB x = none
  · obtain ⟨m, e⟩ := linesS_ill (splitNL s) 1 [] ha
    obtain ⟨m2, e2⟩ := linesS_ill (splitNL s ++ M ++ splitNL t) 1 [] (by obtain ⟨x, hx, hw⟩ := ha; exact ⟨x, by simp [hx], hw⟩)
    exact .inl ⟨.inl (by rw [e]; simp), by rw [e2]⟩
  by_cases hb : ∃ x ∈ splitNL t, wordsL validB x = none
  · obtain ⟨m, e⟩ := linesS_ill (splitNL t) 1 [] hb
    obtain ⟨m2, e2⟩ := linesS_ill (splitNL s ++ M ++ splitNL t) 1 [] (by obtain ⟨x, hx, hw⟩ := hb; exact ⟨x, by simp [hx], hw⟩)
    exact .inl ⟨.inr (by rw [e]; simp), by rw [e2]⟩
  have ha' : ∀ x ∈ splitNL s, wordsL validB x ≠ none := fun x hx e => ha ⟨x, hx, e⟩
  have hb' : ∀ x ∈ splitNL t, wordsL validB x ≠ none := fun x hx e => hb ⟨x, hx, e⟩
  obtain ⟨LA, eA, wA⟩ := linesS_good (splitNL s) 1 [] ha'
  obtain ⟨LB, eB, wB⟩ := linesS_good (splitNL t) 1 [] hb'
  obtain ⟨LC, eC, wC⟩ := linesS_good (splitNL s ++ M ++ splitNL t) 1 [] (by
    intro x hx
    rcases List.mem_append.1 hx with hx | hx
    · rcases List.mem_append.1 hx with hx | hx
      · exact ha' x hx
      · exact h3 x hx
    · exact hb' x hx)
  refine .inr ⟨by rw [eA], by rw [eB], by rw [eC], ?_⟩
  rw [eA, eB, eC]
  simp only [List.nil_append]
  rw [wA, wB, wC, wsOf_append, wsOf_append, h2, List.append_nil]
end Go.Proofs.YthfcgcbolbmdcaaDoor.PR
