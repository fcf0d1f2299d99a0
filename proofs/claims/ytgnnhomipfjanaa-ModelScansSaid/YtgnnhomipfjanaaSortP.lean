/- The comparison of entries by their keys, and what the sorted row is in memory. -/
import Derived.Test.YtgnnhomipfjanaaSortN
import Derived.Test.YtgnnhomipfjanaaWAll
import Derived.Laws.Cover1
namespace Go.Proofs.Ytgnnhomipfjanaa.Srt
open Go Go.Proofs Go.Shelf Go.RowKit Go.Lib Go.Sort
open Go.Proofs.YtgnnhomipfjanaaW.PrintWords (Reps Kd)

/-! ### texts in order -/
theorem bl_irrefl : ∀ a : List UInt8, Op.bytesLess a a = false
  | [] => rfl
  | x :: a => by simp [Op.bytesLess, bl_irrefl a]
theorem bl_trans : ∀ a b c : List UInt8, Op.bytesLess a b = true → Op.bytesLess b c = true → Op.bytesLess a c = true
  | a, [], _, h, _ => by cases a <;> simp [Op.bytesLess] at h
  | _, _ :: _, [], _, h => by simp [Op.bytesLess] at h
  | [], _ :: _, _ :: _, _, _ => rfl
  | x :: a, y :: b, z :: c, h1, h2 => by
    simp only [Op.bytesLess, Bool.or_eq_true, Bool.and_eq_true, decide_eq_true_eq, beq_iff_eq] at *
    rcases h1 with h1 | ⟨rfl, h1⟩ <;> rcases h2 with h2 | ⟨rfl, h2⟩
    · exact Or.inl (UInt8.lt_trans h1 h2)
    · exact Or.inl h1
    · exact Or.inl h2
    · exact Or.inr ⟨rfl, bl_trans a b c h1 h2⟩
theorem bl_total : ∀ a b : List UInt8, Op.bytesLess a b = false → Op.bytesLess b a = false → a = b
  | [], [], _, _ => rfl
  | [], _ :: _, h, _ => by cases h
  | _ :: _, [], _, h => by cases h
  | x :: a, y :: b, h1, h2 => by
    simp only [Op.bytesLess, Bool.or_eq_false_iff, Bool.and_eq_false_iff, decide_eq_false_iff_not, beq_eq_false_iff_ne] at *
    have e : x = y := UInt8.le_antisymm (UInt8.not_lt.1 h2.1) (UInt8.not_lt.1 h1.1)
    subst e
    rw [bl_total a b (h1.2.resolve_left (fun h => h rfl)) (h2.2.resolve_left (fun h => h rfl))]
theorem bl_asymm {a b : List UInt8} (h : Op.bytesLess a b = true) : Op.bytesLess b a = false := by
  cases h2 : Op.bytesLess b a with
  | false => rfl
  | true => have := bl_trans a b a h h2; rw [bl_irrefl] at this; cases this
theorem bl_ntrans (a b c : List UInt8) (h1 : Op.bytesLess a b = false) (h2 : Op.bytesLess b c = false) : Op.bytesLess a c = false := by
  cases h : Op.bytesLess a c with
  | false => rfl
  | true =>
    cases h3 : Op.bytesLess b a with
    | true => have := bl_trans b a c h3 h; rw [this] at h2; cases h2
    | false =>
      have e := bl_total a b h1 h3
      subst e
      rw [h] at h2; cases h2

/-- A text ahead of another one. -/
def ltB (a b : ByteArray) : Bool := Op.bytesLess a.toList b.toList
/-- cmp.Compare of texts. -/
def cmpB (a b : ByteArray) : Int := if ltB a b then -1 else if ltB b a then 1 else 0

theorem isNaN_calls (a : ByteArray) (w : World) : Calls Try.prog 64 #[.string a] w fun e w' => e = .returned (.bool false) ∧ w = w' := by
  go_enter Try.func64, Try.ntmps64
  go_wp2
  go_ret
  exact ⟨by simp, rfl⟩

set_option maxHeartbeats 1000000 in
theorem Compare_calls (a b : ByteArray) (w : World) : Calls Try.prog 57 #[.string a, .string b] w fun e w' => e = .returned (.int .i64 (cmpB a b)) ∧ w = w' := by
  have H : Hid (cmpB a b = if ltB a b then -1 else if ltB b a then 1 else 0) := rfl
  cases h1 : ltB a b with
  | true =>
    have g1 : Op.bytesLess a.toList b.toList = true := h1
    rw [H.out, h1]
    clear h1 H
    go_enter Try.func57, Try.ntmps57
    go_wp2_with (go_at_call 64; refine (isNaN_calls _ _).mono ?_; rintro e w' ⟨rfl, rfl⟩)
    go_ret
    exact ⟨by simp, rfl⟩
  | false =>
    have g1 : Op.bytesLess a.toList b.toList = false := h1
    cases h2 : ltB b a with
    | true =>
      have g2 : Op.bytesLess b.toList a.toList = true := h2
      have g3 : (a.toList == b.toList) = false := by
        cases h : a.toList == b.toList with
        | false => rfl
        | true => rw [beq_iff_eq] at h; rw [h, bl_irrefl] at g2; cases g2
      rw [H.out, h1, h2]
      clear h1 h2 H
      go_enter Try.func57, Try.ntmps57
      go_wp2_with (go_at_call 64; refine (isNaN_calls _ _).mono ?_; rintro e w' ⟨rfl, rfl⟩)
      go_ret
      exact ⟨by simp, rfl⟩
    | false =>
      have g2 : Op.bytesLess b.toList a.toList = false := h2
      have g3 : (a.toList == b.toList) = true := beq_iff_eq.2 (bl_total _ _ g1 g2)
      rw [H.out, h1, h2]
      clear h1 h2 H
      go_enter Try.func57, Try.ntmps57
      go_wp2_with (go_at_call 64; refine (isNaN_calls _ _).mono ?_; rintro e w' ⟨rfl, rfl⟩)
      go_ret
      exact ⟨by simp, rfl⟩

/-- batch.by. -/
theorem by_calls (a0 a1 b0 b1 : ByteArray) (a2 b2 : Bool) (W : World) : Calls Try.prog 45 #[.agg #[.string a0, .string a1, .bool a2], .agg #[.string b0, .string b1, .bool b2]] W fun e w' =>
    e = .returned (.int .i64 (cmpB a0 b0)) ∧ ∃ q os', w' = grow (W.drewN q) os' := by
  go_enter Try.func45, Try.ntmps45
  go_wp2_with (go_at_call 57; refine (Compare_calls _ _ _).mono ?_; rintro e w' ⟨rfl, rfl⟩)
  go_ret
  exact ⟨rfl, 0, _, by rw [alloc_eq_grow, alloc_eq_grow, grow_grow]; rfl⟩
end Go.Proofs.Ytgnnhomipfjanaa.Srt
