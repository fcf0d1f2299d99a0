/- runes.Class and runes.whole. -/
import Derived.Test.YtlkbeddlmbghkaaDoorPRx0
import Derived.Test.YtlkbeddlmbghkaaDoorShelf
namespace Go.Proofs.YtlkbeddlmbghkaaDoor.PR
open Go Go.Proofs Go.RowKit Go.Shelf Go.Proofs.YtlkbeddlmbghkaaDoorW.PrintWords Go.Proofs.YtlkbeddlmbghkaaDoorW.PrintLast Go.Proofs.YtlkbeddlmbghkaaDoorW.PrintMore
set_option linter.unusedVariables false
set_option linter.unusedSimpArgs false
set_option maxRecDepth 100000

def clsP (r : Int) : Int :=
  if 97 ≤ r ∧ r ≤ 122 then 1 else if 48 ≤ r ∧ r ≤ 57 then 2 else if r = 32 ∨ r = 9 then 3 else if r = 34 ∨ r = 92 then 4 else if 32 < r ∧ r < 127 then 5 else 0
def runes_Class.f (r : Int) : Option Int := some (clsP r)

theorem ret_i {k : IntKind} {a b : Int} (h : a = b) : Ending.returned (.int k a) = .returned (.int k b) := by rw [h]

theorem ret_b {a b : Bool} (h : a = b) : Ending.returned (.bool a) = .returned (.bool b) := by rw [h]

theorem runes_Class.calls (a r : Int) (w : World) (h : runes_Class.f a = some r) :
    Calls Tryd.prog 21 #[.int .i32 a] w fun e w' => e = .returned (.int .i64 r) ∧ Drawn0 w w' := by
  obtain rfl := Option.some.inj h
  clear h
  go_enter Tryd.func21, Tryd.ntmps21
  go_wp2
  all_goals
    go_ret
    refine ⟨ret_i ?_, Drawn0.refl _⟩
    unfold clsP
    try simp only [decide_eq_true_eq, decide_eq_false_iff_not, beq_iff_eq, bne_iff_ne, beq_eq_false_iff_ne, ne_eq] at *
    first
      | rfl
      | (repeat' split; all_goals first | rfl | omega | (exfalso; simp at *; done) | simp_all)

/-- Does the rune that a range met at a place stand there? -/
def wholeB (s : ByteArray) (at_ : Nat) (r : Int) : Bool := (r != 65533) || Lib.hasPrefix (s.data.toList.drop at_) [239, 191, 189]

theorem whole_calls (s : ByteArray) (p : Nat) (r : Int) (w : World) (hs : s.size ≤ 140737488351232) (hp : p ≤ s.size) :
    Calls Tryd.prog 97 #[.string s, .int .i64 p, .int .i32 r] w fun e w' => e = .returned (.bool (wholeB s p r)) ∧ w' = w := by
  by_cases hr : r = 65533
  · have h1 : (r != 65533) = false := by rw [hr]; rfl
    have he : wholeB s p r = Lib.hasPrefix (s.extract p s.size).data.toList [239, 191, 189] := by
      unfold wholeB
      rw [h1, Lib.extract_to_end]
      rfl
    have HE := Aside0.mk he
    have hd : decide ((0 : Int) ≤ (p : Int)) = true := by simp
    have hd2 : decide ((p : Int) ≤ (s.size : Int)) = true := by simp; omega
    clear he hr
    go_enter Tryd.func97, Tryd.ntmps97
    go_wp2_with (go_at_call 109; refine (Tryd.strings_HasPrefix _ _ _).mono ?_; rintro e w' ⟨rfl, rfl⟩)
    go_ret
    refine ⟨ret_b ?_, rfl⟩
    rw [HE.out, Lib.extract_to_end, List.take_of_length_le (by have := Lib.size_eq s; rw [List.length_drop]; omega)]
  · have h1 : (r != 65533) = true := by simpa using hr
    have he : wholeB s p r = true := by unfold wholeB; rw [h1]; rfl
    have HE := Aside0.mk he
    clear he hr
    go_enter Tryd.func97, Tryd.ntmps97
    go_wp2
    go_ret
    exact ⟨ret_b HE.out.symm, rfl⟩
end Go.Proofs.YtlkbeddlmbghkaaDoor.PR
