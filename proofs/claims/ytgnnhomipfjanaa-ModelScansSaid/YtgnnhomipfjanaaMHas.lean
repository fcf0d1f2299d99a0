/- key.Has, in the print's own form: whether a text lies in a span. -/
import Derived.Test.YtgnnhomipfjanaaPMx0
import Derived.Test.YtgnnhomipfjanaaLess
import Derived.Laws.Cover1
namespace Go.Proofs.Ytgnnhomipfjanaa.PM
open Go Go.Proofs Go.RowKit Go.Proofs.YtgnnhomipfjanaaW.PrintWords Go.Proofs.YtgnnhomipfjanaaW.PrintLast Go.Proofs.YtgnnhomipfjanaaW.PrintMore

/-- Does a text lie in a span? -/
def hasE (lo hi : ByteArray) (all : Bool) (k : ByteArray) : Bool := !Srt.ltB k lo && (all || Srt.ltB k hi)
def key_Has.f (a0_0 : ByteArray) (a0_1 : ByteArray) (a0_2 : Bool) (a1 : ByteArray) : Option (Bool) := some (hasE a0_0 a0_1 a0_2 a1)

theorem leq_ltB (a b : ByteArray) : (Op.bytesLess a.toList b.toList || a.toList == b.toList) = !Srt.ltB b a := by
  unfold Srt.ltB
  cases h1 : Op.bytesLess b.toList a.toList with
  | true =>
    rw [Srt.bl_asymm h1]
    cases h : a.toList == b.toList with
    | false => rfl
    | true => rw [beq_iff_eq] at h; rw [h, Srt.bl_irrefl] at h1; cases h1
  | false =>
    cases h2 : Op.bytesLess a.toList b.toList with
    | true => rfl
    | false => rw [beq_iff_eq.2 (Srt.bl_total _ _ h2 h1)]; rfl

set_option maxHeartbeats 1000000 in
theorem Has_calls (lo hi : ByteArray) (all : Bool) (k : ByteArray) (w : World) :
    Calls Try.prog 47 #[.agg #[.string lo, .string hi, .bool all], .string k] w fun e w' => e = .returned (.bool (hasE lo hi all k)) ∧ Below w.heap.size w w' := by
  have e0 := leq_ltB lo k
  cases h1 : Srt.ltB k lo with
  | true =>
    have HE : Hid (hasE lo hi all k = false) := by show _ = _; unfold hasE; rw [h1]; rfl
    rw [h1] at e0
    have e1 : Op.bytesLess lo.toList k.toList = false := (Bool.or_eq_false_iff.1 e0).1
    have e2 : (lo.toList == k.toList) = false := (Bool.or_eq_false_iff.1 e0).2
    clear e0 h1
    go_enter Try.func47, Try.ntmps47
    go_wp2
    go_ret
    exact ⟨by rw [HE.out]; rfl, below_alloc (Below.refl _ _) _⟩
  | false =>
    rw [h1] at e0
    cases all with
    | true =>
      have HE : Hid (hasE lo hi true k = true) := by show _ = _; unfold hasE; rw [h1]; rfl
      clear h1
      go_enter Try.func47, Try.ntmps47
      go_wp2
      go_ret
      exact ⟨by rw [HE.out]; rfl, below_alloc (Below.refl _ _) _⟩
    | false =>
      have HE : Hid (hasE lo hi false k = Op.bytesLess k.toList hi.toList) := by show _ = _; unfold hasE; rw [h1]; rfl
      clear h1
      go_enter Try.func47, Try.ntmps47
      go_wp2
      go_ret
      exact ⟨by rw [HE.out]; rfl, below_alloc (Below.refl _ _) _⟩

theorem key_Has.calls (a0_0 : ByteArray) (a0_1 : ByteArray) (a0_2 : Bool) (a1 : ByteArray) (r : Bool) (w : World) (h : key_Has.f a0_0 a0_1 a0_2 a1 = some r) :
    Calls Try.prog 47 #[.agg #[.string a0_0, .string a0_1, .bool a0_2], .string a1] w fun e w' => e = .returned (.bool r) ∧ Below w.heap.size w w' := by
  obtain rfl := Option.some.inj h
  exact Has_calls _ _ _ _ _
end Go.Proofs.Ytgnnhomipfjanaa.PM
