/- rundleref04.Less tells whether a text stands ahead of another one. -/
import Derived.Test.YtgnnhomipfjanaaSortP
import Derived.BigQuiet
import Derived.Deep.QuietTactic
import Derived.Deep.LoopGhost
namespace Go.Proofs.Ytgnnhomipfjanaa.Srt
open Go Go.Proofs Go.RowKit
open Go.Proofs.YtgnnhomipfjanaaW.PrintWords (Drawn0)

theorem drop_at (a : ByteArray) (i : Nat) (h : i < a.size) : a.data.toList.drop i = a[i] :: a.data.toList.drop (i + 1) := by
  rw [List.drop_eq_getElem_cons (by simpa using h)]; rfl
theorem drop_end (a : ByteArray) (i : Nat) (h : a.size ≤ i) : a.data.toList.drop i = [] := List.drop_eq_nil_of_le (by simpa using h)
theorem bl_cons (x : UInt8) (a b : List UInt8) : Op.bytesLess (x :: a) (x :: b) = Op.bytesLess a b := by simp [Op.bytesLess]
theorem bl_ne (x y : UInt8) (a b : List UInt8) (h : x ≠ y) : Op.bytesLess (x :: a) (y :: b) = decide (x.toNat < y.toNat) := by
  simp [Op.bytesLess, h, UInt8.lt_iff_toNat_lt]
theorem bl_nil (b : List UInt8) : Op.bytesLess [] b = decide (0 < b.length) := by cases b <;> rfl
theorem bl_nil_r (a : List UInt8) : Op.bytesLess a [] = false := by cases a <;> rfl

set_option maxHeartbeats 2000000 in
theorem Less_calls (a b : ByteArray) (w : World) (ha : a.size ≤ 9223372036854775807) (hb : b.size ≤ 9223372036854775807) :
    Calls Try.prog 46 #[.string a, .string b] w fun e w' => e = .returned (.bool (ltB a b)) ∧ Drawn0 w w' := by
  have HD : Drawn0 w w := Drawn0.refl w
  have H0 : Hid (ltB a b = Op.bytesLess (a.data.toList.drop 0) (b.data.toList.drop 0)) := by
    show _ = _
    rw [List.drop_zero, List.drop_zero, ← ByteArray.toList_eq, ← ByteArray.toList_eq]; rfl
  generalize ltB a b = r at H0 ⊢
  go_enter Try.func46, Try.ntmps46
  go_wp2_with fail
  go_loopg [5] (a.size + 1) (fun kq v5 w' => ∃ (i : Nat), v5 = .int .i64 i ∧ i ≤ a.size ∧ i ≤ b.size ∧ a.size - i < kq + 1 ∧ Drawn0 w w' ∧ Hid (r = Op.bytesLess (a.data.toList.drop i) (b.data.toList.drop i)))
  case atStart => exact ⟨0, rfl, by omega, by omega, by omega, HD, H0⟩
  case round =>
    obtain ⟨i, rfl, hia, hib, hk, ⟨m, rfl⟩, HE⟩ := hrel
    by_cases h1 : i < a.size
    · have z1 : (i : Int) < (a.size : Int) := by omega
      have d1 : decide ((i : Int) < (a.size : Int)) = true := decide_eq_true z1
      by_cases h2 : i < b.size
      · have z2 : (i : Int) < (b.size : Int) := by omega
        have d2 : decide ((i : Int) < (b.size : Int)) = true := decide_eq_true z2
        have p0 : (0 : Int) ≤ (i : Int) := by omega
        by_cases h3 : a[i] = b[i]
        · have HE2 : Hid (r = Op.bytesLess (a.data.toList.drop (i + 1)) (b.data.toList.drop (i + 1))) := by
            show _ = _
            rw [HE.out, drop_at a i h1, drop_at b i h2, h3, bl_cons]
          have h4 : (((a[i].toNat : Nat) : Int) != ((b[i].toNat : Nat) : Int)) = false := by rw [h3]; simp
          clear h3 HE
          go_wp2_with fail
          go_quiet (fail)
          go_wp2_with fail
          go_roundg (a.size - (i + 1))
          case measure => omega
          case rel => exact ⟨i + 1, by go_num, by omega, by omega, by omega, by repeat (first | exact Drawn0.refl _ | apply Drawn0.step), HE2⟩
        · have HE2 : Hid (r = decide (a[i].toNat < b[i].toNat)) := by
            show _ = _
            rw [HE.out, drop_at a i h1, drop_at b i h2, bl_ne _ _ _ _ h3]
          have h4 : (((a[i].toNat : Nat) : Int) != ((b[i].toNat : Nat) : Int)) = true := by
            rw [bne_iff_ne]; intro e; exact h3 (UInt8.toNat_inj.1 (by omega))
          clear h3 HE
          go_wp2_with fail
          go_quiet (fail)
          go_wp2_with fail
          go_quiet (fail)
          go_wp2_with fail
          go_ret
          exact ⟨by rw [HE2.out]; rfl, by repeat (first | exact Drawn0.refl _ | apply Drawn0.step)⟩
      · have z2 : ¬ (i : Int) < (b.size : Int) := by omega
        have HE2 : Hid (r = decide (a.size < b.size)) := by
          show _ = _
          rw [HE.out, drop_end b i (by omega), bl_nil_r, decide_eq_false (by omega)]
        go_wp2_with fail
        go_ret
        exact ⟨by rw [HE2.out]; rfl, ⟨⟨_, rfl⟩⟩⟩
    · have z1 : ¬ (i : Int) < (a.size : Int) := by omega
      have HE2 : Hid (r = decide (a.size < b.size)) := by
        show _ = _
        rw [HE.out, drop_end a i (by omega), bl_nil]
        simp
        omega
      go_wp2_with fail
      go_ret
      exact ⟨by rw [HE2.out]; rfl, ⟨⟨_, rfl⟩⟩⟩

theorem Less_quiet (a b : ByteArray) (w : World) (ha : a.size ≤ 9223372036854775807) (hb : b.size ≤ 9223372036854775807) :
    Calls Try.prog 46 #[.string a, .string b] w fun e w' => e = .returned (.bool (ltB a b)) ∧ ∃ m, w' = w.drewN m :=
  (Less_calls a b w ha hb).mono fun _ _ ⟨he, hd⟩ => ⟨he, hd.out⟩
end Go.Proofs.Ytgnnhomipfjanaa.Srt
