/- strings.IndexByte, strings.TrimLeft at a cutset of ASCII bytes, strings.Split at a separator of one byte: in the form in which the printed walks ask them. -/
import Derived.Test.YtlkbeddlmbghkaaGreatDoorPRx0
import Derived.Test.YtlkbeddlmbghkaaGreatDoorShelfA
namespace Go.Proofs.YtlkbeddlmbghkaaGreatDoor.PR
open Go Go.Proofs Go.RowKit Go.Shelf Go.Proofs.YtlkbeddlmbghkaaGreatDoorW.PrintWords Go.Proofs.YtlkbeddlmbghkaaGreatDoorW.PrintLast Go.Proofs.YtlkbeddlmbghkaaGreatDoorW.PrintMore
set_option linter.unusedVariables false
set_option linter.unusedSimpArgs false
set_option maxRecDepth 100000

def strings_IndexByte.f (s : ByteArray) (c : Int) : Option Int := some (Lib.indexByte s.data.toList c.toNat.toUInt8)
theorem strings_IndexByte.calls (s : ByteArray) (c r : Int) (w : World) (h : strings_IndexByte.f s c = some r) :
  Calls Tryz.prog 135 #[.string s, .int .u8 c] w fun e w' => e = .returned (.int .i64 r) ∧ Drawn0 w w' := by
 obtain rfl := Option.some.inj h
 exact (Tryz.strings_IndexByte s c w).mono fun e w' ⟨he, hw⟩ => ⟨he, by rw [hw]; exact Drawn0.refl _⟩

def strings_TrimLeft.f (s c : ByteArray) : Option ByteArray :=
 if c.data.toList.all (fun b => decide (b.toNat < 128)) = true ∧ c.size < 1000 then some ⟨(Lib.trimLeftS s.data.toList c.data.toList).toArray⟩ else none
theorem strings_TrimLeft.calls (s c r : ByteArray) (w : World) (h : strings_TrimLeft.f s c = some r) :
  Calls Tryz.prog 65 #[.string s, .string c] w fun e w' => e = .returned (.string r) ∧ Below w.heap.size w w' := by
 unfold strings_TrimLeft.f at h
 by_cases hc : c.data.toList.all (fun b => decide (b.toNat < 128)) = true ∧ c.size < 1000
 ·
  rw [if_pos hc] at h
  obtain rfl := Option.some.inj h
  exact Tryz.strings_TrimLeft_laid s c w (by omega) (fun j b hj => by
   have := List.all_eq_true.1 hc.1 b (List.mem_of_getElem? hj)
   simpa using this)
 ·
  rw [if_neg hc] at h
  cases h

theorem index_one (x : List UInt8) (c : UInt8) : Lib.index x [c] = Lib.indexByte x c := by
 induction x with
 | nil => rfl
 | cons b l ih =>
  unfold Lib.index Lib.indexByte
  rw [ih]
  have : ([c].isPrefixOf (b :: l)) = (b == c) := by simp [List.isPrefixOf, Bool.beq_comm]
  rw [this]

def strings_Split.f (s sep : ByteArray) : Option (List ByteArray) :=
 if s.size < 1000000000 ∧ sep.size = 1 then some (Lib.splitB sep 0 (Lib.countB s sep) s) else none

theorem row_of_cells (w : World) (xs : List ByteArray) (e : Nat) (hl : xs.length ≤ 2000000000) :
  Kd.R Kd.string e (w.alloc (.cells (xs.map Value.string).toArray e)) w.heap.size (fun _ => True) (.slice (some ⟨w.heap.size, 0, none⟩) xs.length xs.length) xs := by
 refine Kd.R_of_own (enc := Value.string) (h1 := fun _ => rfl) ⟨by simp [encs], Or.inr ⟨w.heap.size, xs.length, (xs.map Value.string).toArray, rfl, Nat.le_refl _, heap_alloc_new _ _, Nat.le_refl _, by unfold maxLen; omega, by simp, ?_⟩⟩ (fun _ _ => trivial)
 simp only [encs]
 rw [List.take_of_length_le (by simp)]
 try simp

theorem strings_Split.calls (s sep : ByteArray) (r : List ByteArray) (w : World) (h : strings_Split.f s sep = some r) :
  Calls Tryz.prog 39 #[.string s, .string sep] w fun e w' => ∃ v0_ : Value, e = .returned v0_ ∧ Kd.R Kd.string 9 w' w.heap.size (fun _ => True) v0_ r ∧ Below w.heap.size w w' := by
 unfold strings_Split.f at h
 by_cases hc : s.size < 1000000000 ∧ sep.size = 1
 case neg => rw [if_neg hc] at h; cases h
 rw [if_pos hc] at h
 obtain rfl := Option.some.inj h
 obtain ⟨c, rfl⟩ := Lib.one_byte sep hc.2
 have h1 : 1 ≤ (⟨#[c]⟩ : ByteArray).size := by rw [hc.2]; exact Nat.le_refl _
 have hle := Lib.countB_le ⟨#[c]⟩ h1 s.size s (Nat.le_refl _)
 have hlen := Lib.splitB_all ⟨#[c]⟩ h1 0 _ s rfl
 have k := Any.strings_genSplit_core { Tryz.lays146 with } (by kernel_rfl) s ⟨#[c]⟩ 0 (-1) (Lib.countB s ⟨#[c]⟩ + 1) w (by omega) h1 (Nat.zero_le _)
  (fun x cs _ => (Any.strings_Index_one { Tryz.lays146 with } x c _).mono fun e w' ⟨he, hw⟩ => ⟨by rw [he]; unfold Lib.indexB; rw [index_one], hw⟩)
  ((Any.strings_Count_one { Tryz.lays146 with } s c w).mono fun e w' ⟨he, hw⟩ => ⟨by rw [he]; show _ = Ending.returned (Value.int .i64 ((Lib.count s.data.toList [c] : Nat) : Int)); rw [Lib.count_one]; rfl, hw⟩)
  (by decide) (by decide) (by rw [if_pos (by decide)]; omega)
 rw [Nat.add_sub_cancel, hlen] at k
 have e2 : Lib.cellsOf (Lib.splitB ⟨#[c]⟩ 0 (Lib.countB s ⟨#[c]⟩) s) (Lib.countB s ⟨#[c]⟩ + 1) = ((Lib.splitB ⟨#[c]⟩ 0 (Lib.countB s ⟨#[c]⟩) s).map Value.string).toArray := by rw [← hlen]; exact Lib.cellsOf_full _
 rw [e2] at k
 have hr := row_of_cells w (Lib.splitB ⟨#[c]⟩ 0 (Lib.countB s ⟨#[c]⟩) s) 9 (by rw [hlen]; omega)
 rw [hlen] at hr
 have k2 : Calls Tryz.prog 64 #[.string s, .string ⟨#[c]⟩, .int .i64 ((0 : Nat) : Int), .int .i64 (-1)] w fun e w' => e = .returned (.slice (some ⟨w.heap.size, 0, none⟩) (Lib.countB s ⟨#[c]⟩ + 1) (Lib.countB s ⟨#[c]⟩ + 1)) ∧ w' = w.alloc (.cells ((Lib.splitB ⟨#[c]⟩ 0 (Lib.countB s ⟨#[c]⟩) s).map Value.string).toArray 9) := k
 have K := Aside0.mk k2
 have HR := Aside0.mk hr
 clear k k2 e2 hle hlen hr h hc h1
 go_enter Tryz.func39, Tryz.ntmps39
 go_wp2_with (go_at_call 64; refine K.out.mono ?_; rintro e w' ⟨rfl, hw⟩; rw [hw])
 go_ret
 exact ⟨_, rfl, HR.out, (Below.refl _ _).alloc (Nat.le_refl _) _⟩
end Go.Proofs.YtlkbeddlmbghkaaGreatDoor.PR

namespace Go.Proofs.YtlkbeddlmbghkaaGreatDoor.PR
open Go Go.Proofs Go.RowKit Go.Shelf Go.Proofs.YtlkbeddlmbghkaaGreatDoorW.PrintWords Go.Proofs.YtlkbeddlmbghkaaGreatDoorW.PrintLast Go.Proofs.YtlkbeddlmbghkaaGreatDoorW.PrintMore
set_option linter.unusedVariables false
set_option linter.unusedSimpArgs false
set_option maxRecDepth 100000

def clsP (r : Int) : Int :=
 if 97 ≤ r ∧ r ≤ 122 then 1 else if 48 ≤ r ∧ r ≤ 57 then 2 else if r = 32 ∨ r = 9 then 3 else if r = 34 ∨ r = 92 then 4 else if 32 < r ∧ r < 127 then 5 else 0
def runes_Class.f (r : Int) : Option Int := some (clsP r)

theorem ret_i {k : IntKind} {a b : Int} (h : a = b) : Ending.returned (.int k a) = .returned (.int k b) := by rw [h]

theorem ret_b {a b : Bool} (h : a = b) : Ending.returned (.bool a) = .returned (.bool b) := by rw [h]

theorem runes_Class.calls (a r : Int) (w : World) (h : runes_Class.f a = some r) :
  Calls Tryz.prog 73 #[.int .i32 a] w fun e w' => e = .returned (.int .i64 r) ∧ Drawn0 w w' := by
 obtain rfl := Option.some.inj h
 clear h
 go_enter Tryz.func73, Tryz.ntmps73
 go_wp2
 all_goals
  go_ret
  refine ⟨ret_i ?_, Drawn0.refl _⟩
  unfold clsP
  try simp only [decide_eq_true_eq, decide_eq_false_iff_not, beq_iff_eq, bne_iff_ne, beq_eq_false_iff_ne, ne_eq] at *
  first
   | rfl
   | (repeat' split; all_goals first | rfl | omega | (exfalso; simp at *; done) | simp_all)

/-- Does the rune that a range met at a place stand there? -/
def wholeB (s : ByteArray) (at_ : Nat) (r : Int) : Bool := (r != 65533) || Lib.hasPrefix (s.data.toList.drop at_) [239, 191, 189]

theorem whole_calls (s : ByteArray) (p : Nat) (r : Int) (w : World) (hs : s.size ≤ 140737488351232) (hp : p ≤ s.size) :
  Calls Tryz.prog 75 #[.string s, .int .i64 p, .int .i32 r] w fun e w' => e = .returned (.bool (wholeB s p r)) ∧ w' = w := by
 by_cases hr : r = 65533
 ·
  have h1 : (r != 65533) = false := by rw [hr]; rfl
  have he : wholeB s p r = Lib.hasPrefix (s.extract p s.size).data.toList [239, 191, 189] := by
   unfold wholeB
   rw [h1, Lib.extract_to_end]
   rfl
  have HE := Aside0.mk he
  have hd : decide ((0 : Int) ≤ (p : Int)) = true := by simp
  have hd2 : decide ((p : Int) ≤ (s.size : Int)) = true := by simp; omega
  clear he hr
  go_enter Tryz.func75, Tryz.ntmps75
  go_wp2_with (go_at_call 97; refine (Tryz.strings_HasPrefix _ _ _).mono ?_; rintro e w' ⟨rfl, rfl⟩)
  go_ret
  refine ⟨ret_b ?_, rfl⟩
  rw [HE.out, Lib.extract_to_end, List.take_of_length_le (by have := Lib.size_eq s; rw [List.length_drop]; omega)]
 ·
  have h1 : (r != 65533) = true := by simpa using hr
  have he : wholeB s p r = true := by unfold wholeB; rw [h1]; rfl
  have HE := Aside0.mk he
  clear he hr
  go_enter Tryz.func75, Tryz.ntmps75
  go_wp2
  go_ret
  exact ⟨ret_b HE.out.symm, rfl⟩
end Go.Proofs.YtlkbeddlmbghkaaGreatDoor.PR
