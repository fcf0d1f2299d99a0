/- script's names of calls: where one stands in the table. -/
import Derived.Test.YtlkbeddlmbghkaaGreatDoorScRe
import Derived.Test.YtlkbeddlmbghkaaGreatDoorPQ
namespace Go.Proofs.YtlkbeddlmbghkaaGreatDoor.PR
open Go Go.Proofs Go.RowKit Go.Proofs.YtlkbeddlmbghkaaGreatDoorW.PrintWords Go.Proofs.YtlkbeddlmbghkaaGreatDoorW.PrintLast Go.Proofs.YtlkbeddlmbghkaaGreatDoorW.PrintMore Go.Proofs.YtlkbeddlmbghkaaGreatDoor.PQ
set_option linter.unusedVariables false
set_option linter.unusedSimpArgs false
set_option maxRecDepth 100000

def kindsL : List ByteArray := [⟨#[]⟩, ⟨#[103, 101, 116]⟩, ⟨#[112, 117, 116]⟩, ⟨#[114, 101, 109, 111, 118, 101]⟩, ⟨#[98, 97, 116, 99, 104]⟩, ⟨#[115, 99, 97, 110]⟩, ⟨#[111, 112, 101, 110]⟩, ⟨#[115, 110, 97, 112, 103, 101, 116]⟩, ⟨#[115, 110, 97, 112, 115, 99, 97, 110]⟩, ⟨#[99, 108, 111, 115, 101]⟩, ⟨#[99, 111, 108, 108, 101, 99, 116]⟩]
/-- The kind of a call with this name; 0: none. -/
def kindS (s : ByteArray) : Int :=
 if s.toList = [] then 0 else if s.toList = [103, 101, 116] then 1 else if s.toList = [112, 117, 116] then 2 else if s.toList = [114, 101, 109, 111, 118, 101] then 3 else if s.toList = [98, 97, 116, 99, 104] then 4 else if s.toList = [115, 99, 97, 110] then 5 else if s.toList = [111, 112, 101, 110] then 6 else if s.toList = [115, 110, 97, 112, 103, 101, 116] then 7 else if s.toList = [115, 110, 97, 112, 115, 99, 97, 110] then 8 else if s.toList = [99, 108, 111, 115, 101] then 9 else if s.toList = [99, 111, 108, 108, 101, 99, 116] then 10 else 0
theorem index_kind (s : ByteArray) : ∃ i, slices_Index_string_string.f 20 kindsL s = some i ∧ (if i < 0 then 0 else i) = kindS s := by
 unfold slices_Index_string_string.f kindS
 rw [slices_Index_string_string.l0, if_pos (by decide), if_pos (by decide), if_pos (by decide), show (rdOf ByteArray.empty kindsL 0).toList = [] by decide +kernel]
 by_cases h0 : s.toList = []
 ·
  rw [if_pos h0, if_pos h0]; exact ⟨_, rfl, by decide⟩
 rw [if_neg h0, if_neg h0, show wrap64 (0 + 1) = 1 by unfold wrap64; omega]
 rw [slices_Index_string_string.l0, if_pos (by decide), if_pos (by decide), if_pos (by decide), show (rdOf ByteArray.empty kindsL 1).toList = [103, 101, 116] by decide +kernel]
 by_cases h1 : s.toList = [103, 101, 116]
 ·
  rw [if_pos h1, if_pos h1]; exact ⟨_, rfl, by decide⟩
 rw [if_neg h1, if_neg h1, show wrap64 (1 + 1) = 2 by unfold wrap64; omega]
 rw [slices_Index_string_string.l0, if_pos (by decide), if_pos (by decide), if_pos (by decide), show (rdOf ByteArray.empty kindsL 2).toList = [112, 117, 116] by decide +kernel]
 by_cases h2 : s.toList = [112, 117, 116]
 ·
  rw [if_pos h2, if_pos h2]; exact ⟨_, rfl, by decide⟩
 rw [if_neg h2, if_neg h2, show wrap64 (2 + 1) = 3 by unfold wrap64; omega]
 rw [slices_Index_string_string.l0, if_pos (by decide), if_pos (by decide), if_pos (by decide), show (rdOf ByteArray.empty kindsL 3).toList = [114, 101, 109, 111, 118, 101] by decide +kernel]
 by_cases h3 : s.toList = [114, 101, 109, 111, 118, 101]
 ·
  rw [if_pos h3, if_pos h3]; exact ⟨_, rfl, by decide⟩
 rw [if_neg h3, if_neg h3, show wrap64 (3 + 1) = 4 by unfold wrap64; omega]
 rw [slices_Index_string_string.l0, if_pos (by decide), if_pos (by decide), if_pos (by decide), show (rdOf ByteArray.empty kindsL 4).toList = [98, 97, 116, 99, 104] by decide +kernel]
 by_cases h4 : s.toList = [98, 97, 116, 99, 104]
 ·
  rw [if_pos h4, if_pos h4]; exact ⟨_, rfl, by decide⟩
 rw [if_neg h4, if_neg h4, show wrap64 (4 + 1) = 5 by unfold wrap64; omega]
 rw [slices_Index_string_string.l0, if_pos (by decide), if_pos (by decide), if_pos (by decide), show (rdOf ByteArray.empty kindsL 5).toList = [115, 99, 97, 110] by decide +kernel]
 by_cases h5 : s.toList = [115, 99, 97, 110]
 ·
  rw [if_pos h5, if_pos h5]; exact ⟨_, rfl, by decide⟩
 rw [if_neg h5, if_neg h5, show wrap64 (5 + 1) = 6 by unfold wrap64; omega]
 rw [slices_Index_string_string.l0, if_pos (by decide), if_pos (by decide), if_pos (by decide), show (rdOf ByteArray.empty kindsL 6).toList = [111, 112, 101, 110] by decide +kernel]
 by_cases h6 : s.toList = [111, 112, 101, 110]
 ·
  rw [if_pos h6, if_pos h6]; exact ⟨_, rfl, by decide⟩
 rw [if_neg h6, if_neg h6, show wrap64 (6 + 1) = 7 by unfold wrap64; omega]
 rw [slices_Index_string_string.l0, if_pos (by decide), if_pos (by decide), if_pos (by decide), show (rdOf ByteArray.empty kindsL 7).toList = [115, 110, 97, 112, 103, 101, 116] by decide +kernel]
 by_cases h7 : s.toList = [115, 110, 97, 112, 103, 101, 116]
 ·
  rw [if_pos h7, if_pos h7]; exact ⟨_, rfl, by decide⟩
 rw [if_neg h7, if_neg h7, show wrap64 (7 + 1) = 8 by unfold wrap64; omega]
 rw [slices_Index_string_string.l0, if_pos (by decide), if_pos (by decide), if_pos (by decide), show (rdOf ByteArray.empty kindsL 8).toList = [115, 110, 97, 112, 115, 99, 97, 110] by decide +kernel]
 by_cases h8 : s.toList = [115, 110, 97, 112, 115, 99, 97, 110]
 ·
  rw [if_pos h8, if_pos h8]; exact ⟨_, rfl, by decide⟩
 rw [if_neg h8, if_neg h8, show wrap64 (8 + 1) = 9 by unfold wrap64; omega]
 rw [slices_Index_string_string.l0, if_pos (by decide), if_pos (by decide), if_pos (by decide), show (rdOf ByteArray.empty kindsL 9).toList = [99, 108, 111, 115, 101] by decide +kernel]
 by_cases h9 : s.toList = [99, 108, 111, 115, 101]
 ·
  rw [if_pos h9, if_pos h9]; exact ⟨_, rfl, by decide⟩
 rw [if_neg h9, if_neg h9, show wrap64 (9 + 1) = 10 by unfold wrap64; omega]
 rw [slices_Index_string_string.l0, if_pos (by decide), if_pos (by decide), if_pos (by decide), show (rdOf ByteArray.empty kindsL 10).toList = [99, 111, 108, 108, 101, 99, 116] by decide +kernel]
 by_cases h10 : s.toList = [99, 111, 108, 108, 101, 99, 116]
 ·
  rw [if_pos h10, if_pos h10]; exact ⟨_, rfl, by decide⟩
 rw [if_neg h10, if_neg h10, show wrap64 (10 + 1) = 11 by unfold wrap64; omega]
 rw [slices_Index_string_string.l0, if_neg (by decide)]
 exact ⟨_, rfl, by decide⟩
theorem kind_cases (s : ByteArray) : kindS s = 0 ∨ kindS s = 1 ∨ kindS s = 2 ∨ kindS s = 3 ∨ kindS s = 4 ∨ kindS s = 5 ∨ kindS s = 6 ∨ kindS s = 7 ∨ kindS s = 8 ∨ kindS s = 9 ∨ kindS s = 10 := by
 unfold kindS
 repeat' split
 all_goals simp
end Go.Proofs.YtlkbeddlmbghkaaGreatDoor.PR
