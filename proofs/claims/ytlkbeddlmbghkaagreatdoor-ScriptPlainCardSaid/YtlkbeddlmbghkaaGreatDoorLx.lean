/- The document's Number and Name (chapter 3) are the plain ones; LexWords answers true. -/
import Derived.Test.YtlkbeddlmbghkaaGreatDoorLx0
import Derived.Test.YtlkbeddlmbghkaaGreatDoorPRx2
import Derived.Test.YtlkbeddlmbghkaaGreatDoorPRx3
import Derived.Test.YtlkbeddlmbghkaaGreatDoorPRx4
import Derived.Test.YtlkbeddlmbghkaaGreatDoorRng
namespace Go.Proofs.YtlkbeddlmbghkaaGreatDoor.PR
open Go Go.Proofs Go.RowKit Go.Proofs.YtlkbeddlmbghkaaGreatDoorW.PrintWords Go.Proofs.YtlkbeddlmbghkaaGreatDoorW.PrintLast Go.Proofs.YtlkbeddlmbghkaaGreatDoorW.PrintMore Go.Proofs.YtlkbeddlmbghkaaGreatDoor.Lx
set_option linter.unusedVariables false
set_option linter.unusedSimpArgs false

end Go.Proofs.YtlkbeddlmbghkaaGreatDoor.PR

namespace Go.Proofs.YtlkbeddlmbghkaaGreatDoor.PR
open Go Go.Proofs Go.RowKit Go.Proofs.YtlkbeddlmbghkaaGreatDoorW.PrintWords Go.Proofs.YtlkbeddlmbghkaaGreatDoorW.PrintLast Go.Proofs.YtlkbeddlmbghkaaGreatDoorW.PrintMore Go.Proofs.YtlkbeddlmbghkaaGreatDoor.Lx
set_option linter.unusedVariables false
set_option linter.unusedSimpArgs false

/-- The byte at a place, 0 behind the end; is there one? -/
def byteN (s : ByteArray) (i : Nat) : Nat := if h : i < s.size then (s[i]'h).toNat else 0
def inB (s : ByteArray) (i lo hi : Nat) : Bool := decide (i < s.size) && decide (lo ≤ byteN s i) && decide (byteN s i ≤ hi)

def widS (s : ByteArray) (p : Nat) : Int :=
 if inB s p 0 127 then 1
 else if inB s p 194 223 && inB s (p + 1) 128 191 then 2
 else if (inB s p 224 224 && inB s (p + 1) 160 191 || inB s p 225 236 && inB s (p + 1) 128 191 || inB s p 237 237 && inB s (p + 1) 128 159 || inB s p 238 239 && inB s (p + 1) 128 191) && inB s (p + 2) 128 191 then 3
 else if (inB s p 240 240 && inB s (p + 1) 144 191 || inB s p 241 243 && inB s (p + 1) 128 191 || inB s p 244 244 && inB s (p + 1) 128 143) && inB s (p + 2) 128 191 && inB s (p + 3) 128 191 then 4
 else 0
end Go.Proofs.YtlkbeddlmbghkaaGreatDoor.PR

namespace Go.Proofs.YtlkbeddlmbghkaaGreatDoor.PR
open Go Go.Proofs Go.RowKit Go.Proofs.YtlkbeddlmbghkaaGreatDoorW.PrintWords Go.Proofs.YtlkbeddlmbghkaaGreatDoorW.PrintLast Go.Proofs.YtlkbeddlmbghkaaGreatDoorW.PrintMore Go.Proofs.YtlkbeddlmbghkaaGreatDoor.Lx
set_option linter.unusedVariables false
set_option linter.unusedSimpArgs false

theorem get_byteN (s : ByteArray) (i : Nat) (h : i < s.size) : (s.get! i).toNat = byteN s i := by
 unfold byteN
 rw [dif_pos h]
 simp [ByteArray.get!, h]
 rfl
theorem byteN_lt (s : ByteArray) (i : Nat) : byteN s i < 256 := by
 unfold byteN
 split
 ·
  exact UInt8.toNat_lt _
 ·
  omega

theorem prefix_fffd (s : ByteArray) (p : Nat) : Lib.hasPrefix (s.data.toList.drop p) [239, 191, 189] = (decide (p + 2 < s.size) && decide (byteN s p = 239) && decide (byteN s (p + 1) = 191) && decide (byteN s (p + 2) = 189)) := by
 unfold Lib.hasPrefix
 by_cases h : p + 2 < s.size
 ·
  have hl : p + 2 < s.data.toList.length := by rw [← Lib.size_eq]; exact h
  rw [List.drop_eq_getElem_cons (by omega), List.drop_eq_getElem_cons (i := p + 1) (by omega), List.drop_eq_getElem_cons (i := p + 1 + 1) (by omega)]
  have e : ∀ i (hi : i < s.size) (hi2 : i < s.data.toList.length), byteN s i = (s.data.toList[i]'hi2).toNat := by
   intro i hi hi2
   unfold byteN
   rw [dif_pos hi]; rfl
  rw [e p (by omega) (by omega), e (p + 1) (by omega) (by omega), e (p + 2) h hl, decide_eq_true h]
  have c : ∀ (x : UInt8) (n : Nat) (y : UInt8), y.toNat = n → (y == x) = decide (x.toNat = n) := by
   intro x n y hy
   rw [Bool.eq_iff_iff, beq_iff_eq, decide_eq_true_eq]
   exact ⟨fun e => by rw [← e, hy], fun e => UInt8.toNat_inj.1 (by omega)⟩
  simp only [List.isPrefixOf, Bool.and_true, Bool.true_and]
  rw [c _ 239 239 rfl, c _ 191 191 rfl, c _ 189 189 rfl, Bool.and_assoc]
 ·
  rw [decide_eq_false h]
  simp only [Bool.false_and]
  cases hq : List.isPrefixOf [239, 191, 189] (List.drop p s.data.toList) with
  | false => rfl
  | true =>
   have := (List.isPrefixOf_iff_prefix.1 hq).length_le
   rw [List.length_drop, ← Lib.size_eq] at this
   simp at this
   omega

set_option maxHeartbeats 40000000 in
theorem wid_decode (s : ByteArray) (p : Nat) (hp : p < s.size) : widS s p = if wholeB s p ((Utf8.decode s p).1 : Int) then ((Utf8.decode s p).2 : Int) else 0 := by
 unfold wholeB
 rw [prefix_fffd]
 have h0 := byteN_lt s p
 have h1 := byteN_lt s (p + 1)
 have h2 := byteN_lt s (p + 2)
 have h3 := byteN_lt s (p + 3)
 have g0 := get_byteN s p hp
 have g1 : p + 1 < s.size → (s.get! (p + 1)).toNat = byteN s (p + 1) := get_byteN s (p + 1)
 have g2 : p + 2 < s.size → (s.get! (p + 2)).toNat = byteN s (p + 2) := get_byteN s (p + 2)
 have g3 : p + 3 < s.size → (s.get! (p + 3)).toNat = byteN s (p + 3) := get_byteN s (p + 3)
 unfold widS inB Utf8.decode Utf8.runeError Utf8.valid
 simp only [Nat.add_zero, g0]
 generalize hz : s.size = z at *
 generalize byteN s p = b0 at *
 generalize byteN s (p + 1) = b1 at *
 generalize byteN s (p + 2) = b2 at *
 generalize byteN s (p + 3) = b3 at *
 generalize (s.get! (p + 1)).toNat = a1 at *
 generalize (s.get! (p + 2)).toNat = a2 at *
 generalize (s.get! (p + 3)).toNat = a3 at *
 clear hz g0
 have k1 : p + 1 < z → a1 = b1 := g1
 have k2 : p + 2 < z → a2 = b2 := g2
 have k3 : p + 3 < z → a3 = b3 := g3
 clear g1 g2 g3
 simp only [decide_eq_true hp, Bool.true_and, Bool.and_eq_true, Bool.or_eq_true, decide_eq_true_eq, beq_iff_eq, bne_iff_ne]
 generalize hd : (if b0 < 128 then (b0, 1) else _ : Nat × Nat) = d
 by_cases e1 : p + 1 < z <;> by_cases e2 : p + 2 < z <;> by_cases e3 : p + 3 < z
 all_goals first | (exfalso; omega) | skip
 all_goals
  simp only [e1, e2, e3, true_and, false_and, and_false, or_false, if_false] at hd ⊢
  try (have := k1 e1; subst this)
  try (have := k2 e2; subst this)
  try (have := k3 e3; subst this)
  clear k1 k2 k3 e1 e2 e3 hp
  repeat' split at hd
  all_goals
   subst hd
   repeat' split
   all_goals first | rfl | omega
end Go.Proofs.YtlkbeddlmbghkaaGreatDoor.PR

namespace Go.Proofs.YtlkbeddlmbghkaaGreatDoor.PR
open Go Go.Proofs Go.RowKit Go.Proofs.YtlkbeddlmbghkaaGreatDoorW.PrintWords Go.Proofs.YtlkbeddlmbghkaaGreatDoorW.PrintLast Go.Proofs.YtlkbeddlmbghkaaGreatDoorW.PrintMore Go.Proofs.YtlkbeddlmbghkaaGreatDoor.Lx
set_option linter.unusedVariables false
set_option linter.unusedSimpArgs false

def validB (s : ByteArray) : Bool := decide (rightP s < 0)

/-! ### digits of bytes -/

/-! ### pieces of a text -/

def nums (l : List UInt8) : List Int := l.map fun b => (b.toNat : Int)
/-! ### the document's -/

end Go.Proofs.YtlkbeddlmbghkaaGreatDoor.PR

namespace Go.Proofs.YtlkbeddlmbghkaaGreatDoor.PR
open Go Go.Proofs Go.RowKit Go.Proofs.YtlkbeddlmbghkaaGreatDoorW.PrintWords Go.Proofs.YtlkbeddlmbghkaaGreatDoorW.PrintLast Go.Proofs.YtlkbeddlmbghkaaGreatDoorW.PrintMore Go.Proofs.YtlkbeddlmbghkaaGreatDoor.Lx
set_option linter.unusedVariables false
set_option linter.unusedSimpArgs false

end Go.Proofs.YtlkbeddlmbghkaaGreatDoor.PR

namespace Go.Proofs.YtlkbeddlmbghkaaGreatDoor.PR
open Go Go.Proofs Go.RowKit Go.Proofs.YtlkbeddlmbghkaaGreatDoorW.PrintWords Go.Proofs.YtlkbeddlmbghkaaGreatDoorW.PrintLast Go.Proofs.YtlkbeddlmbghkaaGreatDoorW.PrintMore Go.Proofs.YtlkbeddlmbghkaaGreatDoor.Lx
set_option linter.unusedVariables false
set_option linter.unusedSimpArgs false

theorem wordOf_q (l : List UInt8) (h : l.head? = some 34) : wordOf validB l = (unquote validB l).map fun t => Wd.text ⟨t.toArray⟩ := by unfold wordOf; rw [if_pos h]
theorem wordOf_b (l : List UInt8) (h : l.head? ≠ some 34) : wordOf validB l = if isNum l = true then some (Wd.num (numVal l)) else if isName l = true then some (Wd.name ⟨l.toArray⟩) else none := by unfold wordOf; rw [if_neg h]

/-! ### the document's word -/

end Go.Proofs.YtlkbeddlmbghkaaGreatDoor.PR

namespace Go.Proofs.YtlkbeddlmbghkaaGreatDoor.PR
open Go Go.Proofs Go.RowKit Go.Proofs.YtlkbeddlmbghkaaGreatDoorW.PrintWords Go.Proofs.YtlkbeddlmbghkaaGreatDoorW.PrintLast Go.Proofs.YtlkbeddlmbghkaaGreatDoorW.PrintMore Go.Proofs.YtlkbeddlmbghkaaGreatDoor.Lx
set_option linter.unusedVariables false
set_option linter.unusedSimpArgs false

/-! ### the document's words -/

end Go.Proofs.YtlkbeddlmbghkaaGreatDoor.PR

namespace Go.Proofs.YtlkbeddlmbghkaaGreatDoor.PR
open Go Go.Proofs Go.RowKit Go.Proofs.YtlkbeddlmbghkaaGreatDoorW.PrintWords Go.Proofs.YtlkbeddlmbghkaaGreatDoorW.PrintLast Go.Proofs.YtlkbeddlmbghkaaGreatDoorW.PrintMore Go.Proofs.YtlkbeddlmbghkaaGreatDoor.Lx
set_option linter.unusedVariables false
set_option linter.unusedSimpArgs false

/-! ### cutting a text into lines -/

/-! ### the program's lines -/

/-! ### the document's lines -/

end Go.Proofs.YtlkbeddlmbghkaaGreatDoor.PR
