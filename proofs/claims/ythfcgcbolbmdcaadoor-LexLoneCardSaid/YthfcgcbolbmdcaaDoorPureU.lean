/- Runes: the document's Width, by the model's decoder; the first place at which none stands is the document's. -/
import Derived.Test.YthfcgcbolbmdcaaDoorPRx8
import Derived.Test.YthfcgcbolbmdcaaDoorRng
import Derived.Test.YthfcgcbolbmdcaaDoorPureN
namespace Go.Proofs.YthfcgcbolbmdcaaDoor.PR
open Go Go.Proofs Go.RowKit Go.Proofs.YthfcgcbolbmdcaaDoorW.PrintWords Go.Proofs.YthfcgcbolbmdcaaDoorW.PrintLast Go.Proofs.YthfcgcbolbmdcaaDoorW.PrintMore Go.Proofs.YthfcgcbolbmdcaaDoor.Lx
set_option linter.unusedVariables false
set_option linter.unusedSimpArgs false

/-- The byte at a place, 0 behind the end; is there one? -/
def byteN (s : ByteArray) (i : Nat) : Nat := if h : i < s.size then (s[i]'h).toNat else 0
def inB (s : ByteArray) (i lo hi : Nat) : Bool := decide (i < s.size) && decide (lo ≤ byteN s i) && decide (byteN s i ≤ hi)

theorem in_f (s : ByteArray) (i lo hi : Nat) (lo' hi' : Int) (hlo : lo' = lo) (hhi : hi' = hi) : rundleref01_in.f s (i : Int) lo' hi' = some (inB s i lo hi) := by
  subst hlo; subst hhi
  unfold rundleref01_in.f inB
  by_cases h : i < s.size
  · have hb : bt s (i : Int) = (byteN s i : Int) := by
      unfold bt byteN
      rw [dif_pos (show ((i : Int).toNat < s.size) by simpa using h), dif_pos h]; rfl
    rw [if_pos (by omega), if_pos (by omega), hb, decide_eq_true h, Bool.true_and]
    by_cases h1 : lo ≤ byteN s i
    · rw [if_pos (by omega), decide_eq_true h1, Bool.true_and]
      congr 1
      exact decide_eq_decide.2 (by omega)
    · rw [if_neg (by omega), decide_eq_false h1, Bool.false_and]
  · rw [if_neg (by omega), decide_eq_false h]; rfl

def widS (s : ByteArray) (p : Nat) : Int :=
  if inB s p 0 127 then 1
  else if inB s p 194 223 && inB s (p + 1) 128 191 then 2
  else if (inB s p 224 224 && inB s (p + 1) 160 191 || inB s p 225 236 && inB s (p + 1) 128 191 || inB s p 237 237 && inB s (p + 1) 128 159 || inB s p 238 239 && inB s (p + 1) 128 191) && inB s (p + 2) 128 191 then 3
  else if (inB s p 240 240 && inB s (p + 1) 144 191 || inB s p 241 243 && inB s (p + 1) 128 191 || inB s p 244 244 && inB s (p + 1) 128 143) && inB s (p + 2) 128 191 && inB s (p + 3) 128 191 then 4
  else 0

theorem width_f (s : ByteArray) (p : Nat) (hp : p ≤ 100000000000000) (k : Nat) : rundleref01_Width.f (k + 4) s (p : Int) = some (widS s p) := by
  have w1 : wrap64 ((p : Int) + 1) = ((p + 1 : Nat) : Int) := by rw [w64 (by omega) (by omega)]; rfl
  have w2 : wrap64 ((p : Int) + 2) = ((p + 2 : Nat) : Int) := by rw [w64 (by omega) (by omega)]; rfl
  have w3 : wrap64 ((p : Int) + 3) = ((p + 3 : Nat) : Int) := by rw [w64 (by omega) (by omega)]; rfl
  have i0 := in_f s p 0 127 0 127 rfl rfl; have i1 := in_f s p 194 223 194 223 rfl rfl; have i2 := in_f s (p + 1) 128 191 128 191 rfl rfl
  have i3 := in_f s p 224 224 224 224 rfl rfl; have i4 := in_f s (p + 1) 160 191 160 191 rfl rfl; have i5 := in_f s p 225 236 225 236 rfl rfl
  have i6 := in_f s p 237 237 237 237 rfl rfl; have i7 := in_f s (p + 1) 128 159 128 159 rfl rfl; have i8 := in_f s p 238 239 238 239 rfl rfl
  have i9 := in_f s (p + 2) 128 191 128 191 rfl rfl; have i10 := in_f s p 240 240 240 240 rfl rfl; have i11 := in_f s (p + 1) 144 191 144 191 rfl rfl
  have i12 := in_f s p 241 243 241 243 rfl rfl; have i13 := in_f s p 244 244 244 244 rfl rfl; have i14 := in_f s (p + 1) 128 143 128 143 rfl rfl; have i15 := in_f s (p + 3) 128 191 128 191 rfl rfl
  simp only [rundleref01_Width.f, rundleref01_Width.j0, rundleref01_Width.j1, rundleref01_Width.j2, rundleref01_Width.j3, w1, w2, w3, i0, i1, i2, i3, i4, i5, i6, i7, i8, i9, i10, i11, i12, i13, i14, i15, Option.bind_some]
  unfold widS
  clear i0 i1 i2 i3 i4 i5 i6 i7 i8 i9 i10 i11 i12 i13 i14 i15 w1 w2 w3
  generalize inB s p 0 127 = b0; generalize inB s p 194 223 = b1; generalize inB s (p + 1) 128 191 = b2
  generalize inB s p 224 224 = b3; generalize inB s (p + 1) 160 191 = b4; generalize inB s p 225 236 = b5
  generalize inB s p 237 237 = b6; generalize inB s (p + 1) 128 159 = b7; generalize inB s p 238 239 = b8
  generalize inB s (p + 2) 128 191 = b9; generalize inB s p 240 240 = b10; generalize inB s (p + 1) 144 191 = b11
  generalize inB s p 241 243 = b12; generalize inB s p 244 244 = b13; generalize inB s (p + 1) 128 143 = b14; generalize inB s (p + 3) 128 191 = b15
  cases b0 <;> simp only [if_true, if_false, Bool.false_eq_true, Bool.false_and, Bool.true_and, Bool.and_false, Bool.and_true, Bool.or_false, Bool.or_true, Bool.false_or, Bool.true_or]
  revert b1 b2 b3 b4 b5 b6 b7 b8 b9 b10 b11 b12 b13 b14 b15
  decide +kernel
end Go.Proofs.YthfcgcbolbmdcaaDoor.PR
