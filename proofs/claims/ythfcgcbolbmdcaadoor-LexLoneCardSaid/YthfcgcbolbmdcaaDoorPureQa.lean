/- runes.Unquote and the document's Unquote are the plain one. -/
import Derived.Test.YthfcgcbolbmdcaaDoorPRx9
import Derived.Test.YthfcgcbolbmdcaaDoorPureV
import Derived.Test.YthfcgcbolbmdcaaDoorLexS
namespace Go.Proofs.YthfcgcbolbmdcaaDoor.PR
open Go Go.Proofs Go.RowKit Go.Proofs.YthfcgcbolbmdcaaDoorW.PrintWords Go.Proofs.YthfcgcbolbmdcaaDoorW.PrintLast Go.Proofs.YthfcgcbolbmdcaaDoorW.PrintMore Go.Proofs.YthfcgcbolbmdcaaDoor.Lx
set_option linter.unusedVariables false
set_option linter.unusedSimpArgs false

theorem w64_1 (i : Nat) (h : i ≤ 1000000000000) : wrap64 ((i : Int) + 1) = ((i + 1 : Nat) : Int) := by unfold wrap64; omega
theorem w64_2 (i : Nat) (h : i ≤ 1000000000000) : wrap64 ((i : Int) + 2) = ((i + 2 : Nat) : Int) := by unfold wrap64; omega
theorem w64_3 (i : Nat) (h : i ≤ 1000000000000) : wrap64 ((i : Int) + 3) = ((i + 3 : Nat) : Int) := by unfold wrap64; omega
theorem w64_4 (i : Nat) (h : i ≤ 1000000000000) : wrap64 ((i : Int) + 4) = ((i + 4 : Nat) : Int) := by unfold wrap64; omega

def validB (s : ByteArray) : Bool := decide (rightP s < 0)

/-! ### digits of bytes -/

theorem u8_of (c : UInt8) : UInt8.ofNat c.toNat = c := by simp
def hexI (c : UInt8) : Int := match hexV c with
  | some a => a
  | none => -1
theorem index_hex (c : UInt8) : Lib.indexByte [48, 49, 50, 51, 52, 53, 54, 55, 56, 57, 97, 98, 99, 100, 101, 102] c = hexI c := by
  have h : ∀ n : Fin 256, Lib.indexByte [48, 49, 50, 51, 52, 53, 54, 55, 56, 57, 97, 98, 99, 100, 101, 102] (UInt8.ofNat n) = hexI (UInt8.ofNat n) := by decide +kernel
  have := h ⟨c.toNat, c.toNat_lt⟩
  simpa using this
theorem hexV_lt {c : UInt8} {a : Nat} (h : hexV c = some a) : a < 16 := by
  unfold hexV at h
  split at h
  · have := Option.some.inj h; omega
  · split at h
    · have := Option.some.inj h; omega
    · cases h
theorem or_hex (a b : Nat) (ha : a < 16) (hb : b < 16) : Go.bits .or .i64 (wrap64 ((a : Int) * 16)) (b : Int) % 256 = ((a * 16 + b : Nat) : Int) := by
  have h : ∀ a b : Fin 16, Go.bits .or .i64 (wrap64 ((a.val : Int) * 16)) (b.val : Int) % 256 = ((a.val * 16 + b.val : Nat) : Int) := by decide +kernel
  exact h ⟨a, ha⟩ ⟨b, hb⟩

/-! ### pieces of a text -/

def seg (l : List UInt8) (i n : Nat) : List UInt8 := (l.drop i).take (n - i)
theorem seg_nil (l : List UInt8) (i n : Nat) (h : n ≤ i) : seg l i n = [] := by unfold seg; rw [Nat.sub_eq_zero_of_le h, List.take_zero]
theorem seg_cons (l : List UInt8) (i n : Nat) (h : i < n) (hn : n ≤ l.length) : seg l i n = (l[i]'(by omega)) :: seg l (i + 1) n := by
  unfold seg
  rw [List.drop_eq_getElem_cons (by omega : i < l.length), show n - i = (n - (i + 1)) + 1 by omega, List.take_succ_cons]
theorem seg_full (l : List UInt8) (i : Nat) : seg l i l.length = l.drop i := by
  unfold seg; rw [List.take_of_length_le (by rw [List.length_drop]; omega)]

def nums (l : List UInt8) : List Int := l.map fun b => (b.toNat : Int)
theorem nums_snoc (l : List UInt8) (c : UInt8) : nums (l ++ [c]) = nums l ++ [(c.toNat : Int)] := by simp [nums]
theorem str_nums (l : List UInt8) : strOfNums (nums l) = ⟨l.toArray⟩ := by
  unfold strOfNums nums
  rw [List.map_map]
  congr 2
  have : ((fun n : Int => UInt8.ofNat n.toNat) ∘ fun b : UInt8 => (b.toNat : Int)) = id := by funext b; simp
  rw [this, List.map_id]
theorem nums_len (l : List UInt8) : (nums l).length = l.length := by simp [nums]

/-- What an unquoting comes to. -/
def resQ : Option (List UInt8) → ByteArray × Bool
  | none => (⟨#[]⟩, false)
  | some t => (⟨t.toArray⟩, true)
def resA (acc : List UInt8) (o : Option (List UInt8)) : ByteArray × Bool := resQ (o.map (acc ++ ·))
theorem resA_cons (acc : List UInt8) (c : UInt8) (o : Option (List UInt8)) : resA acc (o.map (c :: ·)) = resA (acc ++ [c]) o := by
  cases o <;> simp [resA, resQ]

/-! ### the document's -/

theorem hexV_dig {c : UInt8} (h1 : 48 ≤ c.toNat) (h2 : c.toNat ≤ 57) : hexV c = some (c.toNat - 48) := by unfold hexV; rw [if_pos ⟨h1, h2⟩]
theorem hexV_let {c : UInt8} (h1 : 97 ≤ c.toNat) (h2 : c.toNat ≤ 102) : hexV c = some (c.toNat - 87) := by unfold hexV; rw [if_neg (by omega), if_pos ⟨h1, h2⟩]
theorem hexV_no {c : UInt8} (h1 : ¬ (48 ≤ c.toNat ∧ c.toNat ≤ 57)) (h2 : ¬ (97 ≤ c.toNat ∧ c.toNat ≤ 102)) : hexV c = none := by unfold hexV; rw [if_neg h1, if_neg h2]
theorem refnum (c : UInt8) (k : Nat) : rundleref01_number.f (k + 1) (c.toNat : Int) = some (match hexV c with | some a => (a : Int) | none => 16) := by
  have hc := c.toNat_lt
  unfold rundleref01_number.f
  by_cases h1 : 48 ≤ c.toNat
  · by_cases h2 : c.toNat ≤ 57
    · rw [hexV_dig h1 h2, if_pos (by omega), rundleref01_number.j0, if_pos (by simp; omega)]
      simp only []
      congr 1
      omega
    · by_cases h3 : 97 ≤ c.toNat ∧ c.toNat ≤ 102
      · rw [hexV_let h3.1 h3.2, if_pos (by omega), rundleref01_number.j0, if_neg (by simp; omega), if_pos (by omega), if_pos (by omega)]
        simp only []
        congr 1
        omega
      · rw [hexV_no (by omega) h3, if_pos (by omega), rundleref01_number.j0, if_neg (by simp; omega)]
        by_cases h4 : 97 ≤ c.toNat
        · rw [if_pos (by omega), if_neg (by omega)]
        · rw [if_neg (by omega)]
  · rw [hexV_no (by omega) (by omega), if_neg (by omega), rundleref01_number.j0, if_neg (by simp), if_neg (by omega)]

theorem refnum_ev (c : UInt8) : Ev (fun k => rundleref01_number.f k (c.toNat : Int)) (match hexV c with | some a => (a : Int) | none => 16) :=
  ⟨1, fun k hk => by obtain ⟨j, rfl⟩ : ∃ j, k = j + 1 := ⟨k - 1, by omega⟩; exact refnum c j⟩

end Go.Proofs.YthfcgcbolbmdcaaDoor.PR
