/- Plain words of chapter 3: numbers, names, digits. No program in this text. -/
import Derived.Lib.ParseIntB
import Derived.Lib.Strings
namespace Go.Proofs.YtlkbeddlmbghkaaDoor.Lx
set_option linter.unusedVariables false
set_option linter.unusedSimpArgs false
open Go

def isDig (c : UInt8) : Bool := decide (48 ≤ c.toNat) && decide (c.toNat ≤ 57)
def isLet (c : UInt8) : Bool := decide (97 ≤ c.toNat) && decide (c.toNat ≤ 122)
def isBl (c : UInt8) : Bool := decide (c.toNat = 32) || decide (c.toNat = 9)

def digVal (l : List UInt8) (acc : Int) : Int := l.foldl (fun n c => n * 10 + ((c.toNat : Int) - 48)) acc
def unsign (s : List UInt8) : List UInt8 := if s.head? = some 45 then s.tail else s
def isNum (s : List UInt8) : Bool :=
  decide (1 ≤ (unsign s).length) && decide ((unsign s).length ≤ 15) && !((unsign s).head? == some 48 && decide (1 < s.length)) && (unsign s).all isDig
def numVal (s : List UInt8) : Int := if s.head? = some 45 then - digVal (unsign s) 0 else digVal (unsign s) 0
def numV (s : List UInt8) : Int := if isNum s then numVal s else 0
def nameAll : List UInt8 → Bool
  | [] => true
  | c :: t => isLet c && t.all (fun c => isLet c || isDig c)
def isName (s : List UInt8) : Bool := decide (1 ≤ s.length) && decide (s.length ≤ 20) && nameAll s
theorem nameAll_snoc (l : List UInt8) (c : UInt8) : nameAll (l ++ [c]) = (nameAll l && (isLet c || (isDig c && !l.isEmpty))) := by
  cases l with
  | nil => simp [nameAll]
  | cons a t => simp [nameAll, List.all_append, Bool.and_assoc]
theorem nameAll_take (l : List UInt8) (n : Nat) (h : nameAll l = true) : nameAll (l.take n) = true := by
  cases l with
  | nil => simp [nameAll]
  | cons a t =>
    cases n with
    | zero => rfl
    | succ n =>
      simp only [nameAll, Bool.and_eq_true, List.take_succ_cons] at h ⊢
      exact ⟨h.1, List.all_eq_true.2 fun x hx => List.all_eq_true.1 h.2 x (List.mem_of_mem_take hx)⟩

theorem trim_eq (s : List UInt8) : Lib.trimPrefix s [45] = unsign s := by
  unfold Lib.trimPrefix Lib.hasPrefix unsign
  cases s with
  | nil => rfl
  | cons c t =>
    by_cases h : c = 45
    · subst h; simp [List.isPrefixOf]
    · simp [List.isPrefixOf, h]
      intro h2
      exact absurd h2.symm h

theorem digVal_nat : ∀ (l : List UInt8) (acc : Nat), l.all isDig = true → ∃ v : Nat, digVal l acc = v ∧ v < (acc + 1) * 10 ^ l.length
  | [], acc, _ => ⟨acc, rfl, by simp⟩
  | c :: t, acc, h => by
    simp only [List.all_cons, Bool.and_eq_true] at h
    have hd : 48 ≤ c.toNat ∧ c.toNat ≤ 57 := by simpa [isDig] using h.1
    obtain ⟨v, hv, hb⟩ := digVal_nat t (acc * 10 + (c.toNat - 48)) h.2
    refine ⟨v, ?_, ?_⟩
    · rw [← hv]
      show digVal t ((acc : Int) * 10 + ((c.toNat : Int) - 48)) = _
      congr 1
      omega
    · refine Nat.lt_of_lt_of_le hb ?_
      rw [List.length_cons, Nat.pow_succ, ← Nat.mul_assoc, Nat.mul_right_comm]
      refine Nat.mul_le_mul_right _ ?_
      omega

theorem parseM : ∀ (l : List UInt8) (acc M : Nat), l.all isDig = true → (acc + 1) * 10 ^ l.length ≤ 10 ^ 15 → 10 ^ 15 ≤ M →
    Lib.parseUintM M acc l = .ok (digVal l acc).toNat
  | [], acc, M, _, _, _ => by simp [Lib.parseUintM, digVal]
  | c :: t, acc, M, h, hb, hM => by
    simp only [List.all_cons, Bool.and_eq_true] at h
    have hd : 48 ≤ c.toNat ∧ c.toNat ≤ 57 := by simpa [isDig] using h.1
    have h10 : 1 ≤ 10 ^ t.length := Nat.pow_pos (by omega)
    rw [List.length_cons, Nat.pow_succ, ← Nat.mul_assoc, Nat.mul_right_comm] at hb
    have hb1 : (acc + 1) * 10 ≤ 10 ^ 15 := Nat.le_trans (Nat.le_mul_of_pos_right _ h10) hb
    unfold Lib.parseUintM
    rw [if_pos hd, if_neg (by omega), if_neg (by omega), parseM t _ M h.2 (Nat.le_trans (Nat.mul_le_mul_right _ (by omega)) hb) hM]
    congr 2
    show _ = digVal t ((acc : Int) * 10 + ((c.toNat : Int) - 48))
    congr 1
    omega

theorem parse_num (s : List UInt8) (h : isNum s = true) : Lib.parseIntB 64 s = .ok (numVal s) := by
  unfold isNum at h
  simp only [Bool.and_eq_true, decide_eq_true_eq] at h
  obtain ⟨⟨⟨h1, h2⟩, _⟩, h4⟩ := h
  have hp : Lib.parseUintB 64 (unsign s) = .ok (digVal (unsign s) 0).toNat := by
    unfold Lib.parseUintB
    rw [if_neg (by intro e; rw [e] at h1; simp at h1)]
    exact parseM _ 0 _ h4 (by rw [Nat.zero_add, Nat.one_mul]; exact Nat.pow_le_pow_right (by omega) h2) (by decide)
  obtain ⟨v, hv, hb⟩ := digVal_nat _ 0 h4
  have hb2 : v < 10 ^ 15 := Nat.lt_of_lt_of_le (by simpa using hb) (Nat.pow_le_pow_right (by omega) h2)
  have hv' : digVal (unsign s) 0 = (v : Int) := hv
  cases s with
  | nil => simp [unsign] at h1
  | cons c t =>
    unfold numVal
    by_cases hc : c = 45
    · subst hc
      have hu : unsign (45 :: t) = t := rfl
      rw [hu] at hp hv'
      unfold Lib.parseIntB
      simp only [show ((45 : UInt8).toNat = 43 ∨ (45 : UInt8).toNat = 45) = True by simp, if_true, hp, hv', hu]
      simp
      omega
    · have hu : unsign (c :: t) = c :: t := by simp [unsign, hc]
      have hn : c.toNat ≠ 45 := fun e => hc (UInt8.toNat_inj.1 e)
      have hd : c.toNat ≠ 43 := by
        rw [hu, List.all_cons, Bool.and_eq_true] at h4
        have : 48 ≤ c.toNat ∧ c.toNat ≤ 57 := by simpa [isDig] using h4.1
        omega
      rw [hu] at hp hv'
      unfold Lib.parseIntB
      simp only [hn, hd, or_self, if_false, hp, hv', hu]
      simp [hc]
      omega
end Go.Proofs.YtlkbeddlmbghkaaDoor.Lx
