/- Plain words of chapter 3: numbers, names, digits. No program in this text. -/
import Derived.Lib.ParseIntB
import Derived.Lib.Strings
import Derived.Test.YtlkbeddlmbghkaaGreatDoorBoxW
import Derived.Lib.Split
namespace Go.Proofs.YtlkbeddlmbghkaaGreatDoor.Lx
set_option linter.unusedVariables false
set_option linter.unusedSimpArgs false
open Go

def isDig (c : UInt8) : Bool := decide (48 ≤ c.toNat) && decide (c.toNat ≤ 57)
def isLet (c : UInt8) : Bool := decide (97 ≤ c.toNat) && decide (c.toNat ≤ 122)
def isBl (c : UInt8) : Bool := decide (c.toNat = 32) || decide (c.toNat = 9)

def digVal (l : List UInt8) (acc : Int) : Int := l.foldl (fun n c => n * 10 + ((c.toNat : Int) - 48)) acc
def unsign (s : List UInt8) : List UInt8 := if s.head? = some 45 then s.tail else s
def isNum (s : List UInt8) : Bool :=
 decide (1 ≤ (unsign s).length) && decide ((unsign s).length ≤ 15) && !((unsign s).head? == some 48 && decide (1 < s.length)) && (unsign s).all isDig
def numVal (s : List UInt8) : Int := if s.head? = some 45 then - digVal (unsign s) 0 else digVal (unsign s) 0
def numV (s : List UInt8) : Int := if isNum s then numVal s else 0
def nameAll : List UInt8 → Bool
 | [] => true
 | c :: t => isLet c && t.all (fun c => isLet c || isDig c)
def isName (s : List UInt8) : Bool := decide (1 ≤ s.length) && decide (s.length ≤ 20) && nameAll s
theorem nameAll_snoc (l : List UInt8) (c : UInt8) : nameAll (l ++ [c]) = (nameAll l && (isLet c || (isDig c && !l.isEmpty))) := by
 cases l with
 | nil => simp [nameAll]
 | cons a t => simp [nameAll, List.all_append, Bool.and_assoc]
theorem nameAll_take (l : List UInt8) (n : Nat) (h : nameAll l = true) : nameAll (l.take n) = true := by
 cases l with
 | nil => simp [nameAll]
 | cons a t =>
  cases n with
  | zero => rfl
  | succ n =>
   simp only [nameAll, Bool.and_eq_true, List.take_succ_cons] at h ⊢
   exact ⟨h.1, List.all_eq_true.2 fun x hx => List.all_eq_true.1 h.2 x (List.mem_of_mem_take hx)⟩

theorem trim_eq (s : List UInt8) : Lib.trimPrefix s [45] = unsign s := by
 unfold Lib.trimPrefix Lib.hasPrefix unsign
 cases s with
 | nil => rfl
 | cons c t =>
  by_cases h : c = 45
  ·
   subst h; simp [List.isPrefixOf]
  ·
   simp [List.isPrefixOf, h]
   intro h2
   exact absurd h2.symm h

theorem digVal_nat : ∀ (l : List UInt8) (acc : Nat), l.all isDig = true → ∃ v : Nat, digVal l acc = v ∧ v < (acc + 1) * 10 ^ l.length
 | [], acc, _ => ⟨acc, rfl, by simp⟩
 | c :: t, acc, h => by
  simp only [List.all_cons, Bool.and_eq_true] at h
  have hd : 48 ≤ c.toNat ∧ c.toNat ≤ 57 := by simpa [isDig] using h.1
  obtain ⟨v, hv, hb⟩ := digVal_nat t (acc * 10 + (c.toNat - 48)) h.2
  refine ⟨v, ?_, ?_⟩
  ·
   rw [← hv]
   show digVal t ((acc : Int) * 10 + ((c.toNat : Int) - 48)) = _
   congr 1
   omega
  ·
   refine Nat.lt_of_lt_of_le hb ?_
   rw [List.length_cons, Nat.pow_succ, ← Nat.mul_assoc, Nat.mul_right_comm]
   refine Nat.mul_le_mul_right _ ?_
   omega

theorem parseM : ∀ (l : List UInt8) (acc M : Nat), l.all isDig = true → (acc + 1) * 10 ^ l.length ≤ 10 ^ 15 → 10 ^ 15 ≤ M →
  Lib.parseUintM M acc l = .ok (digVal l acc).toNat
 | [], acc, M, _, _, _ => by simp [Lib.parseUintM, digVal]
 | c :: t, acc, M, h, hb, hM => by
  simp only [List.all_cons, Bool.and_eq_true] at h
  have hd : 48 ≤ c.toNat ∧ c.toNat ≤ 57 := by simpa [isDig] using h.1
  have h10 : 1 ≤ 10 ^ t.length := Nat.pow_pos (by omega)
  rw [List.length_cons, Nat.pow_succ, ← Nat.mul_assoc, Nat.mul_right_comm] at hb
  have hb1 : (acc + 1) * 10 ≤ 10 ^ 15 := Nat.le_trans (Nat.le_mul_of_pos_right _ h10) hb
  unfold Lib.parseUintM
  rw [if_pos hd, if_neg (by omega), if_neg (by omega), parseM t _ M h.2 (Nat.le_trans (Nat.mul_le_mul_right _ (by omega)) hb) hM]
  congr 2
  show _ = digVal t ((acc : Int) * 10 + ((c.toNat : Int) - 48))
  congr 1
  omega

theorem parse_num (s : List UInt8) (h : isNum s = true) : Lib.parseIntB 64 s = .ok (numVal s) := by
 unfold isNum at h
 simp only [Bool.and_eq_true, decide_eq_true_eq] at h
 obtain ⟨⟨⟨h1, h2⟩, _⟩, h4⟩ := h
 have hp : Lib.parseUintB 64 (unsign s) = .ok (digVal (unsign s) 0).toNat := by
  unfold Lib.parseUintB
  rw [if_neg (by intro e; rw [e] at h1; simp at h1)]
  exact parseM _ 0 _ h4 (by rw [Nat.zero_add, Nat.one_mul]; exact Nat.pow_le_pow_right (by omega) h2) (by decide)
 obtain ⟨v, hv, hb⟩ := digVal_nat _ 0 h4
 have hb2 : v < 10 ^ 15 := Nat.lt_of_lt_of_le (by simpa using hb) (Nat.pow_le_pow_right (by omega) h2)
 have hv' : digVal (unsign s) 0 = (v : Int) := hv
 cases s with
 | nil => simp [unsign] at h1
 | cons c t =>
  unfold numVal
  by_cases hc : c = 45
  ·
   subst hc
   have hu : unsign (45 :: t) = t := rfl
   rw [hu] at hp hv'
   unfold Lib.parseIntB
   simp only [show ((45 : UInt8).toNat = 43 ∨ (45 : UInt8).toNat = 45) = True by simp, if_true, hp, hv', hu]
   simp
   omega
  ·
   have hu : unsign (c :: t) = c :: t := by simp [unsign, hc]
   have hn : c.toNat ≠ 45 := fun e => hc (UInt8.toNat_inj.1 e)
   have hd : c.toNat ≠ 43 := by
    rw [hu, List.all_cons, Bool.and_eq_true] at h4
    have : 48 ≤ c.toNat ∧ c.toNat ≤ 57 := by simpa [isDig] using h4.1
    omega
   rw [hu] at hp hv'
   unfold Lib.parseIntB
   simp only [hn, hd, or_self, if_false, hp, hv', hu]
   simp [hc]
   omega
end Go.Proofs.YtlkbeddlmbghkaaGreatDoor.Lx

namespace Go.Proofs.YtlkbeddlmbghkaaGreatDoor.Lx
set_option linter.unusedVariables false
set_option linter.unusedSimpArgs false
open Go Go.Proofs.YtlkbeddlmbghkaaGreatDoorW.PrintWords

def hexV (c : UInt8) : Option Nat := if 48 ≤ c.toNat ∧ c.toNat ≤ 57 then some (c.toNat - 48) else if 97 ≤ c.toNat ∧ c.toNat ≤ 102 then some (c.toNat - 87) else none
def badQ (c : UInt8) : Bool := decide (c.toNat = 34) || decide (c.toNat < 32) || decide (c.toNat = 127)

/-- What stands between quotes, as bytes; a fault: none. (k: at least as many as bytes.) -/
def unqF : Nat → List UInt8 → Option (List UInt8)
 | 0, _ => some []
 | k + 1, [] => some []
 | k + 1, c :: t =>
  if badQ c = true then none
  else if c.toNat ≠ 92 then (unqF k t).map (c :: ·)
  else match t with
   | [] => none
   | d :: u =>
    if d.toNat = 34 ∨ d.toNat = 92 then (unqF k u).map (d :: ·)
    else match u with
     | x :: y :: v => if d.toNat = 120 then (match hexV x, hexV y with
      | some a, some b => (unqF k v).map ((a * 16 + b).toUInt8 :: ·)
      | _, _ => none) else none
     | _ => none
def unqL (l : List UInt8) : Option (List UInt8) := unqF l.length l

theorem unqF_cons (k : Nat) (c : UInt8) (t : List UInt8) : unqF (k + 1) (c :: t) =
  if badQ c = true then none
  else if c.toNat ≠ 92 then (unqF k t).map (c :: ·)
  else match t with
   | [] => none
   | d :: u =>
    if d.toNat = 34 ∨ d.toNat = 92 then (unqF k u).map (d :: ·)
    else match u with
     | x :: y :: v => if d.toNat = 120 then (match hexV x, hexV y with
      | some a, some b => (unqF k v).map ((a * 16 + b).toUInt8 :: ·)
      | _, _ => none) else none
     | _ => none := by rw [unqF.eq_def]

theorem unqF_any : ∀ (k : Nat) (l : List UInt8), l.length ≤ k → unqF k l = unqF (k + 1) l
 | 0, l, h => by
  cases l with
  | nil => rfl
  | cons c t => simp at h
 | k + 1, [], _ => rfl
 | k + 1, c :: t, h => by
  simp only [List.length_cons] at h
  have e1 := unqF_any k t (by omega)
  rw [unqF_cons, unqF_cons, e1]
  by_cases h1 : badQ c = true
  ·
   rw [if_pos h1, if_pos h1]
  ·
   rw [if_neg h1, if_neg h1]
   by_cases h2 : c.toNat ≠ 92
   ·
    rw [if_pos h2, if_pos h2]
   ·
    rw [if_neg h2, if_neg h2]
    cases t with
    | nil => rfl
    | cons d u =>
     simp only [List.length_cons] at h
     simp only
     rw [unqF_any k u (by omega)]
     cases u with
     | nil => rfl
     | cons x u =>
      cases u with
      | nil => rfl
      | cons y v =>
       simp only [List.length_cons] at h
       simp only
       rw [unqF_any k v (by omega)]
theorem unqF_more (k j : Nat) (l : List UInt8) (h : l.length ≤ k) : unqF (k + j) l = unqF k l := by
 induction j with
 | zero => rfl
 | succ j ih => rw [← Nat.add_assoc, ← unqF_any _ _ (by omega), ih]
theorem unqF_len (k : Nat) (l : List UInt8) (h : l.length ≤ k) : unqF k l = unqL l := by
 obtain ⟨j, rfl⟩ : ∃ j, k = l.length + j := ⟨k - l.length, by omega⟩
 exact unqF_more _ _ _ (Nat.le_refl _)

theorem unqL_nil : unqL [] = some [] := rfl
theorem unqL_plain {c : UInt8} (t : List UInt8) (h : badQ c = false) (h2 : c.toNat ≠ 92) : unqL (c :: t) = (unqL t).map (c :: ·) := by
 unfold unqL
 rw [List.length_cons, unqF_cons, if_neg (by simp [h]), if_pos h2]
theorem unqL_back {c : UInt8} (t : List UInt8) (h : c.toNat = 92) : unqL (c :: t) = match t with
   | [] => none
   | d :: u =>
    if d.toNat = 34 ∨ d.toNat = 92 then (unqL u).map (d :: ·)
    else match u with
     | x :: y :: v => if d.toNat = 120 then (match hexV x, hexV y with
      | some a, some b => (unqL v).map ((a * 16 + b).toUInt8 :: ·)
      | _, _ => none) else none
     | _ => none := by
 have hb : badQ c = false := by simp [badQ, h]
 conv => lhs; unfold unqL
 rw [List.length_cons, unqF_cons, if_neg (by simp [hb]), if_neg (by omega)]
 cases t with
 | nil => rfl
 | cons d u =>
  simp only
  rw [unqF_len _ u (by simp)]
  cases u with
  | nil => rfl
  | cons x u =>
   cases u with
   | nil => rfl
   | cons y v =>
    simp only
    rw [unqF_len _ v (by simp; omega)]

theorem unqL_bq {c d : UInt8} (u : List UInt8) (h : c.toNat = 92) (hd : d.toNat = 34 ∨ d.toNat = 92) : unqL (c :: d :: u) = (unqL u).map (d :: ·) := by
 rw [unqL_back _ h]
 simp only [if_pos hd]
theorem unqL_bh {c d x y : UInt8} {a b : Nat} (v : List UInt8) (h : c.toNat = 92) (h2 : d.toNat = 120) (hx : hexV x = some a) (hy : hexV y = some b) : unqL (c :: d :: x :: y :: v) = (unqL v).map ((a * 16 + b).toUInt8 :: ·) := by
 rw [unqL_back _ h]
 simp only [if_neg (show ¬ (d.toNat = 34 ∨ d.toNat = 92) by omega), if_pos h2, hx, hy]

/-- How many of the bytes behind a quote belong to what it begins, up to the quote that ends it. -/
def qend : Nat → List UInt8 → Option Nat
 | 0, _ => none
 | k + 1, [] => none
 | k + 1, c :: t => if c.toNat = 92 then (qend k (t.drop 1)).map (· + 2) else if c.toNat = 34 then some 1 else (qend k t).map (· + 1)
theorem qend_any : ∀ (k : Nat) (l : List UInt8), l.length ≤ k → qend k l = qend (k + 1) l
 | 0, l, h => by
  cases l with
  | nil => rfl
  | cons c t => simp at h
 | k + 1, [], _ => rfl
 | k + 1, c :: t, h => by
  simp only [List.length_cons] at h
  rw [qend, qend, qend_any k t (by omega), qend_any k (t.drop 1) (by rw [List.length_drop]; omega)]
def qendL (l : List UInt8) : Option Nat := qend l.length l
theorem qend_len (k : Nat) (l : List UInt8) (h : l.length ≤ k) : qend k l = qendL l := by
 obtain ⟨j, rfl⟩ : ∃ j, k = l.length + j := ⟨k - l.length, by omega⟩
 clear h
 induction j with
 | zero => rfl
 | succ j ih => rw [← Nat.add_assoc, ← qend_any _ _ (by omega), ih]
theorem qendL_cons (c : UInt8) (t : List UInt8) : qendL (c :: t) = if c.toNat = 92 then (qendL (t.drop 1)).map (· + 2) else if c.toNat = 34 then some 1 else (qendL t).map (· + 1) := by
 conv => lhs; unfold qendL
 rw [List.length_cons, qend, qend_len t.length t (Nat.le_refl _), qend_len t.length (t.drop 1) (by rw [List.length_drop]; omega)]
/-- A text between quotes: what it is; valid: does a rune stand at each place? -/
def unquote (valid : ByteArray → Bool) (l : List UInt8) : Option (List UInt8) :=
 if 2 ≤ l.length ∧ l.head? = some 34 ∧ l.getLast? = some 34 ∧ valid ⟨l.toArray⟩ = true then unqL ((l.drop 1).take (l.length - 2)) else none

def tokLen (l : List UInt8) : Nat := if l.head? = some 34 then (match qendL (l.drop 1) with | some n => n + 1 | none => 0) else (l.takeWhile (fun c => !isBl c)).length
def wordOf (valid : ByteArray → Bool) (tok : List UInt8) : Option Wd :=
 if tok.head? = some 34 then (unquote valid tok).map fun t => Wd.text ⟨t.toArray⟩
 else if isNum tok = true then some (Wd.num (numVal tok)) else if isName tok = true then some (Wd.name ⟨tok.toArray⟩) else none
end Go.Proofs.YtlkbeddlmbghkaaGreatDoor.Lx
