/- script.Line, plain: which steps have a line. -/
import Derived.Test.YtlkbeddlmbghkaaGreatDoorWr
import Derived.Test.YtlkbeddlmbghkaaGreatDoorSh1
import Derived.Test.YtlkbeddlmbghkaaGreatDoorPRx0
import Derived.Test.YtlkbeddlmbghkaaGreatDoorRows
import Derived.SizedLaws
import Derived.ChangeSlices
import Derived.Deep.Slices
import Derived.Deep.Fields
import Derived.ChangeSame
import Derived.Lib.SmallJoins
import Derived.OpenShut
import Derived.LaidMore
import Derived.LaidSub
import Derived.FnData
import Derived.Test.YtlkbeddlmbghkaaGreatDoorPRx12
namespace Go.Proofs.YtlkbeddlmbghkaaGreatDoor.PR
open Go Go.Proofs Go.RowKit Go.Proofs.YtlkbeddlmbghkaaGreatDoorW.PrintWords Go.Proofs.YtlkbeddlmbghkaaGreatDoorW.PrintLast Go.Proofs.YtlkbeddlmbghkaaGreatDoorW.PrintMore Go.Proofs.YtlkbeddlmbghkaaGreatDoor.Lx
set_option linter.unusedVariables false
set_option linter.unusedSimpArgs false
set_option maxRecDepth 100000

/-- A number of at most fifteen digits. -/
def Dig15 (n : Int) : Prop := -999999999999999 ≤ n ∧ n ≤ 999999999999999
theorem nDigits_iff : ∀ (k u : Nat), 1 ≤ k → (Lib.nDigits u ≤ k ↔ u < 10 ^ k) := by
 intro k
 induction k with
 | zero => intro u h; omega
 | succ k ih =>
  intro u _
  by_cases hu : u < 10
  ·
   rw [Lib.nDigits_small hu]
   have h1 : 10 ^ 1 ≤ 10 ^ (k + 1) := Nat.pow_le_pow_right (by decide) (by omega)
   exact ⟨fun _ => by omega, fun _ => by omega⟩
  ·
   rw [Lib.nDigits_big hu]
   rcases Nat.eq_zero_or_pos k with rfl | hk
   ·
    have h1 := Lib.nDigits_pos (u / 10)
    exact ⟨fun h => by omega, fun h => by simp at h; omega⟩
   ·
    have h1 := ih (u / 10) hk
    rw [Nat.pow_succ]
    exact ⟨fun h => by have := h1.1 (by omega); omega, fun h => by have := h1.2 (by omega); omega⟩
theorem dec_head (u : Nat) : (Lib.decDigits u).head? = some 48 → u = 0 := by
 induction u using Nat.strongRecOn with
 | ind u ih =>
  intro h
  rw [Lib.decDigits] at h
  by_cases hu : u < 10
  ·
   rw [dif_pos hu] at h
   have h1 : UInt8.ofNat (48 + u) = 48 := Option.some.inj h
   have h2 := (dig_of u hu).2
   rw [h1] at h2
   have h3 : (UInt8.toNat 48 : Int) = 48 := rfl
   omega
  ·
   rw [dif_neg hu] at h
   have h3 := (decDigits_val (u / 10)).2.2
   have h4 : (Lib.decDigits (u / 10)).head? = some 48 := by
    cases hl : Lib.decDigits (u / 10) with
    | nil => exact absurd hl h3
    | cons c t => rw [hl] at h; exact h
   have := ih (u / 10) (by omega) h4
   omega
theorem unsign_itoa (n : Int) : unsign (Lib.itoa n) = Lib.decDigits n.natAbs := by
 unfold Lib.itoa
 by_cases h : n < 0
 ·
  rw [if_pos h]; rfl
 ·
  rw [if_neg h, show n.toNat = n.natAbs by omega]
  obtain ⟨h1, h2, h3⟩ := decDigits_val n.natAbs
  unfold unsign
  rw [if_neg]
  intro e
  cases hl : Lib.decDigits n.natAbs with
  | nil => exact absurd hl h3
  | cons c t =>
   rw [hl, List.all_cons, Bool.and_eq_true] at h1
   rw [hl] at e
   rw [Option.some.inj e] at h1
   exact absurd h1.1 (by decide)
theorem itoa_zero : (Lib.itoa 0).length = 1 := by
 unfold Lib.itoa
 rw [if_neg (by decide), Lib.decDigits_length]
 exact Lib.nDigits_small (by decide)
theorem itoa_num (n : Int) : isNum (Lib.itoa n) = true ↔ Dig15 n := by
 unfold isNum
 rw [unsign_itoa]
 have h1 := (decDigits_val n.natAbs).1
 have hp := Lib.nDigits_pos n.natAbs
 have hi := nDigits_iff 15 n.natAbs (by decide)
 have hz : (!((Lib.decDigits n.natAbs).head? == some 48 && decide (1 < (Lib.itoa n).length))) = true := by
  by_cases hh : (Lib.decDigits n.natAbs).head? = some 48
  ·
   have h0 : n = 0 := by have := dec_head _ hh; omega
   subst h0
   rw [itoa_zero]
   simp
  ·
   rw [beq_eq_false_iff_ne.2 hh]; rfl
 rw [Lib.decDigits_length, h1, hz, decide_eq_true hp, Bool.true_and, Bool.and_true, Bool.and_true, decide_eq_true_iff, hi]
 unfold Dig15
 omega
theorem shown_num (n : Int) : (shownW (.num n)).isSome = true ↔ Dig15 n := by
 rw [← itoa_num]
 show (if isNum (Lib.itoa n) = true then some (Lib.itoa n) else none).isSome = true ↔ _
 split <;> simp [*]
theorem shown_text (t : ByteArray) : (shownW (.text t)).isSome = true := rfl
theorem shown_name (s : ByteArray) (h : isName s.data.toList = true) : (shownW (.name s)).isSome = true := by
 show (if isName s.data.toList = true then some s.data.toList else none).isSome = true
 rw [if_pos h]; rfl
theorem showW_isSome : ∀ ws : List Wd, (showW ws).isSome = true ↔ ∀ b ∈ ws, (shownW b).isSome = true
 | [] => by simp [showW]
 | b :: r => by
  rw [showW, List.forall_mem_cons, ← showW_isSome r]
  cases hb : shownW b with
  | none => simp
  | some t => simp
def digC (x : CallT) : Prop := Dig15 x.f7 ∧ Dig15 x.f8 ∧ Dig15 x.f9 ∧ Dig15 x.f10
def digS (x : StepT) : Prop := Dig15 x.f1 ∧ Dig15 x.f2 ∧ digC x.f3
theorem dig0 : Dig15 0 := by unfold Dig15; omega
theorem ent_shown : ∀ (L : List EntT), ∀ b ∈ entW L, (shownW b).isSome = true
 | [], b, hb => by cases hb
 | e :: t, b, hb => by
  rw [entW] at hb
  split at hb
  ·
   rcases List.mem_cons.1 hb with rfl | hb
   ·
    exact shown_name _ (by decide +kernel)
   rcases List.mem_cons.1 hb with rfl | hb
   ·
    rfl
   ·
    exact ent_shown t b hb
  ·
   rcases List.mem_cons.1 hb with rfl | hb
   ·
    rfl
   rcases List.mem_cons.1 hb with rfl | hb
   ·
    rfl
   ·
    exact ent_shown t b hb
theorem span_shown (x : CallT) : ∀ b ∈ spanW x, (shownW b).isSome = true := by
 intro b hb
 unfold spanW at hb
 split at hb
 ·
  simp only [List.mem_cons, List.not_mem_nil, or_false] at hb
  rcases hb with rfl | rfl
  ·
   rfl
  ·
   exact shown_name _ (by decide +kernel)
 ·
  simp only [List.mem_cons, List.not_mem_nil, or_false] at hb
  rcases hb with rfl | rfl <;> rfl
theorem argsW_1 (x : CallT) (e : x.f0 = 1) : argsW x = [.text x.f1] := by
 unfold argsW
 rw [if_pos e]
theorem callN_1 (x : CallT) (e : x.f0 = 1) : callN x = some { z52 with f0 := 1, f1 := x.f1 } := by
 unfold callN
 rw [if_pos e]
theorem argsW_2 (x : CallT) (e : x.f0 = 2) : argsW x = [.text x.f1, .text x.f2, .num x.f9, .num x.f10] := by
 unfold argsW
 rw [if_neg (by omega)]
 rw [if_pos e]
theorem callN_2 (x : CallT) (e : x.f0 = 2) : callN x = some { z52 with f0 := 2, f1 := x.f1, f2 := x.f2, f9 := x.f9, f10 := x.f10 } := by
 unfold callN
 rw [if_neg (by omega)]
 rw [if_pos e]
theorem argsW_3 (x : CallT) (e : x.f0 = 3) : argsW x = [.text x.f1, .num x.f9, .num x.f10] := by
 unfold argsW
 rw [if_neg (by omega)]
 rw [if_neg (by omega)]
 rw [if_pos e]
theorem callN_3 (x : CallT) (e : x.f0 = 3) : callN x = some { z52 with f0 := 3, f1 := x.f1, f9 := x.f9, f10 := x.f10 } := by
 unfold callN
 rw [if_neg (by omega)]
 rw [if_neg (by omega)]
 rw [if_pos e]
theorem argsW_4 (x : CallT) (e : x.f0 = 4) : argsW x = .num x.f9 :: .num x.f10 :: entW x.f3 := by
 unfold argsW
 rw [if_neg (by omega)]
 rw [if_neg (by omega)]
 rw [if_neg (by omega)]
 rw [if_pos e]
theorem callN_4 (x : CallT) (e : x.f0 = 4) : callN x = some { z52 with f0 := 4, f9 := x.f9, f10 := x.f10, f3 := x.f3.map entN } := by
 unfold callN
 rw [if_neg (by omega)]
 rw [if_neg (by omega)]
 rw [if_neg (by omega)]
 rw [if_pos e]
theorem argsW_5 (x : CallT) (e : x.f0 = 5) : argsW x = spanW x ++ [.num x.f7] := by
 unfold argsW
 rw [if_neg (by omega)]
 rw [if_neg (by omega)]
 rw [if_neg (by omega)]
 rw [if_neg (by omega)]
 rw [if_neg (by omega)]
 rw [if_pos e]
theorem callN_5 (x : CallT) (e : x.f0 = 5) : callN x = some { spanN { z52 with f0 := 5 } x with f7 := x.f7 } := by
 unfold callN
 rw [if_neg (by omega)]
 rw [if_neg (by omega)]
 rw [if_neg (by omega)]
 rw [if_neg (by omega)]
 rw [if_pos e]
theorem argsW_6 (x : CallT) (e : x.f0 = 6) : argsW x = [] := by
 unfold argsW
 rw [if_neg (by omega)]
 rw [if_neg (by omega)]
 rw [if_neg (by omega)]
 rw [if_neg (by omega)]
 rw [if_neg (by omega)]
 rw [if_neg (by omega)]
 rw [if_neg (by omega)]
 rw [if_neg (by omega)]
theorem callN_6 (x : CallT) (e : x.f0 = 6) : callN x = some { z52 with f0 := 6 } := by
 unfold callN
 rw [if_neg (by omega)]
 rw [if_neg (by omega)]
 rw [if_neg (by omega)]
 rw [if_neg (by omega)]
 rw [if_neg (by omega)]
 rw [if_pos e]
theorem argsW_7 (x : CallT) (e : x.f0 = 7) : argsW x = [.num x.f8, .text x.f1] := by
 unfold argsW
 rw [if_neg (by omega)]
 rw [if_neg (by omega)]
 rw [if_neg (by omega)]
 rw [if_neg (by omega)]
 rw [if_neg (by omega)]
 rw [if_neg (by omega)]
 rw [if_pos e]
theorem callN_7 (x : CallT) (e : x.f0 = 7) : callN x = some { z52 with f0 := 7, f8 := x.f8, f1 := x.f1 } := by
 unfold callN
 rw [if_neg (by omega)]
 rw [if_neg (by omega)]
 rw [if_neg (by omega)]
 rw [if_neg (by omega)]
 rw [if_neg (by omega)]
 rw [if_neg (by omega)]
 rw [if_pos e]
theorem argsW_8 (x : CallT) (e : x.f0 = 8) : argsW x = .num x.f8 :: (spanW x ++ [.num x.f7]) := by
 unfold argsW
 rw [if_neg (by omega)]
 rw [if_neg (by omega)]
 rw [if_neg (by omega)]
 rw [if_neg (by omega)]
 rw [if_pos e]
theorem callN_8 (x : CallT) (e : x.f0 = 8) : callN x = some { spanN { z52 with f0 := 8, f8 := x.f8 } x with f7 := x.f7 } := by
 unfold callN
 rw [if_neg (by omega)]
 rw [if_neg (by omega)]
 rw [if_neg (by omega)]
 rw [if_neg (by omega)]
 rw [if_neg (by omega)]
 rw [if_neg (by omega)]
 rw [if_neg (by omega)]
 rw [if_pos e]
theorem argsW_9 (x : CallT) (e : x.f0 = 9) : argsW x = [.num x.f8] := by
 unfold argsW
 rw [if_neg (by omega)]
 rw [if_neg (by omega)]
 rw [if_neg (by omega)]
 rw [if_neg (by omega)]
 rw [if_neg (by omega)]
 rw [if_neg (by omega)]
 rw [if_neg (by omega)]
 rw [if_pos e]
theorem callN_9 (x : CallT) (e : x.f0 = 9) : callN x = some { z52 with f0 := 9, f8 := x.f8 } := by
 unfold callN
 rw [if_neg (by omega)]
 rw [if_neg (by omega)]
 rw [if_neg (by omega)]
 rw [if_neg (by omega)]
 rw [if_neg (by omega)]
 rw [if_neg (by omega)]
 rw [if_neg (by omega)]
 rw [if_neg (by omega)]
 rw [if_pos e]
theorem argsW_10 (x : CallT) (e : x.f0 = 10) : argsW x = [] := by
 unfold argsW
 rw [if_neg (by omega)]
 rw [if_neg (by omega)]
 rw [if_neg (by omega)]
 rw [if_neg (by omega)]
 rw [if_neg (by omega)]
 rw [if_neg (by omega)]
 rw [if_neg (by omega)]
 rw [if_neg (by omega)]
theorem callN_10 (x : CallT) (e : x.f0 = 10) : callN x = some { z52 with f0 := 10 } := by
 unfold callN
 rw [if_neg (by omega)]
 rw [if_neg (by omega)]
 rw [if_neg (by omega)]
 rw [if_neg (by omega)]
 rw [if_neg (by omega)]
 rw [if_neg (by omega)]
 rw [if_neg (by omega)]
 rw [if_neg (by omega)]
 rw [if_neg (by omega)]
 rw [if_pos e]
theorem callN_none (x : CallT) (e : x.f0 < 1 ∨ 10 < x.f0) : callN x = none := by
 unfold callN
 rw [if_neg (by omega)]
 rw [if_neg (by omega)]
 rw [if_neg (by omega)]
 rw [if_neg (by omega)]
 rw [if_neg (by omega)]
 rw [if_neg (by omega)]
 rw [if_neg (by omega)]
 rw [if_neg (by omega)]
 rw [if_neg (by omega)]
 rw [if_neg (by omega)]
theorem spanN_f (y x : CallT) : (spanN y x).f7 = y.f7 ∧ (spanN y x).f8 = y.f8 ∧ (spanN y x).f9 = y.f9 ∧ (spanN y x).f10 = y.f10 := by
 unfold spanN
 split <;> exact ⟨rfl, rfl, rfl, rfl⟩
/-- The words of a call that is in its normal form have texts just if its numbers have few digits. -/
theorem call_shown (x : CallT) (h : callN x = some x) : (∀ b ∈ callW x, (shownW b).isSome = true) ↔ digC x := by
 have hk : ¬(x.f0 < 1 ∨ 10 < x.f0) := by
  intro e
  rw [callN_none x e] at h
  cases h
 have hk : x.f0 = 1 ∨ x.f0 = 2 ∨ x.f0 = 3 ∨ x.f0 = 4 ∨ x.f0 = 5 ∨ x.f0 = 6 ∨ x.f0 = 7 ∨ x.f0 = 8 ∨ x.f0 = 9 ∨ x.f0 = 10 := by omega
 unfold callW digC
 rw [List.forall_mem_cons]
 rcases hk with e | e | e | e | e | e | e | e | e | e
 ·
  rw [argsW_1 x e, e]
  have h1 := Option.some.inj ((callN_1 x e).symm.trans h)
  have z7 : x.f7 = 0 := (congrArg (fun y : CallT => y.f7) h1).symm
  have z8 : x.f8 = 0 := (congrArg (fun y : CallT => y.f8) h1).symm
  have z9 : x.f9 = 0 := (congrArg (fun y : CallT => y.f9) h1).symm
  have z10 : x.f10 = 0 := (congrArg (fun y : CallT => y.f10) h1).symm
  have hn : (shownW (.name (nameL 1))).isSome = true := shown_name _ (by decide +kernel)
  simp only [List.forall_mem_cons, List.forall_mem_append, shown_num, shown_text, hn, true_and, and_true, z7, z8, z9, z10, dig0]
  simp
 ·
  rw [argsW_2 x e, e]
  have h1 := Option.some.inj ((callN_2 x e).symm.trans h)
  have z7 : x.f7 = 0 := (congrArg (fun y : CallT => y.f7) h1).symm
  have z8 : x.f8 = 0 := (congrArg (fun y : CallT => y.f8) h1).symm
  have hn : (shownW (.name (nameL 2))).isSome = true := shown_name _ (by decide +kernel)
  simp only [List.forall_mem_cons, List.forall_mem_append, shown_num, shown_text, hn, true_and, and_true, z7, z8, dig0]
  simp [and_comm]
 ·
  rw [argsW_3 x e, e]
  have h1 := Option.some.inj ((callN_3 x e).symm.trans h)
  have z7 : x.f7 = 0 := (congrArg (fun y : CallT => y.f7) h1).symm
  have z8 : x.f8 = 0 := (congrArg (fun y : CallT => y.f8) h1).symm
  have hn : (shownW (.name (nameL 3))).isSome = true := shown_name _ (by decide +kernel)
  simp only [List.forall_mem_cons, List.forall_mem_append, shown_num, shown_text, hn, true_and, and_true, z7, z8, dig0]
  simp [and_comm]
 ·
  rw [argsW_4 x e, e]
  have h1 := Option.some.inj ((callN_4 x e).symm.trans h)
  have z7 : x.f7 = 0 := (congrArg (fun y : CallT => y.f7) h1).symm
  have z8 : x.f8 = 0 := (congrArg (fun y : CallT => y.f8) h1).symm
  have hn : (shownW (.name (nameL 4))).isSome = true := shown_name _ (by decide +kernel)
  simp only [List.forall_mem_cons, List.forall_mem_append, shown_num, shown_text, hn, true_and, and_true, z7, z8, dig0]
  have he := ent_shown x.f3
  constructor
  ·
   intro h; exact ⟨h.1, h.2.1⟩
  ·
   intro h; exact ⟨h.1, h.2, he⟩
 ·
  rw [argsW_5 x e, e]
  have h1 := Option.some.inj ((callN_5 x e).symm.trans h)
  have z8 : x.f8 = 0 := ((congrArg (fun y : CallT => y.f8) h1).symm.trans (spanN_f { z52 with f0 := 5 } x).2.1)
  have z9 : x.f9 = 0 := ((congrArg (fun y : CallT => y.f9) h1).symm.trans (spanN_f { z52 with f0 := 5 } x).2.2.1)
  have z10 : x.f10 = 0 := ((congrArg (fun y : CallT => y.f10) h1).symm.trans (spanN_f { z52 with f0 := 5 } x).2.2.2)
  have hn : (shownW (.name (nameL 5))).isSome = true := shown_name _ (by decide +kernel)
  simp only [List.forall_mem_cons, List.forall_mem_append, shown_num, shown_text, hn, true_and, and_true, z8, z9, z10, dig0]
  have he := span_shown x
  constructor
  ·
   intro h; exact h.2.1
  ·
   intro h; exact ⟨he, h, by simp⟩
 ·
  rw [argsW_6 x e, e]
  have h1 := Option.some.inj ((callN_6 x e).symm.trans h)
  have z7 : x.f7 = 0 := (congrArg (fun y : CallT => y.f7) h1).symm
  have z8 : x.f8 = 0 := (congrArg (fun y : CallT => y.f8) h1).symm
  have z9 : x.f9 = 0 := (congrArg (fun y : CallT => y.f9) h1).symm
  have z10 : x.f10 = 0 := (congrArg (fun y : CallT => y.f10) h1).symm
  have hn : (shownW (.name (nameL 6))).isSome = true := shown_name _ (by decide +kernel)
  simp only [List.forall_mem_cons, List.forall_mem_append, shown_num, shown_text, hn, true_and, and_true, z7, z8, z9, z10, dig0]
  simp
 ·
  rw [argsW_7 x e, e]
  have h1 := Option.some.inj ((callN_7 x e).symm.trans h)
  have z7 : x.f7 = 0 := (congrArg (fun y : CallT => y.f7) h1).symm
  have z9 : x.f9 = 0 := (congrArg (fun y : CallT => y.f9) h1).symm
  have z10 : x.f10 = 0 := (congrArg (fun y : CallT => y.f10) h1).symm
  have hn : (shownW (.name (nameL 7))).isSome = true := shown_name _ (by decide +kernel)
  simp only [List.forall_mem_cons, List.forall_mem_append, shown_num, shown_text, hn, true_and, and_true, z7, z9, z10, dig0]
  simp
 ·
  rw [argsW_8 x e, e]
  have h1 := Option.some.inj ((callN_8 x e).symm.trans h)
  have z9 : x.f9 = 0 := ((congrArg (fun y : CallT => y.f9) h1).symm.trans (spanN_f { z52 with f0 := 8, f8 := x.f8 } x).2.2.1)
  have z10 : x.f10 = 0 := ((congrArg (fun y : CallT => y.f10) h1).symm.trans (spanN_f { z52 with f0 := 8, f8 := x.f8 } x).2.2.2)
  have hn : (shownW (.name (nameL 8))).isSome = true := shown_name _ (by decide +kernel)
  simp only [List.forall_mem_cons, List.forall_mem_append, shown_num, shown_text, hn, true_and, and_true, z9, z10, dig0]
  have he := span_shown x
  constructor
  ·
   intro h; exact ⟨h.2.2.1, h.1⟩
  ·
   intro h; exact ⟨h.2, he, h.1, by simp⟩
 ·
  rw [argsW_9 x e, e]
  have h1 := Option.some.inj ((callN_9 x e).symm.trans h)
  have z7 : x.f7 = 0 := (congrArg (fun y : CallT => y.f7) h1).symm
  have z9 : x.f9 = 0 := (congrArg (fun y : CallT => y.f9) h1).symm
  have z10 : x.f10 = 0 := (congrArg (fun y : CallT => y.f10) h1).symm
  have hn : (shownW (.name (nameL 9))).isSome = true := shown_name _ (by decide +kernel)
  simp only [List.forall_mem_cons, List.forall_mem_append, shown_num, shown_text, hn, true_and, and_true, z7, z9, z10, dig0]
  simp
 ·
  rw [argsW_10 x e, e]
  have h1 := Option.some.inj ((callN_10 x e).symm.trans h)
  have z7 : x.f7 = 0 := (congrArg (fun y : CallT => y.f7) h1).symm
  have z8 : x.f8 = 0 := (congrArg (fun y : CallT => y.f8) h1).symm
  have z9 : x.f9 = 0 := (congrArg (fun y : CallT => y.f9) h1).symm
  have z10 : x.f10 = 0 := (congrArg (fun y : CallT => y.f10) h1).symm
  have hn : (shownW (.name (nameL 10))).isSome = true := shown_name _ (by decide +kernel)
  simp only [List.forall_mem_cons, List.forall_mem_append, shown_num, shown_text, hn, true_and, and_true, z7, z8, z9, z10, dig0]
  simp
theorem zC_dig : digC z52 := ⟨dig0, dig0, dig0, dig0⟩
/-- A step in its normal form: its words, and when they have texts. -/
theorem line_shown (x : StepT) (h : stepN x = some x) : ∃ ws, lineW x = some ws ∧ ((showW ws).isSome = true ↔ digS x) := by
 unfold stepN at h
 unfold lineW digS
 by_cases h1 : x.f0 = 1
 ·
  rw [if_pos h1] at h ⊢
  refine ⟨_, rfl, ?_⟩
  cases hc : callN x.f3 with
  | none => rw [hc] at h; cases h
  | some y =>
   rw [hc] at h
   have h2 := Option.some.inj h
   have e2 : x.f2 = 0 := (congrArg (fun y : StepT => y.f2) h2).symm
   have e3 : y = x.f3 := congrArg (fun y : StepT => y.f3) h2
   rw [e3] at hc
   rw [showW_isSome, List.forall_mem_cons, List.forall_mem_cons, shown_num, call_shown _ hc, e2]
   constructor
   ·
    intro h; exact ⟨h.2.1, dig0, h.2.2⟩
   ·
    intro h; exact ⟨shown_name _ (by decide +kernel), h.1, h.2.2⟩
 by_cases h2 : x.f0 = 2
 ·
  rw [if_neg h1, if_pos h2] at h ⊢
  refine ⟨_, rfl, ?_⟩
  cases hc : callN x.f3 with
  | none => rw [hc] at h; cases h
  | some y =>
   rw [hc] at h
   have h2 := Option.some.inj h
   have e2 : x.f2 = 0 := (congrArg (fun y : StepT => y.f2) h2).symm
   have e3 : y = x.f3 := congrArg (fun y : StepT => y.f3) h2
   rw [e3] at hc
   rw [showW_isSome, List.forall_mem_cons, List.forall_mem_cons, shown_num, call_shown _ hc, e2]
   constructor
   ·
    intro h; exact ⟨h.2.1, dig0, h.2.2⟩
   ·
    intro h; exact ⟨shown_name _ (by decide +kernel), h.1, h.2.2⟩
 by_cases h3 : x.f0 = 3
 ·
  rw [if_neg h1, if_neg h2, if_pos h3] at h ⊢
  refine ⟨_, rfl, ?_⟩
  split at h
  ·
   cases h
  have h2 := Option.some.inj h
  have e3 : z52 = x.f3 := congrArg (fun y : StepT => y.f3) h2
  rw [showW_isSome, List.forall_mem_cons, List.forall_mem_cons, List.forall_mem_cons, shown_num, shown_num, ← e3]
  constructor
  ·
   intro h; exact ⟨h.2.1, h.2.2.1, zC_dig⟩
  ·
   intro h; exact ⟨shown_name _ (by decide +kernel), h.1, h.2.1, by simp⟩
 by_cases h4 : x.f0 = 4
 ·
  rw [if_neg h1, if_neg h2, if_neg h3, if_pos h4] at h ⊢
  refine ⟨_, rfl, ?_⟩
  have h2 := Option.some.inj h
  have e1 : x.f1 = 0 := (congrArg (fun y : StepT => y.f1) h2).symm
  have e2 : x.f2 = 0 := (congrArg (fun y : StepT => y.f2) h2).symm
  have e3 : z52 = x.f3 := congrArg (fun y : StepT => y.f3) h2
  rw [showW_isSome, List.forall_mem_cons, ← e3, e1, e2]
  constructor
  ·
   intro h; exact ⟨dig0, dig0, zC_dig⟩
  ·
   intro h; exact ⟨shown_name _ (by decide +kernel), by simp⟩
 ·
  rw [if_neg h1, if_neg h2, if_neg h3, if_neg h4] at h
  cases h
instance decE : DecidableEq EntT := fun a b => decidable_of_iff (a.f0 = b.f0 ∧ a.f1 = b.f1 ∧ a.f2 = b.f2) (by cases a; cases b; simp)
instance decC : DecidableEq CallT := fun a b => decidable_of_iff (a.f0 = b.f0 ∧ a.f1 = b.f1 ∧ a.f2 = b.f2 ∧ a.f3 = b.f3 ∧ a.f4 = b.f4 ∧ a.f5 = b.f5 ∧ a.f6 = b.f6 ∧ a.f7 = b.f7 ∧ a.f8 = b.f8 ∧ a.f9 = b.f9 ∧ a.f10 = b.f10) (by cases a; cases b; simp)
instance decS : DecidableEq StepT := fun a b => decidable_of_iff (a.f0 = b.f0 ∧ a.f1 = b.f1 ∧ a.f2 = b.f2 ∧ a.f3 = b.f3) (by cases a; cases b; simp)
/-- A step's line. -/
def lineT (x : StepT) : Option (List UInt8) := if stepN x = some x then ((lineW x).bind showW).map (Lib.join · [32]) else none
/-- Has a step a line? -/
def PlainS (x : StepT) : Prop := digS x ∧ stepN x = some x
theorem plain_line (x : StepT) : (lineT x).isSome = true ↔ PlainS x := by
 unfold lineT PlainS
 by_cases h : stepN x = some x
 ·
  rw [if_pos h]
  obtain ⟨ws, h1, h2⟩ := line_shown x h
  rw [h1, Option.bind_some, Option.isSome_map, h2]
  exact ⟨fun k => ⟨k, h⟩, fun k => k.1⟩
 ·
  rw [if_neg h]
  exact ⟨fun k => absurd k (by simp), fun k => absurd k.2 h⟩
theorem lineW_ne (x : StepT) (ws : List Wd) (h : lineW x = some ws) : ∃ b r, ws = b :: r := by
 unfold lineW at h
 repeat' split at h
 all_goals first | exact ⟨_, _, (Option.some.inj h).symm⟩ | cases h
/-- What a line is: its words, that they are the step's, that it is read as it was. -/
theorem lineT_some (x : StepT) (t : List UInt8) (h : lineT x = some t) : ∃ ws toks, lineW x = some ws ∧ showW ws = some toks ∧ t = Lib.join toks [32] ∧ stepS ws = some x ∧ 0 < ws.length ∧ 0 < t.length := by
 unfold lineT at h
 split at h
 ·
  rename_i hn
  have hs := step_read x
  cases hw : lineW x with
  | none => rw [hw] at h; cases h
  | some ws =>
   rw [hw] at h hs
   rw [Option.bind_some] at h hs
   cases hk : showW ws with
   | none => rw [hk] at h; cases h
   | some toks =>
    rw [hk] at h
    have ht := (Option.some.inj h).symm
    obtain ⟨b, r, hb⟩ := lineW_ne x ws hw
    have hl : 0 < ws.length := by rw [hb]; exact Nat.succ_pos _
    have := (join_len ws toks hk).1
    exact ⟨ws, toks, rfl, hk, ht, hs.trans hn, hl, by rw [ht]; exact Nat.lt_of_lt_of_le hl this⟩
 ·
  cases h
end Go.Proofs.YtlkbeddlmbghkaaGreatDoor.PR

namespace Go.Proofs.YtlkbeddlmbghkaaGreatDoor.PR
open Go Go.Proofs Go.RowKit Go.ChangeShapes Go.WideShapes Go.Deep Go.Joins Go.Proofs.YtlkbeddlmbghkaaGreatDoorW.PrintWords Go.Proofs.YtlkbeddlmbghkaaGreatDoorW.PrintLast Go.Proofs.YtlkbeddlmbghkaaGreatDoorW.PrintMore
set_option linter.unusedVariables false
set_option linter.unusedSimpArgs false

section
variable {H : Type} {enc : TypeId × Value → H} {P : Program} {W : World} {base : Nat} {spare : Nat → Bool} {held : Bool}

/-- A row of elements that one by one are read. -/
theorem open_recs {α : Type} [Inhabited α] (d : Kd α) {t e : TypeId} {a : Option Addr} {len cap : Nat} {dt : DataW H} {ps : List MemPlace}
  (hu : P.underlying t = some (.slice e)) (hC : P.cellsOf e = d.sz)
  (hel : ∀ (n : Nat) (cs : List Value) y, DataW.trod enc P W base spare held n e cs = some y → ∃ x, d.K W x cs)
  (h : DataW.Trod enc P W base spare held t (.slice a len cap) dt ps) :
  ∃ xs : List α, xs.length = len ∧ len ≤ cap ∧ cap ≤ maxLen ∧ d.C W a len xs ∧
   (dt = .nil ∧ len = 0 ∨ ∃ el sp, dt = .slice el sp ∧ el.length = len) := by
 obtain ⟨fuel, hf⟩ := h
 rcases open_slice hu hf with ⟨hcs, hx⟩ | ⟨x, l, c, m, n, D, Pl, hcs, hb, hl, hm, hmm, hx, hi⟩
 ·
  simp [Value.cells] at hcs
  obtain ⟨rfl, rfl, rfl⟩ := hcs
  exact ⟨[], rfl, Nat.le_refl _, by decide, ⟨rfl, by omega, fun h => absurd h (by omega)⟩, .inl ⟨(Prod.mk.inj hx).1, rfl⟩⟩
 ·
  simp [Value.cells] at hcs
  obtain ⟨rfl, rfl, rfl⟩ := hcs
  obtain ⟨hx, _⟩ := Prod.mk.inj hx
  have hlm : len ≤ m := by rw [hmm]; split <;> omega
  have hall : ∀ i, i < len → ∃ y : α, ∃ cs, cs.length = d.sz ∧ d.K W y cs ∧ ∀ j u, cs[j]? = some u → W.cell? (x.add (i * d.sz + j)) = some u := by
   intro i hil
   obtain ⟨cs', hc, ht'⟩ := hi i (by omega)
   rw [hC] at hc
   obtain ⟨_, hcl, hat⟩ := World.cells?_some hc
   obtain ⟨y, hy⟩ := hel n cs' _ ht'
   refine ⟨y, cs', hcl, hy, fun j u hj => ?_⟩
   have hjl : j < d.sz := by rw [← hcl]; exact (List.getElem?_eq_some_iff.1 hj).1
   rw [← Go.Deep.add_add, hat j hjl, hj]
  obtain ⟨f, hf⟩ := choose_lt hall
  refine ⟨(List.range len).map f, by simp, hl, hm, ⟨by simp, by have : maxLen = 9223372036854775807 := rfl; omega, fun _ => ⟨x, rfl, fun j p hj => ?_⟩⟩, .inr ⟨_, _, hx, by simp⟩⟩
  have hjl : j < len := by have := (List.getElem?_eq_some_iff.1 hj).1; simpa using this
  have : p = f j := by simp [hjl] at hj; exact hj.symm
  subst this
  obtain ⟨cs, h1, h2, h3⟩ := hf j hjl
  exact ⟨cs, h1, h2, h3⟩

/-- .. inside an element: the slice's own cell. -/
theorem open_recsL {α : Type} [Inhabited α] (d : Kd α) {t e : TypeId} {fuel : Nat} {cs : List Value} {z : DataW H × List MemPlace}
  (hu : P.underlying t = some (.slice e)) (hC : P.cellsOf e = d.sz)
  (hel : ∀ (n : Nat) (cs : List Value) y, DataW.trod enc P W base spare held n e cs = some y → ∃ x, d.K W x cs)
  (h : DataW.trod enc P W base spare held fuel t cs = some z) :
  ∃ (xs : List α) (a : Option Addr) (cap : Nat), cs = [.slice a xs.length cap] ∧ xs.length ≤ cap ∧ d.C W a xs.length xs := by
 rcases open_slice hu h with ⟨hcs, hx⟩ | ⟨x, l, c, m, n, D, Pl, hcs, hb, hl, hm, hmm, hx, hi⟩
 ·
  exact ⟨[], none, 0, hcs, Nat.le_refl _, ⟨rfl, by simp, fun h => absurd h (by simp)⟩⟩
 ·
  subst hcs
  obtain ⟨xs, h1, h2, _, h4, _⟩ := open_recs d hu hC hel (a := some x) (len := l) (cap := c) (dt := z.1) (ps := z.2) ⟨fuel, h⟩
  subst h1
  exact ⟨xs, some x, c, rfl, h2, h4⟩

/-- A struct of fields of one cell each, field by field. -/
theorem open_rec {t : TypeId} {fs : Array Field} {n : Nat} {cs : List Value} {y : DataW H × List MemPlace} (hs : P.underlying t = some (.struct fs)) (hone : oneCellFields P fs = true) (hC : P.cellsOf t = fs.size)
  (h : DataW.trod enc P W base spare held n t cs = some y) : cs.length = fs.size ∧
   ∀ (j : Nat) (f : Field), fs[j]? = some f → ∃ (v : Value) (m : Nat) (z : DataW H × List MemPlace), cs[j]? = some v ∧ DataW.trod enc P W base spare held m f.type [v] = some z := by
 obtain ⟨ys, n', hn', hy, hlen, hyl, hf⟩ := DataW.trod_struct hs h
 rw [hC] at hlen
 refine ⟨hlen, fun j f hj => ?_⟩
 obtain ⟨ho, hk⟩ := hone_of hone j f hj
 have hjl : j < fs.size := (Array.getElem?_eq_some_iff.1 hj).1
 have hv : cs[j]? = some (cs[j]'(by omega)) := List.getElem?_eq_getElem (by omega)
 have h1 := hf j f hj
 rw [ho, hk] at h1
 have hone' : (cs.drop j).take 1 = [cs[j]'(by omega)] := by
  rw [List.drop_eq_getElem_cons (by omega)]
  rfl
 rw [hone'] at h1
 have hys : ys[j]? = some (ys[j]'(by omega)) := List.getElem?_eq_getElem (by omega)
 exact ⟨_, n', _, hv, h1.trans hys⟩
end

/-- An entry of the argument's. -/
theorem open_entry {H : Type} {enc : TypeId × Value → H} {P : Program} {W : World} {base : Nat} {spare : Nat → Bool} {held : Bool} {t : TypeId} {f0 f1 f2 : Field}
  (hs : P.underlying t = some (.struct #[f0, f1, f2])) (hone : oneCellFields P #[f0, f1, f2] = true) (hC : P.cellsOf t = 3)
  (h0 : P.underlying f0.type = some .string) (h1 : P.underlying f1.type = some .string) (h2 : P.underlying f2.type = some .bool)
  (n : Nat) (cs : List Value) (y : DataW H × List MemPlace) (h : DataW.trod enc P W base spare held n t cs = some y) :
  ∃ (a b : ByteArray) (c : Bool), cs = [.string a, .string b, .bool c] := by
 obtain ⟨hl, hf⟩ := open_rec hs hone hC h
 match cs, hl with
 | [c0, c1, c2], _ =>
  obtain ⟨v0, m0, z0, e0, t0⟩ := hf 0 f0 rfl
  obtain ⟨v1, m1, z1, e1, t1⟩ := hf 1 f1 rfl
  obtain ⟨v2, m2, z2, e2, t2⟩ := hf 2 f2 rfl
  obtain ⟨s0, q0, _⟩ := DataW.trod_string h0 t0
  obtain ⟨s1, q1, _⟩ := DataW.trod_string h1 t1
  obtain ⟨s2, q2, _⟩ := DataW.trod_bool h2 t2
  simp at e0 e1 e2 q0 q1 q2
  subst e0; subst e1; subst e2; subst q0; subst q1; subst q2
  exact ⟨_, _, _, rfl⟩
instance : Inhabited S93 := ⟨z93⟩
theorem elE {H : Type} {enc : TypeId × Value → H} {W : World} {base : Nat} {spare : Nat → Bool} {held : Bool} (n : Nat) (cs : List Value) (y : DataW H × List MemPlace) (h : DataW.trod enc Tryz.prog W base spare held n 93 cs = some y) :
  ∃ x, k93.K W x cs := by
 obtain ⟨a, b, c, rfl⟩ := open_entry Tryz.underlying93 (by kernel_rfl) (by kernel_rfl) Tryz.underlying9 Tryz.underlying9 Tryz.underlying4 n cs y h
 exact ⟨⟨a, b, c⟩, k93_mk _ _⟩
/-- The numbers of a step are in range. -/
def In64 (n : Int) : Prop := -9223372036854775808 ≤ n ∧ n ≤ 9223372036854775807
def InS (x : S58) : Prop := In64 x.f0 ∧ In64 x.f1 ∧ In64 x.f2 ∧ In64 x.f3.f0 ∧ In64 x.f3.f7 ∧ In64 x.f3.f8 ∧ In64 x.f3.f9 ∧ In64 x.f3.f10
theorem in64_wf {n : Int} (h : (Lit.int .i64 n).wf = true) : In64 n := by
 have : IntKind.i64.min ≤ n ∧ n ≤ IntKind.i64.max := by simpa [Lit.wf] using h
 simpa [In64, IntKind.min, IntKind.max, IntKind.signed, IntKind.bits] using this
theorem list14 {α : Type} {cs : List α} (h : cs.length = 14) : ∃ c0 c1 c2 c3 c4 c5 c6 c7 c8 c9 c10 c11 c12 c13, cs = [c0, c1, c2, c3, c4, c5, c6, c7, c8, c9, c10, c11, c12, c13] := by
 match cs, h with
 | [c0, c1, c2, c3, c4, c5, c6, c7, c8, c9, c10, c11, c12, c13], _ => exact ⟨c0, c1, c2, c3, c4, c5, c6, c7, c8, c9, c10, c11, c12, c13, rfl⟩
set_option maxRecDepth 100000 in
theorem open_step {H : Type} {enc : TypeId × Value → H} {W : World} {base b0 : Nat} {spare : Nat → Bool} {held : Bool} {v : Value} {d : DataW H} {p : List MemPlace} (hv : Value.okWide Tryz.prog W .any b0 58 v) (h : DataW.Trod enc Tryz.prog W base spare held 58 v d p) :
  ∃ (x : S58) (A : Option Addr) (c : Nat), v = .agg #[.int .i64 x.f0, .int .i64 x.f1, .int .i64 x.f2, .int .i64 x.f3.f0, .string x.f3.f1, .string x.f3.f2, .slice A x.f3.f3.length c, .string x.f3.f4, .string x.f3.f5, .bool x.f3.f6, .int .i64 x.f3.f7, .int .i64 x.f3.f8, .int .i64 x.f3.f9, .int .i64 x.f3.f10] ∧ x.f3.f3.length ≤ c ∧ Kd.C k93 W A x.f3.f3.length x.f3.f3 ∧ InS x := by
 obtain ⟨cs, rfl, hsz⟩ := okWide_struct Tryz.underlying58 hv
 obtain ⟨l⟩ := cs
 have hl : l.length = 14 := hsz.trans (show Tryz.prog.cellsOf 58 = 14 by kernel_rfl)
 obtain ⟨c0, c1, c2, c3, c4, c5, c6, c7, c8, c9, c10, c11, c12, c13, rfl⟩ := list14 hl
 obtain ⟨fuel, hf⟩ := h
 obtain ⟨xs, n, _, _, _, hlen, hg⟩ := DataW.trod_struct Tryz.underlying58 hf
 have C3 : Tryz.prog.cellsOf 3 = 1 := by kernel_rfl
 have C46 : Tryz.prog.cellsOf 52 = 11 := by kernel_rfl
 obtain ⟨y0, y1, y2, y3, rfl⟩ : ∃ y0 y1 y2 y3, xs = [y0, y1, y2, y3] := by
  match xs, hlen with
  | [a, b, c, d], _ => exact ⟨a, b, c, d, rfl⟩
 have t0 : DataW.trod enc Tryz.prog W base spare held n 3 [c0] = some y0 := by
  simpa [C3, Value.cells] using hg 0 _ rfl
 have t1 : DataW.trod enc Tryz.prog W base spare held n 3 [c1] = some y1 := by
  simpa [C3, Value.cells] using hg 1 _ rfl
 have t2 : DataW.trod enc Tryz.prog W base spare held n 3 [c2] = some y2 := by
  simpa [C3, Value.cells] using hg 2 _ rfl
 have t3' : DataW.trod enc Tryz.prog W base spare held n 52 [c3, c4, c5, c6, c7, c8, c9, c10, c11, c12, c13] = some y3 := by
  simpa [C46, Value.cells] using hg 3 _ rfl
 obtain ⟨x0, g0, _, rx0⟩ := DataW.trod_int Tryz.underlying3 t0
 obtain ⟨x1, g1, _, rx1⟩ := DataW.trod_int Tryz.underlying3 t1
 obtain ⟨x2, g2, _, rx2⟩ := DataW.trod_int Tryz.underlying3 t2
 obtain rfl := List.singleton_inj.1 g0
 obtain rfl := List.singleton_inj.1 g1
 obtain rfl := List.singleton_inj.1 g2
 obtain ⟨_, hh⟩ := open_rec Tryz.underlying52 (by kernel_rfl) (by kernel_rfl) t3'
 obtain ⟨w0, m0, z0, e0, u0⟩ := hh 0 _ rfl
 obtain ⟨w1, m1, z1, e1, u1⟩ := hh 1 _ rfl
 obtain ⟨w2, m2, z2, e2, u2⟩ := hh 2 _ rfl
 obtain ⟨w3, m3, z3, e3, u3⟩ := hh 3 _ rfl
 obtain ⟨w4, m4, z4, e4, u4⟩ := hh 4 _ rfl
 obtain ⟨w5, m5, z5, e5, u5⟩ := hh 5 _ rfl
 obtain ⟨w6, m6, z6, e6, u6⟩ := hh 6 _ rfl
 obtain ⟨w7, m7, z7, e7, u7⟩ := hh 7 _ rfl
 obtain ⟨w8, m8, z8, e8, u8⟩ := hh 8 _ rfl
 obtain ⟨w9, m9, z9, e9, u9⟩ := hh 9 _ rfl
 obtain ⟨w10, m10, z10, e10, u10⟩ := hh 10 _ rfl
 obtain ⟨v0, q0, _, rv0⟩ := DataW.trod_int Tryz.underlying3 u0
 obtain ⟨v1, q1, _⟩ := DataW.trod_string Tryz.underlying9 u1
 obtain ⟨v2, q2, _⟩ := DataW.trod_string Tryz.underlying9 u2
 obtain ⟨l, A, c, q3, lc, hC⟩ := open_recsL k93 Tryz.underlying50 (by kernel_rfl) elE u3
 obtain ⟨v4, q4, _⟩ := DataW.trod_string Tryz.underlying9 u4
 obtain ⟨v5, q5, _⟩ := DataW.trod_string Tryz.underlying9 u5
 obtain ⟨v6, q6, _⟩ := DataW.trod_bool Tryz.underlying4 u6
 obtain ⟨v7, q7, _, rv7⟩ := DataW.trod_int Tryz.underlying3 u7
 obtain ⟨v8, q8, _, rv8⟩ := DataW.trod_int Tryz.underlying3 u8
 obtain ⟨v9, q9, _, rv9⟩ := DataW.trod_int Tryz.underlying3 u9
 obtain ⟨v10, q10, _, rv10⟩ := DataW.trod_int Tryz.underlying3 u10
 simp at e0 q0 e1 q1 e2 q2 e3 q3 e4 q4 e5 q5 e6 q6 e7 q7 e8 q8 e9 q9 e10 q10
 subst e0 q0
 subst e1 q1
 subst e2 q2
 subst e3 q3
 subst e4 q4
 subst e5 q5
 subst e6 q6
 subst e7 q7
 subst e8 q8
 subst e9 q9
 subst e10 q10
 exact ⟨⟨x0, x1, x2, ⟨v0, v1, v2, l, v4, v5, v6, v7, v8, v9, v10⟩⟩, A, c, rfl, lc, hC, ⟨in64_wf rx0, in64_wf rx1, in64_wf rx2, in64_wf rv0, in64_wf rv7, in64_wf rv8, in64_wf rv9, in64_wf rv10⟩⟩

instance : Inhabited S58 := ⟨z58⟩
end Go.Proofs.YtlkbeddlmbghkaaGreatDoor.PR

namespace Go.Proofs.YtlkbeddlmbghkaaGreatDoor.PR
open Go Go.Proofs Go.RowKit Go.Proofs.YtlkbeddlmbghkaaGreatDoorW.PrintWords Go.Proofs.YtlkbeddlmbghkaaGreatDoorW.PrintLast Go.Proofs.YtlkbeddlmbghkaaGreatDoorW.PrintMore Go.Proofs.YtlkbeddlmbghkaaGreatDoor.Lx
set_option linter.unusedVariables false
set_option linter.unusedSimpArgs false
set_option maxRecDepth 100000
/-- A word of at most a megabyte. -/
def Mid : Wd → Prop
 | .text t => t.size ≤ 1048576
 | .name s => s.size ≤ 1048576
 | .num n => -9223372036854775808 ≤ n ∧ n ≤ 9223372036854775807
 | .nil => True
theorem nDigits_le : ∀ (k u : Nat), u < 10 ^ k → 1 ≤ k → Lib.nDigits u ≤ k
 | 0, u, h, h1 => absurd h1 (by omega)
 | k + 1, u, h, h1 => by
  by_cases hu : u < 10
  ·
   rw [Lib.nDigits_small hu]; omega
  ·
   rw [Lib.nDigits_big hu]
   have hk : 1 ≤ k := by
    rcases Nat.eq_zero_or_pos k with h0 | h0
    ·
     subst h0; simp at h; omega
    ·
     exact h0
   have := nDigits_le k (u / 10) (by rw [Nat.pow_succ] at h; omega) hk
   omega
theorem piece_len (s : ByteArray) (p : Nat) (hp : p < s.data.toList.length) : (pieceQ s p).length ≤ 4 * stepQ s p ∧ 1 ≤ stepQ s p := by
 rcases piece_cases s p hp with ⟨h1, h2⟩ | ⟨h1, h2, h3⟩ | ⟨w, h0, h1, -, hl, h2, h3⟩
 ·
  rw [h1, h2]; simp
 ·
  rw [h1, h3]; simp
 ·
  rw [h1, h2]
  refine ⟨?_, by omega⟩
  rw [List.length_take, List.length_drop]
  omega
theorem quoteF_length (s : ByteArray) : ∀ (k p : Nat), p ≤ s.data.toList.length → (quoteF s k p).length ≤ 4 * (s.data.toList.length + 4 - p)
 | 0, p, h => by rw [quoteF]; simp
 | k + 1, p, h => by
  have hsz := Lib.size_eq s
  rw [quoteF]
  by_cases hp : p < s.data.toList.length
  ·
   rw [if_pos (by omega), List.length_append]
   have hl := piece_len s p hp
   rcases Nat.lt_or_ge s.data.toList.length (p + stepQ s p) with h2 | h2
   ·
    exfalso
    rcases piece_cases s p hp with ⟨h1, _⟩ | ⟨h1, _⟩ | ⟨w, h0, h1, -, hw, _⟩ <;> omega
   ·
    have := quoteF_length s k (p + stepQ s p) h2
    omega
  ·
   rw [if_neg (by omega)]; simp
theorem shown_len (b : Wd) (t : List UInt8) (hs : Mid b) (h : shownW b = some t) : t.length ≤ 5000000 := by
 cases b with
 | nil => cases h
 | text s =>
  obtain rfl := Option.some.inj h
  have h1 := quoteF_length s s.size 0 (Nat.zero_le _)
  have h2 : s.size ≤ 1048576 := hs
  have hsz := Lib.size_eq s
  simp only [quoteL, List.length_cons, List.length_append, List.length_nil]
  omega
 | num n =>
  change (if isNum (Lib.itoa n) = true then some (Lib.itoa n) else none) = some t at h
  split at h
  ·
   obtain rfl := Option.some.inj h
   have hb : -9223372036854775808 ≤ n ∧ n ≤ 9223372036854775807 := hs
   have hd : ∀ u : Nat, u ≤ 9223372036854775808 → (Lib.decDigits u).length ≤ 20 := fun u hu => by rw [Lib.decDigits_length]; exact nDigits_le 20 u (by omega) (by omega)
   unfold Lib.itoa
   split
   ·
    have := hd n.natAbs (by omega); simp only [List.length_cons]; omega
   ·
    have := hd n.toNat (by omega); omega
  ·
   cases h
 | name s =>
  change (if isName s.data.toList = true then some s.data.toList else none) = some t at h
  split at h
  ·
   obtain rfl := Option.some.inj h
   have h2 : s.size ≤ 1048576 := hs
   have hsz := Lib.size_eq s
   omega
  ·
   cases h
theorem join_bound : ∀ (ws : List Wd) (toks : List (List UInt8)), (∀ b ∈ ws, Mid b) → showW ws = some toks → (Lib.join toks [32]).length ≤ 6000000 * ws.length
 | [], toks, _, h => by
  obtain rfl := Option.some.inj h
  simp [Lib.join]
 | b :: ws, toks, hs, h => by
  rw [showW] at h
  cases hb : shownW b with
  | none => rw [hb] at h; cases h
  | some t =>
   rw [hb] at h
   cases hr : showW ws with
   | none => rw [hr] at h; cases h
   | some ts =>
    rw [hr] at h
    obtain rfl := Option.some.inj h
    have h1 := shown_len b t (hs b (by simp)) hb
    have h2 := join_bound ws ts (fun c hc => hs c (by simp [hc])) hr
    rw [join_cons, List.length_append, List.length_cons]
    split
    ·
     simp only [List.length_nil]; omega
    ·
     simp only [List.length_cons]; omega
theorem fits_of (ws : List Wd) (hl : ws.length ≤ 4000) (hs : ∀ b ∈ ws, Mid b) : FitsAll ws := by
 refine ⟨by omega, fun b hb => ?_, fun toks ht => by have := join_bound ws toks hs ht; omega⟩
 have := hs b hb
 cases b with
 | text t => have h : t.size ≤ 1048576 := this; show t.size ≤ 1000000000000; omega
 | num n => exact this
 | name s => trivial
 | nil => trivial

/-- What a step that is not long has: few entries, short texts. -/
def Short (x : StepT) : Prop := x.f3.f3.length ≤ 1500 ∧ x.f3.f1.size ≤ 30000 ∧ x.f3.f2.size ≤ 30000 ∧ x.f3.f4.size ≤ 30000 ∧ x.f3.f5.size ≤ 30000 ∧ ∀ e ∈ x.f3.f3, e.f0.size ≤ 30000 ∧ e.f1.size ≤ 30000
theorem entW_fit : ∀ (L : List EntT), (∀ e ∈ L, e.f0.size ≤ 30000 ∧ e.f1.size ≤ 30000) → (entW L).length ≤ 2 * L.length ∧ ∀ b ∈ entW L, Mid b
 | [], _ => ⟨Nat.le_refl _, fun b hb => by cases hb⟩
 | e :: t, h => by
  have h0 := h e (by simp)
  obtain ⟨i1, i2⟩ := entW_fit t (fun x hx => h x (by simp [hx]))
  rw [entW]
  split
  ·
   refine ⟨by simp only [List.length_cons]; omega, fun b hb => ?_⟩
   rcases List.mem_cons.1 hb with rfl | hb
   ·
    show (4 : Nat) ≤ 1048576; decide
   rcases List.mem_cons.1 hb with rfl | hb
   ·
    show e.f0.size ≤ 1048576; omega
   ·
    exact i2 b hb
  ·
   refine ⟨by simp only [List.length_cons]; omega, fun b hb => ?_⟩
   rcases List.mem_cons.1 hb with rfl | hb
   ·
    show e.f0.size ≤ 1048576; omega
   rcases List.mem_cons.1 hb with rfl | hb
   ·
    show e.f1.size ≤ 1048576; omega
   ·
    exact i2 b hb
theorem span_fit (x : CallT) (h4 : x.f4.size ≤ 30000) (h5 : x.f5.size ≤ 30000) : (spanW x).length = 2 ∧ ∀ b ∈ spanW x, Mid b := by
 unfold spanW
 split
 ·
  refine ⟨rfl, fun b hb => ?_⟩
  rcases List.mem_cons.1 hb with rfl | hb
  ·
   show x.f4.size ≤ 1048576; omega
  rcases List.mem_cons.1 hb with rfl | hb
  ·
   show (3 : Nat) ≤ 1048576; decide
  ·
   cases hb
 ·
  refine ⟨rfl, fun b hb => ?_⟩
  rcases List.mem_cons.1 hb with rfl | hb
  ·
   show x.f4.size ≤ 1048576; omega
  rcases List.mem_cons.1 hb with rfl | hb
  ·
   show x.f5.size ≤ 1048576; omega
  ·
   cases hb
theorem nameL_fit (k : Int) : (nameL k).size ≤ 1048576 := by
 unfold nameL
 split
 ·
  exact Nat.zero_le _
 ·
  have h : ∀ m : Nat, m < 11 → (kindsL.getD m ⟨#[]⟩).size ≤ 1048576 := by decide +kernel
  exact h k.toNat (by omega)
theorem args_fit (x : StepT) (h : Short x) (hi : InS x) : (argsW x.f3).length ≤ 3010 ∧ ∀ b ∈ argsW x.f3, Mid b := by
 obtain ⟨h0, h1, h2, h4, h5, he⟩ := h
 obtain ⟨-, -, -, -, i7, i8, i9, i10⟩ := hi
 obtain ⟨e1, e2⟩ := entW_fit x.f3.f3 he
 obtain ⟨s1, s2⟩ := span_fit x.f3 h4 h5
 have t1 : Mid (.text x.f3.f1) := by show x.f3.f1.size ≤ 1048576; omega
 have t2 : Mid (.text x.f3.f2) := by show x.f3.f2.size ≤ 1048576; omega
 have n7 : Mid (.num x.f3.f7) := i7
 have n8 : Mid (.num x.f3.f8) := i8
 have n9 : Mid (.num x.f3.f9) := i9
 have n10 : Mid (.num x.f3.f10) := i10
 have nn : ∀ b ∈ ([] : List Wd), Mid b := fun b hb => by cases hb
 have cc : ∀ {a : Wd} {l : List Wd}, Mid a → (∀ b ∈ l, Mid b) → ∀ b ∈ a :: l, Mid b := fun ha hl b hb => by
  rcases List.mem_cons.1 hb with rfl | hb
  ·
   exact ha
  ·
   exact hl b hb
 have aa : ∀ {l r : List Wd}, (∀ b ∈ l, Mid b) → (∀ b ∈ r, Mid b) → ∀ b ∈ l ++ r, Mid b := fun hl hr b hb => by
  rcases List.mem_append.1 hb with hb | hb
  ·
   exact hl b hb
  ·
   exact hr b hb
 unfold argsW
 by_cases k1 : x.f3.f0 = 1
 ·
  rw [if_pos k1]; exact ⟨by show 1 ≤ 3010; decide, cc t1 nn⟩
 rw [if_neg k1]
 by_cases k2 : x.f3.f0 = 2
 ·
  rw [if_pos k2]; exact ⟨by show 4 ≤ 3010; decide, cc t1 (cc t2 (cc n9 (cc n10 nn)))⟩
 rw [if_neg k2]
 by_cases k3 : x.f3.f0 = 3
 ·
  rw [if_pos k3]; exact ⟨by show 3 ≤ 3010; decide, cc t1 (cc n9 (cc n10 nn))⟩
 rw [if_neg k3]
 by_cases k4 : x.f3.f0 = 4
 ·
  rw [if_pos k4]; exact ⟨by simp only [List.length_cons]; omega, cc n9 (cc n10 e2)⟩
 rw [if_neg k4]
 by_cases k8 : x.f3.f0 = 8
 ·
  rw [if_pos k8]; exact ⟨by simp only [List.length_cons, List.length_append, List.length_nil]; omega, cc n8 (aa s2 (cc n7 nn))⟩
 rw [if_neg k8]
 by_cases k5 : x.f3.f0 = 5
 ·
  rw [if_pos k5]; exact ⟨by simp only [List.length_cons, List.length_append, List.length_nil]; omega, aa s2 (cc n7 nn)⟩
 rw [if_neg k5]
 by_cases k7 : x.f3.f0 = 7
 ·
  rw [if_pos k7]; exact ⟨by show 2 ≤ 3010; decide, cc n8 (cc t1 nn)⟩
 rw [if_neg k7]
 by_cases k9 : x.f3.f0 = 9
 ·
  rw [if_pos k9]; exact ⟨by show 1 ≤ 3010; decide, cc n8 nn⟩
 rw [if_neg k9]
 exact ⟨Nat.zero_le _, nn⟩
/-- All that script.Line shows of such a step is bounded. -/
theorem line_fits (x : StepT) (h : Short x) (hi : InS x) (ws : List Wd) (hw : lineW x = some ws) : FitsAll ws := by
 obtain ⟨a1, a2⟩ := args_fit x h hi
 have n1 : Mid (.num x.f1) := hi.2.1
 have n2 : Mid (.num x.f2) := hi.2.2.1
 have nk : Mid (.name (nameL x.f3.f0)) := nameL_fit _
 have cc : ∀ {a : Wd} {l : List Wd}, Mid a → (∀ b ∈ l, Mid b) → ∀ b ∈ a :: l, Mid b := fun ha hl b hb => by
  rcases List.mem_cons.1 hb with rfl | hb
  ·
   exact ha
  ·
   exact hl b hb
 have nn : ∀ b ∈ ([] : List Wd), Mid b := fun b hb => by cases hb
 unfold lineW callW at hw
 split at hw
 ·
  obtain rfl := Option.some.inj hw
  exact fits_of _ (by simp only [List.length_cons]; omega) (cc (show (5 : Nat) ≤ 1048576 by decide) (cc n1 (cc nk a2)))
 split at hw
 ·
  obtain rfl := Option.some.inj hw
  exact fits_of _ (by simp only [List.length_cons]; omega) (cc (show (3 : Nat) ≤ 1048576 by decide) (cc n1 (cc nk a2)))
 split at hw
 ·
  obtain rfl := Option.some.inj hw
  exact fits_of _ (by show 3 ≤ 4000; decide) (cc (show (4 : Nat) ≤ 1048576 by decide) (cc n1 (cc n2 nn)))
 split at hw
 ·
  obtain rfl := Option.some.inj hw
  exact fits_of _ (by show 1 ≤ 4000; decide) (cc (show (3 : Nat) ≤ 1048576 by decide) nn)
 ·
  cases hw
end Go.Proofs.YtlkbeddlmbghkaaGreatDoor.PR

namespace Go.Proofs.YtlkbeddlmbghkaaGreatDoor.PR
open Go Go.Proofs Go.RowKit Go.Proofs.YtlkbeddlmbghkaaGreatDoorW.PrintWords Go.Proofs.YtlkbeddlmbghkaaGreatDoorW.PrintLast Go.Proofs.YtlkbeddlmbghkaaGreatDoorW.PrintMore
set_option linter.unusedVariables false
set_option linter.unusedSimpArgs false

theorem mn_low (s m : Nat) : 0 ≤ mn (s : Int) (m : Int) ∧ mn (s : Int) (m : Int) ≤ m ∧ ((m ≤ s) → mn (s : Int) (m : Int) = m) := by
 unfold mn
 split <;> omega
theorem long_exit (l : List StepT) (n i j : Int) (L : List EntT) (a0 : Int) (a1 a2 a4 a5 : ByteArray) (a6 : Bool) (a7 a8 a9 a10 : Int) (hn : ¬n ≤ 30000) (r : Bool) (h : Ev (fun k => rundlelaw26_long.l0 k l n (wrap64 (i + 1))) r) :
  Ev (fun k => rundlelaw26_long.l1 k l n i j a0 a1 a2 L a4 a5 a6 a7 a8 a9 a10) r :=
 Ev.step (fun k => by rw [rundlelaw26_long.l1]; split <;> simp [hn]) h
theorem long_in (l : List StepT) (i : Int) (L : List EntT) (hL : L.length ≤ 1500) (a0 : Int) (a1 a2 a4 a5 : ByteArray) (a6 : Bool) (a7 a8 a9 a10 : Int) : ∀ (m j : Nat) (n : Int), j + m = L.length → 0 ≤ n → n ≤ 200000 →
  ∃ n', n ≤ n' ∧ n' ≤ 200000 ∧ (n' ≤ 30000 → ∀ e ∈ L.drop j, e.f0.size ≤ 30000 ∧ e.f1.size ≤ 30000) ∧ ∀ r, Ev (fun k => rundlelaw26_long.l0 k l n' (wrap64 (i + 1))) r → Ev (fun k => rundlelaw26_long.l1 k l n i (j : Int) a0 a1 a2 L a4 a5 a6 a7 a8 a9 a10) r
 | 0, j, n, hj, h0, h1 => ⟨n, Int.le_refl _, h1, fun _ e he => (by rw [List.drop_of_length_le (by omega)] at he; cases he), fun r h => Ev.step (fun k => by rw [rundlelaw26_long.l1, if_neg (by omega)]) h⟩
 | m + 1, j, n, hj, h0, h1 => by
  by_cases hn : n ≤ 30000
  ·
   have hlt : j < L.length := by omega
   have hr : rd_T93 L (j : Int) = L[j] := by unfold rd_T93; rw [Int.toNat_natCast, List.getD_eq_getElem?_getD, List.getElem?_eq_getElem hlt]; rfl
   have hw : wrap64 ((j : Int) + 1) = ((j + 1 : Nat) : Int) := by unfold wrap64; omega
   have m1 := mn_low (L[j]).f0.size 30001
   have m2 := mn_low (L[j]).f1.size 30001
   simp only [Int.cast_ofNat_Int] at m1 m2
   have hx : wrap64 ((wrap64 (n + (mn ((L[j]).f0.size : Int) 30001))) + (mn ((L[j]).f1.size : Int) 30001)) = n + mn ((L[j]).f0.size : Int) 30001 + mn ((L[j]).f1.size : Int) 30001 := by
    generalize mn ((L[j]).f0.size : Int) 30001 = x1 at *
    generalize mn ((L[j]).f1.size : Int) 30001 = x2 at *
    unfold wrap64; omega
   obtain ⟨n', i1, i2, i3, i4⟩ := long_in l i L hL a0 a1 a2 a4 a5 a6 a7 a8 a9 a10 m (j + 1) (n + mn ((L[j]).f0.size : Int) 30001 + mn ((L[j]).f1.size : Int) 30001) (by omega) (by omega) (by omega)
   refine ⟨n', by omega, i2, fun h e he => ?_, fun r h => ?_⟩
   ·
    rw [List.drop_eq_getElem_cons hlt] at he
    rcases List.mem_cons.1 he with rfl | he
    ·
     omega
    ·
     exact i3 h e he
   ·
    refine Ev.step (fun k => ?_) (i4 r h)
    rw [rundlelaw26_long.l1, if_pos (by omega), if_pos hn, if_pos (by omega), hw, hr, hx]
  ·
   refine ⟨n, Int.le_refl _, h1, fun h => absurd h hn, fun r h => long_exit _ _ _ _ _ _ _ _ _ _ _ _ _ _ _ hn r h⟩
theorem long_out (l : List StepT) (hl : l.length ≤ 60) : ∀ (m i : Nat) (n : Int), i + m = l.length → 0 ≤ n → n ≤ 200000 →
  ∃ b, (b = false → n ≤ 30000 ∧ ∀ x ∈ l.drop i, Short x) ∧ Ev (fun k => rundlelaw26_long.l0 k l n (i : Int)) b
 | 0, i, n, hi, h0, h1 => ⟨decide (n > 30000), fun h => ⟨by have := of_decide_eq_false h; omega, fun e he => by rw [List.drop_of_length_le (by omega)] at he; cases he⟩,
   Ev.step (f := fun k => rundlelaw26_long.j1 k l n (i : Int) false) (fun k => by rw [rundlelaw26_long.l0, if_neg (by omega)]) (Ev.step (f := fun _ => some (decide (n > 30000))) (fun k => by rw [rundlelaw26_long.j1, if_neg (by decide)]) (Ev.now _))⟩
 | m + 1, i, n, hi, h0, h1 => by
  have hlt : i < l.length := by omega
  by_cases hn : n ≤ 30000
  ·
   have hr : rd_T58 l (i : Int) = l[i] := by unfold rd_T58; rw [Int.toNat_natCast, List.getD_eq_getElem?_getD, List.getElem?_eq_getElem hlt]; rfl
   have hw : wrap64 ((i : Int) + 1) = ((i + 1 : Nat) : Int) := by unfold wrap64; omega
   have h1 := mn_low (l[i]).f3.f1.size 30001
   have h2 := mn_low (l[i]).f3.f2.size 30001
   have h4 := mn_low (l[i]).f3.f4.size 30001
   have h5 := mn_low (l[i]).f3.f5.size 30001
   have h3 := mn_low (l[i]).f3.f3.length 1501
   simp only [Int.cast_ofNat_Int] at h1 h2 h4 h5 h3
   obtain ⟨N, hN⟩ : ∃ N, N = n + mn ((l[i]).f3.f1.size : Int) 30001 + mn ((l[i]).f3.f2.size : Int) 30001 + mn ((l[i]).f3.f4.size : Int) 30001 + mn ((l[i]).f3.f5.size : Int) 30001 + 20 * mn ((l[i]).f3.f3.length : Int) 1501 := ⟨_, rfl⟩
   have hx : wrap64 ((wrap64 ((wrap64 ((wrap64 ((wrap64 (n + (mn ((l[i]).f3.f1.size : Int) 30001))) + (mn ((l[i]).f3.f2.size : Int) 30001))) + (mn ((l[i]).f3.f4.size : Int) 30001))) + (mn ((l[i]).f3.f5.size : Int) 30001))) + (20 * (mn ((l[i]).f3.f3.length : Int) 1501))) = N := by
    rw [hN]
    generalize mn ((l[i]).f3.f1.size : Int) 30001 = x1 at *
    generalize mn ((l[i]).f3.f2.size : Int) 30001 = x2 at *
    generalize mn ((l[i]).f3.f4.size : Int) 30001 = x4 at *
    generalize mn ((l[i]).f3.f5.size : Int) 30001 = x5 at *
    generalize mn ((l[i]).f3.f3.length : Int) 1501 = x3 at *
    unfold wrap64; omega
   have step : ∀ r, Ev (fun k => rundlelaw26_long.l1 k l N (i : Int) ((0 : Nat) : Int) (l[i]).f3.f0 (l[i]).f3.f1 (l[i]).f3.f2 (l[i]).f3.f3 (l[i]).f3.f4 (l[i]).f3.f5 (l[i]).f3.f6 (l[i]).f3.f7 (l[i]).f3.f8 (l[i]).f3.f9 (l[i]).f3.f10) r → Ev (fun k => rundlelaw26_long.l0 k l n (i : Int)) r := fun r h =>
    Ev.step (f := fun k => rundlelaw26_long.j1 k l n (i : Int) true) (fun k => by rw [rundlelaw26_long.l0, if_pos (by omega), decide_eq_true hn]) (Ev.step (fun k => by rw [rundlelaw26_long.j1, if_pos rfl, if_pos (by omega), if_pos (by omega), hr, hx]; rfl) h)
   by_cases hL : (l[i]).f3.f3.length ≤ 1500
   ·
    obtain ⟨n', i1, i2, i3, i4⟩ := long_in l (i : Int) (l[i]).f3.f3 hL (l[i]).f3.f0 (l[i]).f3.f1 (l[i]).f3.f2 (l[i]).f3.f4 (l[i]).f3.f5 (l[i]).f3.f6 (l[i]).f3.f7 (l[i]).f3.f8 (l[i]).f3.f9 (l[i]).f3.f10 (l[i]).f3.f3.length 0 N (by omega) (by omega) (by omega)
    obtain ⟨b, b1, b2⟩ := long_out l hl m (i + 1) n' (by omega) (by omega) i2
    refine ⟨b, fun h => ?_, step b (i4 b (by rw [hw]; exact b2))⟩
    obtain ⟨c1, c2⟩ := b1 h
    refine ⟨hn, fun x hx => ?_⟩
    rw [List.drop_eq_getElem_cons hlt] at hx
    rcases List.mem_cons.1 hx with rfl | hx
    ·
     have he := i3 c1
     rw [List.drop_zero] at he
     exact ⟨hL, by omega, by omega, by omega, by omega, he⟩
    ·
     exact c2 x hx
   ·
    have hN3 : ¬N ≤ 30000 := by omega
    obtain ⟨b, b1, b2⟩ := long_out l hl m (i + 1) N (by omega) (by omega) (by omega)
    refine ⟨b, fun h => absurd (b1 h).1 hN3, step b (long_exit _ _ _ _ _ _ _ _ _ _ _ _ _ _ _ hN3 b (by rw [hw]; exact b2))⟩
  ·
   refine ⟨true, fun h => (by cases h), ?_⟩
   refine Ev.step (f := fun k => rundlelaw26_long.j1 k l n (i : Int) false) (fun k => by rw [rundlelaw26_long.l0, if_pos (by omega), decide_eq_false hn]) (Ev.step (f := fun _ => some true) (fun k => by rw [rundlelaw26_long.j1, if_neg (by decide), decide_eq_true (by omega)]) (Ev.now _))
theorem long_any (l : List StepT) : ∃ k b, rundlelaw26_long.f k l = some b ∧ (b = false → l.length ≤ 60 ∧ ∀ x ∈ l, Short x) := by
 by_cases hl : l.length ≤ 60
 ·
  obtain ⟨b, b1, b2⟩ := long_out l hl l.length 0 0 (by omega) (by omega) (by omega)
  obtain ⟨k, hk⟩ := b2.rounds
  exact ⟨k, b, by rw [rundlelaw26_long.f, if_neg (by omega)]; exact hk, fun h => ⟨hl, by have := (b1 h).2; rw [List.drop_zero] at this; exact this⟩⟩
 ·
  exact ⟨0, true, by rw [rundlelaw26_long.f, if_pos (by omega)], fun h => by cases h⟩
/-- long, of the steps of a row. -/
theorem long_at (l : List StepT) (A : Option Addr) (c : Nat) (w : World) (hc : l.length ≤ c) (hA : Kd.C k58 w A l.length l) :
  Calls Tryz.prog 23 #[.slice A l.length c] w fun e w' => ∃ b, e = .returned (.bool b) ∧ (b = false → l.length ≤ 60 ∧ ∀ x ∈ l, Short x) ∧ Below w.heap.size w w' := by
 obtain ⟨k, b, hb, hl⟩ := long_any l
 exact (rundlelaw26_long.calls k A c l b w hA hc hb).mono (fun e w' h => ⟨b, h.1, hl, h.2⟩)
theorem dig_out (l : List Int) (hl : l.length ≤ 1000) : ∀ (m i : Nat), i + m = l.length →
  ∃ b, (b = true ↔ ∀ x ∈ l.drop i, Dig15 x) ∧ Ev (fun k => rundlelaw26_digits.l0 k l (i : Int)) b
 | 0, i, hi => ⟨true, ⟨fun _ e he => (by rw [List.drop_of_length_le (by omega)] at he; cases he), fun _ => rfl⟩, Ev.step (f := fun _ => some true) (fun k => by rw [rundlelaw26_digits.l0, if_neg (by omega)]) (Ev.now _)⟩
 | m + 1, i, hi => by
  have hlt : i < l.length := by omega
  have hr : rd l (i : Int) = l[i] := by unfold rd; rw [Int.toNat_natCast, List.getD_eq_getElem?_getD, List.getElem?_eq_getElem hlt]; rfl
  have hw : wrap64 ((i : Int) + 1) = ((i + 1 : Nat) : Int) := by unfold wrap64; omega
  rw [List.drop_eq_getElem_cons hlt]
  by_cases h1 : l[i] > 999999999999999
  ·
   refine ⟨false, ⟨fun h => (by cases h), fun h => ?_⟩, Ev.step (f := fun _ => some false) (fun k => by rw [rundlelaw26_digits.l0, if_pos (by omega), if_pos (by omega), hr, if_pos h1]) (Ev.now _)⟩
   have := h _ (List.mem_cons_self ..)
   unfold Dig15 at this; omega
  by_cases h2 : l[i] < -999999999999999
  ·
   refine ⟨false, ⟨fun h => (by cases h), fun h => ?_⟩, Ev.step (f := fun _ => some false) (fun k => by rw [rundlelaw26_digits.l0, if_pos (by omega), if_pos (by omega), hr, if_neg h1, if_pos h2]) (Ev.now _)⟩
   have := h _ (List.mem_cons_self ..)
   unfold Dig15 at this; omega
  ·
   obtain ⟨b, b1, b2⟩ := dig_out l hl m (i + 1) (by omega)
   refine ⟨b, ?_, Ev.step (fun k => by rw [rundlelaw26_digits.l0, if_pos (by omega), if_pos (by omega), hr, if_neg h1, if_neg h2, hw]) b2⟩
   rw [b1, List.forall_mem_cons]
   exact ⟨fun h => ⟨by unfold Dig15; omega, h⟩, fun h => h.2⟩
theorem digits_at (a b c d e f : Int) (q : Nat) (n : Nat) (w : World) (hq : w.heap[q]? = some (.cells #[.int .i64 a, .int .i64 b, .int .i64 c, .int .i64 d, .int .i64 e, .int .i64 f] 3 (0, 0))) :
  Calls Tryz.prog 51 #[.slice (some ⟨q, 0, none⟩) 6 6] w fun e' w' => ∃ r, e' = .returned (.bool r) ∧ (r = true ↔ Dig15 a ∧ Dig15 b ∧ Dig15 c ∧ Dig15 d ∧ Dig15 e ∧ Dig15 f) ∧ Below w.heap.size w w' := by
 obtain ⟨r, r1, r2⟩ := dig_out [a, b, c, d, e, f] (by show 6 ≤ 1000; decide) 6 0 rfl
 obtain ⟨k, hk⟩ := r2.rounds
 have hC : Kd.C (Kd.int .i64) w (some ⟨q, 0, none⟩) ([a, b, c, d, e, f] : List Int).length [a, b, c, d, e, f] := by
  refine ⟨rfl, by show 6 ≤ _; decide, fun _ => ⟨_, rfl, fun j p hp => ?_⟩⟩
  refine ⟨[.int .i64 p], rfl, rfl, fun i u hu => ?_⟩
  match i, hu with
  | 0, hu =>
   obtain rfl := Option.some.inj hu
   have e0 : ((⟨q, 0, none⟩ : Addr).add (j * 1 + 0)) = ⟨q, j, none⟩ := by simp [Addr.add]; exact fun h => h.symm
   refine (congrArg w.cell? e0).trans ((blk_cell hq j).trans ?_)
   match j, hp with
   | 0, hp => obtain rfl := Option.some.inj hp; rfl
   | 1, hp => obtain rfl := Option.some.inj hp; rfl
   | 2, hp => obtain rfl := Option.some.inj hp; rfl
   | 3, hp => obtain rfl := Option.some.inj hp; rfl
   | 4, hp => obtain rfl := Option.some.inj hp; rfl
   | 5, hp => obtain rfl := Option.some.inj hp; rfl
   | n + 6, hp => simp at hp
  | n + 1, hu => simp at hu
 refine (rundlelaw26_digits.calls k (some ⟨q, 0, none⟩) 6 [a, b, c, d, e, f] r w hC (by show 6 ≤ 6; decide) hk).mono ?_
 rintro e' w' ⟨rfl, hd⟩
 refine ⟨r, rfl, ?_, hd.below⟩
 rw [r1, List.drop_zero]
 simp only [List.forall_mem_cons]
 constructor
 ·
  intro h; exact ⟨h.1, h.2.1, h.2.2.1, h.2.2.2.1, h.2.2.2.2.1, h.2.2.2.2.2.1⟩
 ·
  intro h; exact ⟨h.1, h.2.1, h.2.2.1, h.2.2.2.1, h.2.2.2.2.1, h.2.2.2.2.2, fun x hx => by cases hx⟩
end Go.Proofs.YtlkbeddlmbghkaaGreatDoor.PR
