/- The document's Number, Name, Width are the plain ones. -/
import Derived.Test.YtlkbeddlmbghkaaGreatDoorPRx9
import Derived.Test.YtlkbeddlmbghkaaGreatDoorLx
import Derived.Test.YtlkbeddlmbghkaaGreatDoorSh1
import Derived.Test.YtlkbeddlmbghkaaGreatDoorPRx0
import Derived.SizedLaws
import Derived.ChangeSlices
import Derived.Deep.Slices
import Derived.Deep.Fields
import Derived.ChangeSame
import Derived.Lib.SmallJoins
import Derived.OpenShut
import Derived.LaidMore
import Derived.LaidSub
import Derived.FnData
import Derived.Test.YtlkbeddlmbghkaaGreatDoorPRx10
namespace Go.Proofs.YtlkbeddlmbghkaaGreatDoor.PR
open Go Go.Proofs Go.RowKit Go.Proofs.YtlkbeddlmbghkaaGreatDoorW.PrintWords Go.Proofs.YtlkbeddlmbghkaaGreatDoorW.PrintLast Go.Proofs.YtlkbeddlmbghkaaGreatDoorW.PrintMore Go.Proofs.YtlkbeddlmbghkaaGreatDoor.Lx
set_option linter.unusedVariables false
set_option linter.unusedSimpArgs false

theorem refNum_loop (s d : ByteArray) (hs : s.size ≤ 1000000) (hd : d.size ≤ 15) : ∀ (m i : Nat) (n : Int), i + m = d.size → 0 ≤ n → n < 10 ^ i →
    Ev (fun k => rundleref03_Number.l0 k s d n i) (if (d.data.toList.drop i).all isDig then (if d.size < s.size then -(digVal (d.data.toList.drop i) n) else digVal (d.data.toList.drop i) n, true) else (0, false))
  | 0, i, n, hm, h0, h1 => by
    refine Ev.step (f := fun _ => some _) (fun k => ?_) (Ev.now _)
    rw [rundleref03_Number.l0, if_neg (by omega), List.drop_of_length_le (by rw [← Lib.size_eq]; omega)]
    have h3 : (10 : Int) ^ i ≤ 10 ^ 15 := by exact_mod_cast Nat.pow_le_pow_right (by omega) (show i ≤ 15 by omega)
    by_cases hlt : d.size < s.size
    · rw [if_pos (by omega), if_pos (by rfl), if_pos hlt, w64 (by omega) (by omega)]; rfl
    · rw [if_neg (by omega), if_pos (by rfl), if_neg hlt]; rfl
  | m + 1, i, n, hm, h0, h1 => by
    have hi : i < d.data.toList.length := by rw [← Lib.size_eq]; omega
    have hb := bt_nat d i hi
    have h3 : (10 : Int) ^ i ≤ 10 ^ 14 := by exact_mod_cast Nat.pow_le_pow_right (by omega) (show i ≤ 14 by omega)
    have hc := (d.data.toList[i]'hi).toNat_lt
    rw [all_drop _ _ _ hi]
    by_cases hdg : isDig (d.data.toList[i]'hi) = true
    · have h2 : 48 ≤ (d.data.toList[i]'hi).toNat ∧ (d.data.toList[i]'hi).toNat ≤ 57 := by simpa [isDig] using hdg
      have ih := refNum_loop s d hs hd m (i + 1) (n * 10 + (((d.data.toList[i]'hi).toNat : Int) - 48)) (by omega) (by omega) (by rw [Int.pow_succ]; omega)
      rw [hdg, Bool.true_and, digVal_drop _ _ _ hi]
      refine Ev.step (fun k => ?_) ih
      rw [rundleref03_Number.l0, if_pos (by omega), if_pos (by omega), hb, if_neg (by omega), if_neg (by omega)]
      rw [w64 (a := n * 10) (by omega) (by omega), w64 (a := ((d.data.toList[i]'hi).toNat : Int)) (by omega) (by omega), w64 (a := n * 10 + _) (by omega) (by omega), w64 (a := n * 10 + _ - 48) (by omega) (by omega), w64 (a := (i : Int) + 1) (by omega) (by omega)]
      congr 1
      · omega
    · have h2 : ¬ (48 ≤ (d.data.toList[i]'hi).toNat ∧ (d.data.toList[i]'hi).toNat ≤ 57) := by intro h; exact hdg (by simpa [isDig] using h)
      have hf : isDig (d.data.toList[i]'hi) = false := by simpa using hdg
      rw [hf, Bool.false_and, if_neg (by simp)]
      refine Ev.step (f := fun _ => some _) (fun k => ?_) (Ev.now _)
      rw [rundleref03_Number.l0, if_pos (by omega), if_pos (by omega), hb]
      by_cases h4 : ((d.data.toList[i]'hi).toNat : Int) < 48
      · rw [if_pos h4]
      · rw [if_neg h4, if_pos (by omega)]

theorem refNum_j1 (s d : ByteArray) (hs : s.size ≤ 1000000) (hd : d.data.toList = unsign s.data.toList) :
    Ev (fun k => rundleref03_Number.j1 k s d) (numV s.data.toList, isNum s.data.toList) := by
  have hn : d.size = (unsign s.data.toList).length := by rw [Lib.size_eq, hd]
  have hsz : s.data.toList.length = s.size := (Lib.size_eq s).symm
  have hul := unsign_len s.data.toList
  rw [hsz, ← hn] at hul
  by_cases h1 : d.size < 1
  · have hno : isNum s.data.toList = false := by unfold isNum; rw [← hn, decide_eq_false (by omega)]; rfl
    rw [hno, show numV s.data.toList = 0 by unfold numV; rw [hno]; rfl]
    refine Ev.step (f := fun k => rundleref03_Number.j2 k s d true) (fun k => ?_) (Ev.step (f := fun _ => some _) (fun k => ?_) (Ev.now _))
    · rw [rundleref03_Number.j1, if_pos (by omega)]
    · rw [rundleref03_Number.j2, if_pos rfl]
  by_cases h2 : 15 < d.size
  · have hno : isNum s.data.toList = false := by unfold isNum; rw [← hn, decide_eq_false (p := d.size ≤ 15) (by omega)]; simp
    rw [hno, show numV s.data.toList = 0 by unfold numV; rw [hno]; rfl]
    refine Ev.step (f := fun k => rundleref03_Number.j2 k s d true) (fun k => ?_) (Ev.step (f := fun _ => some _) (fun k => ?_) (Ev.now _))
    · rw [rundleref03_Number.j1, if_neg (by omega), if_pos (by omega)]
    · rw [rundleref03_Number.j2, if_pos rfl]
  have hp : 0 < d.data.toList.length := by rw [← Lib.size_eq]; omega
  have hb := bt_nat d 0 hp
  have hh : ((unsign s.data.toList).head? == some 48) = decide (bt d 0 = 48) := by
    rw [← hd, List.head?_eq_getElem?, List.getElem?_eq_getElem hp]
    have hb' : bt d 0 = ((d.data.toList[0]'hp).toNat : Int) := hb
    rw [hb', Bool.eq_iff_iff]
    simp only [beq_iff_eq, Option.some.injEq, decide_eq_true_eq]
    exact ⟨fun e => by rw [e]; rfl, fun e => UInt8.toNat_inj.1 (by have h48 : (48 : UInt8).toNat = 48 := rfl; omega)⟩
  have hin : isNum s.data.toList = (!(decide (bt d 0 = 48) && decide (1 < s.size)) && (unsign s.data.toList).all isDig) := by
    unfold isNum
    rw [hh, ← hn, hsz, decide_eq_true (show 1 ≤ d.size by omega), decide_eq_true (show d.size ≤ 15 by omega)]
    simp
  have hloop := refNum_loop s d hs (by omega) d.size 0 0 (by omega) (by omega) (by decide)
  rw [List.drop_zero] at hloop
  have hj : ∀ b : Bool, b = (decide (bt d 0 = 48) && decide (1 < s.size)) → Ev (fun k => rundleref03_Number.j2 k s d b) (numV s.data.toList, isNum s.data.toList) := by
    intro b hb
    rw [← hb] at hin
    cases b with
    | true =>
      have hno : isNum s.data.toList = false := by rw [hin]; rfl
      rw [hno, show numV s.data.toList = 0 by unfold numV; rw [hno]; rfl]
      exact Ev.step (f := fun _ => some _) (fun k => by rw [rundleref03_Number.j2, if_pos rfl]) (Ev.now _)
    | false =>
      rw [Bool.not_false, Bool.true_and] at hin
      refine Ev.step (f := fun k => rundleref03_Number.l0 k s d 0 0) (fun k => by rw [rundleref03_Number.j2, if_neg (by simp)]) ?_
      have : (numV s.data.toList, isNum s.data.toList) = (if d.data.toList.all isDig then (if d.size < s.size then -(digVal d.data.toList 0) else digVal d.data.toList 0, true) else (0, false)) := by
        rw [hd, hin]
        cases hq : (unsign s.data.toList).all isDig with
        | false => rw [show numV s.data.toList = 0 by unfold numV; rw [hin, hq]; rfl]; rfl
        | true =>
          rw [show numV s.data.toList = numVal s.data.toList by unfold numV; rw [hin, hq]; rfl, if_pos rfl]
          unfold numVal
          by_cases hlt : d.size < s.size
          · rw [if_pos (hul.2.1 hlt), if_pos hlt]
          · rw [if_neg (fun e => hlt (hul.2.2 e)), if_neg hlt]
      rw [this]
      exact hloop
  by_cases h4 : bt d 0 = 48
  · refine Ev.step (f := fun k => rundleref03_Number.j2 k s d (decide ((s.size : Int) > 1))) (fun k => ?_) (hj _ ?_)
    · rw [rundleref03_Number.j1, if_neg (by omega), if_neg (by omega), if_pos (by omega), if_pos h4]
    · rw [decide_eq_true h4, Bool.true_and]; exact decide_eq_decide.2 (by omega)
  · refine Ev.step (f := fun k => rundleref03_Number.j2 k s d false) (fun k => ?_) (hj _ ?_)
    · rw [rundleref03_Number.j1, if_neg (by omega), if_neg (by omega), if_pos (by omega), if_neg h4]
    · rw [decide_eq_false h4]; rfl

theorem refNum (s : ByteArray) (hs : s.size ≤ 1000000) : Ev (fun k => rundleref03_Number.f k s) (numV s.data.toList, isNum s.data.toList) := by
  by_cases h0 : 0 < s.size
  · have hp : 0 < s.data.toList.length := by rw [← Lib.size_eq]; exact h0
    have hb : bt s 0 = ((s.data.toList[0]'hp).toNat : Int) := bt_nat s 0 hp
    have hhd : s.data.toList.head? = some (s.data.toList[0]'hp) := by rw [List.head?_eq_getElem?, List.getElem?_eq_getElem hp]
    refine Ev.congr (f := fun k => rundleref03_Number.j0 k s s (bt s 0 == 45)) (fun k => by rw [rundleref03_Number.f, if_pos (by omega), if_pos (by omega)]) ?_
    by_cases h45 : bt s 0 = 45
    · have hc : s.data.toList[0]'hp = 45 := UInt8.toNat_inj.1 (by have h48 : (45 : UInt8).toNat = 45 := rfl; omega)
      rw [beq_iff_eq.2 h45]
      refine Ev.step (f := fun k => rundleref03_Number.j1 k s (s.extract 1 s.size)) (fun k => by rw [rundleref03_Number.j0, if_pos rfl, if_pos (by omega)]) (refNum_j1 s _ hs ?_)
      rw [Lib.extract_to_end]
      unfold unsign
      rw [hhd, hc, if_pos rfl, List.drop_one]
    · rw [beq_eq_false_iff_ne.2 h45]
      refine Ev.step (f := fun k => rundleref03_Number.j1 k s s) (fun k => by rw [rundleref03_Number.j0, if_neg (by simp)]) (refNum_j1 s _ hs ?_)
      unfold unsign
      rw [hhd, if_neg]
      intro e
      exact h45 (by rw [hb, Option.some.inj e]; rfl)
  · refine Ev.congr (f := fun k => rundleref03_Number.j0 k s s false) (fun k => by rw [rundleref03_Number.f, if_neg (by omega)]) ?_
    refine Ev.step (f := fun k => rundleref03_Number.j1 k s s) (fun k => by rw [rundleref03_Number.j0, if_neg (by simp)]) (refNum_j1 s _ hs ?_)
    have : s.data.toList = [] := List.length_eq_zero_iff.1 (by rw [← Lib.size_eq]; omega)
    rw [this]; rfl

/-! ### names -/

theorem refName_loop (s : ByteArray) (hs : s.size ≤ 1000000) : ∀ (m i : Nat), i + m = s.size → nameAll (s.data.toList.take i) = true →
    Ev (fun k => rundleref03_Name.l0 k s i) (isName s.data.toList)
  | 0, i, hm, ha => by
    rw [List.take_of_length_le (by rw [← Lib.size_eq]; omega)] at ha
    refine Ev.step (f := fun _ => some _) (fun k => ?_) (Ev.now _)
    rw [rundleref03_Name.l0, if_neg (by omega)]
    unfold isName
    rw [ha, ← Lib.size_eq]
    by_cases h1 : 1 ≤ s.size
    · rw [if_pos (by omega), decide_eq_true h1]
      simp
      omega
    · rw [if_neg (by omega), decide_eq_false h1]; rfl
  | m + 1, i, hm, ha => by
    have hi : i < s.data.toList.length := by rw [← Lib.size_eq]; omega
    have hb := bt_nat s i hi
    have hc := (s.data.toList[i]'hi).toNat_lt
    have hw : wrap64 ((i : Int) + 1) = ((i + 1 : Nat) : Int) := by rw [w64 (by omega) (by omega)]; rfl
    have hsn : nameAll (s.data.toList.take (i + 1)) = (isLet (s.data.toList[i]'hi) || (isDig (s.data.toList[i]'hi) && !decide (i = 0))) := by
      have h3 : (s.data.toList.take i).isEmpty = decide (i = 0) := by
        rw [Bool.eq_iff_iff, List.isEmpty_iff, decide_eq_true_eq, ← List.length_eq_zero_iff, List.length_take]; omega
      rw [List.take_succ_eq_append_getElem hi, nameAll_snoc, ha, h3, Bool.true_and]
    by_cases hl : isLet (s.data.toList[i]'hi) = true
    · have h2 : 97 ≤ (s.data.toList[i]'hi).toNat ∧ (s.data.toList[i]'hi).toNat ≤ 122 := by simpa [isLet] using hl
      refine Ev.step (fun k => ?_) (refName_loop s hs m (i + 1) (by omega) (by rw [hsn, hl]; rfl))
      rw [rundleref03_Name.l0, if_pos (by omega), if_pos (by omega), hb, if_pos (by omega), if_pos (by omega), hw]
    have hnl : ¬ (97 ≤ (s.data.toList[i]'hi).toNat ∧ (s.data.toList[i]'hi).toNat ≤ 122) := fun h => hl (by simpa [isLet] using h)
    by_cases hd : isDig (s.data.toList[i]'hi) = true ∧ i ≠ 0
    · have h2 : 48 ≤ (s.data.toList[i]'hi).toNat ∧ (s.data.toList[i]'hi).toNat ≤ 57 := by simpa [isDig] using hd.1
      refine Ev.step (fun k => ?_) (refName_loop s hs m (i + 1) (by omega) (by rw [hsn, hd.1, decide_eq_false hd.2]; simp))
      rw [rundleref03_Name.l0, if_pos (by omega), if_pos (by omega), hb, if_neg (by omega), if_pos (by omega), if_pos (by omega), if_pos (by omega), hw]
    · have hno : isName s.data.toList = false := by
        cases hq : isName s.data.toList with
        | false => rfl
        | true =>
          unfold isName at hq
          simp only [Bool.and_eq_true] at hq
          have := nameAll_at _ i hi hq.2
          simp only [Bool.or_eq_true, Bool.and_eq_true, Bool.not_eq_true', decide_eq_false_iff_not] at this
          rcases this with h | h
          · exact absurd h hl
          · exact absurd h hd
      rw [hno]
      refine Ev.step (f := fun _ => some _) (fun k => ?_) (Ev.now _)
      have hnd : ¬ ((48 ≤ (s.data.toList[i]'hi).toNat ∧ (s.data.toList[i]'hi).toNat ≤ 57) ∧ i ≠ 0) := fun h => hd ⟨by simpa [isDig] using h.1, h.2⟩
      rw [rundleref03_Name.l0, if_pos (by omega), if_pos (by omega), hb]
      repeat' split
      all_goals first | rfl | (exfalso; omega)

theorem refName (s : ByteArray) (hs : s.size ≤ 1000000) : Ev (fun k => rundleref03_Name.f k s) (isName s.data.toList) :=
  Ev.congr (f := fun k => rundleref03_Name.l0 k s 0) (fun k => rfl) (refName_loop s hs s.size 0 (by omega) rfl)

theorem in_f (s : ByteArray) (i lo hi : Nat) (lo' hi' : Int) (hlo : lo' = lo) (hhi : hi' = hi) : rundleref01_in.f s (i : Int) lo' hi' = some (inB s i lo hi) := by
  subst hlo; subst hhi
  unfold rundleref01_in.f inB
  by_cases h : i < s.size
  · have hb : bt s (i : Int) = (byteN s i : Int) := by
      unfold bt byteN
      rw [dif_pos (show ((i : Int).toNat < s.size) by simpa using h), dif_pos h]; rfl
    rw [if_pos (by omega), if_pos (by omega), hb, decide_eq_true h, Bool.true_and]
    by_cases h1 : lo ≤ byteN s i
    · rw [if_pos (by omega), decide_eq_true h1, Bool.true_and]
      congr 1
      exact decide_eq_decide.2 (by omega)
    · rw [if_neg (by omega), decide_eq_false h1, Bool.false_and]
  · rw [if_neg (by omega), decide_eq_false h]; rfl

theorem width_f (s : ByteArray) (p : Nat) (hp : p ≤ 100000000000000) (k : Nat) : rundleref01_Width.f (k + 4) s (p : Int) = some (widS s p) := by
  have w1 : wrap64 ((p : Int) + 1) = ((p + 1 : Nat) : Int) := by rw [w64 (by omega) (by omega)]; rfl
  have w2 : wrap64 ((p : Int) + 2) = ((p + 2 : Nat) : Int) := by rw [w64 (by omega) (by omega)]; rfl
  have w3 : wrap64 ((p : Int) + 3) = ((p + 3 : Nat) : Int) := by rw [w64 (by omega) (by omega)]; rfl
  have i0 := in_f s p 0 127 0 127 rfl rfl; have i1 := in_f s p 194 223 194 223 rfl rfl; have i2 := in_f s (p + 1) 128 191 128 191 rfl rfl
  have i3 := in_f s p 224 224 224 224 rfl rfl; have i4 := in_f s (p + 1) 160 191 160 191 rfl rfl; have i5 := in_f s p 225 236 225 236 rfl rfl
  have i6 := in_f s p 237 237 237 237 rfl rfl; have i7 := in_f s (p + 1) 128 159 128 159 rfl rfl; have i8 := in_f s p 238 239 238 239 rfl rfl
  have i9 := in_f s (p + 2) 128 191 128 191 rfl rfl; have i10 := in_f s p 240 240 240 240 rfl rfl; have i11 := in_f s (p + 1) 144 191 144 191 rfl rfl
  have i12 := in_f s p 241 243 241 243 rfl rfl; have i13 := in_f s p 244 244 244 244 rfl rfl; have i14 := in_f s (p + 1) 128 143 128 143 rfl rfl; have i15 := in_f s (p + 3) 128 191 128 191 rfl rfl
  simp only [rundleref01_Width.f, rundleref01_Width.j0, rundleref01_Width.j1, rundleref01_Width.j2, rundleref01_Width.j3, w1, w2, w3, i0, i1, i2, i3, i4, i5, i6, i7, i8, i9, i10, i11, i12, i13, i14, i15, Option.bind_some]
  unfold widS
  clear i0 i1 i2 i3 i4 i5 i6 i7 i8 i9 i10 i11 i12 i13 i14 i15 w1 w2 w3
  generalize inB s p 0 127 = b0; generalize inB s p 194 223 = b1; generalize inB s (p + 1) 128 191 = b2
  generalize inB s p 224 224 = b3; generalize inB s (p + 1) 160 191 = b4; generalize inB s p 225 236 = b5
  generalize inB s p 237 237 = b6; generalize inB s (p + 1) 128 159 = b7; generalize inB s p 238 239 = b8
  generalize inB s (p + 2) 128 191 = b9; generalize inB s p 240 240 = b10; generalize inB s (p + 1) 144 191 = b11
  generalize inB s p 241 243 = b12; generalize inB s p 244 244 = b13; generalize inB s (p + 1) 128 143 = b14; generalize inB s (p + 3) 128 191 = b15
  cases b0 <;> simp only [if_true, if_false, Bool.false_eq_true, Bool.false_and, Bool.true_and, Bool.and_false, Bool.and_true, Bool.or_false, Bool.or_true, Bool.false_or, Bool.true_or]
  revert b1 b2 b3 b4 b5 b6 b7 b8 b9 b10 b11 b12 b13 b14 b15
  decide +kernel
end Go.Proofs.YtlkbeddlmbghkaaGreatDoor.PR

namespace Go.Proofs.YtlkbeddlmbghkaaGreatDoor.PR
open Go Go.Proofs Go.RowKit Go.Proofs.YtlkbeddlmbghkaaGreatDoorW.PrintWords Go.Proofs.YtlkbeddlmbghkaaGreatDoorW.PrintLast Go.Proofs.YtlkbeddlmbghkaaGreatDoorW.PrintMore Go.Proofs.YtlkbeddlmbghkaaGreatDoor.Lx
set_option linter.unusedVariables false
set_option linter.unusedSimpArgs false
set_option maxRecDepth 100000

/-! ### between quotes -/
theorem digit_f (n : Nat) (h : n < 16) : rundleref01_digit.f (n : Int) = some (((hexD n).toNat : Nat) : Int) := by
  have k : ∀ n : Fin 16, rundleref01_digit.f (n.val : Int) = some (((hexD n.val).toNat : Nat) : Int) := by decide +kernel
  exact k ⟨n, h⟩
theorem tdiv16 (b : Nat) (h : b < 256) : Int.tdiv (b : Int) 16 % 256 = ((b / 16 : Nat) : Int) := by
  have k : ∀ b : Fin 256, Int.tdiv (b.val : Int) 16 % 256 = ((b.val / 16 : Nat) : Int) := by decide +kernel
  exact k ⟨b, h⟩
theorem nums_append (a b : List UInt8) : nums (a ++ b) = nums a ++ nums b := by simp [nums]
theorem bytesOf_extract (s : ByteArray) (i n : Nat) : bytesOf (s.extract i n) = nums ((s.data.toList.drop i).take (n - i)) := by
  unfold bytesOf nums
  rw [Lib.extract_data]
theorem extract_len (s : ByteArray) (i n : Nat) (h1 : i ≤ n) (h2 : n ≤ s.size) : (s.extract i n).size = n - i := by
  rw [Lib.size_eq, Lib.extract_data, List.length_take, List.length_drop]
  have := Lib.size_eq s
  omega

theorem quoteF_nil (s : ByteArray) (k p : Nat) (h : ¬ p < s.size) : quoteF s k p = [] := by
  cases k with
  | zero => rfl
  | succ k => rw [quoteF, if_neg h]

set_option maxHeartbeats 4000000 in
theorem refQuote_loop (s : ByteArray) (hs : s.size ≤ 1000000) : ∀ (n p : Nat) (acc : List UInt8), s.data.toList.length - p ≤ n → p ≤ s.data.toList.length → acc.length ≤ 10 * p + 1 →
    Ev (fun k => rundleref01_Quote.l0 k s (nums acc) (p : Int)) (⟨(acc ++ quoteF s n p ++ [34]).toArray⟩ : ByteArray) := by
  intro n
  induction n with
  | zero =>
    intro p acc hm hp ha
    have hsz : s.data.toList.length = s.size := (Lib.size_eq s).symm
    rw [quoteF, List.append_nil]
    refine Ev.step (f := fun _ => some _) (fun k => ?_) (Ev.now _)
    rw [rundleref01_Quote.l0, if_neg (by omega), nums_len, if_pos (by omega), show ([34] : List Int) = nums [34] from rfl, ← nums_append, str_nums]
  | succ n ih =>
    intro p acc hm hp ha
    have hsz : s.data.toList.length = s.size := (Lib.size_eq s).symm
    by_cases hlt : p < s.size
    case neg =>
      rw [quoteF_nil s _ p hlt, List.append_nil]
      refine Ev.step (f := fun _ => some _) (fun k => ?_) (Ev.now _)
      rw [rundleref01_Quote.l0, if_neg (by omega), nums_len, if_pos (by omega), show ([34] : List Int) = nums [34] from rfl, ← nums_append, str_nums]
    have hpl : p < s.data.toList.length := by omega
    have hw : Ev (fun k => rundleref01_Width.f k s (p : Int)) (widS s p) := Ev.of (rundleref01_Width.mono s p) (width_f s p (by omega) 0)
    have hb : bt s (p : Int) = (byteN s p : Int) := by rw [bt_nat s p hpl, byteN_at s p hpl]
    have hblt := byteN_lt s p
    have hwf := wid_facts s p hlt
    rw [quoteF, if_pos hlt]
    have hgo : Ev (fun k => rundleref01_Quote.j1 k s (nums acc) (p : Int) (widS s p) (escQ s p)) (⟨(acc ++ (pieceQ s p ++ quoteF s n (p + stepQ s p)) ++ [34]).toArray⟩ : ByteArray) := by
      by_cases he : escQ s p = true
      · have h1 : stepQ s p = 1 := by unfold stepQ; rw [if_pos he]
        have h2 : pieceQ s p = [92, 120, hexD (byteN s p / 16), hexD (byteN s p % 16)] := by unfold pieceQ; rw [if_pos he]
        rw [he, h1, h2, ← List.append_assoc acc]
        refine Ev.step (fun k => ?_) (ih (p + 1) (acc ++ [92, 120, hexD (byteN s p / 16), hexD (byteN s p % 16)]) (by omega) (by omega) (by simp only [List.length_append, List.length_cons, List.length_nil]; omega))
        rw [rundleref01_Quote.j1, if_pos rfl, if_pos (by omega), if_pos (by omega), hb, tdiv16 _ hblt, digit_f _ (by omega), Option.bind_some, show Int.tmod (byteN s p : Int) 16 = ((byteN s p % 16 : Nat) : Int) by rw [show (16 : Int) = ((16 : Nat) : Int) from rfl, Int.ofNat_tmod], digit_f _ (by omega), Option.bind_some, Option.bind_some, nums_len, if_pos (by simp only [List.length_cons, List.length_nil]; omega), w64_1 p (by omega), nums_append]
        rfl
      · have he' : escQ s p = false := by simpa using he
        have hz : widS s p ≠ 0 := by
          unfold escQ at he
          simp only [Bool.or_eq_true, decide_eq_true_eq, not_or] at he
          exact he.1.1
        obtain ⟨w, hwi⟩ : ∃ w : Nat, widS s p = (w : Int) := ⟨(widS s p).toNat, by omega⟩
        have hw1 : 1 ≤ w ∧ p + w ≤ s.size := by
          rcases hwf with h | ⟨h, _⟩ | ⟨h2, _, _, hl, _⟩
          · exact absurd h hz
          · omega
          · rw [hwi] at hl h2
            omega
        have h1 : stepQ s p = w := by unfold stepQ; rw [if_neg he, hwi]; rfl
        have h2 : pieceQ s p = (if byteN s p = 34 ∨ byteN s p = 92 then [92] else []) ++ (s.data.toList.drop p).take w := by unfold pieceQ; rw [if_neg he, hwi]; rfl
        have htl : ((s.data.toList.drop p).take w).length = w := by rw [List.length_take, List.length_drop]; omega
        have hwr := Aside0.mk (show wrap64 ((p : Int) + (w : Int)) = ((p + w : Nat) : Int) by unfold wrap64; omega)
        have hex := Aside0.mk (show bytesOf (s.extract (p : Int).toNat ((p + w : Nat) : Int).toNat) = nums ((s.data.toList.drop p).take w) by
          rw [Int.toNat_natCast, Int.toNat_natCast, bytesOf_extract, Nat.add_sub_cancel_left])
        have hel := Aside0.mk (show (s.extract (p : Int).toNat ((p + w : Nat) : Int).toNat).size = w by
          rw [Int.toNat_natCast, Int.toNat_natCast, extract_len s p (p + w) (by omega) hw1.2, Nat.add_sub_cancel_left])
        rw [he', h1, h2, hwi]
        by_cases hm1 : byteN s p = 34
        · rw [if_pos (.inl hm1), ← List.append_assoc acc]
          refine Ev.step (fun k => ?_) (ih (p + w) (acc ++ ([92] ++ (s.data.toList.drop p).take w)) (by omega) (by omega) (by simp only [List.length_append, List.length_cons, List.length_nil, htl]; omega))
          rw [rundleref01_Quote.j1, if_neg (by decide), if_pos (by omega), if_pos (by omega), hb, if_pos (by omega), nums_len, if_pos (by omega), Option.bind_some, hwr.out, if_pos (by omega), if_pos (by omega), hel.out, if_pos (by simp only [List.length_append, nums_len, List.length_cons, List.length_nil]; omega), hex.out, nums_append, nums_append, ← List.append_assoc]
          rfl
        · by_cases hm2 : byteN s p = 92
          · rw [if_pos (.inr hm2), ← List.append_assoc acc]
            refine Ev.step (fun k => ?_) (ih (p + w) (acc ++ ([92] ++ (s.data.toList.drop p).take w)) (by omega) (by omega) (by simp only [List.length_append, List.length_cons, List.length_nil, htl]; omega))
            rw [rundleref01_Quote.j1, if_neg (by decide), if_pos (by omega), if_pos (by omega), hb, if_neg (by omega), if_pos (by omega), nums_len, if_pos (by omega), Option.bind_some, hwr.out, if_pos (by omega), if_pos (by omega), hel.out, if_pos (by simp only [List.length_append, nums_len, List.length_cons, List.length_nil]; omega), hex.out, nums_append, nums_append, ← List.append_assoc]
            rfl
          · rw [if_neg (by omega), ← List.append_assoc acc]
            refine Ev.step (fun k => ?_) (ih (p + w) (acc ++ ([] ++ (s.data.toList.drop p).take w)) (by omega) (by omega) (by simp only [List.length_append, List.length_nil, htl]; omega))
            rw [rundleref01_Quote.j1, if_neg (by decide), if_pos (by omega), if_pos (by omega), hb, if_neg (by omega), if_neg (by omega), hwr.out, if_pos (by omega), if_pos (by omega), nums_len, hel.out, if_pos (by omega), hex.out, List.nil_append, nums_append]
    refine Ev.step (f := fun k => (rundleref01_Width.f k s (p : Int)).bind fun t => (if t = 0 then (rundleref01_Quote.j1 k s (nums acc) (p : Int) t true) else (if 0 ≤ (p : Int) then (if (bt s (p : Int)) < 32 then (rundleref01_Quote.j1 k s (nums acc) (p : Int) t true) else (rundleref01_Quote.j1 k s (nums acc) (p : Int) t ((bt s (p : Int)) == 127))) else none))) (fun k => by rw [rundleref01_Quote.l0, if_pos (by omega)]) (Ev.bind hw ?_)
    refine Ev.congr (fun k => ?_) hgo
    rw [hb]
    by_cases z1 : widS s p = 0
    · rw [if_pos z1, show escQ s p = true by unfold escQ; rw [decide_eq_true z1]; rfl]
    · rw [if_neg z1, if_pos (by omega)]
      by_cases z2 : byteN s p < 32
      · rw [if_pos (by omega), show escQ s p = true by unfold escQ; rw [decide_eq_true z2]; simp]
      · rw [if_neg (by omega)]
        congr 1
        unfold escQ
        rw [decide_eq_false z1, decide_eq_false z2, Bool.false_or, Bool.false_or]
        rw [Bool.eq_iff_iff, beq_iff_eq, decide_eq_true_eq]
        omega
theorem refQuote (s : ByteArray) (hs : s.size ≤ 1000000) : Ev (fun k => rundleref01_Quote.f k s) (⟨(quoteL s).toArray⟩ : ByteArray) := by
  have h := refQuote_loop s hs s.size 0 [34] (by rw [Lib.size_eq]; omega) (Nat.zero_le _) (by simp)
  exact Ev.congr (fun k => rfl) h

/-! ### digits -/
theorem dig_u8 (d : Nat) (h : d < 10) : (wrap64 (48 + (d : Int))) % 256 = (((UInt8.ofNat (48 + d)).toNat : Nat) : Int) := by
  have k : ∀ d : Fin 10, (wrap64 (48 + (d.val : Int))) % 256 = (((UInt8.ofNat (48 + d.val)).toNat : Nat) : Int) := by decide +kernel
  exact k ⟨d, h⟩

theorem nDigits_le : ∀ (k u : Nat), u < 10 ^ k → 1 ≤ k → Lib.nDigits u ≤ k
  | 0, u, h, h1 => absurd h1 (by omega)
  | k + 1, u, h, h1 => by
    by_cases hu : u < 10
    · rw [Lib.nDigits_small hu]; omega
    · rw [Lib.nDigits_big hu]
      have hk : 1 ≤ k := by
        rcases Nat.eq_zero_or_pos k with h0 | h0
        · subst h0; simp at h; omega
        · exact h0
      have := nDigits_le k (u / 10) (by rw [Nat.pow_succ] at h; omega) hk
      omega
theorem minus_append (l : List UInt8) : (⟨#[45]⟩ : ByteArray) ++ ⟨l.toArray⟩ = ⟨(45 :: l).toArray⟩ := by
  apply ByteArray.ext
  rw [ByteArray.data_append]
  simp
theorem tmod_pos (u : Nat) : Int.tmod (u : Int) 10 = ((u % 10 : Nat) : Int) := by rw [show (10 : Int) = ((10 : Nat) : Int) from rfl, Int.ofNat_tmod]
theorem tdiv_pos (u : Nat) : Int.tdiv (u : Int) 10 = ((u / 10 : Nat) : Int) := by rw [show (10 : Int) = ((10 : Nat) : Int) from rfl, Int.ofNat_tdiv]

/-- One digit. -/
theorem refDigits_one (n : Int) (u : Nat) (out : List UInt8) (m : Int) (k : Nat) (hu : u ≤ 9223372036854775808) (hm : m = (u : Int) ∨ m = -(u : Int)) (ho : out.length ≤ 100) :
    rundleref03_Digits.l0 (k + 1) n (nums out) m = if (wrap64 (Int.tdiv m 10)) = 0 then (if n < 0 then some ⟨(45 :: UInt8.ofNat (48 + u % 10) :: out).toArray⟩ else some ⟨(UInt8.ofNat (48 + u % 10) :: out).toArray⟩) else rundleref03_Digits.l0 k n (nums (UInt8.ofNat (48 + u % 10) :: out)) (wrap64 (Int.tdiv m 10)) := by
  have hr : u % 10 < 10 := by omega
  have hd := Aside0.mk (dig_u8 (u % 10) hr)
  have hfin : ∀ y : List Int, y = nums (UInt8.ofNat (48 + u % 10) :: out) →
      (if (wrap64 (Int.tdiv m 10)) = 0 then (if n < 0 then (if 1 + (strOfNums y).size ≤ 9223372036854775807 then (some ((⟨#[45]⟩ : ByteArray) ++ (strOfNums y))) else (none)) else (some (strOfNums y))) else (rundleref03_Digits.l0 k n y (wrap64 (Int.tdiv m 10)))) = if (wrap64 (Int.tdiv m 10)) = 0 then (if n < 0 then some (⟨(45 :: UInt8.ofNat (48 + u % 10) :: out).toArray⟩ : ByteArray) else some ⟨(UInt8.ofNat (48 + u % 10) :: out).toArray⟩) else rundleref03_Digits.l0 k n (nums (UInt8.ofNat (48 + u % 10) :: out)) (wrap64 (Int.tdiv m 10)) := by
    intro y hy
    subst hy
    have hsz : (⟨(UInt8.ofNat (48 + u % 10) :: out).toArray⟩ : ByteArray).size = out.length + 1 := by rw [Lib.size_eq]; simp
    rw [str_nums, minus_append, if_pos (show 1 + (⟨(UInt8.ofNat (48 + u % 10) :: out).toArray⟩ : ByteArray).size ≤ 9223372036854775807 by rw [hsz]; omega)]
  rw [rundleref03_Digits.l0]
  have hpos : (0 : Int) ≤ Int.tmod m 10 → Int.tmod m 10 = ((u % 10 : Nat) : Int) → (if (Int.tmod m 10) < 0 then ((some (([(wrap64 (48 + (wrap64 (-(Int.tmod m 10))))) % 256] : List Int) : List Int)).bind fun y145 => (if y145.length + (nums out).length < 140737488355328 then ((some (y145 ++ nums out : List Int)).bind fun y148 => (if (wrap64 (Int.tdiv m 10)) = 0 then (if n < 0 then (if 1 + (strOfNums y148).size ≤ 9223372036854775807 then (some ((⟨#[45]⟩ : ByteArray) ++ (strOfNums y148))) else (none)) else (some (strOfNums y148))) else (rundleref03_Digits.l0 k n y148 (wrap64 (Int.tdiv m 10))))) else (none))) else ((some (([(wrap64 (48 + (Int.tmod m 10))) % 256] : List Int) : List Int)).bind fun y151 => (if y151.length + (nums out).length < 140737488355328 then ((some (y151 ++ nums out : List Int)).bind fun y154 => (if (wrap64 (Int.tdiv m 10)) = 0 then (if n < 0 then (if 1 + (strOfNums y154).size ≤ 9223372036854775807 then (some ((⟨#[45]⟩ : ByteArray) ++ (strOfNums y154))) else (none)) else (some (strOfNums y154))) else (rundleref03_Digits.l0 k n y154 (wrap64 (Int.tdiv m 10))))) else (none)))) = if (wrap64 (Int.tdiv m 10)) = 0 then (if n < 0 then some (⟨(45 :: UInt8.ofNat (48 + u % 10) :: out).toArray⟩ : ByteArray) else some ⟨(UInt8.ofNat (48 + u % 10) :: out).toArray⟩) else rundleref03_Digits.l0 k n (nums (UInt8.ofNat (48 + u % 10) :: out)) (wrap64 (Int.tdiv m 10)) := by
    intro h0 h1
    rw [if_neg (by omega), Option.bind_some, nums_len, if_pos (by simp only [List.length_cons, List.length_nil]; omega), Option.bind_some, h1, hd.out]
    exact hfin _ rfl
  rcases hm with hm | hm
  · have t := tmod_pos u
    rw [← hm] at t
    exact hpos (by omega) t
  · have t : Int.tmod m 10 = -((u % 10 : Nat) : Int) := by rw [hm, Int.neg_tmod, tmod_pos]
    by_cases h0 : u % 10 = 0
    · exact hpos (by omega) (by omega)
    · rw [if_pos (by omega), Option.bind_some, nums_len, if_pos (by simp only [List.length_cons, List.length_nil]; omega), Option.bind_some, t, Int.neg_neg, show wrap64 ((u % 10 : Nat) : Int) = ((u % 10 : Nat) : Int) by unfold wrap64; omega, hd.out]
      exact hfin _ rfl

theorem refDigits_loop (n : Int) : ∀ (u : Nat) (out : List UInt8) (m : Int), u ≤ 9223372036854775808 → (m = (u : Int) ∨ m = -(u : Int)) → out.length + Lib.nDigits u ≤ 50 →
    Ev (fun k => rundleref03_Digits.l0 k n (nums out) m) (⟨((if n < 0 then [45] else []) ++ (Lib.decDigits u ++ out)).toArray⟩ : ByteArray) := by
  intro u
  induction u using Nat.strongRecOn with
  | ind u ih =>
  intro out m hu hm ho
  have hnp := Lib.nDigits_pos u
  have htd : (m = (u : Int) → Int.tdiv m 10 = ((u / 10 : Nat) : Int)) ∧ (m = -(u : Int) → Int.tdiv m 10 = -((u / 10 : Nat) : Int)) := by
    refine ⟨fun h => by rw [h, tdiv_pos], fun h => by rw [h, Int.neg_tdiv, tdiv_pos]⟩
  have hwr : Aside0 (wrap64 (Int.tdiv m 10) = Int.tdiv m 10) := ⟨by
    rcases hm with h | h
    · rw [htd.1 h]; unfold wrap64; omega
    · rw [htd.2 h]; unfold wrap64; omega⟩
  refine Ev.step (fun k => refDigits_one n u out m k hu hm (by omega)) ?_
  rw [Lib.decDigits]
  by_cases h10 : u < 10
  · rw [dif_pos h10]
    refine Ev.congr (f := fun _ => some _) (fun k => ?_) (Ev.now _)
    have hz : Int.tdiv m 10 = 0 := by
      rcases hm with h | h
      · rw [htd.1 h]; omega
      · rw [htd.2 h]; omega
    rw [hwr.out, if_pos hz, show u % 10 = u by omega]
    by_cases hn : n < 0
    · rw [if_pos hn, if_pos hn]; rfl
    · rw [if_neg hn, if_neg hn]; rfl
  · rw [dif_neg h10]
    have hnd := Lib.nDigits_big h10
    have hnz : ¬ Int.tdiv m 10 = 0 := by
      rcases hm with h | h
      · rw [htd.1 h]; omega
      · rw [htd.2 h]; omega
    have hm2 : Int.tdiv m 10 = ((u / 10 : Nat) : Int) ∨ Int.tdiv m 10 = -((u / 10 : Nat) : Int) := by
      rcases hm with h | h
      · exact .inl (htd.1 h)
      · exact .inr (htd.2 h)
    rw [List.append_assoc]
    refine Ev.congr (fun k => ?_) (ih (u / 10) (by omega) (UInt8.ofNat (48 + u % 10) :: out) (Int.tdiv m 10) (by omega) hm2 (by simp only [List.length_cons]; omega))
    rw [hwr.out, if_neg hnz]
theorem refDigits (n : Int) (h0 : -9223372036854775808 ≤ n) (h1 : n ≤ 9223372036854775807) : Ev (fun k => rundleref03_Digits.f k n) (⟨(Lib.itoa n).toArray⟩ : ByteArray) := by
  have hd : ∀ u : Nat, u ≤ 9223372036854775808 → Lib.nDigits u ≤ 20 := fun u hu => nDigits_le 20 u (by omega) (by omega)
  by_cases hn : n < 0
  · have h := refDigits_loop n n.natAbs [] n (by omega) (.inr (by omega)) (by have := hd n.natAbs (by omega); simp only [List.length_nil]; omega)
    rw [if_pos hn, List.append_nil] at h
    unfold Lib.itoa
    rw [if_pos hn]
    exact h
  · have h := refDigits_loop n n.toNat [] n (by omega) (.inl (by omega)) (by have := hd n.toNat (by omega); simp only [List.length_nil]; omega)
    rw [if_neg hn, List.append_nil] at h
    unfold Lib.itoa
    rw [if_neg hn]
    exact h
end Go.Proofs.YtlkbeddlmbghkaaGreatDoor.PR

namespace Go.Proofs.YtlkbeddlmbghkaaGreatDoor.PR
open Go Go.Proofs Go.RowKit Go.Proofs.YtlkbeddlmbghkaaGreatDoorW.PrintWords Go.Proofs.YtlkbeddlmbghkaaGreatDoorW.PrintLast Go.Proofs.YtlkbeddlmbghkaaGreatDoorW.PrintMore Go.Proofs.YtlkbeddlmbghkaaGreatDoor.Lx
set_option linter.unusedVariables false
set_option linter.unusedSimpArgs false
set_option maxRecDepth 100000

abbrev SB := S28
/-- A word, as the document has it. -/
def toB : Wd → SB
  | .num n => ⟨1, n, ⟨#[]⟩⟩
  | .name s => ⟨2, 0, s⟩
  | .text s => ⟨3, 0, s⟩
  | .nil => ⟨0, 0, ⟨#[]⟩⟩
/-- A short word. -/
def Small : Wd → Prop
  | .text t => t.size ≤ 1000
  | .name s => s.size ≤ 1000
  | .num n => -9223372036854775808 ≤ n ∧ n ≤ 9223372036854775807
  | .nil => True
theorem piece_len (s : ByteArray) (p : Nat) (hp : p < s.data.toList.length) : (pieceQ s p).length ≤ 4 * stepQ s p ∧ 1 ≤ stepQ s p := by
  rcases piece_cases s p hp with ⟨h1, h2⟩ | ⟨h1, h2, h3⟩ | ⟨w, h0, h1, -, hl, h2, h3⟩
  · rw [h1, h2]; simp
  · rw [h1, h3]; simp
  · rw [h1, h2]
    refine ⟨?_, by omega⟩
    rw [List.length_take, List.length_drop]
    omega
theorem quoteF_length (s : ByteArray) : ∀ (k p : Nat), p ≤ s.data.toList.length → (quoteF s k p).length ≤ 4 * (s.data.toList.length + 4 - p)
  | 0, p, h => by rw [quoteF]; simp
  | k + 1, p, h => by
    have hsz := Lib.size_eq s
    rw [quoteF]
    by_cases hp : p < s.data.toList.length
    · rw [if_pos (by omega), List.length_append]
      have hl := piece_len s p hp
      rcases Nat.lt_or_ge s.data.toList.length (p + stepQ s p) with h2 | h2
      · exfalso
        rcases piece_cases s p hp with ⟨h1, _⟩ | ⟨h1, _⟩ | ⟨w, h0, h1, -, hw, _⟩ <;> omega
      · have := quoteF_length s k (p + stepQ s p) h2
        omega
    · rw [if_neg (by omega)]; simp
theorem shown_len (b : Wd) (t : List UInt8) (hs : Small b) (h : shownW b = some t) : t.length ≤ 5000 := by
  cases b with
  | nil => cases h
  | text s =>
    obtain rfl := Option.some.inj h
    have h1 := quoteF_length s s.size 0 (Nat.zero_le _)
    have h2 : s.size ≤ 1000 := hs
    have hsz := Lib.size_eq s
    simp only [quoteL, List.length_cons, List.length_append, List.length_nil]
    omega
  | num n =>
    change (if isNum (Lib.itoa n) = true then some (Lib.itoa n) else none) = some t at h
    split at h
    · obtain rfl := Option.some.inj h
      have hb : -9223372036854775808 ≤ n ∧ n ≤ 9223372036854775807 := hs
      have hd : ∀ u : Nat, u ≤ 9223372036854775808 → (Lib.decDigits u).length ≤ 20 := fun u hu => by rw [Lib.decDigits_length]; exact nDigits_le 20 u (by omega) (by omega)
      unfold Lib.itoa
      split
      · have := hd n.natAbs (by omega); simp only [List.length_cons]; omega
      · have := hd n.toNat (by omega); omega
    · cases h
  | name s =>
    change (if isName s.data.toList = true then some s.data.toList else none) = some t at h
    split at h
    · obtain rfl := Option.some.inj h
      have h2 : s.size ≤ 1000 := hs
      have hsz := Lib.size_eq s
      omega
    · cases h
theorem join_snoc : ∀ (a : List (List UInt8)) (t : List UInt8), Lib.join (a ++ [t]) [32] = if a = [] then t else Lib.join a [32] ++ 32 :: t
  | [], t => by simp [Lib.join, List.intercalate]
  | x :: a, t => by
    rw [List.cons_append, join_cons, if_neg (by simp), if_neg (by simp), join_snoc a t, join_cons]
    cases a with
    | nil => simp
    | cons y a => rw [if_neg (by simp), if_neg (by simp)]; simp
theorem two_append (a b : List UInt8) : (⟨a.toArray⟩ : ByteArray) ++ ⟨b.toArray⟩ = ⟨(a ++ b).toArray⟩ := by
  apply ByteArray.ext
  rw [ByteArray.data_append]
  simp
theorem size_of (a : List UInt8) : (⟨a.toArray⟩ : ByteArray).size = a.length := by rw [Lib.size_eq]

theorem rdB (ws : List Wd) (i : Nat) (b : Wd) (h : ws[i]? = some b) : rd_T28 (ws.map toB) (i : Int) = toB b := by
  unfold rd_T28
  rw [Int.toNat_natCast, List.getD_eq_getElem?_getD, List.getElem?_map, h]
  rfl

/-- Behind one word. -/
theorem refShow_j3 (ws : List Wd) (tp : List (List UInt8)) (i : Nat) (t : List UInt8) (hi : i ≤ 1000) (hl : (Lib.join tp [32]).length ≤ 6000 * i) (ht : t.length ≤ 5000) (htp : tp.length = i) {r : ByteArray × Int}
    (h : Ev (fun k => rundleref03_Show.l0 k (ws.map toB) ⟨(Lib.join (tp ++ [t]) [32]).toArray⟩ ((i + 1 : Nat) : Int)) r) :
    Ev (fun k => rundleref03_Show.j3 k (ws.map toB) ⟨(Lib.join tp [32]).toArray⟩ (i : Int) ⟨t.toArray⟩ true) r := by
  refine Ev.step (fun k => ?_) h
  rw [rundleref03_Show.j3, if_pos rfl, join_snoc]
  by_cases h0 : i = 0
  · subst h0
    have : tp = [] := List.length_eq_zero_iff.1 htp
    subst this
    rw [if_neg (by omega), size_of, size_of, if_pos (by simp [Lib.join]; omega), two_append, w64_1 0 (by omega), if_pos rfl]
    rfl
  · rw [if_pos (by omega), size_of, if_pos (by omega), show (⟨#[32]⟩ : ByteArray) = ⟨[32].toArray⟩ from rfl, two_append, size_of, size_of, if_pos (by simp only [List.length_append, List.length_cons, List.length_nil]; omega), two_append, w64_1 i (by omega), if_neg (by intro e; rw [e] at htp; simp at htp; omega)]
    simp
theorem refShow_no (ws : List Wd) (x : ByteArray) (i : Nat) (t : ByteArray) : Ev (fun k => rundleref03_Show.j3 k (ws.map toB) x (i : Int) t false) ((⟨#[]⟩ : ByteArray), (10 : Int)) :=
  Ev.step (f := fun _ => some _) (fun k => by rw [rundleref03_Show.j3, if_neg (by decide)]) (Ev.now _)

set_option maxHeartbeats 4000000 in
theorem refShow_loop (ws : List Wd) (hn : ws.length ≤ 1000) (hs : ∀ b ∈ ws, Small b) : ∀ (r : List Wd) (i : Nat) (tp : List (List UInt8)), ws.drop i = r → i + r.length = ws.length → tp.length = i → (Lib.join tp [32]).length ≤ 6000 * i →
    Ev (fun k => rundleref03_Show.l0 k (ws.map toB) ⟨(Lib.join tp [32]).toArray⟩ (i : Int)) (match showW r with
      | some tr => ((⟨(Lib.join (tp ++ tr) [32]).toArray⟩ : ByteArray), (0 : Int))
      | none => ((⟨#[]⟩ : ByteArray), (10 : Int)))
  | [], i, tp, hd, hi, ht, hl => by
    simp only [List.length_nil, Nat.add_zero] at hi
    refine Ev.step (f := fun _ => some _) (fun k => ?_) (Ev.now _)
    rw [rundleref03_Show.l0, if_neg (by rw [List.length_map]; omega)]
    simp [showW]
  | b :: r, i, tp, hd, hi, ht, hl => by
    simp only [List.length_cons] at hi
    have hb : ws[i]? = some b := by have := congrArg (fun z : List Wd => z[0]?) hd; simpa using this
    have hmem : b ∈ ws := List.mem_of_getElem? hb
    have hsm := hs b hmem
    have hd2 : ws.drop (i + 1) = r := by rw [← List.drop_drop, hd]; rfl
    have hrd := rdB ws i b hb
    have hlen : (ws.map toB).length = ws.length := List.length_map _
    have i0 : (0 : Int) ≤ (i : Int) := by omega
    have i1 : (i : Int) < ((ws.map toB).length : Int) := by rw [hlen]; omega
    -- what a word's text comes to
    have hyes : ∀ t, shownW b = some t → Ev (fun k => rundleref03_Show.j3 k (ws.map toB) ⟨(Lib.join tp [32]).toArray⟩ (i : Int) ⟨t.toArray⟩ true) (match showW (b :: r) with
      | some tr => ((⟨(Lib.join (tp ++ tr) [32]).toArray⟩ : ByteArray), (0 : Int))
      | none => ((⟨#[]⟩ : ByteArray), (10 : Int))) := by
      intro t hst
      have htl := shown_len b t hsm hst
      have ihl : (Lib.join (tp ++ [t]) [32]).length ≤ 6000 * (i + 1) := by
        rw [join_snoc]
        split
        · omega
        · simp only [List.length_append, List.length_cons]; omega
      have ih := refShow_loop ws hn hs r (i + 1) (tp ++ [t]) hd2 (by omega) (by simp [ht]) ihl
      refine refShow_j3 ws tp i t (by omega) hl htl ht ?_
      rw [showW, hst]
      cases hr : showW r with
      | none => rw [hr] at ih; exact ih
      | some tr =>
        rw [hr] at ih
        have e : tp ++ [t] ++ tr = tp ++ t :: tr := by simp
        simp only [Option.map_some]
        first | exact ih | (rw [e] at ih; exact ih) | (simp only [e] at ih; exact ih)
    have hnone : shownW b = none → (match showW (b :: r) with
      | some tr => ((⟨(Lib.join (tp ++ tr) [32]).toArray⟩ : ByteArray), (0 : Int))
      | none => ((⟨#[]⟩ : ByteArray), (10 : Int))) = ((⟨#[]⟩ : ByteArray), (10 : Int)) := by
      intro h
      rw [showW, h]
    generalize (match showW (b :: r) with
      | some tr => ((⟨(Lib.join (tp ++ tr) [32]).toArray⟩ : ByteArray), (0 : Int))
      | none => ((⟨#[]⟩ : ByteArray), (10 : Int))) = R at *
    cases b with
    | nil =>
      rw [hnone rfl]
      refine Ev.step (f := fun k => rundleref03_Show.j1 k (ws.map toB) ⟨(Lib.join tp [32]).toArray⟩ (i : Int) ⟨#[]⟩ false) (fun k => by rw [rundleref03_Show.l0, if_pos i1, if_pos i0, hrd]; rfl) ?_
      refine Ev.step (f := fun k => rundleref03_Show.j2 k (ws.map toB) ⟨(Lib.join tp [32]).toArray⟩ (i : Int) ⟨#[]⟩ false) (fun k => by rw [rundleref03_Show.j1, if_pos i0, if_pos i1, hrd]; rfl) ?_
      refine Ev.step (f := fun k => rundleref03_Show.j3 k (ws.map toB) ⟨(Lib.join tp [32]).toArray⟩ (i : Int) ⟨#[]⟩ false) (fun k => by rw [rundleref03_Show.j2, if_pos i0, if_pos i1, hrd]; rfl) ?_
      exact refShow_no _ _ _ _
    | name s =>
      have hsz : s.size ≤ 1000 := hsm
      refine Ev.step (f := fun k => (rundleref03_Name.f k s).bind fun t => rundleref03_Show.j1 k (ws.map toB) ⟨(Lib.join tp [32]).toArray⟩ (i : Int) s t) (fun k => by rw [rundleref03_Show.l0, if_pos i1, if_pos i0, hrd]; rfl) (Ev.bind (refName s (by omega)) ?_)
      refine Ev.step (f := fun k => rundleref03_Show.j2 k (ws.map toB) ⟨(Lib.join tp [32]).toArray⟩ (i : Int) s (isName s.data.toList)) (fun k => by rw [rundleref03_Show.j1, if_pos i0, if_pos i1, hrd]; rfl) ?_
      refine Ev.step (f := fun k => rundleref03_Show.j3 k (ws.map toB) ⟨(Lib.join tp [32]).toArray⟩ (i : Int) s (isName s.data.toList)) (fun k => by rw [rundleref03_Show.j2, if_pos i0, if_pos i1, hrd]; rfl) ?_
      cases hnm : isName s.data.toList with
      | true =>
        have := hyes s.data.toList (by simp [shownW, hnm])
        rw [ba_eta] at this
        exact this
      | false =>
        rw [hnone (by simp [shownW, hnm])]
        exact refShow_no _ _ _ _
    | num n =>
      have hrange : -9223372036854775808 ≤ n ∧ n ≤ 9223372036854775807 := hsm
      have hdl : (Lib.itoa n).length ≤ 21 := by
        have hd : ∀ u : Nat, u ≤ 9223372036854775808 → (Lib.decDigits u).length ≤ 20 := fun u hu => by rw [Lib.decDigits_length]; exact nDigits_le 20 u (by omega) (by omega)
        unfold Lib.itoa
        split
        · have := hd n.natAbs (by omega); simp only [List.length_cons]; omega
        · have := hd n.toNat (by omega); omega
      have hnum := refNum (⟨(Lib.itoa n).toArray⟩ : ByteArray) (by rw [size_of]; omega)
      refine Ev.step (f := fun k => rundleref03_Show.j1 k (ws.map toB) ⟨(Lib.join tp [32]).toArray⟩ (i : Int) ⟨#[]⟩ false) (fun k => by rw [rundleref03_Show.l0, if_pos i1, if_pos i0, hrd]; rfl) ?_
      refine Ev.step (f := fun k => (rundleref03_Digits.f k n).bind fun t => (rundleref03_Number.f k t).bind fun bt => rundleref03_Show.j2 k (ws.map toB) ⟨(Lib.join tp [32]).toArray⟩ (i : Int) t bt.2) (fun k => by rw [rundleref03_Show.j1, if_pos i0, if_pos i1, hrd]; rfl) (Ev.bind (refDigits n hrange.1 hrange.2) (Ev.bind hnum ?_))
      refine Ev.step (f := fun k => rundleref03_Show.j3 k (ws.map toB) ⟨(Lib.join tp [32]).toArray⟩ (i : Int) ⟨(Lib.itoa n).toArray⟩ (isNum (Lib.itoa n))) (fun k => by rw [rundleref03_Show.j2, if_pos i0, if_pos i1, hrd]; rfl) ?_
      cases hnm : isNum (Lib.itoa n) with
      | true => exact hyes _ (by simp [shownW, hnm])
      | false =>
        rw [hnone (by simp [shownW, hnm])]
        exact refShow_no _ _ _ _
    | text s =>
      have hsz : s.size ≤ 1000 := hsm
      refine Ev.step (f := fun k => rundleref03_Show.j1 k (ws.map toB) ⟨(Lib.join tp [32]).toArray⟩ (i : Int) s false) (fun k => by rw [rundleref03_Show.l0, if_pos i1, if_pos i0, hrd]; rfl) ?_
      refine Ev.step (f := fun k => rundleref03_Show.j2 k (ws.map toB) ⟨(Lib.join tp [32]).toArray⟩ (i : Int) s false) (fun k => by rw [rundleref03_Show.j1, if_pos i0, if_pos i1, hrd]; rfl) ?_
      refine Ev.step (f := fun k => (rundleref01_Quote.f k s).bind fun t => rundleref03_Show.j3 k (ws.map toB) ⟨(Lib.join tp [32]).toArray⟩ (i : Int) t true) (fun k => by rw [rundleref03_Show.j2, if_pos i0, if_pos i1, hrd]; rfl) (Ev.bind (refQuote s (by omega)) ?_)
      exact hyes _ rfl
/-- The document's line of words. -/
theorem refShow (ws : List Wd) (hn : ws.length ≤ 1000) (hs : ∀ b ∈ ws, Small b) : Ev (fun k => rundleref03_Show.f k (ws.map toB)) (match showW ws with
      | some tr => ((⟨(Lib.join tr [32]).toArray⟩ : ByteArray), (0 : Int))
      | none => ((⟨#[]⟩ : ByteArray), (10 : Int))) := by
  have h := refShow_loop ws hn hs ws 0 [] (by simp) (by simp) rfl (by simp [Lib.join])
  exact Ev.congr (fun k => rfl) h
end Go.Proofs.YtlkbeddlmbghkaaGreatDoor.PR

namespace Go.Proofs.YtlkbeddlmbghkaaGreatDoor.PR
open Go Go.Proofs Go.RowKit Go.ChangeShapes Go.WideShapes Go.Deep Go.Joins Go.Proofs.YtlkbeddlmbghkaaGreatDoorW.PrintWords Go.Proofs.YtlkbeddlmbghkaaGreatDoorW.PrintLast Go.Proofs.YtlkbeddlmbghkaaGreatDoorW.PrintMore
set_option linter.unusedVariables false
set_option linter.unusedSimpArgs false

section
variable {H : Type} {enc : TypeId × Value → H} {P : Program} {W : World} {base : Nat} {spare : Nat → Bool} {held : Bool}

/-- A row of elements that one by one are read. -/
theorem open_recsP {α : Type} [Inhabited α] (d : Kd α) (Pr : α → Prop) {t e : TypeId} {a : Option Addr} {len cap : Nat} {dt : DataW H} {ps : List MemPlace}
    (hu : P.underlying t = some (.slice e)) (hC : P.cellsOf e = d.sz)
    (hel : ∀ (n : Nat) (cs : List Value) y, DataW.trod enc P W base spare held n e cs = some y → ∃ x, d.K W x cs ∧ Pr x)
    (h : DataW.Trod enc P W base spare held t (.slice a len cap) dt ps) :
    ∃ xs : List α, xs.length = len ∧ len ≤ cap ∧ cap ≤ maxLen ∧ d.C W a len xs ∧ (∀ x ∈ xs, Pr x) ∧
      (dt = .nil ∧ len = 0 ∨ ∃ el sp, dt = .slice el sp ∧ el.length = len) := by
  obtain ⟨fuel, hf⟩ := h
  rcases open_slice hu hf with ⟨hcs, hx⟩ | ⟨x, l, c, m, n, D, Pl, hcs, hb, hl, hm, hmm, hx, hi⟩
  · simp [Value.cells] at hcs
    obtain ⟨rfl, rfl, rfl⟩ := hcs
    exact ⟨[], rfl, Nat.le_refl _, by decide, ⟨rfl, by omega, fun h => absurd h (by omega)⟩, (fun x hx => by cases hx), .inl ⟨(Prod.mk.inj hx).1, rfl⟩⟩
  · simp [Value.cells] at hcs
    obtain ⟨rfl, rfl, rfl⟩ := hcs
    obtain ⟨hx, _⟩ := Prod.mk.inj hx
    have hlm : len ≤ m := by rw [hmm]; split <;> omega
    have hall : ∀ i, i < len → ∃ y : α, ∃ cs, cs.length = d.sz ∧ (d.K W y cs ∧ Pr y) ∧ ∀ j u, cs[j]? = some u → W.cell? (x.add (i * d.sz + j)) = some u := by
      intro i hil
      obtain ⟨cs', hc, ht'⟩ := hi i (by omega)
      rw [hC] at hc
      obtain ⟨_, hcl, hat⟩ := World.cells?_some hc
      obtain ⟨y, hy⟩ := hel n cs' _ ht'
      refine ⟨y, cs', hcl, hy, fun j u hj => ?_⟩
      have hjl : j < d.sz := by rw [← hcl]; exact (List.getElem?_eq_some_iff.1 hj).1
      rw [← Go.Deep.add_add, hat j hjl, hj]
    obtain ⟨f, hf⟩ := choose_lt hall
    refine ⟨(List.range len).map f, by simp, hl, hm, ⟨by simp, by have : maxLen = 9223372036854775807 := rfl; omega, fun _ => ⟨x, rfl, fun j p hj => ?_⟩⟩, fun y hy => ?_, .inr ⟨_, _, hx, by simp⟩⟩
    · have hjl : j < len := by have := (List.getElem?_eq_some_iff.1 hj).1; simpa using this
      have : p = f j := by simp [hjl] at hj; exact hj.symm
      subst this
      obtain ⟨cs, h1, h2, h3⟩ := hf j hjl
      exact ⟨cs, h1, h2.1, h3⟩
    · obtain ⟨j, hj, rfl⟩ := List.mem_map.1 hy
      obtain ⟨cs, h1, h2, h3⟩ := hf j (List.mem_range.1 hj)
      exact h2.2

theorem recs_len {ts : List TypeId} {ds : List (DataW H)} {j : Nat} {t e : TypeId} {dt : DataW H} {len B : Nat}
    (hsz : (DataW.weightsEach P ts ds).all (· ≤ reachBytes) = true) (ht : ts[j]? = some t) (hd : ds[j]? = some dt) (hu : P.underlying t = some (.slice e)) (hB : P.bytesOf e = B)
    (h : dt = .nil ∧ len = 0 ∨ ∃ el sp, dt = .slice el sp ∧ el.length = len) : len * B ≤ 140737488351232 := by
  rcases h with ⟨_, rfl⟩ | ⟨el, sp, rfl, rfl⟩
  · omega
  · have z := sized_slice hsz ht hd hu
    rw [hB] at z
    exact Nat.le_trans (Nat.mul_le_mul_right _ (Nat.le_add_right _ _)) z

/-- A struct of fields of one cell each, field by field. -/
theorem open_rec {t : TypeId} {fs : Array Field} {n : Nat} {cs : List Value} {y : DataW H × List MemPlace} (hs : P.underlying t = some (.struct fs)) (hone : oneCellFields P fs = true) (hC : P.cellsOf t = fs.size)
    (h : DataW.trod enc P W base spare held n t cs = some y) : cs.length = fs.size ∧
      ∀ (j : Nat) (f : Field), fs[j]? = some f → ∃ (v : Value) (m : Nat) (z : DataW H × List MemPlace), cs[j]? = some v ∧ DataW.trod enc P W base spare held m f.type [v] = some z := by
  obtain ⟨ys, n', hn', hy, hlen, hyl, hf⟩ := DataW.trod_struct hs h
  rw [hC] at hlen
  refine ⟨hlen, fun j f hj => ?_⟩
  obtain ⟨ho, hk⟩ := hone_of hone j f hj
  have hjl : j < fs.size := (Array.getElem?_eq_some_iff.1 hj).1
  have hv : cs[j]? = some (cs[j]'(by omega)) := List.getElem?_eq_getElem (by omega)
  have h1 := hf j f hj
  rw [ho, hk] at h1
  have hone' : (cs.drop j).take 1 = [cs[j]'(by omega)] := by
    rw [List.drop_eq_getElem_cons (by omega)]
    rfl
  rw [hone'] at h1
  have hys : ys[j]? = some (ys[j]'(by omega)) := List.getElem?_eq_getElem (by omega)
  exact ⟨_, n', _, hv, h1.trans hys⟩
end


def InR (x : S28) : Prop := -9223372036854775808 ≤ x.f1 ∧ x.f1 ≤ 9223372036854775807
instance : Inhabited S28 := ⟨⟨0, 0, ⟨#[]⟩⟩⟩
theorem open_box {H : Type} {enc : TypeId × Value → H} {P : Program} {W : World} {base : Nat} {spare : Nat → Bool} {held : Bool} {t : TypeId} {f0 f1 f2 : Field}
    (hs : P.underlying t = some (.struct #[f0, f1, f2])) (hone : oneCellFields P #[f0, f1, f2] = true) (hC : P.cellsOf t = 3)
    (h0 : P.underlying f0.type = some (.int .i64)) (h1 : P.underlying f1.type = some (.int .i64)) (h2 : P.underlying f2.type = some .string)
    (n : Nat) (cs : List Value) (y : DataW H × List MemPlace) (h : DataW.trod enc P W base spare held n t cs = some y) :
    ∃ (a b : Int) (c : ByteArray), cs = [.int .i64 a, .int .i64 b, .string c] ∧ (Lit.int .i64 b).wf = true := by
  obtain ⟨hl, hf⟩ := open_rec hs hone hC h
  match cs, hl with
  | [c0, c1, c2], _ =>
    obtain ⟨v0, m0, z0, e0, t0⟩ := hf 0 f0 rfl
    obtain ⟨v1, m1, z1, e1, t1⟩ := hf 1 f1 rfl
    obtain ⟨v2, m2, z2, e2, t2⟩ := hf 2 f2 rfl
    obtain ⟨s0, q0, _, _⟩ := DataW.trod_int h0 t0
    obtain ⟨s1, q1, _, hw⟩ := DataW.trod_int h1 t1
    obtain ⟨s2, q2, _⟩ := DataW.trod_string h2 t2
    simp at e0 e1 e2 q0 q1 q2
    subst e0; subst e1; subst e2; subst q0; subst q1; subst q2
    exact ⟨_, _, _, rfl, hw⟩
theorem elB {H : Type} {enc : TypeId × Value → H} {W : World} {base : Nat} {spare : Nat → Bool} {held : Bool} (n : Nat) (cs : List Value) (y : DataW H × List MemPlace) (h : DataW.trod enc Tryz.prog W base spare held n 28 cs = some y) :
    ∃ x, k28.K W x cs ∧ InR x := by
  obtain ⟨a, b, c, rfl, hw⟩ := open_box Tryz.underlying28 (by kernel_rfl) (by kernel_rfl) (by kernel_rfl) (by kernel_rfl) (by kernel_rfl) n cs y h
  refine ⟨⟨a, b, c⟩, ⟨[.int .i64 a], [.int .i64 b, .string c], rfl, rfl, ⟨[.int .i64 b], [.string c], rfl, rfl, rfl⟩⟩, ?_⟩
  have : IntKind.i64.min ≤ b ∧ b ≤ IntKind.i64.max := by simpa [Lit.wf] using hw
  simpa [InR, IntKind.min, IntKind.max, IntKind.signed, IntKind.bits] using this
end Go.Proofs.YtlkbeddlmbghkaaGreatDoor.PR

namespace Go.Proofs.YtlkbeddlmbghkaaGreatDoor.PR
open Go Go.Proofs Go.RowKit Go.Proofs.YtlkbeddlmbghkaaGreatDoorW.PrintWords Go.Proofs.YtlkbeddlmbghkaaGreatDoorW.PrintLast Go.Proofs.YtlkbeddlmbghkaaGreatDoorW.PrintMore Go.Proofs.YtlkbeddlmbghkaaGreatDoor.Lx
set_option linter.unusedVariables false
set_option linter.unusedSimpArgs false
set_option maxRecDepth 100000

theorem awake3 : rundlelaw03_awake.f 60 = some true := by decide +kernel
def ofB (x : S28) : Wd := if x.f0 = 1 then .num x.f1 else if x.f0 = 2 then .name x.f2 else if x.f0 = 3 then .text x.f2 else .nil
theorem of_f (x : S28) : rundlelaw02_Of.f x.f0 x.f1 x.f2 = some (ofB x) := by
  unfold rundlelaw02_Of.f ofB
  repeat' split
  all_goals rfl
theorem plain_f (x : S28) : rundleref02_Plain.f x.f0 x.f1 x.f2 = some ((toB (ofB x)).f0, (toB (ofB x)).f1, (toB (ofB x)).f2) := by
  unfold rundleref02_Plain.f ofB
  split
  · rfl
  · split
    · rename_i h; rw [h]; rfl
    · split
      · rename_i h; rw [h]; rfl
      · rfl
theorem plainW_f (b : Wd) : rundlelaw02_Plain.f b = some ((toB b).f0, (toB b).f1, (toB b).f2) := by cases b <;> rfl
theorem boxes_loop (l : List S28) (hl : l.length ≤ 60) : ∀ (m i : Nat), i + m = l.length → (∃ k, rundlelaw03_Boxes.l0 k l ((l.take i).map fun x => (⟨ofB x⟩ : S49)) (i : Int) = some ([], false)) ∨
    ((∃ k, rundlelaw03_Boxes.l0 k l ((l.take i).map fun x => (⟨ofB x⟩ : S49)) (i : Int) = some (l.map fun x => (⟨ofB x⟩ : S49), true)) ∧ ∀ x ∈ l.drop i, x.f2.size ≤ 200)
  | 0, i, hi => by
    have hie : i = l.length := by omega
    subst hie
    refine .inr ⟨⟨1, ?_⟩, fun x hx => by rw [List.drop_length] at hx; cases hx⟩
    rw [rundlelaw03_Boxes.l0, if_neg (by omega), List.take_length]
  | m + 1, i, hi => by
    have hlt : i < l.length := by omega
    have hr : rd_T28 l (i : Int) = l[i] := by unfold rd_T28; rw [Int.toNat_natCast, List.getD_eq_getElem?_getD, List.getElem?_eq_getElem hlt]; rfl
    have hdr : l.drop i = l[i] :: l.drop (i + 1) := List.drop_eq_getElem_cons hlt
    have htk : l.take (i + 1) = l.take i ++ [l[i]] := (List.take_append_getElem hlt).symm
    generalize hx : l[i] = x at *
    by_cases hs : 200 < x.f2.size
    · exact .inl ⟨1, by rw [rundlelaw03_Boxes.l0, if_pos (by omega), if_pos (by omega), hr, if_pos (by omega)]⟩
    · have step : ∀ k, rundlelaw03_Boxes.l0 (k + 1) l ((l.take i).map fun x => (⟨ofB x⟩ : S49)) (i : Int) = rundlelaw03_Boxes.l0 k l ((l.take (i + 1)).map fun x => (⟨ofB x⟩ : S49)) ((i + 1 : Nat) : Int) := by
        intro k
        rw [rundlelaw03_Boxes.l0, if_pos (by omega), if_pos (by omega), hr, if_neg (by omega), of_f, Option.bind_some, if_pos (by rw [List.length_map, List.length_take]; omega), w64_1 i (by omega), htk, List.map_append]
        rfl
      rcases boxes_loop l hl m (i + 1) (by omega) with ⟨k, h⟩ | ⟨⟨k, h⟩, h2⟩
      · exact .inl ⟨k + 1, by rw [step, h]⟩
      · refine .inr ⟨⟨k + 1, by rw [step, h]⟩, fun y hy => ?_⟩
        rw [hdr] at hy
        rcases List.mem_cons.1 hy with rfl | hy
        · omega
        · exact h2 y hy
theorem boxes_f (l : List S28) : (∃ k, rundlelaw03_Boxes.f k l = some ([], false)) ∨ ((∃ k, rundlelaw03_Boxes.f k l = some (l.map fun x => (⟨ofB x⟩ : S49), true)) ∧ l.length ≤ 60 ∧ ∀ x ∈ l, x.f2.size ≤ 200) := by
  by_cases hl : 60 < l.length
  · exact .inl ⟨0, by unfold rundlelaw03_Boxes.f; rw [if_pos (by omega)]⟩
  · rcases boxes_loop l (by omega) l.length 0 (by omega) with ⟨k, h⟩ | ⟨⟨k, h⟩, h2⟩
    · exact .inl ⟨k, by unfold rundlelaw03_Boxes.f; rw [if_neg (by omega)]; exact h⟩
    · exact .inr ⟨⟨k, by unfold rundlelaw03_Boxes.f; rw [if_neg (by omega)]; exact h⟩, by omega, h2⟩
theorem same_loop (ws : List Wd) (hl : ws.length ≤ 1000) : ∀ (m i : Nat), i + m = ws.length → rundlelaw03_Same.l0 (m + 1) (ws.map S49.mk) (ws.map toB) (i : Int) = some 1
  | 0, i, hi => by
    rw [rundlelaw03_Same.l0, if_neg (by rw [List.length_map]; omega)]
  | m + 1, i, hi => by
    have hlt : i < ws.length := by omega
    have h1 : (rd_T49 (ws.map S49.mk) (i : Int)).f0 = ws[i] := rd_map42 ws i hlt
    have h2 := rdB ws i ws[i] (List.getElem?_eq_getElem hlt)
    rw [rundlelaw03_Same.l0, if_pos (by rw [List.length_map]; omega), if_pos (by omega), h1, plainW_f, Option.bind_some, if_pos (by rw [List.length_map]; omega), h2, w64_1 i (by omega)]
    rw [if_neg (by simp)]
    exact same_loop ws hl m (i + 1) (by omega)
theorem same_f (ws : List Wd) (hl : ws.length ≤ 1000) : rundlelaw03_Same.f (ws.length + 1) (ws.map S49.mk) (ws.map toB) = some 1 := by
  unfold rundlelaw03_Same.f
  rw [if_pos (by simp)]
  exact same_loop ws hl ws.length 0 (by omega)
theorem small_of (x : S28) (h : InR x) (h2 : x.f2.size ≤ 200) : Small (ofB x) := by
  unfold ofB
  split
  · exact h
  · split
    · show x.f2.size ≤ 1000; omega
    · split
      · show x.f2.size ≤ 1000; omega
      · trivial
theorem join_bound : ∀ (ws : List Wd) (toks : List (List UInt8)), (∀ b ∈ ws, Small b) → showW ws = some toks → (Lib.join toks [32]).length ≤ 6000 * ws.length
  | [], toks, _, h => by
    obtain rfl := Option.some.inj h
    simp [Lib.join]
  | b :: ws, toks, hs, h => by
    rw [showW] at h
    cases hb : shownW b with
    | none => rw [hb] at h; cases h
    | some t =>
      rw [hb] at h
      cases hr : showW ws with
      | none => rw [hr] at h; cases h
      | some ts =>
        rw [hr] at h
        obtain rfl := Option.some.inj h
        have h1 := shown_len b t (hs b (by simp)) hb
        have h2 := join_bound ws ts (fun c hc => hs c (by simp [hc])) hr
        rw [join_cons, List.length_append, List.length_cons]
        split
        · simp only [List.length_nil]; omega
        · simp only [List.length_cons]; omega
theorem fits_of (ws : List Wd) (hl : ws.length ≤ 60) (hs : ∀ b ∈ ws, Small b) : FitsAll ws := by
  refine ⟨by omega, fun b hb => ?_, fun toks ht => by have := join_bound ws toks hs ht; omega⟩
  have := hs b hb
  cases b with
  | text t => have h : t.size ≤ 1000 := this; show t.size ≤ 1000000000000; omega
  | num n => exact this
  | name s => trivial
  | nil => trivial
theorem lines_of_show (ws : List Wd) (toks : List (List UInt8)) (h : showW ws = some toks) (hl : (Lib.join toks [32]).length ≤ 20000) :
    ∃ k, lex_Lines.f k ⟨(Lib.join toks [32]).toArray⟩ = some (if 0 < ws.length then [(⟨1, ws.map S49.mk⟩ : S39)] else [], 0, 0) := by
  obtain ⟨k, hk⟩ := (lines_ev (⟨(Lib.join toks [32]).toArray⟩ : ByteArray) (by rw [size_of]; omega)).rounds
  refine ⟨k, ?_⟩
  rw [hk]
  have e : (⟨(Lib.join toks [32]).toArray⟩ : ByteArray).data.toList = Lib.join toks [32] := by simp
  rw [e, lines_show ws toks h hl]
  unfold resP
  split <;> rfl
end Go.Proofs.YtlkbeddlmbghkaaGreatDoor.PR
