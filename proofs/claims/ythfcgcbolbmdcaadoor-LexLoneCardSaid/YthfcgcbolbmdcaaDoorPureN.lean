/- The document's Number and Name (chapter 3) are the plain ones; LexWords answers true. -/
import Derived.Test.YthfcgcbolbmdcaaDoorPRx6
import Derived.Test.YthfcgcbolbmdcaaDoorLexP
namespace Go.Proofs.YthfcgcbolbmdcaaDoor.PR
open Go Go.Proofs Go.RowKit Go.Proofs.YthfcgcbolbmdcaaDoorW.PrintWords Go.Proofs.YthfcgcbolbmdcaaDoorW.PrintLast Go.Proofs.YthfcgcbolbmdcaaDoorW.PrintMore Go.Proofs.YthfcgcbolbmdcaaDoor.Lx
set_option linter.unusedVariables false
set_option linter.unusedSimpArgs false

theorem awake_true : rundlelaw03_awake.f 60 = some true := by decide +kernel
theorem awake_ev : Ev (fun k => rundlelaw03_awake.f k) true := Ev.of rundlelaw03_awake.mono awake_true

theorem bt_nat (s : ByteArray) (i : Nat) (h : i < s.data.toList.length) : bt s (i : Int) = ((s.data.toList[i]'h).toNat : Int) := by
  have h2 : i < s.size := by rw [Lib.size_eq]; exact h
  have h3 := bt_at s (i : Int)
  unfold bt
  rw [dif_pos (show ((i : Int).toNat < s.size) by simpa using h2)]
  rfl
theorem w64 {a : Int} (h0 : -9223372036854775808 ≤ a) (h1 : a ≤ 9223372036854775807) : wrap64 a = a := by unfold wrap64; omega

theorem all_drop (l : List UInt8) (f : UInt8 → Bool) (i : Nat) (h : i < l.length) : (l.drop i).all f = (f (l[i]'h) && (l.drop (i + 1)).all f) := by
  rw [List.drop_eq_getElem_cons h, List.all_cons]
theorem digVal_drop (l : List UInt8) (i : Nat) (n : Int) (h : i < l.length) : digVal (l.drop i) n = digVal (l.drop (i + 1)) (n * 10 + (((l[i]'h).toNat : Int) - 48)) := by
  rw [List.drop_eq_getElem_cons h]; rfl

theorem refNum_loop (s d : ByteArray) (hs : s.size ≤ 1000000) (hd : d.size ≤ 15) : ∀ (m i : Nat) (n : Int), i + m = d.size → 0 ≤ n → n < 10 ^ i →
    Ev (fun k => rundleref03_Number.l0 k s d n i) (if (d.data.toList.drop i).all isDig then (if d.size < s.size then -(digVal (d.data.toList.drop i) n) else digVal (d.data.toList.drop i) n, true) else (0, false))
  | 0, i, n, hm, h0, h1 => by
    refine Ev.step (f := fun _ => some _) (fun k => ?_) (Ev.now _)
    rw [rundleref03_Number.l0, if_neg (by omega), List.drop_of_length_le (by rw [← Lib.size_eq]; omega)]
    have h3 : (10 : Int) ^ i ≤ 10 ^ 15 := by exact_mod_cast Nat.pow_le_pow_right (by omega) (show i ≤ 15 by omega)
    by_cases hlt : d.size < s.size
    · rw [if_pos (by omega), if_pos (by rfl), if_pos hlt, w64 (by omega) (by omega)]; rfl
    · rw [if_neg (by omega), if_pos (by rfl), if_neg hlt]; rfl
  | m + 1, i, n, hm, h0, h1 => by
    have hi : i < d.data.toList.length := by rw [← Lib.size_eq]; omega
    have hb := bt_nat d i hi
    have h3 : (10 : Int) ^ i ≤ 10 ^ 14 := by exact_mod_cast Nat.pow_le_pow_right (by omega) (show i ≤ 14 by omega)
    have hc := (d.data.toList[i]'hi).toNat_lt
    rw [all_drop _ _ _ hi]
    by_cases hdg : isDig (d.data.toList[i]'hi) = true
    · have h2 : 48 ≤ (d.data.toList[i]'hi).toNat ∧ (d.data.toList[i]'hi).toNat ≤ 57 := by simpa [isDig] using hdg
      have ih := refNum_loop s d hs hd m (i + 1) (n * 10 + (((d.data.toList[i]'hi).toNat : Int) - 48)) (by omega) (by omega) (by rw [Int.pow_succ]; omega)
      rw [hdg, Bool.true_and, digVal_drop _ _ _ hi]
      refine Ev.step (fun k => ?_) ih
      rw [rundleref03_Number.l0, if_pos (by omega), if_pos (by omega), hb, if_neg (by omega), if_neg (by omega)]
      rw [w64 (a := n * 10) (by omega) (by omega), w64 (a := ((d.data.toList[i]'hi).toNat : Int)) (by omega) (by omega), w64 (a := n * 10 + _) (by omega) (by omega), w64 (a := n * 10 + _ - 48) (by omega) (by omega), w64 (a := (i : Int) + 1) (by omega) (by omega)]
      congr 1
      · omega
    · have h2 : ¬ (48 ≤ (d.data.toList[i]'hi).toNat ∧ (d.data.toList[i]'hi).toNat ≤ 57) := by intro h; exact hdg (by simpa [isDig] using h)
      have hf : isDig (d.data.toList[i]'hi) = false := by simpa using hdg
      rw [hf, Bool.false_and, if_neg (by simp)]
      refine Ev.step (f := fun _ => some _) (fun k => ?_) (Ev.now _)
      rw [rundleref03_Number.l0, if_pos (by omega), if_pos (by omega), hb]
      by_cases h4 : ((d.data.toList[i]'hi).toNat : Int) < 48
      · rw [if_pos h4]
      · rw [if_neg h4, if_pos (by omega)]

theorem unsign_len (l : List UInt8) : (unsign l).length ≤ l.length ∧ ((unsign l).length < l.length ↔ l.head? = some 45) := by
  unfold unsign
  cases l with
  | nil => simp
  | cons c t =>
    by_cases h : c = 45
    · simp [h]
    · simp [h]

theorem refNum_j1 (s d : ByteArray) (hs : s.size ≤ 1000000) (hd : d.data.toList = unsign s.data.toList) :
    Ev (fun k => rundleref03_Number.j1 k s d) (numV s.data.toList, isNum s.data.toList) := by
  have hn : d.size = (unsign s.data.toList).length := by rw [Lib.size_eq, hd]
  have hsz : s.data.toList.length = s.size := (Lib.size_eq s).symm
  have hul := unsign_len s.data.toList
  rw [hsz, ← hn] at hul
  by_cases h1 : d.size < 1
  · have hno : isNum s.data.toList = false := by unfold isNum; rw [← hn, decide_eq_false (by omega)]; rfl
    rw [hno, show numV s.data.toList = 0 by unfold numV; rw [hno]; rfl]
    refine Ev.step (f := fun k => rundleref03_Number.j2 k s d true) (fun k => ?_) (Ev.step (f := fun _ => some _) (fun k => ?_) (Ev.now _))
    · rw [rundleref03_Number.j1, if_pos (by omega)]
    · rw [rundleref03_Number.j2, if_pos rfl]
  by_cases h2 : 15 < d.size
  · have hno : isNum s.data.toList = false := by unfold isNum; rw [← hn, decide_eq_false (p := d.size ≤ 15) (by omega)]; simp
    rw [hno, show numV s.data.toList = 0 by unfold numV; rw [hno]; rfl]
    refine Ev.step (f := fun k => rundleref03_Number.j2 k s d true) (fun k => ?_) (Ev.step (f := fun _ => some _) (fun k => ?_) (Ev.now _))
    · rw [rundleref03_Number.j1, if_neg (by omega), if_pos (by omega)]
    · rw [rundleref03_Number.j2, if_pos rfl]
  have hp : 0 < d.data.toList.length := by rw [← Lib.size_eq]; omega
  have hb := bt_nat d 0 hp
  have hh : ((unsign s.data.toList).head? == some 48) = decide (bt d 0 = 48) := by
    rw [← hd, List.head?_eq_getElem?, List.getElem?_eq_getElem hp]
    have hb' : bt d 0 = ((d.data.toList[0]'hp).toNat : Int) := hb
    rw [hb', Bool.eq_iff_iff]
    simp only [beq_iff_eq, Option.some.injEq, decide_eq_true_eq]
    exact ⟨fun e => by rw [e]; rfl, fun e => UInt8.toNat_inj.1 (by have h48 : (48 : UInt8).toNat = 48 := rfl; omega)⟩
  have hin : isNum s.data.toList = (!(decide (bt d 0 = 48) && decide (1 < s.size)) && (unsign s.data.toList).all isDig) := by
    unfold isNum
    rw [hh, ← hn, hsz, decide_eq_true (show 1 ≤ d.size by omega), decide_eq_true (show d.size ≤ 15 by omega)]
    simp
  have hloop := refNum_loop s d hs (by omega) d.size 0 0 (by omega) (by omega) (by decide)
  rw [List.drop_zero] at hloop
  have hj : ∀ b : Bool, b = (decide (bt d 0 = 48) && decide (1 < s.size)) → Ev (fun k => rundleref03_Number.j2 k s d b) (numV s.data.toList, isNum s.data.toList) := by
    intro b hb
    rw [← hb] at hin
    cases b with
    | true =>
      have hno : isNum s.data.toList = false := by rw [hin]; rfl
      rw [hno, show numV s.data.toList = 0 by unfold numV; rw [hno]; rfl]
      exact Ev.step (f := fun _ => some _) (fun k => by rw [rundleref03_Number.j2, if_pos rfl]) (Ev.now _)
    | false =>
      rw [Bool.not_false, Bool.true_and] at hin
      refine Ev.step (f := fun k => rundleref03_Number.l0 k s d 0 0) (fun k => by rw [rundleref03_Number.j2, if_neg (by simp)]) ?_
      have : (numV s.data.toList, isNum s.data.toList) = (if d.data.toList.all isDig then (if d.size < s.size then -(digVal d.data.toList 0) else digVal d.data.toList 0, true) else (0, false)) := by
        rw [hd, hin]
        cases hq : (unsign s.data.toList).all isDig with
        | false => rw [show numV s.data.toList = 0 by unfold numV; rw [hin, hq]; rfl]; rfl
        | true =>
          rw [show numV s.data.toList = numVal s.data.toList by unfold numV; rw [hin, hq]; rfl, if_pos rfl]
          unfold numVal
          by_cases hlt : d.size < s.size
          · rw [if_pos (hul.2.1 hlt), if_pos hlt]
          · rw [if_neg (fun e => hlt (hul.2.2 e)), if_neg hlt]
      rw [this]
      exact hloop
  by_cases h4 : bt d 0 = 48
  · refine Ev.step (f := fun k => rundleref03_Number.j2 k s d (decide ((s.size : Int) > 1))) (fun k => ?_) (hj _ ?_)
    · rw [rundleref03_Number.j1, if_neg (by omega), if_neg (by omega), if_pos (by omega), if_pos h4]
    · rw [decide_eq_true h4, Bool.true_and]; exact decide_eq_decide.2 (by omega)
  · refine Ev.step (f := fun k => rundleref03_Number.j2 k s d false) (fun k => ?_) (hj _ ?_)
    · rw [rundleref03_Number.j1, if_neg (by omega), if_neg (by omega), if_pos (by omega), if_neg h4]
    · rw [decide_eq_false h4]; rfl

theorem refNum (s : ByteArray) (hs : s.size ≤ 1000000) : Ev (fun k => rundleref03_Number.f k s) (numV s.data.toList, isNum s.data.toList) := by
  by_cases h0 : 0 < s.size
  · have hp : 0 < s.data.toList.length := by rw [← Lib.size_eq]; exact h0
    have hb : bt s 0 = ((s.data.toList[0]'hp).toNat : Int) := bt_nat s 0 hp
    have hhd : s.data.toList.head? = some (s.data.toList[0]'hp) := by rw [List.head?_eq_getElem?, List.getElem?_eq_getElem hp]
    refine Ev.congr (f := fun k => rundleref03_Number.j0 k s s (bt s 0 == 45)) (fun k => by rw [rundleref03_Number.f, if_pos (by omega), if_pos (by omega)]) ?_
    by_cases h45 : bt s 0 = 45
    · have hc : s.data.toList[0]'hp = 45 := UInt8.toNat_inj.1 (by have h48 : (45 : UInt8).toNat = 45 := rfl; omega)
      rw [beq_iff_eq.2 h45]
      refine Ev.step (f := fun k => rundleref03_Number.j1 k s (s.extract 1 s.size)) (fun k => by rw [rundleref03_Number.j0, if_pos rfl, if_pos (by omega)]) (refNum_j1 s _ hs ?_)
      rw [Lib.extract_to_end]
      unfold unsign
      rw [hhd, hc, if_pos rfl, List.drop_one]
    · rw [beq_eq_false_iff_ne.2 h45]
      refine Ev.step (f := fun k => rundleref03_Number.j1 k s s) (fun k => by rw [rundleref03_Number.j0, if_neg (by simp)]) (refNum_j1 s _ hs ?_)
      unfold unsign
      rw [hhd, if_neg]
      intro e
      exact h45 (by rw [hb, Option.some.inj e]; rfl)
  · refine Ev.congr (f := fun k => rundleref03_Number.j0 k s s false) (fun k => by rw [rundleref03_Number.f, if_neg (by omega)]) ?_
    refine Ev.step (f := fun k => rundleref03_Number.j1 k s s) (fun k => by rw [rundleref03_Number.j0, if_neg (by simp)]) (refNum_j1 s _ hs ?_)
    have : s.data.toList = [] := List.length_eq_zero_iff.1 (by rw [← Lib.size_eq]; omega)
    rw [this]; rfl

/-! ### names -/

theorem nameAll_at (l : List UInt8) (i : Nat) (h : i < l.length) (ha : nameAll l = true) : (isLet (l[i]'h) || (isDig (l[i]'h) && !decide (i = 0))) = true := by
  have h2 := nameAll_take l (i + 1) ha
  rw [List.take_succ_eq_append_getElem h, nameAll_snoc, Bool.and_eq_true] at h2
  have h3 : (l.take i).isEmpty = decide (i = 0) := by
    rw [Bool.eq_iff_iff, List.isEmpty_iff, decide_eq_true_eq, ← List.length_eq_zero_iff, List.length_take]; omega
  rw [← h3]; exact h2.2

theorem refName_loop (s : ByteArray) (hs : s.size ≤ 1000000) : ∀ (m i : Nat), i + m = s.size → nameAll (s.data.toList.take i) = true →
    Ev (fun k => rundleref03_Name.l0 k s i) (isName s.data.toList)
  | 0, i, hm, ha => by
    rw [List.take_of_length_le (by rw [← Lib.size_eq]; omega)] at ha
    refine Ev.step (f := fun _ => some _) (fun k => ?_) (Ev.now _)
    rw [rundleref03_Name.l0, if_neg (by omega)]
    unfold isName
    rw [ha, ← Lib.size_eq]
    by_cases h1 : 1 ≤ s.size
    · rw [if_pos (by omega), decide_eq_true h1]
      simp
      omega
    · rw [if_neg (by omega), decide_eq_false h1]; rfl
  | m + 1, i, hm, ha => by
    have hi : i < s.data.toList.length := by rw [← Lib.size_eq]; omega
    have hb := bt_nat s i hi
    have hc := (s.data.toList[i]'hi).toNat_lt
    have hw : wrap64 ((i : Int) + 1) = ((i + 1 : Nat) : Int) := by rw [w64 (by omega) (by omega)]; rfl
    have hsn : nameAll (s.data.toList.take (i + 1)) = (isLet (s.data.toList[i]'hi) || (isDig (s.data.toList[i]'hi) && !decide (i = 0))) := by
      have h3 : (s.data.toList.take i).isEmpty = decide (i = 0) := by
        rw [Bool.eq_iff_iff, List.isEmpty_iff, decide_eq_true_eq, ← List.length_eq_zero_iff, List.length_take]; omega
      rw [List.take_succ_eq_append_getElem hi, nameAll_snoc, ha, h3, Bool.true_and]
    by_cases hl : isLet (s.data.toList[i]'hi) = true
    · have h2 : 97 ≤ (s.data.toList[i]'hi).toNat ∧ (s.data.toList[i]'hi).toNat ≤ 122 := by simpa [isLet] using hl
      refine Ev.step (fun k => ?_) (refName_loop s hs m (i + 1) (by omega) (by rw [hsn, hl]; rfl))
      rw [rundleref03_Name.l0, if_pos (by omega), if_pos (by omega), hb, if_pos (by omega), if_pos (by omega), hw]
    have hnl : ¬ (97 ≤ (s.data.toList[i]'hi).toNat ∧ (s.data.toList[i]'hi).toNat ≤ 122) := fun h => hl (by simpa [isLet] using h)
    by_cases hd : isDig (s.data.toList[i]'hi) = true ∧ i ≠ 0
    · have h2 : 48 ≤ (s.data.toList[i]'hi).toNat ∧ (s.data.toList[i]'hi).toNat ≤ 57 := by simpa [isDig] using hd.1
      refine Ev.step (fun k => ?_) (refName_loop s hs m (i + 1) (by omega) (by rw [hsn, hd.1, decide_eq_false hd.2]; simp))
      rw [rundleref03_Name.l0, if_pos (by omega), if_pos (by omega), hb, if_neg (by omega), if_pos (by omega), if_pos (by omega), if_pos (by omega), hw]
    · have hno : isName s.data.toList = false := by
        cases hq : isName s.data.toList with
        | false => rfl
        | true =>
          unfold isName at hq
          simp only [Bool.and_eq_true] at hq
          have := nameAll_at _ i hi hq.2
          simp only [Bool.or_eq_true, Bool.and_eq_true, Bool.not_eq_true', decide_eq_false_iff_not] at this
          rcases this with h | h
          · exact absurd h hl
          · exact absurd h hd
      rw [hno]
      refine Ev.step (f := fun _ => some _) (fun k => ?_) (Ev.now _)
      have hnd : ¬ ((48 ≤ (s.data.toList[i]'hi).toNat ∧ (s.data.toList[i]'hi).toNat ≤ 57) ∧ i ≠ 0) := fun h => hd ⟨by simpa [isDig] using h.1, h.2⟩
      rw [rundleref03_Name.l0, if_pos (by omega), if_pos (by omega), hb]
      repeat' split
      all_goals first | rfl | (exfalso; omega)

theorem refName (s : ByteArray) (hs : s.size ≤ 1000000) : Ev (fun k => rundleref03_Name.f k s) (isName s.data.toList) :=
  Ev.congr (f := fun k => rundleref03_Name.l0 k s 0) (fun k => rfl) (refName_loop s hs s.size 0 (by omega) rfl)

theorem words_pure (a : ByteArray) : ∃ k, rundlelaw03_LexWords.f k a = some true := by
  refine Ev.rounds (g := fun k => rundlelaw03_LexWords.f k a) ?_
  refine Ev.congr (fun k => by rw [rundlelaw03_LexWords.f]) (Ev.bind awake_ev ?_)
  refine Ev.congr (f := fun k => rundlelaw03_LexWords.j0 k a (decide ((a.size : Int) > 300))) (fun k => by rw [if_pos rfl]) ?_
  by_cases h : (a.size : Int) > 300
  · rw [decide_eq_true h]
    refine Ev.step (f := fun k => (rundlelaw03_awake.f k).bind fun t160 => some t160) (fun k => by rw [rundlelaw03_LexWords.j0, if_pos rfl]) (Ev.bind awake_ev (Ev.now _))
  · rw [decide_eq_false h]
    refine Ev.step (fun k => by rw [rundlelaw03_LexWords.j0, if_neg (by simp)]) ?_
    have hn := refNum a (by omega)
    have hm := refName a (by omega)
    refine Ev.congr (f := fun k => (rundleref03_Number.f k a).bind fun bt163 => (if numV a.data.toList = bt163.1 then (if (isNum a.data.toList == bt163.2) = true then ((lex_Name.f a).bind fun t165 => ((rundleref03_Name.f k a).bind fun t166 => (some (t165 == t166)))) else (some false)) else (some false))) (fun k => by simp [lex_Number.f]) ?_
    refine Ev.bind hn ?_
    refine Ev.congr (f := fun k => (rundleref03_Name.f k a).bind fun t166 => some (isName a.data.toList == t166)) (fun k => by simp [lex_Name.f]) ?_
    refine Ev.bind hm ?_
    refine Ev.congr (fun k => ?_) (Ev.now true)
    simp

theorem words_walk (a : ByteArray) (w : World) : Calls Tryd.prog 3 #[.string a] w fun e w' => e = .returned (.bool true) ∧ Below w.heap.size w w' := by
  obtain ⟨k, hk⟩ := words_pure a
  exact rundlelaw03_LexWords.calls k a true w hk
end Go.Proofs.YthfcgcbolbmdcaaDoor.PR
