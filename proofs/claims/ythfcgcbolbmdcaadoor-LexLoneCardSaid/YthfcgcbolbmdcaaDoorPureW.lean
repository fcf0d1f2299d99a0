/- Words: where one ends, what it is, the words of a line: the program's and the document's are the plain ones. -/
import Derived.Test.YthfcgcbolbmdcaaDoorPRx4
import Derived.Test.YthfcgcbolbmdcaaDoorPRx10
import Derived.Test.YthfcgcbolbmdcaaDoorPureQ
namespace Go.Proofs.YthfcgcbolbmdcaaDoor.PR
open Go Go.Proofs Go.RowKit Go.Proofs.YthfcgcbolbmdcaaDoorW.PrintWords Go.Proofs.YthfcgcbolbmdcaaDoorW.PrintLast Go.Proofs.YthfcgcbolbmdcaaDoorW.PrintMore Go.Proofs.YthfcgcbolbmdcaaDoor.Lx
set_option linter.unusedVariables false
set_option linter.unusedSimpArgs false

theorem blank_f (c : UInt8) : lex_blank.f (c.toNat : Int) = some (isBl c) := by
  have hc := c.toNat_lt
  have hw : wrap32 (c.toNat : Int) = (c.toNat : Int) := by unfold wrap32; omega
  unfold lex_blank.f
  rw [hw]
  unfold runes_Class.f
  rw [Option.bind_some]
  congr 1
  rw [Bool.eq_iff_iff, beq_iff_eq]
  unfold clsP isBl
  rw [Bool.or_eq_true, decide_eq_true_eq, decide_eq_true_eq]
  repeat' split
  all_goals first | omega | (constructor <;> intro h <;> omega)
theorem refblank_f (c : UInt8) : rundleref03_blank.f (c.toNat : Int) = some (isBl c) := by
  unfold rundleref03_blank.f isBl
  by_cases h : c.toNat = 32
  · rw [if_pos (by omega), decide_eq_true h, Bool.true_or]
  · rw [if_neg (by omega), decide_eq_false h, Bool.false_or]
    congr 1
    rw [Bool.eq_iff_iff, beq_iff_eq, decide_eq_true_eq]; omega

/-! ### where a word ends -/

def endQ (i : Nat) (none_ : Int) : Option Nat → Int
  | some n => ((i + n : Nat) : Int)
  | none => none_
theorem endQ_map (i j : Nat) (z : Int) (o : Option Nat) : endQ i z (o.map (· + j)) = endQ (i + j) z o := by
  cases o with
  | none => rfl
  | some n => show ((i + (n + j) : Nat) : Int) = ((i + j + n : Nat) : Int); congr 1; omega

theorem quoted_loop (s : ByteArray) (hs : s.size ≤ 1000000) : ∀ (d i : Nat), s.data.toList.length - i = d → i ≤ 1000010 →
    Ev (fun k => lex_quoted.l0 k s (i : Int)) (endQ i 0 (qendL (s.data.toList.drop i))) := by
  intro d
  induction d using Nat.strongRecOn with
  | ind d ih =>
  intro i hd hi
  have hsz : s.data.toList.length = s.size := (Lib.size_eq s).symm
  by_cases hlt : i < s.data.toList.length
  case neg =>
    rw [List.drop_of_length_le (by omega), qendL_nil]
    exact Ev.step (f := fun _ => some 0) (fun k => by rw [lex_quoted.l0, if_neg (by omega)]) (Ev.now _)
  have hb := bt_nat s i hlt
  rw [List.drop_eq_getElem_cons hlt, qendL_cons]
  generalize hc : s.data.toList[i]'hlt = c at *
  by_cases h1 : c.toNat = 92
  · rw [if_pos h1, endQ_map, List.drop_drop]
    refine Ev.step (fun k => ?_) (ih (s.data.toList.length - (i + 2)) (by omega) (i + 2) rfl (by omega))
    rw [lex_quoted.l0, if_pos (by omega), if_pos (by omega), hb, if_pos (by omega), w64_1 i (by omega), w64_1 (i + 1) (by omega)]
  rw [if_neg h1]
  by_cases h2 : c.toNat = 34
  · rw [if_pos h2]
    refine Ev.step (f := fun _ => some ((i + 1 : Nat) : Int)) (fun k => ?_) (Ev.now _)
    rw [lex_quoted.l0, if_pos (by omega), if_pos (by omega), hb, if_neg (by omega), if_pos (by omega), w64_1 i (by omega)]
  · rw [if_neg h2, endQ_map]
    refine Ev.step (fun k => ?_) (ih (s.data.toList.length - (i + 1)) (by omega) (i + 1) rfl (by omega))
    rw [lex_quoted.l0, if_pos (by omega), if_pos (by omega), hb, if_neg (by omega), if_neg (by omega), w64_1 i (by omega)]

theorem refend_quote (s : ByteArray) (a : Int) (hs : s.size ≤ 1000000) : ∀ (d i : Nat), s.data.toList.length - i = d → i ≤ 1000010 →
    Ev (fun k => rundleref03_end.l1 k s a (i : Int)) (endQ i a (qendL (s.data.toList.drop i))) := by
  intro d
  induction d using Nat.strongRecOn with
  | ind d ih =>
  intro i hd hi
  have hsz : s.data.toList.length = s.size := (Lib.size_eq s).symm
  by_cases hlt : i < s.data.toList.length
  case neg =>
    rw [List.drop_of_length_le (by omega), qendL_nil]
    exact Ev.step (f := fun _ => some a) (fun k => by rw [rundleref03_end.l1, if_neg (by omega)]) (Ev.now _)
  have hb := bt_nat s i hlt
  rw [List.drop_eq_getElem_cons hlt, qendL_cons]
  generalize hc : s.data.toList[i]'hlt = c at *
  by_cases h1 : c.toNat = 92
  · rw [if_pos h1, endQ_map, List.drop_drop]
    refine Ev.step (fun k => ?_) (ih (s.data.toList.length - (i + 2)) (by omega) (i + 2) rfl (by omega))
    rw [rundleref03_end.l1, if_pos (by omega), if_pos (by omega), hb, if_neg (by omega), if_pos (by omega), w64_1 i (by omega), w64_1 (i + 1) (by omega)]
  rw [if_neg h1]
  by_cases h2 : c.toNat = 34
  · rw [if_pos h2]
    refine Ev.step (f := fun _ => some ((i + 1 : Nat) : Int)) (fun k => ?_) (Ev.now _)
    rw [rundleref03_end.l1, if_pos (by omega), if_pos (by omega), hb, if_pos (by omega), w64_1 i (by omega)]
  · rw [if_neg h2, endQ_map]
    refine Ev.step (fun k => ?_) (ih (s.data.toList.length - (i + 1)) (by omega) (i + 1) rfl (by omega))
    rw [rundleref03_end.l1, if_pos (by omega), if_pos (by omega), hb, if_neg (by omega), if_neg (by omega), w64_1 i (by omega)]

def bareLen (l : List UInt8) : Nat := (l.takeWhile (fun c => !isBl c)).length
theorem bareLen_nil : bareLen [] = 0 := rfl
theorem bareLen_yes {c : UInt8} (t : List UInt8) (h : isBl c = true) : bareLen (c :: t) = 0 := by unfold bareLen; rw [List.takeWhile_cons, h]; rfl
theorem bareLen_no {c : UInt8} (t : List UInt8) (h : isBl c = false) : bareLen (c :: t) = bareLen t + 1 := by unfold bareLen; rw [List.takeWhile_cons, h]; rfl
theorem bareLen_le : ∀ (l : List UInt8), bareLen l ≤ l.length
  | [] => Nat.le_refl _
  | c :: t => by
    cases h : isBl c with
    | true => rw [bareLen_yes _ h]; exact Nat.zero_le _
    | false => rw [bareLen_no _ h, List.length_cons]; have := bareLen_le t; omega

theorem bare_loop (s : ByteArray) (hs : s.size ≤ 1000000) : ∀ (d i : Nat), s.data.toList.length - i = d → i ≤ s.data.toList.length →
    Ev (fun k => lex_bare.l0 k s (i : Int)) ((i + bareLen (s.data.toList.drop i) : Nat) : Int)
  | 0, i, hd, hi => by
    have hsz : s.data.toList.length = s.size := (Lib.size_eq s).symm
    rw [List.drop_of_length_le (by omega), bareLen_nil]
    exact Ev.step (f := fun _ => some (i : Int)) (fun k => by rw [lex_bare.l0, if_neg (by omega)]) (Ev.now _)
  | d + 1, i, hd, hi => by
    have hsz : s.data.toList.length = s.size := (Lib.size_eq s).symm
    have hlt : i < s.data.toList.length := by omega
    have hb := bt_nat s i hlt
    rw [List.drop_eq_getElem_cons hlt]
    generalize hc : s.data.toList[i]'hlt = c at *
    cases hbl : isBl c with
    | true =>
      rw [bareLen_yes _ hbl]
      exact Ev.step (f := fun _ => some (i : Int)) (fun k => by rw [lex_bare.l0, if_pos (by omega), if_pos (by omega), hb, blank_f, Option.bind_some, hbl, if_pos rfl]) (Ev.now _)
    | false =>
      rw [bareLen_no _ hbl, show i + (bareLen (s.data.toList.drop (i + 1)) + 1) = i + 1 + bareLen (s.data.toList.drop (i + 1)) by omega]
      refine Ev.step (fun k => ?_) (bare_loop s hs d (i + 1) (by omega) (by omega))
      rw [lex_bare.l0, if_pos (by omega), if_pos (by omega), hb, blank_f, Option.bind_some, hbl, if_neg (by simp), w64_1 i (by omega)]

theorem refend_bare (s : ByteArray) (hs : s.size ≤ 1000000) : ∀ (d i : Nat), s.data.toList.length - i = d → i ≤ s.data.toList.length →
    Ev (fun k => rundleref03_end.l0 k s (i : Int)) ((i + bareLen (s.data.toList.drop i) : Nat) : Int)
  | 0, i, hd, hi => by
    have hsz : s.data.toList.length = s.size := (Lib.size_eq s).symm
    rw [List.drop_of_length_le (by omega), bareLen_nil]
    exact Ev.step (f := fun _ => some (i : Int)) (fun k => by rw [rundleref03_end.l0, if_neg (by omega)]) (Ev.now _)
  | d + 1, i, hd, hi => by
    have hsz : s.data.toList.length = s.size := (Lib.size_eq s).symm
    have hlt : i < s.data.toList.length := by omega
    have hb := bt_nat s i hlt
    rw [List.drop_eq_getElem_cons hlt]
    generalize hc : s.data.toList[i]'hlt = c at *
    cases hbl : isBl c with
    | true =>
      rw [bareLen_yes _ hbl]
      exact Ev.step (f := fun _ => some (i : Int)) (fun k => by rw [rundleref03_end.l0, if_pos (by omega), if_pos (by omega), hb, refblank_f, Option.bind_some, hbl, if_pos rfl]) (Ev.now _)
    | false =>
      rw [bareLen_no _ hbl, show i + (bareLen (s.data.toList.drop (i + 1)) + 1) = i + 1 + bareLen (s.data.toList.drop (i + 1)) by omega]
      refine Ev.step (fun k => ?_) (refend_bare s hs d (i + 1) (by omega) (by omega))
      rw [rundleref03_end.l0, if_pos (by omega), if_pos (by omega), hb, refblank_f, Option.bind_some, hbl, if_neg (by simp), w64_1 i (by omega)]

theorem tokLen_q (c : UInt8) (t : List UInt8) (h : c.toNat = 34) : tokLen (c :: t) = match qendL t with | some n => n + 1 | none => 0 := by
  have : c = 34 := UInt8.toNat_inj.1 h
  subst this
  rfl
theorem tokLen_b (c : UInt8) (t : List UInt8) (h : c.toNat ≠ 34) : tokLen (c :: t) = bareLen (c :: t) := by
  unfold tokLen
  rw [if_neg (by simp; intro e; rw [e] at h; exact h rfl)]
  rfl
theorem tokLen_le (l : List UInt8) : tokLen l ≤ l.length := by
  cases l with
  | nil => simp [tokLen]
  | cons c t =>
    by_cases h : c.toNat = 34
    · rw [tokLen_q c t h]
      cases hq : qendL t with
      | none => simp
      | some n => have := qendL_le _ t (Nat.le_refl _) n hq; simp only [List.length_cons]; omega
    · rw [tokLen_b c t h]; exact bareLen_le _

theorem take_eta (s : ByteArray) (n : Nat) : (s.extract 0 n) = ⟨(s.data.toList.take n).toArray⟩ := by
  rw [← ba_eta (s.extract 0 n), Lib.extract_data, List.drop_zero, Nat.sub_zero]
theorem take_data (s : ByteArray) (n : Nat) : (s.extract 0 n).data.toList = s.data.toList.take n := by rw [Lib.extract_data, List.drop_zero, Nat.sub_zero]

def wordR (l : List UInt8) : Wd × Int := match wordOf validB (l.take (tokLen l)) with
  | none => (Wd.nil, 0)
  | some b => if nextOk l (tokLen l) = true then (b, (tokLen l : Int)) else (Wd.nil, 0)

theorem nextOk_bare : ∀ (l : List UInt8), nextOk l (bareLen l) = true
  | [] => rfl
  | c :: t => by
    cases h : isBl c with
    | true => rw [bareLen_yes _ h]; unfold nextOk; rw [List.drop_zero]; exact h
    | false => rw [bareLen_no _ h]; exact nextOk_bare t

theorem head_take (c : UInt8) (t : List UInt8) (n : Nat) : ((c :: t).take n).head? = if n = 0 then none else some c := by
  cases n with
  | zero => rfl
  | succ n => rfl

theorem wordOf_nil : wordOf validB [] = none := rfl
theorem wordOf_q (l : List UInt8) (h : l.head? = some 34) : wordOf validB l = (unquote validB l).map fun t => Wd.text ⟨t.toArray⟩ := by unfold wordOf; rw [if_pos h]
theorem wordOf_b (l : List UInt8) (h : l.head? ≠ some 34) : wordOf validB l = if isNum l = true then some (Wd.num (numVal l)) else if isName l = true then some (Wd.name ⟨l.toArray⟩) else none := by unfold wordOf; rw [if_neg h]

set_option maxHeartbeats 2000000 in
theorem word_ev (s : ByteArray) (hs : s.size ≤ 1000000) (h0 : 0 < s.size) : Ev (fun k => lex_word.f k s) (wordR s.data.toList) := by
  have hsz : s.data.toList.length = s.size := (Lib.size_eq s).symm
  obtain ⟨c, t, hl⟩ : ∃ c t, s.data.toList = c :: t := by
    cases h : s.data.toList with
    | nil => rw [h] at hsz; simp at hsz; omega
    | cons c t => exact ⟨c, t, rfl⟩
  have hb0 : bt s 0 = (c.toNat : Int) := by
    have := bt_nat s 0 (by omega)
    simp only [hl, List.getElem_cons_zero] at this
    exact this
  have hle := tokLen_le s.data.toList
  have hbtok : ∀ n : Nat, n < s.size → bt s (n : Int) = ((s.data.toList[n]?.getD 0).toNat : Int) := by
    intro n hn
    rw [bt_nat s n (by omega), List.getElem?_eq_getElem (by omega)]; rfl
  by_cases hq : c.toNat = 34
  · -- a text
    have htl := tokLen_q c t hq
    have hquo : Ev (fun k => lex_quoted.f k s) ((tokLen s.data.toList : Nat) : Int) := by
      have := quoted_loop s hs _ 1 rfl (by omega)
      rw [hl] at this ⊢
      rw [List.drop_succ_cons, List.drop_zero] at this
      have e : endQ 1 0 (qendL t) = ((tokLen (c :: t) : Nat) : Int) := by
        rw [htl]
        cases qendL t with
        | none => rfl
        | some n => show ((1 + n : Nat) : Int) = ((n + 1 : Nat) : Int); congr 1; omega
      rw [← e]
      exact Ev.congr (fun k => rfl) this
    generalize hn : tokLen s.data.toList = n at *
    have hu := progUnq (s.extract 0 n) (by rw [Lib.size_eq, take_data, List.length_take]; omega)
    rw [take_data] at hu
    refine Ev.congr (f := fun k => (lex_quoted.f k s).bind fun t115 => (if 0 ≤ t115 then (if t115 ≤ (s.size : Int) then ((runes_Unquote.f k (s.extract 0 (t115 : Int).toNat)).bind fun bt116 => (if bt116.2 = true then (if t115 < (s.size : Int) then ((lex_blank.f (bt s t115)).bind fun t118 => (if t118 = true then ((box_OfText.f bt116.1).bind fun t119 => (some (t119, t115))) else (some (Wd.nil, 0)))) else ((box_OfText.f bt116.1).bind fun t120 => (some (t120, t115)))) else (some (Wd.nil, 0)))) else (none)) else (none))) (fun k => by rw [lex_word.f, if_pos (by omega), hb0, if_pos (by omega)]) ?_
    refine Ev.bind hquo ?_
    refine Ev.congr (f := fun k => (runes_Unquote.f k (s.extract 0 n)).bind fun bt116 => (if bt116.2 = true then (if (n : Int) < (s.size : Int) then ((lex_blank.f (bt s (n : Int))).bind fun t118 => (if t118 = true then ((box_OfText.f bt116.1).bind fun t119 => (some (t119, (n : Int)))) else (some (Wd.nil, 0)))) else ((box_OfText.f bt116.1).bind fun t120 => (some (t120, (n : Int))))) else (some (Wd.nil, 0)))) (fun k => by rw [if_pos (by omega), if_pos (by omega), Int.toNat_natCast]) ?_
    refine Ev.bind hu ?_
    unfold wordR
    rw [hn]
    have hw : wordOf validB (s.data.toList.take n) = (unquote validB (s.data.toList.take n)).map fun t => Wd.text ⟨t.toArray⟩ := by
      by_cases hz : n = 0
      · rw [hz, List.take_zero]; rfl
      · refine wordOf_q _ ?_
        rw [hl, head_take, if_neg hz, UInt8.toNat_inj.1 (show c.toNat = (34 : UInt8).toNat from hq)]
    rw [hw]
    cases hun : unquote validB (s.data.toList.take n) with
    | none => exact Ev.congr (fun k => rfl) (Ev.now (Wd.nil, (0 : Int)))
    | some u =>
      simp only [resQ, if_true, Option.map_some]
      by_cases hnl : n < s.size
      · have hbn := hbtok n hnl
        have hdr : s.data.toList.drop n = (s.data.toList[n]?.getD 0) :: s.data.toList.drop (n + 1) := by
          rw [List.drop_eq_getElem_cons (by omega), List.getElem?_eq_getElem (by omega)]; rfl
        have hnx : nextOk s.data.toList n = isBl (s.data.toList[n]?.getD 0) := by unfold nextOk; rw [hdr]
        rw [hnx]
        refine Ev.congr (f := fun _ => some (if isBl (s.data.toList[n]?.getD 0) = true then (Wd.text ⟨u.toArray⟩, (n : Int)) else (Wd.nil, 0))) (fun k => ?_) (Ev.now _)
        rw [if_pos (by omega), hbn, blank_f, Option.bind_some]
        cases isBl (s.data.toList[n]?.getD 0) <;> rfl
      · have hnx : nextOk s.data.toList n = true := by unfold nextOk; rw [List.drop_of_length_le (by omega)]
        rw [hnx]
        refine Ev.congr (f := fun _ => some (Wd.text ⟨u.toArray⟩, (n : Int))) (fun k => ?_) (Ev.now _)
        rw [if_neg (by omega)]; rfl
  · -- a number, or a name
    have htl := tokLen_b c t hq
    have hbare : Ev (fun k => lex_bare.f k s) ((tokLen s.data.toList : Nat) : Int) := by
      have := bare_loop s hs _ 0 rfl (by omega)
      rw [List.drop_zero, Nat.zero_add] at this
      rw [hl] at this ⊢
      rw [htl]
      exact Ev.congr (fun k => rfl) this
    have hnx : nextOk s.data.toList (tokLen s.data.toList) = true := by rw [hl, htl]; exact nextOk_bare _
    generalize hn : tokLen s.data.toList = n at *
    have hw : wordOf validB (s.data.toList.take n) = if isNum (s.data.toList.take n) = true then some (Wd.num (numVal (s.data.toList.take n))) else if isName (s.data.toList.take n) = true then some (Wd.name ⟨(s.data.toList.take n).toArray⟩) else none := by
      refine wordOf_b _ ?_
      rw [hl, head_take]
      split
      · simp
      · intro e; exact hq (by rw [Option.some.inj e]; rfl)
    refine Ev.congr (f := fun k => (lex_bare.f k s).bind fun t121 => (if 0 ≤ t121 then (if t121 ≤ (s.size : Int) then ((lex_Number.f (s.extract 0 (t121 : Int).toNat)).bind fun bt122 => (if bt122.2 = true then ((box_OfNumber.f bt122.1).bind fun t124 => (some (t124, t121))) else ((lex_Name.f (s.extract 0 (t121 : Int).toNat)).bind fun t125 => (if t125 = true then ((box_OfName.f (s.extract 0 (t121 : Int).toNat)).bind fun t126 => (some (t126, t121))) else (some (Wd.nil, 0)))))) else (none)) else (none))) (fun k => by rw [lex_word.f, if_pos (by omega), hb0, if_neg (by omega)]) ?_
    refine Ev.bind hbare ?_
    unfold wordR
    rw [hn, hw, hnx]
    refine Ev.congr (f := fun _ => some _) (fun k => ?_) (Ev.now _)
    rw [if_pos (by omega), if_pos (by omega), Int.toNat_natCast]
    unfold lex_Number.f lex_Name.f box_OfNumber.f box_OfName.f
    rw [take_data]
    simp only [Option.bind_some]
    cases h1 : isNum (s.data.toList.take n) with
    | true =>
      have : numV (s.data.toList.take n) = numVal (s.data.toList.take n) := by unfold numV; rw [h1]; rfl
      rw [this]; rfl
    | false =>
      cases h2 : isName (s.data.toList.take n) with
      | true => rw [take_eta]; rfl
      | false => rfl

/-! ### the document's word -/

def boxR : Wd → S69
  | .nil => ⟨0, 0, ⟨#[]⟩⟩
  | .num n => ⟨1, n, ⟨#[]⟩⟩
  | .name s => ⟨2, 0, s⟩
  | .text s => ⟨3, 0, s⟩
def refWordR (l : List UInt8) : Int × Int × ByteArray × Bool :=
  if l.head? = some 34 then (3, 0, (resQ (unquote validB l)).1, (resQ (unquote validB l)).2)
  else if isNum l = true then (1, numVal l, ⟨#[]⟩, true) else (2, 0, ⟨l.toArray⟩, isName l)
theorem refWordR_eq (l : List UInt8) : match wordOf validB l with
    | none => (refWordR l).2.2.2 = false
    | some b => (refWordR l).2.2.2 = true ∧ (⟨(refWordR l).1, (refWordR l).2.1, (refWordR l).2.2.1⟩ : S69) = boxR b := by
  unfold wordOf refWordR
  by_cases h : l.head? = some 34
  · rw [if_pos h, if_pos h]
    cases unquote validB l with
    | none => rfl
    | some t => exact ⟨rfl, rfl⟩
  · rw [if_neg h, if_neg h]
    cases h1 : isNum l with
    | true => exact ⟨rfl, rfl⟩
    | false =>
      cases h2 : isName l with
      | true => exact ⟨rfl, rfl⟩
      | false => rfl

theorem refword_ev (s : ByteArray) (hs : s.size ≤ 1000000) : Ev (fun k => rundleref03_word.f k s) (refWordR s.data.toList) := by
  have hsz : s.data.toList.length = s.size := (Lib.size_eq s).symm
  have hfalse : s.data.toList.head? ≠ some 34 → Ev (fun k => rundleref03_word.j0 k s false) (refWordR s.data.toList) := by
    intro hne
    unfold refWordR
    rw [if_neg hne]
    refine Ev.step (fun k => by rw [rundleref03_word.j0, if_neg (by simp)]) (Ev.bind (refNum s hs) ?_)
    cases h1 : isNum s.data.toList with
    | true =>
      have : numV s.data.toList = numVal s.data.toList := by unfold numV; rw [h1]; rfl
      rw [this]
      exact Ev.congr (fun k => rfl) (Ev.now _)
    | false =>
      refine Ev.congr (f := fun k => (rundleref03_Name.f k s).bind fun t172 => (some ((2 : Int), (0 : Int), s, t172))) (fun k => rfl) (Ev.bind (refName s hs) ?_)
      rw [ba_eta]
      exact Ev.congr (fun k => rfl) (Ev.now _)
  by_cases h0 : 0 < s.size
  · have hb0 : bt s 0 = ((s.data.toList[0]'(by omega)).toNat : Int) := bt_nat s 0 (by omega)
    have hhd : s.data.toList.head? = some (s.data.toList[0]'(by omega)) := by rw [List.head?_eq_getElem?, List.getElem?_eq_getElem (by omega)]
    by_cases hq : (s.data.toList[0]'(by omega)).toNat = 34
    · have hh : s.data.toList.head? = some 34 := by rw [hhd, UInt8.toNat_inj.1 (show (s.data.toList[0]'(by omega)).toNat = (34 : UInt8).toNat from hq)]
      refine Ev.congr (f := fun k => rundleref03_word.j0 k s true) (fun k => by rw [rundleref03_word.f, if_pos (by omega), if_pos (by omega), beq_iff_eq.2 (by omega)]) ?_
      unfold refWordR
      rw [if_pos hh]
      refine Ev.step (fun k => by rw [rundleref03_word.j0, if_pos rfl]) (Ev.bind (refUnq s hs) ?_)
      exact Ev.congr (fun k => rfl) (Ev.now _)
    · refine Ev.congr (f := fun k => rundleref03_word.j0 k s false) (fun k => by rw [rundleref03_word.f, if_pos (by omega), if_pos (by omega), beq_eq_false_iff_ne.2 (by omega)]) (hfalse ?_)
      rw [hhd]; intro e; exact hq (by rw [Option.some.inj e]; rfl)
  · refine Ev.congr (f := fun k => rundleref03_word.j0 k s false) (fun k => by rw [rundleref03_word.f, if_neg (by omega)]) (hfalse ?_)
    have : s.data.toList = [] := List.length_eq_zero_iff.1 (by omega)
    rw [this]; simp
end Go.Proofs.YthfcgcbolbmdcaaDoor.PR
