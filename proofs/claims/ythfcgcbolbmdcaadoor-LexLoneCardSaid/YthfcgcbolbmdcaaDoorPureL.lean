/- The words of a line, the lines of a text: the program's and the document's are the plain ones; LexLines answers true. -/
import Derived.Test.YthfcgcbolbmdcaaDoorPRx12
import Derived.Test.YthfcgcbolbmdcaaDoorPureW
namespace Go.Proofs.YthfcgcbolbmdcaaDoor.PR
open Go Go.Proofs Go.RowKit Go.Proofs.YthfcgcbolbmdcaaDoorW.PrintWords Go.Proofs.YthfcgcbolbmdcaaDoorW.PrintLast Go.Proofs.YthfcgcbolbmdcaaDoorW.PrintMore Go.Proofs.YthfcgcbolbmdcaaDoor.Lx
set_option linter.unusedVariables false
set_option linter.unusedSimpArgs false

theorem trim_f (s : ByteArray) : strings_TrimLeft.f s ⟨#[32, 9]⟩ = some ⟨(s.data.toList.dropWhile isBl).toArray⟩ := by
  unfold strings_TrimLeft.f
  rw [if_pos (by decide)]
  have : (fun c : UInt8 => (⟨#[32, 9]⟩ : ByteArray).data.toList.contains c) = isBl := by
    funext c
    show ([32, 9] : List UInt8).contains c = isBl c
    have e : ∀ y : UInt8, (c == y) = decide (c.toNat = y.toNat) := fun y => by
      rw [Bool.eq_iff_iff, beq_iff_eq, decide_eq_true_eq]
      exact ⟨fun h => by rw [h], fun h => UInt8.toNat_inj.1 h⟩
    simp only [List.contains_cons, List.contains_nil, Bool.or_false]
    rw [e, e]
    rfl
  unfold Lib.trimLeftS
  rw [this]

def resW (acc : List S42) : Option (List Wd) → List S42 × Bool
  | none => ([], false)
  | some ws => (acc ++ ws.map S42.mk, true)
def resR (acc : List S69) : Option (List Wd) → List S69 × Bool
  | none => ([], false)
  | some ws => (acc ++ ws.map boxR, true)
theorem resW_cons (acc : List S42) (b : Wd) (o : Option (List Wd)) : resW acc (o.map (b :: ·)) = resW (acc ++ [⟨b⟩]) o := by cases o <;> simp [resW]
theorem resR_cons (acc : List S69) (b : Wd) (o : Option (List Wd)) : resR acc (o.map (b :: ·)) = resR (acc ++ [boxR b]) o := by cases o <;> simp [resR]

theorem tok_pos (l : List UInt8) (b : Wd) (h : wordOf validB (l.take (tokLen l)) = some b) : 1 ≤ tokLen l := by
  by_cases hz : tokLen l = 0
  · rw [hz, List.take_zero, wordOf_nil] at h; cases h
  · omega

theorem wordsF_stop {m : Nat} {l : List UInt8} (h : l.dropWhile isBl = []) : wordsF validB (m + 1) l = some [] := by rw [wordsF, h]
theorem wordsF_hash {m : Nat} {l : List UInt8} {c : UInt8} {t : List UInt8} (h : l.dropWhile isBl = c :: t) (hc : c.toNat = 35) : wordsF validB (m + 1) l = some [] := by rw [wordsF, h]; simp only [if_pos hc]
theorem wordsF_none {m : Nat} {l : List UInt8} {c : UInt8} {t : List UInt8} (h : l.dropWhile isBl = c :: t) (hc : c.toNat ≠ 35) (hw : wordOf validB ((c :: t).take (tokLen (c :: t))) = none) : wordsF validB (m + 1) l = none := by
  rw [wordsF, h]; simp only [if_neg hc, hw]
theorem wordsF_stuck {m : Nat} {l : List UInt8} {c : UInt8} {t : List UInt8} {b : Wd} (h : l.dropWhile isBl = c :: t) (hc : c.toNat ≠ 35) (hw : wordOf validB ((c :: t).take (tokLen (c :: t))) = some b) (hn : nextOk (c :: t) (tokLen (c :: t)) = false) : wordsF validB (m + 1) l = none := by
  rw [wordsF, h]; simp only [if_neg hc, hw, hn]; simp
theorem wordsF_go {m : Nat} {l : List UInt8} {c : UInt8} {t : List UInt8} {b : Wd} (h : l.dropWhile isBl = c :: t) (hc : c.toNat ≠ 35) (hw : wordOf validB ((c :: t).take (tokLen (c :: t))) = some b) (hn : nextOk (c :: t) (tokLen (c :: t)) = true) : wordsF validB (m + 1) l = (wordsF validB m ((c :: t).drop (tokLen (c :: t)))).map (b :: ·) := by
  rw [wordsF, h]; simp only [if_neg hc, hw, hn, if_true]

theorem dropWhile_len (p : UInt8 → Bool) : ∀ l : List UInt8, (l.dropWhile p).length ≤ l.length
  | [] => Nat.le_refl _
  | c :: t => by
    rw [List.dropWhile_cons]
    split
    · exact Nat.le_succ_of_le (dropWhile_len p t)
    · exact Nat.le_refl _

set_option maxHeartbeats 2000000 in
theorem words_loop : ∀ (m : Nat) (s : ByteArray) (acc : List S42), s.size < m → acc.length + s.size ≤ 1000000 → Ev (fun k => lex_words.l0 k s acc) (resW acc (wordsF validB m s.data.toList))
  | 0, s, acc, h, _ => by omega
  | m + 1, s, acc, h, hb => by
    have hsz : s.data.toList.length = s.size := (Lib.size_eq s).symm
    have hdl := dropWhile_len isBl s.data.toList
    have stop : ∀ T : ByteArray, Ev (fun k => lex_words.j1 k T acc true) (acc, true) := fun T =>
      Ev.step (f := fun _ => some (acc, true)) (fun k => by rw [lex_words.j1, if_pos rfl]) (Ev.now _)
    have hstop : resW acc (some []) = (acc, true) := by simp [resW]
    cases hd : s.data.toList.dropWhile isBl with
    | nil =>
      rw [wordsF_stop hd, hstop]
      refine Ev.step (f := fun k => lex_words.j1 k ⟨[].toArray⟩ acc true) (fun k => ?_) (stop _)
      rw [lex_words.l0, trim_f, hd, Option.bind_some, if_pos (by simp [Lib.toList_data])]
    | cons c t =>
      obtain ⟨T, hT⟩ : ∃ T : ByteArray, T = ⟨(c :: t).toArray⟩ := ⟨_, rfl⟩
      have hTd : T.data.toList = c :: t := by rw [hT]
      have hTs : T.size = t.length + 1 := by rw [Lib.size_eq, hTd]; rfl
      rw [hd] at hdl
      simp only [List.length_cons] at hdl
      have hb0 : bt T 0 = (c.toNat : Int) := by
        have := bt_nat T 0 (by rw [hTd]; simp)
        simp only [hTd, List.getElem_cons_zero] at this
        exact this
      have hstep : ∀ k, lex_words.l0 (k + 1) s acc = lex_words.j1 k T acc ((c.toNat : Int) == 35) := by
        intro k
        rw [lex_words.l0, trim_f, hd, Option.bind_some, ← hT, if_neg (by rw [Lib.toList_data, hTd]; simp), if_pos (by omega), hb0]
      by_cases hh : c.toNat = 35
      · rw [wordsF_hash hd hh, hstop]
        refine Ev.step (f := fun k => lex_words.j1 k T acc true) (fun k => ?_) (stop _)
        rw [hstep, beq_iff_eq.2 (by omega)]
      refine Ev.step (f := fun k => lex_words.j1 k T acc false) (fun k => by rw [hstep, beq_eq_false_iff_ne.2 (by omega)]) ?_
      have hw := word_ev T (by omega) (by omega)
      rw [hTd] at hw
      refine Ev.step (f := fun k => (lex_word.f k T).bind fun bt128 => (if bt128.2 = 0 then (some (([] : List (S42)), false)) else (if acc.length < 8796093022208 then (if 0 ≤ bt128.2 then (if bt128.2 ≤ (T.size : Int) then (lex_words.l0 k (T.extract (bt128.2 : Int).toNat T.size) (acc ++ [(⟨bt128.1⟩ : S42)])) else (none)) else (none)) else (none)))) (fun k => by rw [lex_words.j1, if_neg (by simp)]) (Ev.bind hw ?_)
      have fail : Ev (fun k => some (([] : List S42), false)) (resW acc none) := Ev.now _
      cases ho : wordOf validB ((c :: t).take (tokLen (c :: t))) with
      | none =>
        rw [wordsF_none hd hh ho]
        have hr : wordR (c :: t) = (Wd.nil, 0) := by unfold wordR; rw [ho]
        refine Ev.congr (fun k => ?_) fail
        rw [hr, if_pos rfl]
      | some b =>
        have hp := tok_pos _ _ ho
        have htl := tokLen_le (c :: t)
        simp only [List.length_cons] at htl
        cases hn : nextOk (c :: t) (tokLen (c :: t)) with
        | false =>
          rw [wordsF_stuck hd hh ho hn]
          have hr : wordR (c :: t) = (Wd.nil, 0) := by unfold wordR; rw [ho, hn]; rfl
          refine Ev.congr (fun k => ?_) fail
          rw [hr, if_pos rfl]
        | true =>
          rw [wordsF_go hd hh ho hn, resW_cons]
          have hr : wordR (c :: t) = (b, (tokLen (c :: t) : Int)) := by unfold wordR; rw [ho, hn]; rfl
          have hXd : (T.extract (tokLen (c :: t)) T.size).data.toList = (c :: t).drop (tokLen (c :: t)) := by rw [Lib.extract_to_end, hTd]
          have hXs : (T.extract (tokLen (c :: t)) T.size).size = t.length + 1 - tokLen (c :: t) := by rw [Lib.size_eq, hXd, List.length_drop]; rfl
          have ih := words_loop m (T.extract (tokLen (c :: t)) T.size) (acc ++ [⟨b⟩]) (by omega) (by simp; omega)
          rw [hXd] at ih
          refine Ev.congr (fun k => ?_) ih
          rw [hr]
          simp only
          rw [if_neg (by omega), if_pos (by omega), if_pos (by omega), if_pos (by omega), Int.toNat_natCast]

theorem words_ev (s : ByteArray) (hs : s.size ≤ 900000) : Ev (fun k => lex_words.f k s) (resW [] (wordsL validB s.data.toList)) := by
  have := words_loop (s.size + 1) s [] (by omega) (by simp; omega)
  unfold wordsL
  rw [← Lib.size_eq]
  exact Ev.congr (fun k => rfl) this

/-! ### the document's words -/

theorem dropWhile_blank {c : UInt8} (t : List UInt8) (h : isBl c = true) : (c :: t).dropWhile isBl = t.dropWhile isBl := by rw [List.dropWhile_cons, h]; rfl
theorem wordsF_blank (m : Nat) {c : UInt8} (t : List UInt8) (h : isBl c = true) : wordsF validB m (c :: t) = wordsF validB m t := by
  cases m with
  | zero => rfl
  | succ m => rw [wordsF, wordsF, dropWhile_blank t h]
theorem dropWhile_word {c : UInt8} (t : List UInt8) (h : isBl c = false) : (c :: t).dropWhile isBl = c :: t := by rw [List.dropWhile_cons, h]; rfl

theorem refend_ev (s : ByteArray) (hs : s.size ≤ 1000000) (i : Nat) (hi : i < s.data.toList.length) :
    Ev (fun k => rundleref03_end.f k s (i : Int)) ((i + tokLen (s.data.toList.drop i) : Nat) : Int) := by
  have hsz : s.data.toList.length = s.size := (Lib.size_eq s).symm
  have hb := bt_nat s i hi
  have hdr := List.drop_eq_getElem_cons hi
  by_cases hq : (s.data.toList[i]'hi).toNat = 34
  · have hl := refend_quote s (i : Int) hs _ (i + 1) rfl (by omega)
    rw [hdr, tokLen_q _ _ hq]
    refine Ev.congr (f := fun k => rundleref03_end.l1 k s (i : Int) ((i + 1 : Nat) : Int)) (fun k => by rw [rundleref03_end.f, if_pos (by omega), if_pos (by omega), hb, if_pos (by omega), w64_1 i (by omega)]) ?_
    cases hqq : qendL (s.data.toList.drop (i + 1)) with
    | none => rw [hqq] at hl; exact hl
    | some n =>
      rw [hqq] at hl
      have e : ((i + (n + 1) : Nat) : Int) = ((i + 1 + n : Nat) : Int) := by congr 1; omega
      show Ev _ ((i + (n + 1) : Nat) : Int)
      rw [e]
      exact hl
  · have hl := refend_bare s hs _ i rfl (by omega)
    rw [hdr] at hl ⊢
    rw [tokLen_b _ _ hq]
    refine Ev.congr (fun k => ?_) hl
    rw [rundleref03_end.f, if_pos (by omega), if_pos (by omega), hb, if_neg (by omega)]

set_option maxHeartbeats 2000000 in
theorem refwords_loop (s : ByteArray) (hs : s.size ≤ 500000) : ∀ (d i m : Nat) (acc : List S69), s.data.toList.length - i = d → i ≤ s.data.toList.length → d < m → acc.length ≤ i →
    Ev (fun k => rundleref03_words.l0 k s acc (i : Int)) (resR acc (wordsF validB m (s.data.toList.drop i))) := by
  intro d
  induction d using Nat.strongRecOn with
  | ind d ih =>
  intro i m acc hd hi hm hacc
  have hsz : s.data.toList.length = s.size := (Lib.size_eq s).symm
  obtain ⟨m, rfl⟩ : ∃ j, m = j + 1 := ⟨m - 1, by omega⟩
  have hstop : resR acc (some []) = (acc, true) := by simp [resR]
  by_cases hlt : i < s.data.toList.length
  case neg =>
    rw [List.drop_of_length_le (by omega), wordsF_stop rfl, hstop]
    exact Ev.step (f := fun _ => some (acc, true)) (fun k => by rw [rundleref03_words.l0, if_neg (by omega)]) (Ev.now _)
  have hb := bt_nat s i hlt
  have hend := refend_ev s (by omega) i hlt
  have htl := tokLen_le (s.data.toList.drop i)
  rw [List.length_drop] at htl
  have hdr := List.drop_eq_getElem_cons hlt
  generalize hc : s.data.toList[i]'hlt = c at *
  have hstep : ∀ k, rundleref03_words.l0 (k + 1) s acc (i : Int) = if isBl c = true then rundleref03_words.l0 k s acc ((i + 1 : Nat) : Int) else (if (c.toNat : Int) = 35 then (some (acc, true)) else ((rundleref03_end.f k s (i : Int)).bind fun t174 => (if (i : Int) ≤ t174 then (if t174 ≤ (s.size : Int) then ((rundleref03_word.f k (s.extract (i : Int).toNat (t174 : Int).toNat)).bind fun bt175 => (if bt175.2.2.2 = true then (if t174 < (s.size : Int) then (if 0 ≤ t174 then ((rundleref03_blank.f (bt s t174)).bind fun t180 => (if t180 = true then (if acc.length < 4398046511104 then (rundleref03_words.l0 k s (acc ++ [(⟨bt175.1, bt175.2.1, bt175.2.2.1⟩ : S69)]) t174) else (none)) else (some (([] : List (S69)), false)))) else (none)) else (if acc.length < 4398046511104 then (rundleref03_words.l0 k s (acc ++ [(⟨bt175.1, bt175.2.1, bt175.2.2.1⟩ : S69)]) t174) else (none))) else (some (([] : List (S69)), false)))) else (none)) else (none)))) := by
    intro k
    rw [rundleref03_words.l0, if_pos (by omega), if_pos (by omega), hb, refblank_f, Option.bind_some, w64_1 i (by omega)]
  cases hbl : isBl c with
  | true =>
    rw [hdr, wordsF_blank _ _ hbl]
    refine Ev.step (fun k => ?_) (ih (s.data.toList.length - (i + 1)) (by omega) (i + 1) (m + 1) acc rfl (by omega) (by omega) (by omega))
    rw [hstep, if_pos hbl]
  | false =>
    rw [hdr] at hend htl ⊢
    have hdw := dropWhile_word (s.data.toList.drop (i + 1)) hbl
    by_cases hh : c.toNat = 35
    · rw [wordsF_hash hdw hh, hstop]
      exact Ev.step (f := fun _ => some (acc, true)) (fun k => by rw [hstep, if_neg (by simp [hbl]), if_pos (by omega)]) (Ev.now _)
    refine Ev.step (fun k => by rw [hstep, if_neg (by simp [hbl]), if_neg (by omega)]) (Ev.bind hend ?_)
    generalize hn : tokLen (c :: s.data.toList.drop (i + 1)) = n at *
    have hXd : (s.extract i (i + n)).data.toList = (c :: s.data.toList.drop (i + 1)).take n := by rw [Lib.extract_data, hdr]; congr 1; omega
    have hXs : (s.extract i (i + n)).size ≤ 1000000 := by rw [Lib.size_eq, hXd, List.length_take]; omega
    have hw := refword_ev (s.extract i (i + n)) hXs
    rw [hXd] at hw
    have hcast : ((i + n : Nat) : Int) = (i : Int) + (n : Int) := by omega
    refine Ev.congr (f := fun k => (rundleref03_word.f k (s.extract i (i + n))).bind fun bt175 => (if bt175.2.2.2 = true then (if ((i + n : Nat) : Int) < (s.size : Int) then ((rundleref03_blank.f (bt s ((i + n : Nat) : Int))).bind fun t180 => (if t180 = true then (rundleref03_words.l0 k s (acc ++ [(⟨bt175.1, bt175.2.1, bt175.2.2.1⟩ : S69)]) ((i + n : Nat) : Int)) else (some (([] : List (S69)), false)))) else (rundleref03_words.l0 k s (acc ++ [(⟨bt175.1, bt175.2.1, bt175.2.2.1⟩ : S69)]) ((i + n : Nat) : Int))) else (some (([] : List (S69)), false)))) (fun k => ?_) (Ev.bind hw ?_)
    · rw [if_pos (by omega), if_pos (by omega), Int.toNat_natCast, Int.toNat_natCast]
      congr 1
      funext bt175
      rw [if_pos (show (0 : Int) ≤ ((i + n : Nat) : Int) by omega), if_pos (show acc.length < 4398046511104 by omega)]
    have hre := refWordR_eq ((c :: s.data.toList.drop (i + 1)).take n)
    have fail : Ev (fun k => some (([] : List S69), false)) (resR acc none) := Ev.now _
    cases ho : wordOf validB ((c :: s.data.toList.drop (i + 1)).take n) with
    | none =>
      rw [ho] at hre
      rw [wordsF_none hdw hh (by rw [hn]; exact ho)]
      refine Ev.congr (fun k => ?_) fail
      rw [hre, if_neg (by simp)]
    | some b =>
      rw [ho] at hre
      obtain ⟨hre1, hre2⟩ := hre
      have hp : 1 ≤ n := by have := tok_pos (c :: s.data.toList.drop (i + 1)) b (by rw [hn]; exact ho); omega
      have hdrop : (c :: s.data.toList.drop (i + 1)).drop n = s.data.toList.drop (i + n) := by rw [← hdr, List.drop_drop]
      have go : Ev (fun k => rundleref03_words.l0 k s (acc ++ [boxR b]) ((i + n : Nat) : Int)) (resR (acc ++ [boxR b]) (wordsF validB m (s.data.toList.drop (i + n)))) :=
        ih (s.data.toList.length - (i + n)) (by omega) (i + n) m _ rfl (by omega) (by omega) (by simp; omega)
      by_cases hlt2 : i + n < s.data.toList.length
      · have hb2 := bt_nat s (i + n) hlt2
        have hnx : nextOk (c :: s.data.toList.drop (i + 1)) n = isBl (s.data.toList[i + n]'hlt2) := by
          unfold nextOk
          rw [hdrop, List.drop_eq_getElem_cons hlt2]
        cases hn2 : isBl (s.data.toList[i + n]'hlt2) with
        | false =>
          rw [wordsF_stuck hdw hh (by rw [hn]; exact ho) (by rw [hn, hnx, hn2])]
          refine Ev.congr (fun k => ?_) fail
          rw [hre1, if_pos rfl, if_pos (by omega), hb2, refblank_f, Option.bind_some, hn2, if_neg (by simp)]
        | true =>
          rw [wordsF_go hdw hh (by rw [hn]; exact ho) (by rw [hn, hnx, hn2]), resR_cons, hn, hdrop]
          refine Ev.congr (fun k => ?_) go
          rw [hre1, if_pos rfl, if_pos (by omega), hb2, refblank_f, Option.bind_some, hn2, if_pos rfl, hre2]
      · have hnx : nextOk (c :: s.data.toList.drop (i + 1)) n = true := by
          unfold nextOk
          rw [hdrop, List.drop_of_length_le (by omega)]
        rw [wordsF_go hdw hh (by rw [hn]; exact ho) (by rw [hn, hnx]), resR_cons, hn, hdrop]
        refine Ev.congr (fun k => ?_) go
        rw [hre1, if_pos rfl, if_neg (by omega), hre2]

theorem refwords_ev (s : ByteArray) (hs : s.size ≤ 500000) : Ev (fun k => rundleref03_words.f k s) (resR [] (wordsL validB s.data.toList)) := by
  have := refwords_loop s hs _ 0 (s.data.toList.length + 1) [] rfl (by omega) (by omega) (by simp)
  rw [List.drop_zero] at this
  unfold wordsL
  exact Ev.congr (fun k => rfl) this
end Go.Proofs.YthfcgcbolbmdcaaDoor.PR
