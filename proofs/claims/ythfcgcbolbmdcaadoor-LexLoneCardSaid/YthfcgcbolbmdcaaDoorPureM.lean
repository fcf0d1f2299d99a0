/- The lines of a text: the program's and the document's are the plain ones; LexLines answers true. -/
import Derived.Test.YthfcgcbolbmdcaaDoorPureL
import Derived.Test.YthfcgcbolbmdcaaDoorPRx11
import Derived.Test.YthfcgcbolbmdcaaDoorPRx12
namespace Go.Proofs.YthfcgcbolbmdcaaDoor.PR
open Go Go.Proofs Go.RowKit Go.Proofs.YthfcgcbolbmdcaaDoorW.PrintWords Go.Proofs.YthfcgcbolbmdcaaDoorW.PrintLast Go.Proofs.YthfcgcbolbmdcaaDoorW.PrintMore Go.Proofs.YthfcgcbolbmdcaaDoor.Lx
set_option linter.unusedVariables false
set_option linter.unusedSimpArgs false

/-! ### cutting a text into lines -/

theorem indexByte_line : ∀ (a b : List UInt8), (∀ c ∈ a, c.toNat ≠ 10) → Lib.indexByte (a ++ 10 :: b) 10 = (a.length : Int)
  | [], b, _ => rfl
  | c :: a, b, h => by
    have hc : (c == (10 : UInt8)) = false := by
      rw [beq_eq_false_iff_ne]
      intro e
      exact h c (by simp) (by rw [e]; rfl)
    have ih := indexByte_line a b (fun x hx => h x (by simp [hx]))
    rw [List.cons_append, Lib.indexByte, hc, ih]
    have : (((a.length : Int)) == -1) = false := by rw [beq_eq_false_iff_ne]; omega
    rw [this]
    simp

theorem line_split (l : List UInt8) : (∀ c ∈ l, c.toNat ≠ 10) ∨ ∃ a b, l = a ++ 10 :: b ∧ ∀ c ∈ a, c.toNat ≠ 10 := by
  induction l with
  | nil => exact .inl (by simp)
  | cons c t ih =>
    by_cases hc : c.toNat = 10
    · have : c = 10 := UInt8.toNat_inj.1 hc
      exact .inr ⟨[], t, by rw [this]; rfl, by simp⟩
    · rcases ih with h | ⟨a, b, rfl, h⟩
      · exact .inl (fun x hx => by rcases List.mem_cons.1 hx with rfl | hx; exact hc; exact h x hx)
      · exact .inr ⟨c :: a, b, rfl, fun x hx => by rcases List.mem_cons.1 hx with rfl | hx; exact hc; exact h x hx⟩

theorem count_none (l : List UInt8) (h : ∀ c ∈ l, c.toNat ≠ 10) : l.count 10 = 0 := by
  rw [List.count_eq_zero]
  intro hm
  exact h _ hm rfl

theorem splitK_NL : ∀ (n : Nat) (l : List UInt8), l.length ≤ n → Lib.splitK [10] 0 (l.count 10) l = splitNL l
  | 0, l, h => by
    have : l = [] := List.length_eq_zero_iff.1 (by omega)
    subst this; rfl
  | n + 1, l, h => by
    rcases line_split l with hn | ⟨a, b, rfl, ha⟩
    · rw [count_none l hn, splitNL_last l hn]; rfl
    · have hcnt : (a ++ 10 :: b).count 10 = b.count 10 + 1 := by
        rw [List.count_append, count_none a ha, List.count_cons_self, Nat.zero_add]
      rw [hcnt, splitNL_line a b ha, Lib.splitK, index_one, indexByte_line a b ha]
      have hne : (((a.length : Int)) == -1) = false := by rw [beq_eq_false_iff_ne]; omega
      rw [hne]
      simp only [Bool.false_eq_true, if_false, Int.toNat_natCast, Nat.add_zero, List.length_cons, List.length_nil, Nat.zero_add]
      rw [List.take_left, show a.length + 1 = (a ++ [10]).length by simp, show a ++ 10 :: b = (a ++ [10]) ++ b by simp, List.drop_left]
      rw [splitK_NL n b (by simp at h; omega)]

theorem split_f (s : ByteArray) (hs : s.size ≤ 500000) : ∃ ls : List ByteArray, strings_Split.f s ⟨#[10]⟩ = some ls ∧ ls.map (·.data.toList) = splitNL s.data.toList := by
  refine ⟨Lib.splitB ⟨#[10]⟩ 0 (Lib.countB s ⟨#[10]⟩) s, ?_, ?_⟩
  · unfold strings_Split.f
    rw [if_pos ⟨by omega, rfl⟩]
  · rw [Lib.splitB_data]
    have : Lib.countB s ⟨#[10]⟩ = s.data.toList.count 10 := by
      show Lib.count s.data.toList [10] = _
      rw [Lib.count_one]
    rw [this]
    exact splitK_NL _ _ (Nat.le_refl _)

theorem splitNL_len : ∀ (n : Nat) (l : List UInt8), l.length ≤ n → (splitNL l).length ≤ l.length + 1 ∧ ∀ x ∈ splitNL l, x.length ≤ l.length
  | 0, l, h => by
    have : l = [] := List.length_eq_zero_iff.1 (by omega)
    subst this; simp [splitNL]
  | n + 1, l, h => by
    rcases line_split l with hn | ⟨a, b, rfl, ha⟩
    · rw [splitNL_last l hn]; simp
    · rw [splitNL_line a b ha]
      have ih := splitNL_len n b (by simp at h; omega)
      constructor
      · simp; omega
      · intro x hx
        rcases List.mem_cons.1 hx with rfl | hx
        · simp
        · have := ih.2 x hx
          simp; omega

/-! ### the program's lines -/

def toP (p : Int × List Wd) : S35 := ⟨p.1, p.2.map S42.mk⟩
def toR (p : Int × List Wd) : S38 := ⟨p.1, p.2.map boxR⟩
def resP (r : List (Int × List Wd) × Int × Int) : List S35 × Int × Int := (r.1.map toP, r.2.1, r.2.2)
def resD (r : List (Int × List Wd) × Int × Int) : List S38 × Int × Int := (r.1.map toR, r.2.1, r.2.2)

theorem linesS_nil (no : Int) (acc : List (Int × List Wd)) : linesS validB [] no acc = (acc, 0, 0) := rfl
theorem linesS_bad {l : List UInt8} (r : List (List UInt8)) (no : Int) (acc : List (Int × List Wd)) (h : wordsL validB l = none) : linesS validB (l :: r) no acc = ([], no, 7) := by rw [linesS, h]
theorem linesS_some {l : List UInt8} {ws : List Wd} (r : List (List UInt8)) (no : Int) (acc : List (Int × List Wd)) (h : wordsL validB l = some ws) :
    linesS validB (l :: r) no acc = linesS validB r (no + 1) (if 0 < ws.length then acc ++ [(no, ws)] else acc) := by
  rw [linesS, h]; simp only; split <;> rfl

theorem lines_loop (ls : List ByteArray) (hn : ls.length ≤ 500001) (hl : ∀ x ∈ ls, x.size ≤ 500000) : ∀ (d i : Nat) (acc : List (Int × List Wd)), ls.length - i = d → i ≤ ls.length → acc.length ≤ i →
    Ev (fun k => lex_Lines.l0 k (acc.map toP) ls (ls.length : Int) (i : Int)) (resP (linesS validB ((ls.drop i).map (·.data.toList)) ((i + 1 : Nat) : Int) acc))
  | 0, i, acc, hd, hi, ha => by
    rw [List.drop_of_length_le (by omega), List.map_nil, linesS_nil]
    exact Ev.step (f := fun _ => some (acc.map toP, 0, 0)) (fun k => by rw [lex_Lines.l0, if_neg (by omega)]) (Ev.now _)
  | d + 1, i, acc, hd, hi, ha => by
    have hlt : i < ls.length := by omega
    have hw := words_ev (ls[i]'hlt) (by have := hl _ (List.getElem_mem hlt); omega)
    have hrd : rdOf ByteArray.empty ls (i : Int) = ls[i]'hlt := by unfold rdOf; rw [Int.toNat_natCast]; simp [hlt]
    rw [List.drop_eq_getElem_cons hlt, List.map_cons]
    refine Ev.step (f := fun k => (lex_words.f k (ls[i]'hlt)).bind fun bt138 => (if bt138.2 = true then (if (bt138.1.length : Int) > 0 then (lex_Lines.l0 k (acc.map toP ++ [(⟨((i + 1 : Nat) : Int), bt138.1⟩ : S35)]) ls (ls.length : Int) ((i + 1 : Nat) : Int)) else (lex_Lines.l0 k (acc.map toP) ls (ls.length : Int) ((i + 1 : Nat) : Int))) else (some (([] : List (S35)), ((i + 1 : Nat) : Int), 7)))) (fun k => ?_) (Ev.bind hw ?_)
    · rw [lex_Lines.l0, if_pos (by omega), if_pos (by omega), if_pos (by omega), hrd, w64_1 i (by omega)]
      congr 1
      funext r
      rw [if_pos (show (acc.map toP).length < 4398046511104 by rw [List.length_map]; omega)]
    cases ho : wordsL validB (ls[i]'hlt).data.toList with
    | none =>
      rw [linesS_bad _ _ _ ho]
      exact Ev.congr (f := fun _ => some (([] : List S35), ((i + 1 : Nat) : Int), 7)) (fun k => rfl) (Ev.now _)
    | some ws =>
      rw [linesS_some _ _ _ ho]
      have hlen : ((resW [] (some ws)).1.length : Int) = (ws.length : Int) := by simp [resW]
      have hcast : ((i + 1 : Nat) : Int) + 1 = ((i + 1 + 1 : Nat) : Int) := by omega
      by_cases hp : 0 < ws.length
      · rw [if_pos hp, hcast]
        have ih := lines_loop ls hn hl d (i + 1) (acc ++ [(((i + 1 : Nat) : Int), ws)]) (by omega) (by omega) (by simp; omega)
        refine Ev.congr (fun k => ?_) ih
        rw [if_pos (by rfl), if_pos (by rw [hlen]; omega), List.map_append]
        rfl
      · rw [if_neg hp, hcast]
        have ih := lines_loop ls hn hl d (i + 1) acc (by omega) (by omega) (by omega)
        refine Ev.congr (fun k => ?_) ih
        rw [if_pos (by rfl), if_neg (by rw [hlen]; omega)]

theorem lines_ev (s : ByteArray) (hs : s.size ≤ 500000) : Ev (fun k => lex_Lines.f k s) (resP (linesL validB s.data.toList)) := by
  have hsz : s.data.toList.length = s.size := (Lib.size_eq s).symm
  unfold linesL
  rw [hsz]
  by_cases h : 20000 < s.size
  · rw [if_pos h]
    exact Ev.congr (f := fun _ => some (([] : List S35), 0, 1)) (fun k => by rw [lex_Lines.f, if_pos (by omega)]) (Ev.now _)
  · rw [if_neg h]
    obtain ⟨ls, h1, h2⟩ := split_f s hs
    have h3 := splitNL_len _ s.data.toList (Nat.le_refl _)
    rw [← h2] at h3
    have hl : ∀ x ∈ ls, x.size ≤ 500000 := by
      intro x hx
      have := h3.2 _ (List.mem_map_of_mem hx)
      rw [Lib.size_eq]; omega
    have := lines_loop ls (by have := h3.1; rw [List.length_map] at this; omega) hl _ 0 [] rfl (by omega) (by simp)
    rw [List.drop_zero, h2] at this
    refine Ev.congr (fun k => ?_) this
    rw [lex_Lines.f, if_neg (by omega), h1, Option.bind_some]
    rfl

/-! ### the document's lines -/

theorem seg_snoc (l : List UInt8) (f i : Nat) (hf : f ≤ i) (hi : i < l.length) : seg l f (i + 1) = seg l f i ++ [l[i]'hi] := by
  unfold seg
  rw [show i + 1 - f = (i - f) + 1 by omega, List.take_succ_eq_append_getElem (by rw [List.length_drop]; omega), List.getElem_drop]
  congr 2
  congr 1
  omega
theorem drop_seg (l : List UInt8) (f i : Nat) (hf : f ≤ i) (hi : i < l.length) : l.drop f = seg l f i ++ (l[i]'hi) :: l.drop (i + 1) := by
  unfold seg
  rw [← List.drop_eq_getElem_cons hi]
  conv => lhs; rw [← List.take_append_drop (i - f) (l.drop f)]
  rw [List.drop_drop]
  congr 2
  omega

set_option maxHeartbeats 2000000 in
theorem reflines_loop (s : ByteArray) (hs : s.size ≤ 500000) : ∀ (d f i : Nat) (no : Int) (acc : List (Int × List Wd)), s.data.toList.length - i = d → f ≤ i → i ≤ s.data.toList.length → (∀ c ∈ seg s.data.toList f i, c.toNat ≠ 10) → 0 ≤ no → no ≤ i + 1 → acc.length ≤ i →
    Ev (fun k => rundleref03_Lines.l0 k s (acc.map toR) (f : Int) no (i : Int)) (resD (linesS validB (splitNL (s.data.toList.drop f)) no acc)) := by
  intro d
  induction d with
  | zero =>
    intro f i no acc hd hf hi hno h0 h1 ha
    have hsz : s.data.toList.length = s.size := (Lib.size_eq s).symm
    have hi' : i = s.data.toList.length := by omega
    have hdrop : s.data.toList.drop f = seg s.data.toList f i := by rw [hi', seg_full]
    rw [hdrop, splitNL_last _ hno]
    have hXd : (s.extract f i).data.toList = seg s.data.toList f i := by rw [Lib.extract_data]; rfl
    have hw := refwords_ev (s.extract f i) (by rw [Lib.size_eq, hXd]; unfold seg; rw [List.length_take]; omega)
    rw [hXd] at hw
    have hnw : wrap64 (no + 1) = no + 1 := by unfold wrap64; omega
    refine Ev.step (f := fun k => rundleref03_Lines.j1 k s (acc.map toR) (f : Int) no (i : Int) false) (fun k => by rw [rundleref03_Lines.l0, if_pos (by omega), if_neg (by omega)]) ?_
    refine Ev.step (f := fun k => (rundleref03_words.f k (s.extract f i)).bind fun bt187 => (if bt187.2 = true then (if (bt187.1.length : Int) > 0 then (rundleref03_Lines.l0 k s (acc.map toR ++ [(⟨no, bt187.1⟩ : S38)]) ((i + 1 : Nat) : Int) (no + 1) ((i + 1 : Nat) : Int)) else (rundleref03_Lines.l0 k s (acc.map toR) ((i + 1 : Nat) : Int) (no + 1) ((i + 1 : Nat) : Int))) else (some (([] : List (S38)), no, 7)))) (fun k => ?_) (Ev.bind hw ?_)
    · rw [rundleref03_Lines.j1, if_neg (by simp), if_pos (by omega), if_pos (by omega), if_pos (by omega), Int.toNat_natCast, Int.toNat_natCast, hnw, w64_1 i (by omega)]
      congr 1
      funext r
      rw [if_pos (show (acc.map toR).length < 4398046511104 by rw [List.length_map]; omega)]
    have stop : ∀ (acc2 : List (Int × List Wd)) (no2 : Int), Ev (fun k => rundleref03_Lines.l0 k s (acc2.map toR) ((i + 1 : Nat) : Int) no2 ((i + 1 : Nat) : Int)) (acc2.map toR, 0, 0) :=
      fun acc2 no2 => Ev.step (f := fun _ => some (acc2.map toR, 0, 0)) (fun k => by rw [rundleref03_Lines.l0, if_neg (by omega)]) (Ev.now _)
    cases ho : wordsL validB (seg s.data.toList f i) with
    | none =>
      rw [linesS_bad _ _ _ ho]
      exact Ev.congr (f := fun _ => some (([] : List S38), no, 7)) (fun k => rfl) (Ev.now _)
    | some ws =>
      rw [linesS_some _ _ _ ho, linesS_nil]
      have hlen : ((resR [] (some ws)).1.length : Int) = (ws.length : Int) := by simp [resR]
      by_cases hp : 0 < ws.length
      · rw [if_pos hp]
        refine Ev.congr (fun k => ?_) (stop (acc ++ [(no, ws)]) (no + 1))
        rw [if_pos (by rfl), if_pos (by rw [hlen]; omega), List.map_append]
        rfl
      · rw [if_neg hp]
        refine Ev.congr (fun k => ?_) (stop acc (no + 1))
        rw [if_pos (by rfl), if_neg (by rw [hlen]; omega)]
  | succ d ih =>
    intro f i no acc hd hf hi hno h0 h1 ha
    have hsz : s.data.toList.length = s.size := (Lib.size_eq s).symm
    have hlt : i < s.data.toList.length := by omega
    have hb := bt_nat s i hlt
    have hsn := seg_snoc s.data.toList f i hf hlt
    have hds := drop_seg s.data.toList f i hf hlt
    generalize hc : s.data.toList[i]'hlt = c at *
    by_cases h10 : c.toNat = 10
    case neg =>
      have hno2 : ∀ x ∈ seg s.data.toList f (i + 1), x.toNat ≠ 10 := by
        rw [hsn]
        intro x hx
        rcases List.mem_append.1 hx with hx | hx
        · exact hno x hx
        · rw [List.mem_singleton.1 hx]; exact h10
      have := ih f (i + 1) no acc (by omega) (by omega) (by omega) hno2 h0 (by omega) (by omega)
      refine Ev.step (f := fun k => rundleref03_Lines.j1 k s (acc.map toR) (f : Int) no (i : Int) true) (fun k => ?_) (Ev.step (fun k => ?_) this)
      · rw [rundleref03_Lines.l0, if_pos (by omega), if_pos (by omega), if_pos (by omega), hb, bne_iff_ne.2 (by omega)]
      · rw [rundleref03_Lines.j1, if_pos rfl, w64_1 i (by omega)]
    case pos =>
      have hc10 : c = 10 := UInt8.toNat_inj.1 h10
      rw [hds, hc10, splitNL_line _ _ hno]
      have hXd : (s.extract f i).data.toList = seg s.data.toList f i := by rw [Lib.extract_data]; rfl
      have hw := refwords_ev (s.extract f i) (by rw [Lib.size_eq, hXd]; unfold seg; rw [List.length_take]; omega)
      rw [hXd] at hw
      have hnw : wrap64 (no + 1) = no + 1 := by unfold wrap64; omega
      refine Ev.step (f := fun k => rundleref03_Lines.j1 k s (acc.map toR) (f : Int) no (i : Int) false) (fun k => by rw [rundleref03_Lines.l0, if_pos (by omega), if_pos (by omega), if_pos (by omega), hb, bne_eq_false_iff_eq.2 (by omega)]) ?_
      refine Ev.step (f := fun k => (rundleref03_words.f k (s.extract f i)).bind fun bt187 => (if bt187.2 = true then (if (bt187.1.length : Int) > 0 then (rundleref03_Lines.l0 k s (acc.map toR ++ [(⟨no, bt187.1⟩ : S38)]) ((i + 1 : Nat) : Int) (no + 1) ((i + 1 : Nat) : Int)) else (rundleref03_Lines.l0 k s (acc.map toR) ((i + 1 : Nat) : Int) (no + 1) ((i + 1 : Nat) : Int))) else (some (([] : List (S38)), no, 7)))) (fun k => ?_) (Ev.bind hw ?_)
      · rw [rundleref03_Lines.j1, if_neg (by simp), if_pos (by omega), if_pos (by omega), if_pos (by omega), Int.toNat_natCast, Int.toNat_natCast, hnw, w64_1 i (by omega)]
        congr 1
        funext r
        rw [if_pos (show (acc.map toR).length < 4398046511104 by rw [List.length_map]; omega)]
      have hno2 : ∀ x ∈ seg s.data.toList (i + 1) (i + 1), x.toNat ≠ 10 := by rw [seg_nil _ _ _ (Nat.le_refl _)]; simp
      cases ho : wordsL validB (seg s.data.toList f i) with
      | none =>
        rw [linesS_bad _ _ _ ho]
        exact Ev.congr (f := fun _ => some (([] : List S38), no, 7)) (fun k => rfl) (Ev.now _)
      | some ws =>
        rw [linesS_some _ _ _ ho]
        have hlen : ((resR [] (some ws)).1.length : Int) = (ws.length : Int) := by simp [resR]
        by_cases hp : 0 < ws.length
        · rw [if_pos hp]
          have := ih (i + 1) (i + 1) (no + 1) (acc ++ [(no, ws)]) (by omega) (by omega) (by omega) hno2 (by omega) (by omega) (by simp; omega)
          refine Ev.congr (fun k => ?_) this
          rw [if_pos (by rfl), if_pos (by rw [hlen]; omega), List.map_append]
          rfl
        · rw [if_neg hp]
          have := ih (i + 1) (i + 1) (no + 1) acc (by omega) (by omega) (by omega) hno2 (by omega) (by omega) (by omega)
          refine Ev.congr (fun k => ?_) this
          rw [if_pos (by rfl), if_neg (by rw [hlen]; omega)]

theorem reflines_ev (s : ByteArray) (hs : s.size ≤ 500000) : Ev (fun k => rundleref03_Lines.f k s) (resD (linesL validB s.data.toList)) := by
  have hsz : s.data.toList.length = s.size := (Lib.size_eq s).symm
  unfold linesL
  rw [hsz]
  by_cases h : 20000 < s.size
  · rw [if_pos h]
    exact Ev.congr (f := fun _ => some (([] : List S38), 0, 1)) (fun k => by rw [rundleref03_Lines.f, if_pos (by omega)]) (Ev.now _)
  · rw [if_neg h]
    have := reflines_loop s hs _ 0 0 1 [] rfl (by omega) (by omega) (by rw [seg_nil _ _ _ (Nat.le_refl _)]; simp) (by omega) (by omega) (by simp)
    rw [List.drop_zero] at this
    refine Ev.congr (fun k => ?_) this
    rw [rundleref03_Lines.f, if_neg (by omega)]
    rfl

/-! ### the law -/

theorem plain_box (b : Wd) : rundlelaw02_Plain.f b = some ((boxR b).f0, (boxR b).f1, (boxR b).f2) := by
  unfold rundlelaw02_Plain.f
  cases b <;> rfl

theorem rd_map42 (ws : List Wd) (i : Nat) (h : i < ws.length) : (rd_T42 (ws.map S42.mk) (i : Int)).f0 = ws[i]'h := by
  unfold rd_T42
  rw [Int.toNat_natCast]
  simp [h]
theorem rd_map69 (ws : List Wd) (i : Nat) (h : i < ws.length) : rd_T69 (ws.map boxR) (i : Int) = boxR (ws[i]'h) := by
  unfold rd_T69
  rw [Int.toNat_natCast]
  simp [h]
theorem rd_mapP (l : List (Int × List Wd)) (i : Nat) (h : i < l.length) : rd_T35 (l.map toP) (i : Int) = toP (l[i]'h) := by
  unfold rd_T35
  rw [Int.toNat_natCast]
  simp [h]
theorem rd_mapR (l : List (Int × List Wd)) (i : Nat) (h : i < l.length) : rd_T38 (l.map toR) (i : Int) = toR (l[i]'h) := by
  unfold rd_T38
  rw [Int.toNat_natCast]
  simp [h]

theorem same_loop (ws : List Wd) (hw : ws.length ≤ 1000000) : ∀ (d i : Nat), ws.length - i = d → i ≤ ws.length → Ev (fun k => rundlelaw03_Same.l0 k (ws.map S42.mk) (ws.map boxR) (i : Int)) 1
  | 0, i, hd, hi => Ev.step (f := fun _ => some 1) (fun k => by rw [rundlelaw03_Same.l0, if_neg (by rw [List.length_map]; omega)]) (Ev.now _)
  | d + 1, i, hd, hi => by
    have hlt : i < ws.length := by omega
    refine Ev.step (fun k => ?_) (same_loop ws hw d (i + 1) (by omega) (by omega))
    rw [rundlelaw03_Same.l0, if_pos (by rw [List.length_map]; omega), if_pos (by omega), rd_map42 ws i hlt, plain_box, Option.bind_some, if_pos (by rw [List.length_map]; omega), rd_map69 ws i hlt, if_neg (by simp), w64_1 i (by omega)]

theorem same_ev (ws : List Wd) (hw : ws.length ≤ 1000000) : Ev (fun k => rundlelaw03_Same.f k (ws.map S42.mk) (ws.map boxR)) 1 := by
  refine Ev.congr (fun k => ?_) (same_loop ws hw _ 0 rfl (by omega))
  rw [rundlelaw03_Same.f, if_pos (by rw [List.length_map, List.length_map])]
  rfl

theorem lines_same (l : List (Int × List Wd)) (hl : l.length ≤ 1000000) (hw : ∀ p ∈ l, p.2.length ≤ 1000000) : ∀ (d i : Nat), l.length - i = d → i ≤ l.length → Ev (fun k => rundlelaw03_LexLines.l0 k (l.map toP) (l.map toR) (i : Int)) true
  | 0, i, hd, hi => Ev.step (f := fun _ => some true) (fun k => by rw [rundlelaw03_LexLines.l0, if_neg (by rw [List.length_map]; omega)]) (Ev.now _)
  | d + 1, i, hd, hi => by
    have hlt : i < l.length := by omega
    have hs := same_ev (l[i]'hlt).2 (hw _ (List.getElem_mem hlt))
    refine Ev.step (f := fun k => (rundlelaw03_Same.f k ((l[i]'hlt).2.map S42.mk) ((l[i]'hlt).2.map boxR)).bind fun t291 => (if t291 = 0 then (some false) else (rundlelaw03_LexLines.l0 k (l.map toP) (l.map toR) ((i + 1 : Nat) : Int)))) (fun k => ?_) (Ev.bind hs ?_)
    · rw [rundlelaw03_LexLines.l0, if_pos (by rw [List.length_map]; omega), if_pos (by omega), if_pos (by rw [List.length_map]; omega), rd_mapP l i hlt, rd_mapR l i hlt, if_pos (by rfl), w64_1 i (by omega)]
      rfl
    · refine Ev.congr (fun k => ?_) (lines_same l hl hw d (i + 1) (by omega) (by omega))
      rw [if_neg (by omega)]

theorem wordsF_len : ∀ (m : Nat) (l : List UInt8) (ws : List Wd), wordsF validB m l = some ws → ws.length ≤ m
  | 0, l, ws, h => by
    have := Option.some.inj h
    rw [← this]; simp
  | m + 1, l, ws, h => by
    cases hd : l.dropWhile isBl with
    | nil => rw [wordsF_stop hd] at h; rw [← Option.some.inj h]; simp
    | cons c t =>
      by_cases hc : c.toNat = 35
      · rw [wordsF_hash hd hc] at h; rw [← Option.some.inj h]; simp
      · cases ho : wordOf validB ((c :: t).take (tokLen (c :: t))) with
        | none => rw [wordsF_none hd hc ho] at h; cases h
        | some b =>
          cases hn : nextOk (c :: t) (tokLen (c :: t)) with
          | false => rw [wordsF_stuck hd hc ho hn] at h; cases h
          | true =>
            rw [wordsF_go hd hc ho hn] at h
            cases hr : wordsF validB m ((c :: t).drop (tokLen (c :: t))) with
            | none => rw [hr] at h; cases h
            | some us =>
              rw [hr] at h
              have := Option.some.inj h
              rw [← this, List.length_cons]
              have := wordsF_len m _ us hr
              omega

theorem linesS_len (b : Nat) : ∀ (ls : List (List UInt8)) (no : Int) (acc : List (Int × List Wd)), (∀ x ∈ ls, x.length ≤ b) → (∀ p ∈ acc, p.2.length ≤ b + 1) →
    (linesS validB ls no acc).1.length ≤ acc.length + ls.length ∧ ∀ p ∈ (linesS validB ls no acc).1, p.2.length ≤ b + 1
  | [], no, acc, hl, ha => ⟨by rw [linesS_nil]; simp, by rw [linesS_nil]; exact ha⟩
  | l :: r, no, acc, hl, ha => by
    cases ho : wordsL validB l with
    | none => rw [linesS_bad _ _ _ ho]; simp
    | some ws =>
      rw [linesS_some _ _ _ ho]
      have hws : ws.length ≤ b + 1 := by
        have := wordsF_len _ _ _ ho
        have := hl l (by simp)
        omega
      have ih := linesS_len b r (no + 1) (if 0 < ws.length then acc ++ [(no, ws)] else acc) (fun x hx => hl x (by simp [hx])) (by
        split
        · intro p hp
          rcases List.mem_append.1 hp with hp | hp
          · exact ha p hp
          · rw [List.mem_singleton.1 hp]; exact hws
        · exact ha)
      refine ⟨?_, ih.2⟩
      have h1 := ih.1
      rw [List.length_cons]
      split at h1
      · rw [List.length_append, List.length_singleton] at h1; split <;> omega
      · split <;> omega

theorem linesL_len (s : ByteArray) (hs : s.size ≤ 500000) : (linesL validB s.data.toList).1.length ≤ 1000000 ∧ ∀ p ∈ (linesL validB s.data.toList).1, p.2.length ≤ 1000000 := by
  have hsz : s.data.toList.length = s.size := (Lib.size_eq s).symm
  unfold linesL
  split
  · simp
  · have h3 := splitNL_len _ s.data.toList (Nat.le_refl _)
    have h4 := linesS_len s.size (splitNL s.data.toList) 1 [] (fun x hx => by have := h3.2 x hx; omega) (by simp)
    refine ⟨?_, fun p hp => ?_⟩
    · have := h4.1; have := h3.1; simp only [List.length_nil] at *; omega
    · have := h4.2 p hp; omega

theorem lines_pure (a : ByteArray) : ∃ k, rundlelaw03_LexLines.f k a = some true := by
  refine Ev.rounds (g := fun k => rundlelaw03_LexLines.f k a) ?_
  refine Ev.congr (fun k => by rw [rundlelaw03_LexLines.f]) (Ev.bind awake_ev ?_)
  refine Ev.congr (f := fun k => rundlelaw03_LexLines.j0 k a (decide ((a.size : Int) > 20100))) (fun k => by rw [if_pos rfl]) ?_
  by_cases h : (a.size : Int) > 20100
  · rw [decide_eq_true h]
    exact Ev.step (f := fun k => (rundlelaw03_awake.f k).bind fun t160 => some t160) (fun k => by rw [rundlelaw03_LexLines.j0, if_pos rfl]) (Ev.bind awake_ev (Ev.now _))
  · rw [decide_eq_false h]
    have h1 := lines_ev a (by omega)
    have h2 := reflines_ev a (by omega)
    have h3 := linesL_len a (by omega)
    generalize linesL validB a.data.toList = r at *
    refine Ev.step (fun k => by rw [rundlelaw03_LexLines.j0, if_neg (by simp)]) (Ev.bind h1 (Ev.bind h2 ?_))
    refine Ev.congr (f := fun k => rundlelaw03_LexLines.j1 k (r.1.map toP) (r.1.map toR) false) (fun k => ?_) ?_
    · rw [if_pos (by rfl), if_pos (by rfl)]
      have : (((resP r).1.length : Int) != ((resD r).1.length : Int)) = false := by unfold resP resD; simp
      rw [this]
      rfl
    · refine Ev.step (fun k => by rw [rundlelaw03_LexLines.j1, if_neg (by simp)]) ?_
      exact Ev.congr (fun k => rfl) (lines_same r.1 h3.1 h3.2 _ 0 rfl (by omega))

theorem lines_walk (a : ByteArray) (w : World) : Calls Tryd.prog 4 #[.string a] w fun e w' => e = .returned (.bool true) ∧ Below w.heap.size w w' := by
  obtain ⟨k, hk⟩ := lines_pure a
  exact rundlelaw03_LexLines.calls k a true w hk
end Go.Proofs.YthfcgcbolbmdcaaDoor.PR
