/- runes.Unquote and the document's Unquote are the plain one. -/
import Derived.Test.YthfcgcbolbmdcaaDoorPureQa
import Derived.Test.YthfcgcbolbmdcaaDoorPRx3
namespace Go.Proofs.YthfcgcbolbmdcaaDoor.PR
open Go Go.Proofs Go.RowKit Go.Proofs.YthfcgcbolbmdcaaDoorW.PrintWords Go.Proofs.YthfcgcbolbmdcaaDoorW.PrintLast Go.Proofs.YthfcgcbolbmdcaaDoorW.PrintMore Go.Proofs.YthfcgcbolbmdcaaDoor.Lx
set_option linter.unusedVariables false
set_option linter.unusedSimpArgs false

theorem badQ_of (c : UInt8) : badQ c = (decide ((c.toNat : Int) = 34) || decide ((c.toNat : Int) < 32) || ((c.toNat : Int) == 127)) := by
  unfold badQ
  congr 1
  · congr 1
    · exact decide_eq_decide.2 (by omega)
    · exact decide_eq_decide.2 (by omega)
  · rw [Bool.eq_iff_iff, beq_iff_eq, decide_eq_true_eq]; omega

set_option maxHeartbeats 8000000 in
theorem refUnq_loop (s : ByteArray) (n : Nat) (hs : s.size ≤ 1000000) (hn : n ≤ s.data.toList.length) : ∀ (d i : Nat) (acc : List UInt8), n - i = d → i ≤ n → acc.length ≤ i →
    Ev (fun k => rundleref01_Unquote.l0 k s (n : Int) (nums acc) (i : Int)) (resA acc (unqL (seg s.data.toList i n))) := by
  intro d
  induction d using Nat.strongRecOn with
  | ind d ih =>
  intro i acc hd hi hacc
  have hsz : s.data.toList.length = s.size := (Lib.size_eq s).symm
  by_cases hlt : i < n
  case neg =>
    rw [seg_nil _ _ _ (by omega), unqL_nil]
    refine Ev.step (f := fun _ => some _) (fun k => ?_) (Ev.now _)
    rw [rundleref01_Unquote.l0, if_neg (by omega), str_nums]
    simp [resA, resQ]
  have hb := bt_nat s i (by omega)
  rw [seg_cons _ _ _ hlt hn]
  generalize hc : s.data.toList[i]'(by omega) = c at *
  have hcl := c.toNat_lt
  have fail : Ev (fun k => rundleref01_Unquote.j2 k s (n : Int) (nums acc) (i : Int) true) (resA acc none) :=
    (Ev.step (f := fun _ => some _) (fun k => by rw [rundleref01_Unquote.j2, if_pos rfl]) (Ev.now _) : Ev _ ((⟨#[]⟩ : ByteArray), false))
  by_cases hbad : badQ c = true
  · rw [unqL_bad _ hbad]
    rw [badQ_of] at hbad
    refine Ev.step (f := fun k => rundleref01_Unquote.j2 k s (n : Int) (nums acc) (i : Int) true) (fun k => ?_) fail
    rw [rundleref01_Unquote.l0, if_pos (by omega), if_pos (by omega), if_pos (by omega), hb]
    by_cases h1 : (c.toNat : Int) = 34
    · rw [if_pos h1]
    · rw [if_neg h1]
      by_cases h2 : (c.toNat : Int) < 32
      · rw [if_pos h2]
      · rw [if_neg h2]
        rw [decide_eq_false h1, decide_eq_false h2] at hbad
        simp only [Bool.or_self, Bool.false_or] at hbad
        rw [hbad]
  have hgood : badQ c = false := by simpa using hbad
  have hg := hgood
  rw [badQ_of] at hg
  simp only [Bool.or_eq_false_iff, decide_eq_false_iff_not] at hg
  obtain ⟨⟨h34, h32⟩, h127⟩ := hg
  refine Ev.step (f := fun k => rundleref01_Unquote.j2 k s (n : Int) (nums acc) (i : Int) false) (fun k => ?_) ?_
  · rw [rundleref01_Unquote.l0, if_pos (by omega), if_pos (by omega), if_pos (by omega), hb, if_neg h34, if_neg h32, h127]
  have hi6 : i ≤ 1000000000000 := by omega
  by_cases h92 : c.toNat = 92
  case neg =>
    rw [unqL_plain _ hgood h92, resA_cons]
    refine Ev.step (f := fun k => rundleref01_Unquote.l0 k s (n : Int) (nums (acc ++ [c])) ((i + 1 : Nat) : Int)) (fun k => ?_) (ih (n - (i + 1)) (by omega) (i + 1) (acc ++ [c]) rfl (by omega) (by simp; omega))
    rw [rundleref01_Unquote.j2, if_neg (by simp), if_pos (by omega), if_pos (by omega), hb, if_neg (by omega), if_pos (by rw [nums_len]; omega), nums_snoc, w64_1 i hi6]
  -- behind a backslash
  have fail4 : Ev (fun k => rundleref01_Unquote.j4 k s (n : Int) (nums acc) (i : Int) true) (resA acc none) :=
    (Ev.step (f := fun _ => some _) (fun k => by rw [rundleref01_Unquote.j4, if_pos rfl]) (Ev.now _) : Ev _ ((⟨#[]⟩ : ByteArray), false))
  by_cases hn1 : i + 1 < n
  case neg =>
    rw [seg_nil _ _ _ (by omega), unqL_b0 h92]
    refine Ev.step (f := fun k => rundleref01_Unquote.j3 k s (n : Int) (nums acc) (i : Int) false) (fun k => ?_) (Ev.step (f := fun k => rundleref01_Unquote.j4 k s (n : Int) (nums acc) (i : Int) true) (fun k => ?_) fail4)
    · rw [rundleref01_Unquote.j2, if_neg (by simp), if_pos (by omega), if_pos (by omega), hb, if_pos (by omega), w64_1 i hi6, if_neg (by omega)]
    · rw [rundleref01_Unquote.j3, if_neg (by simp), w64_3 i hi6, if_pos (by omega)]
  have hb1 := bt_nat s (i + 1) (by omega)
  rw [seg_cons _ _ _ hn1 hn]
  generalize hd1 : s.data.toList[i + 1]'(by omega) = e at *
  have hel := e.toNat_lt
  by_cases hq : e.toNat = 34 ∨ e.toNat = 92
  · rw [unqL_bq _ h92 hq, resA_cons]
    refine Ev.step (f := fun k => rundleref01_Unquote.j3 k s (n : Int) (nums acc) (i : Int) true) (fun k => ?_) (Ev.step (f := fun k => rundleref01_Unquote.l0 k s (n : Int) (nums (acc ++ [e])) ((i + 2 : Nat) : Int)) (fun k => ?_) (ih (n - (i + 2)) (by omega) (i + 2) (acc ++ [e]) rfl (by omega) (by simp; omega)))
    · rw [rundleref01_Unquote.j2, if_neg (by simp), if_pos (by omega), if_pos (by omega), hb, if_pos (by omega), w64_1 i hi6, if_pos (by omega), if_pos (by omega), if_pos (by omega), hb1]
      by_cases h34' : (e.toNat : Int) = 34
      · rw [if_pos h34']
      · rw [if_neg h34', beq_iff_eq.2 (by omega)]
    · rw [rundleref01_Unquote.j3, if_pos rfl, w64_1 i hi6, if_pos (by omega), if_pos (by omega), if_pos (by rw [nums_len]; omega), hb1, nums_snoc, w64_2 i hi6]
  refine Ev.step (f := fun k => rundleref01_Unquote.j3 k s (n : Int) (nums acc) (i : Int) false) (fun k => ?_) ?_
  · rw [rundleref01_Unquote.j2, if_neg (by simp), if_pos (by omega), if_pos (by omega), hb, if_pos (by omega), w64_1 i hi6, if_pos (by omega), if_pos (by omega), if_pos (by omega), hb1, if_neg (by omega), beq_eq_false_iff_ne.2 (by omega)]
  by_cases hn3 : i + 3 < n
  case neg =>
    have hl : (seg s.data.toList (i + 1 + 1) n).length ≤ 1 := by unfold seg; rw [List.length_take]; omega
    rw [unqL_bs _ h92 hq hl]
    exact Ev.step (f := fun k => rundleref01_Unquote.j4 k s (n : Int) (nums acc) (i : Int) true) (fun k => by rw [rundleref01_Unquote.j3, if_neg (by simp), w64_3 i hi6, if_pos (by omega)]) fail4
  have hb2 := bt_nat s (i + 2) (by omega)
  have hb3 := bt_nat s (i + 3) (by omega)
  rw [show i + 1 + 1 = i + 2 from rfl, seg_cons _ (i + 2) _ (by omega) hn, show i + 2 + 1 = i + 3 from rfl, seg_cons _ (i + 3) _ (by omega) hn]
  generalize hd2 : s.data.toList[i + 2]'(by omega) = x at *
  generalize hd3 : s.data.toList[i + 3]'(by omega) = y at *
  by_cases h120 : e.toNat = 120
  case neg =>
    rw [unqL_bn _ h92 hq h120]
    exact Ev.step (f := fun k => rundleref01_Unquote.j4 k s (n : Int) (nums acc) (i : Int) true) (fun k => by rw [rundleref01_Unquote.j3, if_neg (by simp), w64_3 i hi6, if_neg (by omega), w64_1 i hi6, if_pos (by omega), if_pos (by omega), hb1, if_neg (by omega)]) fail4
  refine Ev.step (f := fun k => (rundleref01_number.f k (x.toNat : Int)).bind fun t160 => (if t160 = 16 then (rundleref01_Unquote.j4 k s (n : Int) (nums acc) (i : Int) true) else ((rundleref01_number.f k (y.toNat : Int)).bind fun t161 => (rundleref01_Unquote.j4 k s (n : Int) (nums acc) (i : Int) (t161 == 16))))) (fun k => ?_) (Ev.bind (refnum_ev x) ?_)
  · rw [rundleref01_Unquote.j3, if_neg (by simp), w64_3 i hi6, if_neg (by omega), w64_1 i hi6, if_pos (by omega), if_pos (by omega), hb1, if_pos (by omega), w64_2 i hi6, if_pos (by omega), if_pos (by omega), hb2]
    congr 1
    funext t
    by_cases ht : t = 16
    · rw [if_pos ht, if_pos ht]
    · rw [if_neg ht, if_neg ht, if_pos (by omega), if_pos (by omega), hb3]
  cases hx : hexV x with
  | none =>
    rw [unqL_bx _ h92 h120 (.inl hx)]
    exact Ev.congr (fun k => by rw [if_pos rfl]) fail4
  | some a =>
    have ha := hexV_lt hx
    refine Ev.congr (f := fun k => (rundleref01_number.f k (y.toNat : Int)).bind fun t161 => (rundleref01_Unquote.j4 k s (n : Int) (nums acc) (i : Int) (t161 == 16))) (fun k => by simp only; rw [if_neg (by omega)]) ?_
    refine Ev.bind (refnum_ev y) ?_
    cases hy : hexV y with
    | none =>
      rw [unqL_bx _ h92 h120 (.inr hy)]
      exact fail4
    | some b =>
      have hbb := hexV_lt hy
      rw [unqL_bh _ h92 h120 hx hy, resA_cons]
      refine Ev.congr (f := fun k => rundleref01_Unquote.j4 k s (n : Int) (nums acc) (i : Int) false) (fun k => by simp only; rw [beq_eq_false_iff_ne.2 (by omega)]) ?_
      refine Ev.step (f := fun k => (rundleref01_number.f k (x.toNat : Int)).bind fun t162 => ((rundleref01_number.f k (y.toNat : Int)).bind fun t163 => (rundleref01_Unquote.l0 k s (n : Int) (nums acc ++ [(((t162 * 16) % 256) + t163) % 256]) ((i + 4 : Nat) : Int)))) (fun k => ?_) (Ev.bind (refnum_ev x) (Ev.bind (refnum_ev y) ?_))
      · rw [rundleref01_Unquote.j4, if_neg (by simp), w64_2 i hi6, if_pos (by omega), if_pos (by omega), hb2]
        congr 1
        funext t
        rw [w64_3 i hi6, if_pos (by omega), if_pos (by omega), hb3]
        congr 1
        funext u
        rw [if_pos (by rw [nums_len]; omega), w64_4 i hi6]
      · rw [hx, hy]
        simp only
        have e1 : (((a : Int) * 16) % 256 + (b : Int)) % 256 = (((a * 16 + b).toUInt8).toNat : Int) := by
          rw [show ((a * 16 + b).toUInt8).toNat = a * 16 + b from by simp; omega]
          omega
        rw [e1, ← nums_snoc]
        exact ih (n - (i + 4)) (by omega) (i + 4) (acc ++ [(a * 16 + b).toUInt8]) rfl (by omega) (by simp; omega)

theorem w64m (n : Nat) (h : n ≤ 1000000000000) : wrap64 ((n : Int) - 1) = (n : Int) - 1 := by unfold wrap64; omega

theorem ends_of (l : List UInt8) (h : 2 ≤ l.length) : (l.head? = some 34 ↔ (l[0]'(by omega)).toNat = 34) ∧ (l.getLast? = some 34 ↔ (l[l.length - 1]'(by omega)).toNat = 34) := by
  have e : ∀ x : UInt8, x = 34 ↔ x.toNat = 34 := fun x => ⟨fun h => by rw [h]; rfl, fun h => UInt8.toNat_inj.1 (by rw [h]; rfl)⟩
  constructor
  · rw [List.head?_eq_getElem?, List.getElem?_eq_getElem (by omega), Option.some.injEq, e]
  · rw [List.getLast?_eq_getElem?, List.getElem?_eq_getElem (by omega), Option.some.injEq, e]

theorem unquote_no (l : List UInt8) (h : ¬ (2 ≤ l.length ∧ l.head? = some 34 ∧ l.getLast? = some 34 ∧ validB ⟨l.toArray⟩ = true)) : unquote validB l = none := by
  unfold unquote; rw [if_neg h]
theorem unquote_yes (l : List UInt8) (h : 2 ≤ l.length ∧ l.head? = some 34 ∧ l.getLast? = some 34 ∧ validB ⟨l.toArray⟩ = true) : unquote validB l = unqL (seg l 1 (l.length - 1)) := by
  unfold unquote; rw [if_pos h]; unfold seg; rw [show l.length - 1 - 1 = l.length - 2 by omega]

theorem ba_eta (s : ByteArray) : (⟨s.data.toList.toArray⟩ : ByteArray) = s := by simp

set_option maxHeartbeats 1000000 in
theorem refUnq (s : ByteArray) (hs : s.size ≤ 1000000) : Ev (fun k => rundleref01_Unquote.f k s) (resQ (unquote validB s.data.toList)) := by
  have hsz : s.data.toList.length = s.size := (Lib.size_eq s).symm
  have hm := w64m s.size (by omega)
  have fail : Ev (fun k => rundleref01_Unquote.j0 k s ((s.size : Int) - 1) true) (resQ none) :=
    Ev.step (f := fun _ => some ((⟨#[]⟩ : ByteArray), false)) (fun k => by rw [rundleref01_Unquote.j0, if_pos rfl]) (Ev.now _)
  by_cases h2 : 2 ≤ s.size
  case neg =>
    rw [unquote_no _ (fun h => by omega)]
    exact Ev.congr (fun k => by rw [rundleref01_Unquote.f, hm, if_pos (by omega)]) fail
  have HM := Aside0.mk hm
  clear hm
  have hend := ends_of s.data.toList (by omega)
  have hb0 := bt_nat s 0 (by omega)
  have hbl := bt_nat s (s.data.toList.length - 1) (by omega)
  have hcast : ((s.data.toList.length - 1 : Nat) : Int) = (s.size : Int) - 1 := by omega
  rw [hcast] at hbl
  have hb0' : bt s 0 = ((s.data.toList[0]'(by omega)).toNat : Int) := hb0
  by_cases ha : (s.data.toList[0]'(by omega)).toNat = 34
  case neg =>
    rw [unquote_no _ (fun h => ha (hend.1.1 h.2.1))]
    exact Ev.congr (fun k => by rw [rundleref01_Unquote.f, HM.out, if_neg (by omega), if_pos (by omega), if_neg (by omega)]) fail
  by_cases hz : (s.data.toList[s.data.toList.length - 1]'(by omega)).toNat = 34
  case neg =>
    rw [unquote_no _ (fun h => hz (hend.2.1 h.2.2.1))]
    exact Ev.congr (fun k => by rw [rundleref01_Unquote.f, HM.out, if_neg (by omega), if_pos (by omega), if_pos (by omega), if_pos (by omega), if_pos (by omega), if_neg (by omega)]) fail
  refine Ev.congr (f := fun k => (rundleref01_Right.f k s).bind fun t153 => (rundleref01_Unquote.j0 k s ((s.size : Int) - 1) (decide (t153 ≥ 0)))) (fun k => by rw [rundleref01_Unquote.f, HM.out, if_neg (by omega), if_pos (by omega), if_pos (by omega), if_pos (by omega), if_pos (by omega), if_pos (by omega)]) (Ev.bind (refRight s hs) ?_)
  by_cases hr : rightP s ≥ 0
  · rw [unquote_no _ (fun h => by have := h.2.2.2; rw [ba_eta] at this; unfold validB at this; simp at this; omega), decide_eq_true hr]
    exact fail
  · rw [unquote_yes _ ⟨by omega, hend.1.2 ha, hend.2.2 hz, by rw [ba_eta]; unfold validB; simp; omega⟩, decide_eq_false hr]
    refine Ev.step (f := fun k => rundleref01_Unquote.l0 k s ((s.data.toList.length - 1 : Nat) : Int) (nums []) ((1 : Nat) : Int)) (fun k => by rw [rundleref01_Unquote.j0, if_neg (by simp), hcast]; rfl) ?_
    have := refUnq_loop s (s.data.toList.length - 1) hs (by omega) _ 1 [] rfl (by omega) (by simp)
    have e : resA [] (unqL (seg s.data.toList 1 (s.data.toList.length - 1))) = resQ (unqL (seg s.data.toList 1 (s.data.toList.length - 1))) := by
      unfold resA
      congr 1
      cases unqL (seg s.data.toList 1 (s.data.toList.length - 1)) <;> rfl
    rw [← e]
    exact this

/-! ### the program's -/

/-- What stands behind a backslash: the byte, and how many are read; 0: it may not stand there. -/
def turnS (u : List UInt8) : Int × Int := match u with
  | [] => (0, 0)
  | d :: r => if d.toNat = 34 ∨ d.toNat = 92 then ((d.toNat : Int), 1) else if d.toNat = 120 then (match r with
    | x :: y :: _ => (match hexV x, hexV y with
      | some a, some b => (((a * 16 + b : Nat) : Int), 3)
      | _, _ => (0, 0))
    | _ => (0, 0)) else (0, 0)

set_option maxHeartbeats 1000000 in
theorem turned (s : ByteArray) : Ev (fun k => runes_turned.f k s) (turnS s.data.toList) := by
  have hsz : s.data.toList.length = s.size := (Lib.size_eq s).symm
  cases hl : s.data.toList with
  | nil =>
    rw [hl] at hsz
    refine Ev.congr (fun k => ?_) (Ev.now ((0 : Int), (0 : Int)))
    rw [runes_turned.f, if_pos (by simp at hsz; omega)]
  | cons d r =>
    have hlen : s.size = r.length + 1 := by rw [← hsz, hl]; rfl
    have hb0 : bt s 0 = (d.toNat : Int) := by
      have := bt_nat s 0 (by omega)
      simp only [hl, List.getElem_cons_zero] at this
      exact this
    have j0f : Ev (fun k => runes_turned.j0 k s true) ((d.toNat : Int), (1 : Int)) :=
      Ev.step (f := fun _ => some ((d.toNat : Int), (1 : Int))) (fun k => by rw [runes_turned.j0, if_pos rfl, if_pos (by omega), hb0]) (Ev.now _)
    have fail : Ev (fun k => runes_turned.j1 k s true) ((0 : Int), (0 : Int)) :=
      Ev.step (f := fun _ => some ((0 : Int), (0 : Int))) (fun k => by rw [runes_turned.j1, if_pos rfl]) (Ev.now _)
    unfold turnS
    simp only
    by_cases hq : d.toNat = 34 ∨ d.toNat = 92
    · rw [if_pos hq]
      refine Ev.congr (f := fun k => runes_turned.j0 k s true) (fun k => ?_) j0f
      rw [runes_turned.f, if_neg (by omega), if_pos (by omega), hb0]
      by_cases h34 : (d.toNat : Int) = 34
      · rw [if_pos h34]
      · rw [if_neg h34, beq_iff_eq.2 (by omega)]
    rw [if_neg hq]
    refine Ev.congr (f := fun k => runes_turned.j0 k s false) (fun k => by rw [runes_turned.f, if_neg (by omega), if_pos (by omega), hb0, if_neg (by omega), beq_eq_false_iff_ne.2 (by omega)]) ?_
    by_cases h120 : d.toNat = 120
    case neg =>
      rw [if_neg h120]
      exact Ev.step (f := fun k => runes_turned.j1 k s true) (fun k => by rw [runes_turned.j0, if_neg (by simp), if_pos (by omega), hb0, if_neg (by omega)]) fail
    rw [if_pos h120]
    refine Ev.step (f := fun k => runes_turned.j1 k s (decide ((s.size : Int) ≤ 2))) (fun k => by rw [runes_turned.j0, if_neg (by simp), if_pos (by omega), hb0, if_pos (by omega)]) ?_
    match r, hl, hlen with
    | [], hl, hlen => rw [decide_eq_true (by simp at hlen; omega)]; exact fail
    | [x], hl, hlen => rw [decide_eq_true (by simp at hlen; omega)]; exact fail
    | x :: y :: v, hl, hlen =>
      simp only [List.length_cons] at hlen
      rw [decide_eq_false (by omega)]
      have hb1 : bt s 1 = (x.toNat : Int) := by
        have := bt_nat s 1 (by omega)
        simp only [hl, List.getElem_cons_succ, List.getElem_cons_zero] at this
        exact this
      have hb2 : bt s 2 = (y.toNat : Int) := by
        have := bt_nat s 2 (by omega)
        simp only [hl, List.getElem_cons_succ, List.getElem_cons_zero] at this
        exact this
      have ix : ∀ z : UInt8, strings_IndexByte.f (⟨#[48, 49, 50, 51, 52, 53, 54, 55, 56, 57, 97, 98, 99, 100, 101, 102]⟩ : ByteArray) (z.toNat : Int) = some (hexI z) := by
        intro z
        unfold strings_IndexByte.f
        rw [← index_hex, show ((z.toNat : Int)).toNat.toUInt8 = z by simp]
      simp only
      cases hx : hexV x with
      | none =>
        have hxi : hexI x = -1 := by unfold hexI; rw [hx]
        refine Ev.step (f := fun _ => some ((0 : Int), (0 : Int))) (fun k => ?_) (Ev.now _)
        rw [runes_turned.j1, if_neg (by simp), if_pos (by omega), hb1, ix, Option.bind_some, if_pos (by omega), hb2, ix, Option.bind_some, if_pos (by omega)]
      | some a =>
        have ha := hexV_lt hx
        have hxi : hexI x = (a : Int) := by unfold hexI; rw [hx]
        cases hy : hexV y with
        | none =>
          have hyi : hexI y = -1 := by unfold hexI; rw [hy]
          refine Ev.step (f := fun _ => some ((0 : Int), (0 : Int))) (fun k => ?_) (Ev.now _)
          rw [runes_turned.j1, if_neg (by simp), if_pos (by omega), hb1, ix, Option.bind_some, if_pos (by omega), hb2, ix, Option.bind_some, if_neg (by omega), if_pos (by omega)]
        | some b =>
          have hb := hexV_lt hy
          have hyi : hexI y = (b : Int) := by unfold hexI; rw [hy]
          refine Ev.step (f := fun _ => some (((a * 16 + b : Nat) : Int), (3 : Int))) (fun k => ?_) (Ev.now _)
          rw [runes_turned.j1, if_neg (by simp), if_pos (by omega), hb1, ix, Option.bind_some, if_pos (by omega), hb2, ix, Option.bind_some, if_neg (by omega), if_neg (by omega), hxi, hyi, or_hex a b ha hb]

set_option maxHeartbeats 4000000 in
theorem unq_loop (X : ByteArray) (hs : X.size ≤ 1000000) : ∀ (d i : Nat) (acc : List UInt8), X.data.toList.length - i = d → i ≤ X.data.toList.length → acc.length ≤ i →
    Ev (fun k => runes_Unquote.l0 k (nums acc) X (i : Int)) (resA acc (unqL (X.data.toList.drop i))) := by
  intro d
  induction d using Nat.strongRecOn with
  | ind d ih =>
  intro i acc hd hi hacc
  have hsz : X.data.toList.length = X.size := (Lib.size_eq X).symm
  have hi6 : i ≤ 1000000000000 := by omega
  by_cases hlt : i < X.data.toList.length
  case neg =>
    rw [List.drop_of_length_le (by omega), unqL_nil]
    refine Ev.step (f := fun _ => some (strOfNums (nums acc), true)) (fun k => ?_) ?_
    · rw [runes_Unquote.l0, if_neg (by omega)]
    · rw [str_nums]
      have : resA acc (some []) = ((⟨acc.toArray⟩ : ByteArray), true) := by simp [resA, resQ]
      rw [this]
      exact Ev.now _
  have hb := bt_nat X i hlt
  rw [List.drop_eq_getElem_cons hlt]
  generalize hc : X.data.toList[i]'hlt = c at *
  have hcl := c.toNat_lt
  have fail : Ev (fun k => runes_Unquote.j2 k (nums acc) X (i : Int) (c.toNat : Int) true) (resA acc none) :=
    (Ev.step (f := fun _ => some _) (fun k => by rw [runes_Unquote.j2, if_pos rfl]) (Ev.now _) : Ev _ ((⟨#[]⟩ : ByteArray), false))
  by_cases hbad : badQ c = true
  · rw [unqL_bad _ hbad]
    rw [badQ_of] at hbad
    refine Ev.step (f := fun k => runes_Unquote.j2 k (nums acc) X (i : Int) (c.toNat : Int) true) (fun k => ?_) fail
    rw [runes_Unquote.l0, if_pos (by omega), if_pos (by omega), hb]
    by_cases h1 : (c.toNat : Int) = 34
    · rw [if_pos h1]
    · rw [if_neg h1]
      by_cases h2 : (c.toNat : Int) < 32
      · rw [if_pos h2]
      · rw [if_neg h2]
        rw [decide_eq_false h1, decide_eq_false h2] at hbad
        simp only [Bool.or_self, Bool.false_or] at hbad
        rw [hbad]
  have hgood : badQ c = false := by simpa using hbad
  have hg := hgood
  rw [badQ_of] at hg
  simp only [Bool.or_eq_false_iff, decide_eq_false_iff_not] at hg
  obtain ⟨⟨h34, h32⟩, h127⟩ := hg
  refine Ev.step (f := fun k => runes_Unquote.j2 k (nums acc) X (i : Int) (c.toNat : Int) false) (fun k => ?_) ?_
  · rw [runes_Unquote.l0, if_pos (by omega), if_pos (by omega), hb, if_neg h34, if_neg h32, h127]
  by_cases h92 : c.toNat = 92
  case neg =>
    rw [unqL_plain _ hgood h92, resA_cons]
    refine Ev.step (f := fun k => runes_Unquote.l0 k (nums (acc ++ [c])) X ((i + 1 : Nat) : Int)) (fun k => ?_) (ih (X.data.toList.length - (i + 1)) (by omega) (i + 1) (acc ++ [c]) rfl (by omega) (by simp; omega))
    rw [runes_Unquote.j2, if_neg (by simp), if_neg (by omega), if_pos (by rw [nums_len]; omega), nums_snoc, w64_1 i hi6]
  have hext : (X.extract (((i + 1 : Nat) : Int)).toNat X.size).data.toList = X.data.toList.drop (i + 1) := by rw [Int.toNat_natCast, Lib.extract_to_end]
  have ht := turned (X.extract (((i + 1 : Nat) : Int)).toNat X.size)
  rw [hext] at ht
  refine Ev.step (f := fun k => (runes_turned.f k (X.extract (((i + 1 : Nat) : Int)).toNat X.size)).bind fun bt104 => (if bt104.2 = 0 then (some ((⟨#[]⟩ : ByteArray), false)) else (runes_Unquote.l0 k (nums acc ++ [bt104.1]) X (wrap64 ((wrap64 ((i : Int) + bt104.2)) + 1))))) (fun k => ?_) (Ev.bind ht ?_)
  · rw [runes_Unquote.j2, if_neg (by simp), if_pos (by omega), w64_1 i hi6, if_pos (by omega), if_pos (by omega)]
    congr 1
    funext t
    by_cases h0 : t.2 = 0
    · rw [if_pos h0, if_pos h0]
    · rw [if_neg h0, if_neg h0, if_pos (by rw [nums_len]; omega)]
  have nofail : ∀ o : Option (List UInt8), o = none → (turnS (X.data.toList.drop (i + 1))).2 = 0 → Ev (fun k => if (turnS (X.data.toList.drop (i + 1))).2 = 0 then (some ((⟨#[]⟩ : ByteArray), false)) else (runes_Unquote.l0 k (nums acc ++ [(turnS (X.data.toList.drop (i + 1))).1]) X (wrap64 ((wrap64 ((i : Int) + (turnS (X.data.toList.drop (i + 1))).2)) + 1)))) (resA acc o) := by
    intro o ho h0
    rw [ho, show resA acc none = ((⟨#[]⟩ : ByteArray), false) from rfl]
    exact Ev.congr (f := fun _ => some ((⟨#[]⟩ : ByteArray), false)) (fun k => by rw [if_pos h0]) (Ev.now _)
  by_cases hn1 : i + 1 < X.data.toList.length
  case neg =>
    rw [List.drop_of_length_le (by omega)] at nofail ⊢
    exact nofail _ (unqL_b0 h92) rfl
  rw [List.drop_eq_getElem_cons hn1] at nofail ⊢
  generalize hd1 : X.data.toList[i + 1]'hn1 = e at *
  have hel := e.toNat_lt
  by_cases hq : e.toNat = 34 ∨ e.toNat = 92
  · rw [unqL_bq _ h92 hq, resA_cons]
    have ht2 : turnS (e :: X.data.toList.drop (i + 1 + 1)) = ((e.toNat : Int), 1) := by unfold turnS; simp only [if_pos hq]
    rw [ht2]
    refine Ev.congr (f := fun k => runes_Unquote.l0 k (nums (acc ++ [e])) X ((i + 2 : Nat) : Int)) (fun k => ?_) (ih (X.data.toList.length - (i + 2)) (by omega) (i + 2) (acc ++ [e]) rfl (by omega) (by simp; omega))
    simp only
    rw [if_neg (by omega), w64_1 i hi6, w64_1 (i + 1) (by omega), nums_snoc]
  by_cases h120 : e.toNat = 120
  case neg =>
    refine nofail _ (unqL_bn _ h92 hq h120) ?_
    unfold turnS
    simp only [if_neg hq, if_neg h120]
  by_cases hn3 : i + 3 < X.data.toList.length
  case neg =>
    have hl : (X.data.toList.drop (i + 1 + 1)).length ≤ 1 := by rw [List.length_drop]; omega
    refine nofail _ (unqL_bs _ h92 hq hl) ?_
    unfold turnS
    simp only [if_neg hq, if_pos h120]
    generalize hG : X.data.toList.drop (i + 1 + 1) = G at *
    match G, hl with
    | [], _ => rfl
    | [x], _ => rfl
    | x :: y :: v, hl => simp at hl
  rw [show i + 1 + 1 = i + 2 from rfl, List.drop_eq_getElem_cons (i := i + 2) (by omega), List.drop_eq_getElem_cons (i := i + 2 + 1) (by omega)] at nofail ⊢
  generalize hd2 : X.data.toList[i + 2]'(by omega) = x at *
  generalize hd3 : X.data.toList[i + 2 + 1]'(by omega) = y at *
  cases hx : hexV x with
  | none =>
    refine nofail _ (unqL_bx _ h92 h120 (.inl hx)) ?_
    unfold turnS
    simp only [if_neg hq, if_pos h120, hx]
  | some a =>
    have ha := hexV_lt hx
    cases hy : hexV y with
    | none =>
      refine nofail _ (unqL_bx _ h92 h120 (.inr hy)) ?_
      unfold turnS
      simp only [if_neg hq, if_pos h120, hx, hy]
    | some b =>
      have hbb := hexV_lt hy
      rw [unqL_bh _ h92 h120 hx hy, resA_cons]
      have ht2 : turnS (e :: x :: y :: X.data.toList.drop (i + 2 + 1 + 1)) = (((a * 16 + b : Nat) : Int), 3) := by
        unfold turnS; simp only [if_neg hq, if_pos h120, hx, hy]
      rw [ht2]
      have e1 : ((a * 16 + b : Nat) : Int) = (((a * 16 + b).toUInt8).toNat : Int) := by
        rw [show ((a * 16 + b).toUInt8).toNat = a * 16 + b from by simp; omega]
      refine Ev.congr (f := fun k => runes_Unquote.l0 k (nums (acc ++ [(a * 16 + b).toUInt8])) X ((i + 4 : Nat) : Int)) (fun k => ?_) (ih (X.data.toList.length - (i + 4)) (by omega) (i + 4) (acc ++ [(a * 16 + b).toUInt8]) rfl (by omega) (by simp; omega))
      simp only
      rw [if_neg (by omega), w64_3 i hi6, w64_1 (i + 3) (by omega), nums_snoc, e1]

set_option maxHeartbeats 1000000 in
theorem progUnq (s : ByteArray) (hs : s.size ≤ 1000000) : Ev (fun k => runes_Unquote.f k s) (resQ (unquote validB s.data.toList)) := by
  have hsz : s.data.toList.length = s.size := (Lib.size_eq s).symm
  have fail : Ev (fun k => runes_Unquote.j0 k s true) (resQ none) :=
    Ev.step (f := fun _ => some ((⟨#[]⟩ : ByteArray), false)) (fun k => by rw [runes_Unquote.j0, if_pos rfl]) (Ev.now _)
  by_cases h2 : 2 ≤ s.size
  case neg =>
    rw [unquote_no _ (fun h => by omega)]
    exact Ev.congr (fun k => by rw [runes_Unquote.f, if_pos (by omega)]) fail
  have HM := Aside0.mk (w64m s.size (by omega))
  have hend := ends_of s.data.toList (by omega)
  have hb0 := bt_nat s 0 (by omega)
  have hbl := bt_nat s (s.data.toList.length - 1) (by omega)
  have hcast : ((s.data.toList.length - 1 : Nat) : Int) = (s.size : Int) - 1 := by omega
  rw [hcast] at hbl
  have hb0' : bt s 0 = ((s.data.toList[0]'(by omega)).toNat : Int) := hb0
  by_cases ha : (s.data.toList[0]'(by omega)).toNat = 34
  case neg =>
    rw [unquote_no _ (fun h => ha (hend.1.1 h.2.1))]
    exact Ev.congr (fun k => by rw [runes_Unquote.f, if_neg (by omega), if_pos (by omega), if_neg (by omega)]) fail
  by_cases hz : (s.data.toList[s.data.toList.length - 1]'(by omega)).toNat = 34
  case neg =>
    rw [unquote_no _ (fun h => hz (hend.2.1 h.2.2.1))]
    exact Ev.congr (fun k => by rw [runes_Unquote.f, if_neg (by omega), if_pos (by omega), if_pos (by omega), HM.out, if_pos (by omega), if_pos (by omega), if_neg (by omega)]) fail
  have hrf : runes_Right.f s = some (rightP s) := by unfold runes_Right.f; rw [if_pos (by omega)]
  refine Ev.congr (f := fun k => runes_Unquote.j0 k s (decide (rightP s ≥ 0))) (fun k => by rw [runes_Unquote.f, if_neg (by omega), if_pos (by omega), if_pos (by omega), HM.out, if_pos (by omega), if_pos (by omega), if_pos (by omega), hrf, Option.bind_some]) ?_
  by_cases hr : rightP s ≥ 0
  · rw [unquote_no _ (fun h => by have := h.2.2.2; rw [ba_eta] at this; unfold validB at this; simp at this; omega), decide_eq_true hr]
    exact fail
  · rw [unquote_yes _ ⟨by omega, hend.1.2 ha, hend.2.2 hz, by rw [ba_eta]; unfold validB; simp; omega⟩, decide_eq_false hr]
    have hX : (s.extract 1 ((s.size : Int) - 1).toNat).data.toList = seg s.data.toList 1 (s.data.toList.length - 1) := by
      rw [Lib.extract_data]; unfold seg; congr 1; omega
    have hXs : (s.extract 1 ((s.size : Int) - 1).toNat).size ≤ 1000000 := by
      rw [Lib.size_eq, hX]; unfold seg; rw [List.length_take, List.length_drop]; omega
    refine Ev.step (f := fun k => runes_Unquote.l0 k (nums []) (s.extract 1 ((s.size : Int) - 1).toNat) ((0 : Nat) : Int)) (fun k => by rw [runes_Unquote.j0, if_neg (by simp), HM.out, if_pos (by omega), if_pos (by omega)]; rfl) ?_
    have := unq_loop (s.extract 1 ((s.size : Int) - 1).toNat) hXs _ 0 [] rfl (by omega) (by simp)
    rw [List.drop_zero, hX] at this
    have e : resA [] (unqL (seg s.data.toList 1 (s.data.toList.length - 1))) = resQ (unqL (seg s.data.toList 1 (s.data.toList.length - 1))) := by
      unfold resA
      congr 1
      cases unqL (seg s.data.toList 1 (s.data.toList.length - 1)) <;> rfl
    rw [← e]
    exact this
end Go.Proofs.YthfcgcbolbmdcaaDoor.PR
