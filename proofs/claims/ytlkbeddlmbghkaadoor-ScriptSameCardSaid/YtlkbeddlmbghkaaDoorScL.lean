/- rundlelaw26.long of one step: it ends; where it says no, the entries are few. -/
import Derived.Test.YtlkbeddlmbghkaaDoorPRx2
namespace Go.Proofs.YtlkbeddlmbghkaaDoor.PR
open Go Go.Proofs Go.RowKit Go.Proofs.YtlkbeddlmbghkaaDoorW.PrintWords Go.Proofs.YtlkbeddlmbghkaaDoorW.PrintLast Go.Proofs.YtlkbeddlmbghkaaDoorW.PrintMore
set_option linter.unusedVariables false
set_option linter.unusedSimpArgs false

theorem mn_low (s m : Nat) : 0 ≤ mn (s : Int) (m : Int) ∧ mn (s : Int) (m : Int) ≤ m ∧ ((m ≤ s) → mn (s : Int) (m : Int) = m) := by
  unfold mn
  split <;> omega
theorem wrap01 : wrap64 ((0 : Int) + 1) = 1 := by unfold wrap64; omega
theorem long_end (x : S48) (n : Int) (k : Nat) : rundlelaw26_long.l0 (k + 2) [x] n 1 = some (decide (n > 30000)) := by
  rw [rundlelaw26_long.l0, if_neg (by simp), rundlelaw26_long.j1, if_neg (by decide)]
theorem long_in (x : S48) (L : List S53) (hL : L.length ≤ 1500) (a0 : Int) (a1 a2 a4 a5 : ByteArray) (a6 : Bool) (a7 a8 a9 a10 : Int) : ∀ (m i : Nat) (n : Int), i + m = L.length →
    ∃ b, rundlelaw26_long.l1 (m + 3) [x] n 0 (i : Int) a0 a1 a2 L a4 a5 a6 a7 a8 a9 a10 = some b ∧ (b = false → n ≤ 30000)
  | 0, i, n, hi => by
    refine ⟨decide (n > 30000), ?_, fun h => by have := of_decide_eq_false h; omega⟩
    rw [rundlelaw26_long.l1, if_neg (by omega)]
    rw [wrap01]
    exact long_end x n 0
  | m + 1, i, n, hi => by
    by_cases hn : n ≤ 30000
    · have hw : wrap64 ((i : Int) + 1) = ((i + 1 : Nat) : Int) := by unfold wrap64; omega
      obtain ⟨b, hb, _⟩ := long_in x L hL a0 a1 a2 a4 a5 a6 a7 a8 a9 a10 m (i + 1) (wrap64 ((wrap64 (n + (mn (((rd_T53 L (i : Int)).f0).size : Int) 30001))) + (mn (((rd_T53 L (i : Int)).f1).size : Int) 30001))) (by omega)
      refine ⟨b, ?_, fun _ => hn⟩
      rw [rundlelaw26_long.l1, if_pos (by omega), if_pos hn, if_pos (by omega), hw]
      exact hb
    · refine ⟨decide (n > 30000), ?_, fun h => by have := of_decide_eq_false h; omega⟩
      rw [rundlelaw26_long.l1, if_pos (by omega), if_neg hn]
      rw [wrap01]
      exact long_end x n (m + 1)
/-- What a step that is not long has: few entries, short texts. -/
def Short (x : S48) : Prop := x.f3.f3.length ≤ 1500 ∧ x.f3.f1.size ≤ 30000 ∧ x.f3.f2.size ≤ 30000 ∧ x.f3.f4.size ≤ 30000 ∧ x.f3.f5.size ≤ 30000
theorem long_ok (x : S48) : ∃ k b, rundlelaw26_long.f k [x] = some b ∧ (b = false → Short x) := by
  have h1 := mn_low x.f3.f1.size 30001
  have h2 := mn_low x.f3.f2.size 30001
  have h4 := mn_low x.f3.f4.size 30001
  have h5 := mn_low x.f3.f5.size 30001
  have h3 := mn_low x.f3.f3.length 1501
  have hx : rd_T48 [x] 0 = x := rfl
  by_cases hL : x.f3.f3.length ≤ 1500
  · obtain ⟨b, hb, hbn⟩ := long_in x x.f3.f3 hL x.f3.f0 x.f3.f1 x.f3.f2 x.f3.f4 x.f3.f5 x.f3.f6 x.f3.f7 x.f3.f8 x.f3.f9 x.f3.f10 x.f3.f3.length 0 (wrap64 ((wrap64 ((wrap64 ((wrap64 ((wrap64 (0 + (mn ((x.f3.f1).size : Int) 30001))) + (mn ((x.f3.f2).size : Int) 30001))) + (mn ((x.f3.f4).size : Int) 30001))) + (mn ((x.f3.f5).size : Int) 30001))) + (20 * (mn ((x.f3.f3).length : Int) 1501)))) (by omega)
    refine ⟨x.f3.f3.length + 5, b, ?_, fun h => ?_⟩
    rotate_left
    · have hbn := hbn h
      simp only [Int.cast_ofNat_Int] at h1 h2 h4 h5 h3
      unfold Short
      generalize mn ((x.f3.f1).size : Int) 30001 = m1 at *
      generalize mn ((x.f3.f2).size : Int) 30001 = m2 at *
      generalize mn ((x.f3.f4).size : Int) 30001 = m4 at *
      generalize mn ((x.f3.f5).size : Int) 30001 = m5 at *
      generalize mn ((x.f3.f3).length : Int) 1501 = m3 at *
      have e : wrap64 ((wrap64 ((wrap64 ((wrap64 ((wrap64 (0 + m1)) + m2)) + m4)) + m5)) + (20 * m3)) = m1 + m2 + m4 + m5 + 20 * m3 := by unfold wrap64; omega
      rw [e] at hbn
      refine ⟨hL, ?_, ?_, ?_, ?_⟩ <;> omega
    rw [rundlelaw26_long.f, if_neg (by simp), rundlelaw26_long.l0, if_pos (by simp), rundlelaw26_long.j1, if_pos (by decide), if_pos (by decide), if_pos (by simp), hx]
    exact hb
  · refine ⟨6, true, ?_, fun h => (by cases h)⟩
    have hN : wrap64 ((wrap64 ((wrap64 ((wrap64 ((wrap64 (0 + (mn ((x.f3.f1).size : Int) 30001))) + (mn ((x.f3.f2).size : Int) 30001))) + (mn ((x.f3.f4).size : Int) 30001))) + (mn ((x.f3.f5).size : Int) 30001))) + (20 * (mn ((x.f3.f3).length : Int) 1501))) > 30000 := by
      have h3' := h3.2.2 (by omega)
      simp only [Int.cast_ofNat_Int] at h1 h2 h4 h5 h3 h3'
      generalize mn ((x.f3.f1).size : Int) 30001 = m1 at *
      generalize mn ((x.f3.f2).size : Int) 30001 = m2 at *
      generalize mn ((x.f3.f4).size : Int) 30001 = m4 at *
      generalize mn ((x.f3.f5).size : Int) 30001 = m5 at *
      generalize mn ((x.f3.f3).length : Int) 1501 = m3 at *
      unfold wrap64
      omega
    rw [rundlelaw26_long.f, if_neg (by simp), rundlelaw26_long.l0, if_pos (by simp), rundlelaw26_long.j1, if_pos (by decide), if_pos (by decide), if_pos (by simp), hx]
    generalize wrap64 _ = n0 at hN ⊢
    rw [rundlelaw26_long.l1, if_pos (by omega), if_neg (by omega)]
    rw [wrap01, long_end, decide_eq_true hN]
theorem one_C (x : S48) (A : Option Addr) (c : Nat) (w : World) (g : Nat) (hc : x.f3.f3.length ≤ c) (hA : Kd.C k53 w A x.f3.f3.length x.f3.f3)
    (hg : w.heap[g]? = some (.cells #[.int .i64 x.f0, .int .i64 x.f1, .int .i64 x.f2, .int .i64 x.f3.f0, .string x.f3.f1, .string x.f3.f2, .slice A x.f3.f3.length c, .string x.f3.f4, .string x.f3.f5, .bool x.f3.f6, .int .i64 x.f3.f7, .int .i64 x.f3.f8, .int .i64 x.f3.f9, .int .i64 x.f3.f10] 48 (0, 0))) :
    Kd.C k48 w (some ⟨g, 0, none⟩) [x].length [x] := by
  refine ⟨rfl, by simp, fun _ => ⟨_, rfl, fun j p hp => ?_⟩⟩
  cases j with
  | succ j => cases hp
  | zero =>
    obtain rfl := Option.some.inj hp
    refine ⟨_, rfl, k48_mk w x hc hA, fun i u hu => ?_⟩
    have hi : i < 14 := (List.getElem?_eq_some_iff.1 hu).1
    have := (blk_cell hg i)
    rw [show ((⟨g, 0, none⟩ : Addr).add (0 * k48.sz + i)) = ⟨g, i, none⟩ by simp [Addr.add]; exact Eq.symm]
    refine this.trans ?_
    rw [← hu]
    exact List.getElem?_toArray ..
theorem long_at (x : S48) (A : Option Addr) (c : Nat) (w : World) (g : Nat) (hc : x.f3.f3.length ≤ c) (hA : Kd.C k53 w A x.f3.f3.length x.f3.f3)
    (hg : w.heap[g]? = some (.cells #[.int .i64 x.f0, .int .i64 x.f1, .int .i64 x.f2, .int .i64 x.f3.f0, .string x.f3.f1, .string x.f3.f2, .slice A x.f3.f3.length c, .string x.f3.f4, .string x.f3.f5, .bool x.f3.f6, .int .i64 x.f3.f7, .int .i64 x.f3.f8, .int .i64 x.f3.f9, .int .i64 x.f3.f10] 48 (0, 0))) :
    Calls Tryd.prog 17 #[.slice (some ⟨g, 0, none⟩) 1 1] w fun e w' => ∃ b, e = .returned (.bool b) ∧ (b = false → Short x) ∧ Below w.heap.size w w' := by
  obtain ⟨k, b, hb, hl⟩ := long_ok x
  exact (rundlelaw26_long.calls k (some ⟨g, 0, none⟩) 1 [x] b w (one_C x A c w g hc hA hg) (by simp) hb).mono (fun e w' h => ⟨b, h.1, hl, h.2⟩)
end Go.Proofs.YtlkbeddlmbghkaaDoor.PR
