/- rundlelaw24.long over lists alone: it answers; where it says no there are few changes, of few entries, of short texts. -/
import Derived.Test.YtgnnhomipfjanaaPMx2
import Derived.Test.YtgnnhomipfjanaaMPure
namespace Go.Proofs.Ytgnnhomipfjanaa.PM
open Go Go.Proofs Go.RowKit Go.Proofs.YtgnnhomipfjanaaW.PrintWords Go.Proofs.YtgnnhomipfjanaaW.PrintLast Go.Proofs.YtgnnhomipfjanaaW.PrintMore

def SmallE (e : S37) : Prop := e.f0.size ≤ 10000 ∧ e.f1.size ≤ 10000
def SmallU (u : S78) : Prop := u.f1.length ≤ 500 ∧ ∀ e ∈ u.f1, SmallE e
def Small (l : List S78) : Prop := l.length ≤ 40 ∧ ∀ u ∈ l, SmallU u

theorem rd78_at (l : List S78) (i : Nat) (h : i < l.length) : rd_T78 l (i : Int) = l[i] := by unfold rd_T78; simp [h]
theorem mn_nat (a : Nat) (b : Int) (hb : 0 ≤ b) : 0 ≤ mn (a : Int) b ∧ mn (a : Int) b ≤ b ∧ (mn (a : Int) b < b → (a : Int) < b ∧ mn (a : Int) b = a) := by
  unfold mn; split <;> omega

theorem wr1 (i : Nat) (h : i < 9223372036854775807) : wrap64 ((i : Int) + 1) = ((i + 1 : Nat) : Int) := by rw [w64 _ (by omega)]; omega
theorem wr2 {n a b : Int} (a0 : 0 ≤ a) (a1 : a ≤ 10001) (b0 : 0 ≤ b) (b1 : b ≤ 10001) (h0 : 0 ≤ n) (h1 : n ≤ 100000) : wrap64 (wrap64 (n + a) + b) = n + a + b := by
  rw [w64 (n + a) (by omega), w64 _ (by omega)]
theorem long_in (l : List S78) (i : Nat) (hi : i < l.length) (h40 : l.length ≤ 40)
    (next : ∀ n : Int, 0 ≤ n → n ≤ 100000 → ∃ b, Ev (fun k => rundlelaw24_long.l0 k l n ((i + 1 : Nat) : Int)) b ∧ (b = false → n ≤ 10000 ∧ ∀ j, i + 1 ≤ j → (h : j < l.length) → SmallU l[j])) :
    ∀ (d j : Nat), l[i].f1.length - j = d → j ≤ l[i].f1.length → ∀ n : Int, 0 ≤ n → n ≤ 100000 → (n ≤ 10000 → 20 * (l[i].f1.length : Int) ≤ n) → ∃ b, Ev (fun k => rundlelaw24_long.l1 k l n (i : Int) (j : Int)) b ∧
      (b = false → n ≤ 10000 ∧ (∀ e ∈ l[i].f1.drop j, SmallE e) ∧ ∀ j, i + 1 ≤ j → (h : j < l.length) → SmallU l[j])
  | 0, j, hd, hj, n, h0, h1, hq => by
    obtain ⟨b, hb, hb2⟩ := next n h0 h1
    refine ⟨b, Ev.step (fun k => ?_) hb, fun h => ⟨(hb2 h).1, by rw [List.drop_of_length_le (by omega)]; simp, (hb2 h).2⟩⟩
    simp only [rundlelaw24_long.l1]
    rw [if_pos (by omega), if_pos (by omega), rd78_at l i hi, if_neg (by omega), wr1 i (by omega)]
  | d + 1, j, hd, hj, n, h0, h1, hq => by
    have hjl : j < l[i].f1.length := by omega
    by_cases hn : n ≤ 10000
    · have m1 := mn_nat l[i].f1[j].f0.size 10001 (by omega)
      have m2 := mn_nat l[i].f1[j].f1.size 10001 (by omega)
      have hq' := hq hn
      obtain ⟨b, hb, hb2⟩ := long_in l i hi h40 next d (j + 1) (by omega) (by omega) (n + mn (l[i].f1[j].f0.size : Int) 10001 + mn (l[i].f1[j].f1.size : Int) 10001) (by omega) (by omega) (by intro h; omega)
      refine ⟨b, Ev.step (fun k => ?_) hb, fun h => ⟨hn, ?_, (hb2 h).2.2⟩⟩
      · simp only [rundlelaw24_long.l1]
        rw [if_pos (by omega), if_pos (by omega), rd78_at l i hi, if_pos (by omega), if_pos hn, if_pos (by omega), rd37_at _ j hjl, wr2 (by omega) (by omega) (by omega) (by omega) h0 h1, wr1 j (by omega)]
      · have hb3 := hb2 h
        rw [List.drop_eq_getElem_cons hjl]
        intro x hx
        rcases List.mem_cons.1 hx with rfl | hx
        · exact ⟨by have := hb3.1; omega, by have := hb3.1; omega⟩
        · exact hb3.2.1 x hx
    · obtain ⟨b, hb, hb2⟩ := next n h0 h1
      refine ⟨b, Ev.step (fun k => ?_) hb, fun h => absurd (hb2 h).1 hn⟩
      simp only [rundlelaw24_long.l1]
      rw [if_pos (by omega), if_pos (by omega), rd78_at l i hi, if_pos (by omega), if_neg hn, wr1 i (by omega)]

theorem long_out (l : List S78) (h40 : l.length ≤ 40) : ∀ (d i : Nat), l.length - i = d → i ≤ l.length → ∀ n : Int, 0 ≤ n → n ≤ 100000 → ∃ b, Ev (fun k => rundlelaw24_long.l0 k l n (i : Int)) b ∧
    (b = false → n ≤ 10000 ∧ ∀ j, i ≤ j → (h : j < l.length) → SmallU l[j])
  | 0, i, hd, hi, n, h0, h1 => by
    refine ⟨decide (n > 10000), Ev.step (f := fun k => rundlelaw24_long.j1 k l n (i : Int) false) (fun k => ?_) (Ev.step (f := fun _ => some (decide (n > 10000))) (fun k => ?_) (Ev.now _)), fun h => ⟨by simpa using h, fun j h1 h2 => by omega⟩⟩
    · simp only [rundlelaw24_long.l0]; rw [if_neg (by omega)]
    · simp only [rundlelaw24_long.j1]; rw [if_neg (by simp)]
  | d + 1, i, hd, hi, n, h0, h1 => by
    have hil : i < l.length := by omega
    by_cases hn : n ≤ 10000
    · have m := mn_nat l[i].f1.length 1001 (by omega)
      obtain ⟨b, hb, hb2⟩ := long_in l i hil h40 (fun n h0 h1 => long_out l h40 d (i + 1) (by omega) (by omega) n h0 h1) _ 0 rfl (Nat.zero_le _) (n + 20 * mn (l[i].f1.length : Int) 1001) (by omega) (by omega) (by intro h; omega)
      refine ⟨b, Ev.step (f := fun k => rundlelaw24_long.j1 k l n (i : Int) true) (fun k => ?_) (Ev.step (fun k => ?_) hb), fun h => ⟨hn, fun j hj hjl => ?_⟩⟩
      · simp only [rundlelaw24_long.l0]; rw [if_pos (by omega), decide_eq_true hn]
      · simp only [rundlelaw24_long.j1]; rw [if_pos trivial, if_pos (by omega), if_pos (by omega), rd78_at l i hil, w64 _ (by omega)]; rfl
      · have hb3 := hb2 h
        by_cases e : j = i
        · subst e
          exact ⟨by have := hb3.1; omega, fun x hx => hb3.2.1 x (by simpa using hx)⟩
        · exact hb3.2.2 j (by omega) hjl
    · refine ⟨true, Ev.step (f := fun k => rundlelaw24_long.j1 k l n (i : Int) false) (fun k => ?_) (Ev.step (f := fun _ => some true) (fun k => ?_) (Ev.now _)), fun h => by cases h⟩
      · simp only [rundlelaw24_long.l0]; rw [if_pos (by omega), decide_eq_false hn]
      · simp only [rundlelaw24_long.j1]; rw [if_neg (by simp), decide_eq_true (by omega)]

theorem long_says (l : List S78) : ∃ b, Ev (fun k => rundlelaw24_long.f k l) b ∧ (b = false → Small l) := by
  by_cases h40 : l.length ≤ 40
  · obtain ⟨b, hb, hb2⟩ := long_out l h40 _ 0 rfl (Nat.zero_le _) 0 (by omega) (by omega)
    refine ⟨b, Ev.congr (fun k => ?_) hb, fun h => ⟨h40, fun u hu => ?_⟩⟩
    · show rundlelaw24_long.f k l = _
      unfold rundlelaw24_long.f; rw [if_neg (by omega)]; rfl
    · obtain ⟨j, hj, rfl⟩ := List.getElem_of_mem hu
      exact (hb2 h).2 j (Nat.zero_le _) hj
  · refine ⟨true, Ev.congr (f := fun _ => some true) (fun k => ?_) (Ev.now _), fun h => by cases h⟩
    show rundlelaw24_long.f k l = _
    unfold rundlelaw24_long.f; rw [if_pos (by omega)]
end Go.Proofs.Ytgnnhomipfjanaa.PM
