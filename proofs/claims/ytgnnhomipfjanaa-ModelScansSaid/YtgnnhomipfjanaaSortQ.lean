/- What a row of the call's own is in memory behind the sort. -/
import Derived.Test.YtgnnhomipfjanaaSortP
namespace Go.Proofs.Ytgnnhomipfjanaa.Srt
open Go Go.Proofs Go.Shelf Go.RowKit Go.Lib Go.Sort
open Go.Proofs.YtgnnhomipfjanaaW.PrintWords (Reps Kd)
variable {α : Type} [Inhabited α] {enc : α → List Value} {k : Nat}

omit [Inhabited α] in
theorem flat_length (hk : ∀ x, (enc x).length = k) : ∀ l : List α, (l.flatMap enc).length = l.length * k
  | [] => by simp
  | x :: l => by rw [List.flatMap_cons, List.length_append, hk, flat_length hk l, List.length_cons, Nat.succ_mul, Nat.add_comm]

omit [Inhabited α] in
theorem flat_part (hk : ∀ x, (enc x).length = k) : ∀ (l : List α) (j : Nat) (p : α), l[j]? = some p → ((l.flatMap enc).drop (j * k)).take k = enc p
  | [], j, p, h => by simp at h
  | x :: l, 0, p, h => by
    have : x = p := by simpa using h
    subst this
    rw [Nat.zero_mul, List.drop_zero, List.flatMap_cons, List.take_append_of_le_length (by rw [hk]; exact Nat.le_refl _), List.take_of_length_le (by rw [hk]; exact Nat.le_refl _)]
  | x :: l, j + 1, p, h => by
    have h' : l[j]? = some p := by simpa using h
    have e : (j + 1) * k = (enc x).length + j * k := by rw [hk, Nat.succ_mul, Nat.add_comm]
    rw [List.flatMap_cons, e, ← List.drop_drop, List.drop_left, flat_part hk l j p h']

omit [Inhabited α] in
/-- The cells of entries, written out. -/
theorem flat_of_reps {R : α → List Value → Prop} (hR : ∀ p c, R p c → c = enc p) {l : List α} {cs : List Value} (h : Reps R k l cs) : cs = l.flatMap enc := by
  obtain ⟨h1, h2⟩ := h
  induction l generalizing cs with
  | nil => simp at h1; simp [h1]
  | cons x l ih =>
    have a := hR _ _ (h2 0 x rfl)
    rw [Nat.zero_mul, List.drop_zero] at a
    have b := ih (cs := cs.drop k) (by rw [List.length_drop, h1, List.length_cons, Nat.succ_mul]; omega) (fun j p hj => by
      have := h2 (j + 1) p (by simpa using hj)
      rw [Nat.succ_mul, Nat.add_comm, ← List.drop_drop] at this
      exact this)
    rw [List.flatMap_cons, ← a, ← b, List.take_append_drop]

omit [Inhabited α] in
theorem reps_of_flat (hk : ∀ x, (enc x).length = k) {R : α → List Value → Prop} (hR : ∀ p, R p (enc p)) (l : List α) : Reps R k l (l.flatMap enc) :=
  ⟨flat_length hk l, fun j p hj => by rw [flat_part hk l j p hj]; exact hR p⟩

theorem flatK_list (hk : ∀ x, (enc x).length = k) (d : Array α) : (flatK enc k d).toList = d.toList.flatMap enc := by
  apply List.ext_getElem
  · rw [flat_length hk, Array.length_toList, size_flatK, Array.length_toList]
  · intro t h1 h2
    rw [Array.length_toList, size_flatK] at h1
    have k0 : 0 < k := by rcases Nat.eq_zero_or_pos k with h | h; · subst h; simp at h1
                          · exact h
    have hq : t / k < d.size := (Nat.div_lt_iff_lt_mul k0).2 h1
    have a := get_flatK enc k d t h1
    have b := flat_part hk d.toList (t / k) d[t / k] (by simp [hq])
    have m : t % k < k := Nat.mod_lt _ k0
    have c : (((d.toList.flatMap enc).drop (t / k * k)).take k)[t % k]? = (d.toList.flatMap enc)[t]? := by
      rw [List.getElem?_take_of_lt m, List.getElem?_drop, Nat.mul_comm, Nat.div_add_mod]
    rw [b] at c
    have e1 : (flatK enc k d)[t]! = (flatK enc k d).toList[t] := by simp [h1]
    rw [← e1, a]
    have e2 : d[t / k]! = d[t / k] := by simp [hq]
    rw [e2]
    have m' : t % k < (enc d[t / k]).length := by rw [hk]; exact m
    rw [List.getElem?_eq_getElem m', List.getElem?_eq_getElem h2] at c
    rw [← Option.some.inj c]
    simp [m']

theorem holdsK_of_block (hk : ∀ x, (enc x).length = k) {W : World} {g e : Nat} {cur : Array Value} (hg : W.heap[g]? = some (.cells cur e (0, 0))) (d : Array α) (hc : cur.toList.take (d.size * k) = d.toList.flatMap enc) : HoldsK enc k W g 0 d := by
  intro t ht
  rw [size_flatK] at ht
  have a : (flatK enc k d).toList[t]? = cur[t]? := by
    rw [flatK_list hk, ← hc, List.getElem?_take_of_lt ht]; simp
  have b : cur[t]? = some (flatK enc k d)[t]! := by
    rw [← a]
    simp [ht]
  refine ⟨?_, by simp [World.frozen?, hg]⟩
  rw [Nat.zero_add]
  show W.cell? ⟨g, t, none⟩ = some (flatK enc k d)[t]!
  rw [← b]
  simp [World.cell?, hg]

theorem block_of_sorted (hk : ∀ x, (enc x).length = k) {W W' : World} {g e : Nat} {cur : Array Value} (hg : W.heap[g]? = some (.cells cur e (0, 0))) {d : Array α} (hs : d.size * k ≤ cur.size) (S : SWK enc k W g 0 d W') :
    ∃ cur', W'.heap[g]? = some (.cells cur' e (0, 0)) ∧ cur'.size = cur.size ∧ cur'.toList.take (d.size * k) = d.toList.flatMap enc := by
  obtain ⟨n, os, rfl⟩ := S
  have hlt : g < W.heap.size := (Array.getElem?_eq_some_iff.1 hg).1
  refine ⟨putCells id 0 (flatK enc k d) cur, ?_, by simp [putCells], ?_⟩
  · unfold sortWorldK
    rw [heap_grow_old _ _ (by rw [size_putRowK]; exact hlt)]
    show ((Sort.ahead W n).heap.modify g (onCells (putCells id 0 (flatK enc k d))))[g]? = _
    rw [Array.getElem?_modify, if_pos rfl]
    show (W.heap[g]?).map _ = _
    rw [hg]; rfl
  · rw [← flatK_list hk]
    apply List.ext_getElem?
    intro t
    by_cases ht : t < d.size * k
    · rw [List.getElem?_take_of_lt ht, Array.getElem?_toList, Array.getElem?_toList]
      have : t < cur.size := by omega
      simp [putCells, this, ht]
    · rw [List.getElem?_eq_none (by simp; omega), List.getElem?_eq_none (by simp; omega)]

theorem below_sorted {base : Nat} {w W W' : World} {g : Nat} {d : Array α} (hB : Go.RowKit.Below base w W) (hg : base ≤ g) (hb : base ≤ W.heap.size) (S : SWK enc k W g 0 d W') : Go.RowKit.Below base w W' := by
  obtain ⟨n, os, rfl⟩ := S
  have hsz : W.heap.size ≤ (sortWorldK enc k W g 0 n d os).heap.size := size_sortWorldK_c enc k W g 0 n d os
  refine ⟨hB.os, hB.tape, hB.output, Nat.le_trans hB.size hsz, fun j hj => ?_⟩
  rw [← hB.block j hj]
  unfold sortWorldK
  rw [heap_grow_old _ _ (by rw [size_putRowK]; show j < W.heap.size; omega)]
  show ((Sort.ahead W n).heap.modify g (onCells (putCells id 0 (flatK enc k d))))[j]? = _
  rw [Array.getElem?_modify, if_neg (by omega)]
  rfl
end Go.Proofs.Ytgnnhomipfjanaa.Srt
