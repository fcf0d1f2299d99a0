/- The library's stable sort answers the entries in order, equals in the order in which they came: the merges. -/
import Derived.Test.YtgnnhomipfjanaaSortL
namespace Go.Proofs.Ytgnnhomipfjanaa.Srt
open Go.Sort
variable {α : Type} [Inhabited α] {lt : α → α → Bool}

/-- What became of a part: in order, the same class by class; nothing outside. -/
structure Merged (lt : α → α → Bool) (a b : Nat) (d r : Array α) : Prop where
  out : Out a b d r
  srt : Srt lt (seg r a b)
  same : Same lt (seg d a b) (seg r a b)

theorem le_of_srt (hO : SWO lt) {d : Array α} {a b i j : Nat} (h : Srt lt (seg d a b)) (h1 : a ≤ i) (h2 : i ≤ j) (h3 : j < b) : lt d[j]! d[i]! = false := by
  by_cases e : i = j
  · rw [e]; exact hO.irrefl _
  · exact srt_seg.1 h i j h1 (by omega) h3

/-- Three parts of which the first two change places. -/
theorem merged_swap (hO : SWO lt) {d r : Array α} {a x y b : Nat} (h1 : a ≤ x) (h2 : x ≤ y) (h3 : y ≤ b)
    (g : ∀ k, r[k]! = if a ≤ k ∧ k < a + (y - x) then d[k + (x - a)]! else if a + (y - x) ≤ k ∧ k < y then d[k - (y - x)]! else d[k]!)
    (hlt : ∀ i j, a ≤ i → i < x → x ≤ j → j < y → lt d[j]! d[i]! = true) :
    Out a y d r ∧ seg r a (a + (y - x)) = seg d x y ∧ seg r (a + (y - x)) y = seg d a x ∧ Same lt (seg d a b) (seg r a b) := by
  have o : Out a y d r := fun k hk => by rw [g, if_neg (by omega), if_neg (by omega)]
  have s1 : seg r a (a + (y - x)) = seg d x y := seg_congr (by omega) fun k hk => by
    rw [g, if_pos (by omega)]; congr 1 <;> omega
  have s2 : seg r (a + (y - x)) y = seg d a x := seg_congr (by omega) fun k hk => by
    rw [g, if_neg (by omega), if_pos (by omega)]; congr 1 <;> omega
  refine ⟨o, s1, s2, Same.wide (a := a) (b := y) ?_ o (Nat.le_refl _) (by omega) h3⟩
  rw [← seg_app d h1 h2, ← seg_app r (show a ≤ a + (y - x) from by omega) (show a + (y - x) ≤ y from by omega), s1, s2]
  refine same_swap hO ?_
  intro u hu v hv
  obtain ⟨i, i1, i2, rfl⟩ := mem_seg.1 hu
  obtain ⟨j, j1, j2, rfl⟩ := mem_seg.1 hv
  exact hlt i j i1 i2 j1 j2

theorem merge_one (hO : SWO lt) (d : Array α) (a b : Nat) (hb : b ≤ d.size) (hab : a + 1 < b) (h : Srt lt (seg d (a + 1) b)) :
    Merged lt a b d (bubUp d a (bsearch (fun h => lt d[h]! d[a]!) (b - (a + 1)) (a + 1) b - 1 - a)) := by
  have hr := bsearch_range (fun h => lt d[h]! d[a]!) (b - (a + 1)) (a + 1) b (by omega)
  have hs := bsearch_spec (fun h => lt d[h]! d[a]!) (b - (a + 1)) (a + 1) b (Nat.le_refl _) (by omega) (fun x y h1 h2 h3 h4 => le_lt hO (srt_seg.1 h x y h1 h2 h3) h4)
  generalize bsearch (fun h => lt d[h]! d[a]!) (b - (a + 1)) (a + 1) b = i at hr hs
  have g0 := bubUp_get d a (i - 1 - a) (by omega)
  have g : ∀ k, (bubUp d a (i - 1 - a))[k]! = if a ≤ k ∧ k < a + (i - (a + 1)) then d[k + (a + 1 - a)]! else if a + (i - (a + 1)) ≤ k ∧ k < i then d[k - (i - (a + 1))]! else d[k]! := fun k => by
    rw [g0]
    (repeat' split) <;> first | (exfalso; omega) | (congr 1 <;> omega)
  obtain ⟨o, s1, s2, sm⟩ := merged_swap hO (x := a + 1) (y := i) (b := b) (by omega) hr.1 hr.2 g (fun p q p1 p2 q1 q2 => by
    obtain rfl : p = a := by omega
    exact hs.1 q q1 q2)
  refine ⟨o.mono (Nat.le_refl _) hr.2, srt_seg.2 fun p q hp hpq hq => ?_, sm⟩
  rw [g, g]
  by_cases c1 : q < a + (i - (a + 1))
  · rw [if_pos (by omega), if_pos (by omega)]
    exact srt_seg.1 h _ _ (by omega) (by omega) (by omega)
  · by_cases c2 : q < i
    · obtain rfl : q = i - 1 := by omega
      rw [if_neg (by omega), if_pos (by omega), if_pos (by omega)]
      have := hs.1 (p + (a + 1 - a)) (by omega) (by omega)
      rw [show i - 1 - (i - (a + 1)) = a from by omega]
      exact lt_asymm hO this
    · rw [if_neg (by omega), if_neg (by omega)]
      by_cases c3 : p < a + (i - (a + 1))
      · rw [if_pos (by omega)]
        exact srt_seg.1 h _ _ (by omega) (by omega) hq
      · by_cases c4 : p < i
        · rw [if_neg (by omega), if_pos (by omega), show p - (i - (a + 1)) = a from by omega]
          exact hs.2 q (by omega) hq
        · rw [if_neg (by omega), if_neg (by omega)]
          exact srt_seg.1 h _ _ (by omega) (by omega) hq

theorem merge_two (hO : SWO lt) (d : Array α) (a m : Nat) (hb : m < d.size) (hab : a < m) (h : Srt lt (seg d a m)) :
    Merged lt a (m + 1) d (bubDown d m (m - bsearch (fun h => !lt d[m]! d[h]!) (m - a) a m)) := by
  have hr := bsearch_range (fun h => !lt d[m]! d[h]!) (m - a) a m (by omega)
  have hs := bsearch_spec (fun h => !lt d[m]! d[h]!) (m - a) a m (Nat.le_refl _) (by omega) (fun x y h1 h2 h3 h4 => by
    have h4' : lt d[m]! d[y]! = false := by simpa using h4
    have : lt d[m]! d[x]! = false := le_le hO (srt_seg.1 h x y h1 h2 h3) h4'
    simpa using this)
  generalize bsearch (fun h => !lt d[m]! d[h]!) (m - a) a m = i at hr hs
  have hs1 : ∀ x, a ≤ x → x < i → lt d[m]! d[x]! = false := fun x h1 h2 => by simpa using hs.1 x h1 h2
  have hs2 : ∀ x, i ≤ x → x < m → lt d[m]! d[x]! = true := fun x h1 h2 => by simpa using hs.2 x h1 h2
  have g0 := bubDown_get d m (m - i) (by omega) hb
  have g : ∀ k, (bubDown d m (m - i))[k]! = if i ≤ k ∧ k < i + (m + 1 - m) then d[k + (m - i)]! else if i + (m + 1 - m) ≤ k ∧ k < m + 1 then d[k - (m + 1 - m)]! else d[k]! := fun k => by
    rw [g0]
    (repeat' split) <;> first | (exfalso; omega) | (congr 1 <;> omega)
  obtain ⟨o, s1, s2, sm⟩ := merged_swap hO (a := i) (x := m) (y := m + 1) (b := m + 1) hr.2 (by omega) (Nat.le_refl _) g (fun p q p1 p2 q1 q2 => by
    obtain rfl : q = m := by omega
    exact hs2 p p1 p2)
  refine ⟨o.mono hr.1 (Nat.le_refl _), srt_seg.2 fun p q hp hpq hq => ?_, sm.wide (o.mono (Nat.le_refl _) (Nat.le_refl _)) hr.1 (by omega) (Nat.le_refl _)⟩
  rw [g, g]
  by_cases c1 : q < i
  · rw [if_neg (by omega), if_neg (by omega), if_neg (by omega), if_neg (by omega)]
    exact srt_seg.1 h _ _ hp hpq (by omega)
  · by_cases c2 : q = i
    · subst c2
      rw [if_pos (by omega), if_neg (by omega), if_neg (by omega), show q + (m - q) = m from by omega]
      exact hs1 p hp hpq
    · rw [if_neg (by omega), if_pos (by omega)]
      by_cases c3 : p < i
      · rw [if_neg (by omega), if_neg (by omega)]
        exact srt_seg.1 h _ _ hp (by omega) (by omega)
      · by_cases c4 : p = i
        · subst c4
          rw [if_pos (by omega), show p + (m - p) = m from by omega]
          exact lt_asymm hO (hs2 _ (by omega) (by omega))
        · rw [if_neg (by omega), if_pos (by omega)]
          exact srt_seg.1 h _ _ (by omega) (by omega) (by omega)

/-- Two parts side by side, each in order, all of the first one not behind all of the second one. -/
theorem srt_join {β : Type} {lt : β → β → Bool} (hO : SWO lt) {l l' u v : List β} (hl : Srt lt l') (hu : Srt lt v) (hs : Same lt l l') (ht : Same lt u v) (hx : ∀ x ∈ l, ∀ y ∈ u, lt y x = false) : Srt lt (l' ++ v) := by
  unfold Srt
  rw [List.pairwise_append]
  exact ⟨hl, hu, fun x h1 y h2 => hx x ((hs.mem hO x).2 h1) y ((ht.mem hO y).2 h2)⟩

theorem cut_facts (hO : SWO lt) (d : Array α) (a m b : Nat) (h1 : a < m) (h2 : m < b) (hl : Srt lt (seg d a m)) (hr : Srt lt (seg d m b)) {md i e : Nat} (hmd : md = (a + b) / 2) (hi : cutAt lt a m b d = i) (he : e + i = md + m) :
    (i < m → m < e → lt d[e - 1]! d[i]! = true) ∧ (a < i → e < b → lt d[e]! d[i - 1]! = false) := by
  subst hmd
  have mono : ∀ lo hi', a ≤ lo → hi' ≤ m → hi' ≤ (a + b) / 2 → (a + b) / 2 + m ≤ b + lo → ∀ x y, lo ≤ x → x < y → y < hi' → (!lt d[(a + b) / 2 + m - 1 - y]! d[y]!) = true → (!lt d[(a + b) / 2 + m - 1 - x]! d[x]!) = true := fun lo hi' k1 k2 k3 k4 x y p1 p2 p3 p4 => by
    have q1 : lt d[(a + b) / 2 + m - 1 - y]! d[y]! = false := by simpa using p4
    have q2 : lt d[y]! d[x]! = false := srt_seg.1 hl x y (by omega) p2 (by omega)
    have q3 : lt d[(a + b) / 2 + m - 1 - x]! d[(a + b) / 2 + m - 1 - y]! = false := srt_seg.1 hr _ _ (by omega) (by omega) (by omega)
    have := le_le hO (le_le hO q2 q1) q3
    simpa using this
  unfold cutAt at hi
  split at hi
  · rename_i hc
    have hs := bsearch_spec (fun c => !lt d[(a + b) / 2 + m - 1 - c]! d[c]!) (b - m) ((a + b) / 2 + m - b) ((a + b) / 2) (by omega) (by omega) (mono _ _ (by omega) (by omega) (by omega) (by omega))
    have hg := bsearch_range (fun c => !lt d[(a + b) / 2 + m - 1 - c]! d[c]!) (b - m) ((a + b) / 2 + m - b) ((a + b) / 2) (by omega)
    rw [hi] at hs hg
    refine ⟨fun c1 c2 => ?_, fun c1 c2 => ?_⟩
    · have := hs.2 i (Nat.le_refl _) (by omega)
      rw [show e - 1 = (a + b) / 2 + m - 1 - i from by omega]
      simpa using this
    · have := hs.1 (i - 1) (by omega) (by omega)
      rw [show (e : Nat) = (a + b) / 2 + m - 1 - (i - 1) from by omega]
      simpa using this
  · rename_i hc
    have hs := bsearch_spec (fun c => !lt d[(a + b) / 2 + m - 1 - c]! d[c]!) (m - a) a m (by omega) (by omega) (mono _ _ (by omega) (by omega) (by omega) (by omega))
    have hg := bsearch_range (fun c => !lt d[(a + b) / 2 + m - 1 - c]! d[c]!) (m - a) a m (by omega)
    rw [hi] at hs hg
    refine ⟨fun c1 c2 => ?_, fun c1 c2 => ?_⟩
    · have := hs.2 i (Nat.le_refl _) (by omega)
      rw [show e - 1 = (a + b) / 2 + m - 1 - i from by omega]
      simpa using this
    · have := hs.1 (i - 1) (by omega) (by omega)
      rw [show (e : Nat) = (a + b) / 2 + m - 1 - (i - 1) from by omega]
      simpa using this

/-- The merge of two parts in order. -/
theorem symM_merges (hO : SWO lt) : ∀ (f a m b : Nat) (d : Array α), a < m → m < b → b ≤ d.size → b - a ≤ f → Srt lt (seg d a m) → Srt lt (seg d m b) → Merged lt a b d (symM lt f a m b d)
  | 0, a, m, b, d, h1, h2, h3, h4, _, _ => by omega
  | f + 1, a, m, b, d, h1, h2, h3, h4, hl, hr => by
    by_cases c1 : m = a + 1
    · subst c1
      rw [symM, if_pos rfl]
      exact merge_one hO d a b h3 h2 hr
    by_cases c2 : b = m + 1
    · subst c2
      rw [symM, if_neg c1, if_pos rfl]
      exact merge_two hO d a m (by omega) h1 hl
    obtain ⟨md, hmd⟩ : ∃ md, md = (a + b) / 2 := ⟨_, rfl⟩
    obtain ⟨i, hi⟩ : ∃ i, cutAt lt a m b d = i := ⟨_, rfl⟩
    have hg := cutAt_range lt a m b d h1 h2
    rw [hi, ← hmd] at hg
    obtain ⟨e, he⟩ : ∃ e, e + i = md + m := ⟨md + m - i, by omega⟩
    have hcf := cut_facts hO d a m b h1 h2 hl hr hmd hi he
    rw [symM_main lt f a m b i e md d c1 c2 hmd hi (by omega)]
    -- the rotation
    have hx : ∀ p q, i ≤ p → p < m → m ≤ q → q < e → lt d[q]! d[p]! = true := fun p q p1 p2 q1 q2 => by
      have k := hcf.1 (by omega) (by omega)
      exact lt_le hO (le_lt hO (le_of_srt hO hr q1 (show q ≤ e - 1 by omega) (by omega)) k) (le_of_srt hO hl hg.1 p1 p2)
    obtain ⟨r, hr1⟩ : ∃ r, r = (if i < m ∧ m < e then rot m (e - i) (m - i) (e - m) d else d) := ⟨_, rfl⟩
    rw [← hr1]
    have hrz : r.size = d.size := by rw [hr1]; split; exact size_rot _ _ _ _ _; rfl
    have g : ∀ k, r[k]! = if i ≤ k ∧ k < i + (e - m) then d[k + (m - i)]! else if i + (e - m) ≤ k ∧ k < e then d[k - (e - m)]! else d[k]! := fun k => by
      rw [hr1]
      split
      · rw [rot_get m _ _ _ d (by omega) (by omega) (by omega) (by omega) (by omega)]
        (repeat' split) <;> first | (exfalso; omega) | (congr 1 <;> omega)
      · (repeat' split) <;> first | (exfalso; omega) | (congr 1 <;> omega) | rfl
    clear hr1
    obtain ⟨o, s1, s2, sm⟩ := merged_swap hO (a := i) (x := m) (y := e) (b := e) (by omega) (by omega) (Nat.le_refl _) g hx
    have em : i + (e - m) = md := by omega
    rw [em] at s1 s2
    have o' : Out a b d r := o.mono hg.1 (by omega)
    have sm' : Same lt (seg d a b) (seg r a b) := sm.wide o hg.1 (by omega) (by omega)
    have s0 : seg r a i = seg d a i := o.part (Or.inl (Nat.le_refl _))
    have s3 : seg r e b = seg d e b := o.part (Or.inr (Nat.le_refl _))
    have part : ∀ {x y : Nat}, a ≤ x → y ≤ m → Srt lt (seg d x y) := fun h h' => srt_seg.2 fun p q k1 k2 k3 => srt_seg.1 hl p q (by omega) k2 (by omega)
    have part' : ∀ {x y : Nat}, m ≤ x → y ≤ b → Srt lt (seg d x y) := fun h h' => srt_seg.2 fun p q k1 k2 k3 => srt_seg.1 hr p q (by omega) k2 (by omega)
    -- the left half
    obtain ⟨r2, hr2⟩ : ∃ r2, r2 = (if a < i ∧ i < md then symM lt f a i md r else r) := ⟨_, rfl⟩
    rw [← hr2]
    have M2 : Merged lt a md r r2 := by
      rw [hr2]
      split
      · exact symM_merges hO f a i md r (by omega) (by omega) (by omega) (by omega) (by rw [s0]; exact part (Nat.le_refl _) (by omega)) (by rw [s1]; exact part' (Nat.le_refl _) (by omega))
      · refine ⟨Out.refl _ _ _, ?_, Same.refl _⟩
        by_cases q : a = i
        · subst q; rw [s1]; exact part' (Nat.le_refl _) (by omega)
        · have q' : md = i := by omega
          rw [q', s0]; exact part (Nat.le_refl _) (by omega)
    have hz2 : r2.size = d.size := by rw [hr2]; split; rw [size_symM]; exact hrz; exact hrz
    clear hr2
    obtain ⟨r3, hr3⟩ : ∃ r3, r3 = (if md < e ∧ e < b then symM lt f md e b r2 else r2) := ⟨_, rfl⟩
    rw [← hr3]
    have t1 : seg r2 md e = seg d i m := (M2.out.part (Or.inr (Nat.le_refl _))).trans s2
    have t2 : seg r2 e b = seg d e b := (M2.out.part (Or.inr (by omega))).trans s3
    have M3 : Merged lt md b r2 r3 := by
      rw [hr3]
      split
      · exact symM_merges hO f md e b r2 (by omega) (by omega) (by omega) (by omega) (by rw [t1]; exact part hg.1 (Nat.le_refl _)) (by rw [t2]; exact part' (by omega) (Nat.le_refl _))
      · refine ⟨Out.refl _ _ _, ?_, Same.refl _⟩
        by_cases q : md = e
        · rw [q, t2]; exact part' (by omega) (Nat.le_refl _)
        · have q' : b = e := by omega
          rw [q', t1]; exact part hg.1 (Nat.le_refl _)
    clear hr3
    have hab : a ≤ md := by omega
    have hbb : md ≤ b := by omega
    have u1 : seg r3 a md = seg r2 a md := M3.out.part (Or.inl (Nat.le_refl _))
    have e2 : Same lt (seg r a b) (seg r2 a b) := M2.same.wide M2.out (Nat.le_refl _) hab hbb
    have e3 : Same lt (seg r2 a b) (seg r3 a b) := M3.same.wide M3.out hab hbb (Nat.le_refl _)
    refine ⟨(o'.trans (M2.out.mono (Nat.le_refl _) hbb)).trans (M3.out.mono hab (Nat.le_refl _)), ?_, (sm'.trans e2).trans e3⟩
    rw [← seg_app r3 hab hbb, u1]
    have w1 : seg r a md = seg d a i ++ seg d m e := by rw [← seg_app r hg.1 (show i ≤ md by omega), s0, s1]
    have w2 : seg r2 md b = seg d i m ++ seg d e b := by rw [← seg_app r2 (show md ≤ e by omega) (show e ≤ b by omega), t1, t2]
    refine srt_join hO M2.srt M3.srt M2.same M3.same ?_
    rw [w1, w2]
    intro x hx' y hy'
    rw [List.mem_append, mem_seg, mem_seg] at hx' hy'
    rcases hx' with ⟨p, p1, p2, rfl⟩ | ⟨p, p1, p2, rfl⟩ <;> rcases hy' with ⟨q, q1, q2, rfl⟩ | ⟨q, q1, q2, rfl⟩
    · exact srt_seg.1 hl p q p1 (by omega) q2
    · have k := hcf.2 (by omega) (by omega)
      exact le_le hO (le_le hO (le_of_srt hO hl p1 (show p ≤ i - 1 by omega) (by omega)) k) (le_of_srt hO hr (by omega) q1 q2)
    · exact lt_asymm hO (hx q p q1 q2 p1 p2)
    · exact srt_seg.1 hr p q p1 (by omega) q2
end Go.Proofs.Ytgnnhomipfjanaa.Srt
