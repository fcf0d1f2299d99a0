/- The text of a word between quotes, as bytes: it is read as it was. -/
import Derived.Test.YtlkbeddlmbghkaaGreatDoorLx
import Derived.Lib.ItoaNum
import Derived.Lib.Join
import Derived.Lib.RuneBytes
import Derived.Test.YtlkbeddlmbghkaaGreatDoorShelfA
import Derived.Test.YtlkbeddlmbghkaaGreatDoorRng
import Derived.Test.YtlkbeddlmbghkaaGreatDoorBox1
import Derived.Lib.SmallJoins
import Derived.Lib.AppendIntMem
import Derived.Test.YtlkbeddlmbghkaaGreatDoorPRx0
namespace Go.Proofs.YtlkbeddlmbghkaaGreatDoor.PR
open Go Go.Proofs Go.RowKit Go.Proofs.YtlkbeddlmbghkaaGreatDoorW.PrintWords Go.Proofs.YtlkbeddlmbghkaaGreatDoorW.PrintLast Go.Proofs.YtlkbeddlmbghkaaGreatDoorW.PrintMore Go.Proofs.YtlkbeddlmbghkaaGreatDoor.Lx
set_option linter.unusedVariables false
set_option linter.unusedSimpArgs false

/-! ### what a text's quoting is -/
def hexD (n : Nat) : UInt8 := UInt8.ofNat (if n < 10 then 48 + n else 87 + n)
/-- A byte that is told by its digits. -/
def escQ (s : ByteArray) (p : Nat) : Bool := decide (widS s p = 0) || decide (byteN s p < 32) || decide (byteN s p = 127)
def pieceQ (s : ByteArray) (p : Nat) : List UInt8 :=
  if escQ s p then [92, 120, hexD (byteN s p / 16), hexD (byteN s p % 16)]
  else (if byteN s p = 34 ∨ byteN s p = 92 then [92] else []) ++ (s.data.toList.drop p).take (widS s p).toNat
def stepQ (s : ByteArray) (p : Nat) : Nat := if escQ s p then 1 else (widS s p).toNat
def quoteF (s : ByteArray) : Nat → Nat → List UInt8
  | 0, _ => []
  | k + 1, p => if p < s.size then pieceQ s p ++ quoteF s k (p + stepQ s p) else []
/-- A text between quotes. -/
def quoteL (s : ByteArray) : List UInt8 := 34 :: (quoteF s s.size 0 ++ [34])

theorem byteN_at (s : ByteArray) (p : Nat) (h : p < s.data.toList.length) : byteN s p = (s.data.toList[p]'h).toNat := by
  unfold byteN
  rw [dif_pos (by rw [Lib.size_eq]; exact h)]
  rfl
theorem inB_iff {s : ByteArray} {i lo hi : Nat} : inB s i lo hi = true ↔ i < s.size ∧ lo ≤ byteN s i ∧ byteN s i ≤ hi := by
  unfold inB
  simp only [Bool.and_eq_true, decide_eq_true_eq]
  exact ⟨fun h => ⟨h.1.1, h.1.2, h.2⟩, fun h => ⟨⟨h.1, h.2.1⟩, h.2.2⟩⟩

/-- What a width tells of the bytes. -/
theorem wid_facts (s : ByteArray) (p : Nat) (hp : p < s.size) : widS s p = 0 ∨ (widS s p = 1 ∧ byteN s p ≤ 127) ∨
    (2 ≤ widS s p ∧ widS s p ≤ 4 ∧ 194 ≤ byteN s p ∧ p + (widS s p).toNat ≤ s.size ∧ ∀ i, 1 ≤ i → i < (widS s p).toNat → 128 ≤ byteN s (p + i)) := by
  unfold widS
  simp only [Bool.and_eq_true, Bool.or_eq_true, inB_iff]
  split
  · exact .inr (.inl ⟨rfl, by omega⟩)
  split
  · refine .inr (.inr ⟨by decide, by decide, by omega, by show p + 2 ≤ _; omega, fun i h1 h2 => ?_⟩)
    have : i = 1 := by have : i < 2 := h2; omega
    subst this; omega
  split
  · refine .inr (.inr ⟨by decide, by decide, by omega, by show p + 3 ≤ _; omega, fun i h1 h2 => ?_⟩)
    have : i = 1 ∨ i = 2 := by have : i < 3 := h2; omega
    rcases this with rfl | rfl <;> omega
  split
  · refine .inr (.inr ⟨by decide, by decide, by omega, by show p + 4 ≤ _; omega, fun i h1 h2 => ?_⟩)
    have : i = 1 ∨ i = 2 ∨ i = 3 := by have : i < 4 := h2; omega
    rcases this with rfl | rfl | rfl <;> omega
  · exact .inl rfl
set_option maxHeartbeats 40000000 in
/-- A width hangs on the rune's own bytes alone. -/
theorem wid_local (s o : ByteArray) (p q : Nat) (w : Nat) (hw : widS s p = (w : Int)) (h0 : 0 < w) (hs : p + w ≤ s.size) (ho : q + w ≤ o.size) (he : ∀ i, i < w → byteN o (q + i) = byteN s (p + i)) : widS o q = (w : Int) := by
  have e0 : byteN o q = byteN s p := he 0 h0
  have e1 : 1 < w → byteN o (q + 1) = byteN s (p + 1) := he 1
  have e2 : 2 < w → byteN o (q + 2) = byteN s (p + 2) := he 2
  have e3 : 3 < w → byteN o (q + 3) = byteN s (p + 3) := he 3
  clear he
  unfold widS at hw ⊢
  simp only [Bool.and_eq_true, Bool.or_eq_true, inB_iff] at hw ⊢
  generalize byteN s p = a0 at *
  generalize byteN s (p + 1) = a1 at *
  generalize byteN s (p + 2) = a2 at *
  generalize byteN s (p + 3) = a3 at *
  generalize byteN o q = b0 at *
  generalize byteN o (q + 1) = b1 at *
  generalize byteN o (q + 2) = b2 at *
  generalize byteN o (q + 3) = b3 at *
  have hsp : p < s.size := by omega
  have hso : q < o.size := by omega
  split at hw
  · have hw1 : w = 1 := by omega
    subst hw1
    rw [if_pos (by omega)]
    rfl
  split at hw
  · have hw1 : w = 2 := by omega
    subst hw1
    have f1 := e1 (by omega)
    rw [if_neg (by omega), if_pos (by omega)]
    rfl
  split at hw
  · rename_i h1 h2 h3
    have hw1 : w = 3 := by omega
    subst hw1
    have f1 := e1 (by omega)
    have f2 := e2 (by omega)
    clear e1 e2 e3 h1 h2 hw
    subst e0 f1 f2
    rw [if_neg (by omega), if_neg (by omega), if_pos ⟨by omega, by omega⟩]
    rfl
  split at hw
  · rename_i h1 h2 h3 h4
    have hw1 : w = 4 := by omega
    subst hw1
    have f1 := e1 (by omega)
    have f2 := e2 (by omega)
    have f3 := e3 (by omega)
    clear e1 e2 e3 h1 h2 h3 hw
    subst e0 f1 f2 f3
    rw [if_neg (by omega), if_neg (by omega), if_neg (by omega), if_pos ⟨⟨by omega, by omega⟩, by omega⟩]
    rfl
  · omega

/-- The three forms of a piece. -/
theorem piece_cases (s : ByteArray) (p : Nat) (hp : p < s.data.toList.length) :
    (stepQ s p = 1 ∧ pieceQ s p = [92, 120, hexD ((s.data.toList[p]'hp).toNat / 16), hexD ((s.data.toList[p]'hp).toNat % 16)]) ∨
    (stepQ s p = 1 ∧ ((s.data.toList[p]'hp).toNat = 34 ∨ (s.data.toList[p]'hp).toNat = 92) ∧ pieceQ s p = [92, s.data.toList[p]'hp]) ∨
    (∃ w, 0 < w ∧ stepQ s p = w ∧ widS s p = (w : Int) ∧ p + w ≤ s.data.toList.length ∧ pieceQ s p = (s.data.toList.drop p).take w ∧ ∀ b ∈ (s.data.toList.drop p).take w, 32 ≤ b.toNat ∧ b.toNat ≠ 34 ∧ b.toNat ≠ 92 ∧ b.toNat ≠ 127) := by
  have hsz : s.size = s.data.toList.length := Lib.size_eq s
  have hb := byteN_at s p hp
  have hf := wid_facts s p (by omega)
  unfold stepQ pieceQ
  by_cases he : escQ s p = true
  · refine .inl ⟨by rw [if_pos he], by rw [if_pos he, hb]⟩
  rw [if_neg he, if_neg he]
  have h1 : widS s p ≠ 0 ∧ 32 ≤ byteN s p ∧ byteN s p ≠ 127 := by
    unfold escQ at he
    simp only [Bool.or_eq_true, decide_eq_true_eq, not_or] at he
    omega
  rcases hf with hf | ⟨hf, hc⟩ | ⟨h2, h4, hc, hl, hi⟩
  · exact absurd hf h1.1
  · have ht : (s.data.toList.drop p).take (widS s p).toNat = [s.data.toList[p]'hp] := by
      rw [hf, List.drop_eq_getElem_cons hp]; rfl
    by_cases hq : byteN s p = 34 ∨ byteN s p = 92
    · refine .inr (.inl ⟨by rw [hf]; rfl, by rw [← hb]; exact hq, by rw [if_pos hq, ht]; rfl⟩)
    · refine .inr (.inr ⟨1, by omega, by rw [hf]; rfl, hf, by omega, by rw [if_neg hq, List.nil_append, hf]; rfl, fun b hbm => ?_⟩)
      rw [show (1 : Nat) = (widS s p).toNat by rw [hf]; rfl, ht, List.mem_singleton] at hbm
      subst hbm
      rw [← hb]
      omega
  · refine .inr (.inr ⟨(widS s p).toNat, by omega, rfl, by omega, by omega, by rw [if_neg (by omega), List.nil_append], fun b hbm => ?_⟩)
    obtain ⟨i, hi2, rfl⟩ := List.mem_iff_getElem.1 hbm
    have hil : i < (widS s p).toNat := by rw [List.length_take] at hi2; omega
    have hpi : p + i < s.data.toList.length := by omega
    rw [List.getElem_take, List.getElem_drop, ← byteN_at s (p + i) hpi]
    by_cases h0 : i = 0
    · subst h0; rw [Nat.add_zero]; omega
    · have := hi i (by omega) hil; omega

/-! ### what is between the quotes is read as it was -/
theorem hexD_V (n : Nat) (h : n < 16) : hexV (hexD n) = some n := by
  have k : ∀ n : Fin 16, hexV (hexD n) = some n.val := by decide +kernel
  exact k ⟨n, h⟩
theorem hexD_plain (n : Nat) (h : n < 16) : 48 ≤ (hexD n).toNat ∧ (hexD n).toNat ≤ 102 ∧ (hexD n).toNat ≠ 92 := by
  have k : ∀ n : Fin 16, 48 ≤ (hexD n).toNat ∧ (hexD n).toNat ≤ 102 ∧ (hexD n).toNat ≠ 92 := by decide +kernel
  exact k ⟨n, h⟩
theorem unqL_run : ∀ (a t : List UInt8), (∀ b ∈ a, 32 ≤ b.toNat ∧ b.toNat ≠ 34 ∧ b.toNat ≠ 92 ∧ b.toNat ≠ 127) → unqL (a ++ t) = (unqL t).map (a ++ ·)
  | [], t, _ => by cases h : unqL t <;> simp [h]
  | c :: a, t, h => by
    have hc := h c (by simp)
    rw [List.cons_append, unqL_plain _ (by unfold badQ; simp; omega) (by omega), unqL_run a t (fun b hb => h b (by simp [hb])), Option.map_map]
    rfl
theorem unq_quote (s : ByteArray) : ∀ (k p : Nat), s.data.toList.length - p ≤ k → unqL (quoteF s k p) = some (s.data.toList.drop p)
  | 0, p, h => by rw [quoteF, unqL_nil, List.drop_of_length_le (by omega)]
  | k + 1, p, h => by
    have hsz : s.size = s.data.toList.length := Lib.size_eq s
    rw [quoteF]
    by_cases hp : p < s.data.toList.length
    · rw [if_pos (by omega)]
      rcases piece_cases s p hp with ⟨h1, h2⟩ | ⟨h1, h2, h3⟩ | ⟨w, h0, h1, -, hl, h2, h3⟩
      · have hc := (s.data.toList[p]'hp).toNat_lt
        rw [h1, h2]
        show unqL (92 :: 120 :: hexD _ :: hexD _ :: quoteF s k (p + 1)) = _
        rw [unqL_bh (c := 92) (d := 120) _ rfl rfl (hexD_V _ (by omega)) (hexD_V _ (by omega)), unq_quote s k (p + 1) (by omega), List.drop_eq_getElem_cons hp, Option.map_some, show (s.data.toList[p]'hp).toNat / 16 * 16 + (s.data.toList[p]'hp).toNat % 16 = (s.data.toList[p]'hp).toNat by omega]
        congr 2
        simp
      · rw [h1, h3]
        show unqL (92 :: s.data.toList[p]'hp :: quoteF s k (p + 1)) = _
        rw [unqL_bq (c := 92) _ rfl h2, unq_quote s k (p + 1) (by omega), List.drop_eq_getElem_cons hp]; rfl
      · rw [h1, h2, unqL_run _ _ h3, unq_quote s k (p + w) (by omega), Option.map_some, ← List.drop_drop, List.take_append_drop]
    · rw [if_neg (by omega), unqL_nil, List.drop_of_length_le (by omega)]

theorem qend_run : ∀ (a t : List UInt8), (∀ b ∈ a, 32 ≤ b.toNat ∧ b.toNat ≠ 34 ∧ b.toNat ≠ 92 ∧ b.toNat ≠ 127) → qendL (a ++ t) = (qendL t).map (· + a.length)
  | [], t, _ => by cases h : qendL t <;> simp [h]
  | c :: a, t, h => by
    have hc := h c (by simp)
    rw [List.cons_append, qendL_cons, if_neg (by omega), if_neg (by omega), qend_run a t (fun b hb => h b (by simp [hb])), Option.map_map]
    congr 1
theorem qend_quote (s : ByteArray) (r : List UInt8) : ∀ (k p : Nat), qendL (quoteF s k p ++ 34 :: r) = some ((quoteF s k p).length + 1)
  | 0, p => by rw [quoteF, List.nil_append, qendL_cons]; rfl
  | k + 1, p => by
    have hsz : s.size = s.data.toList.length := Lib.size_eq s
    rw [quoteF]
    by_cases hp : p < s.data.toList.length
    · rw [if_pos (by omega), List.append_assoc]
      rcases piece_cases s p hp with ⟨h1, h2⟩ | ⟨h1, h2, h3⟩ | ⟨w, h0, h1, -, hl, h2, h3⟩
      · have hc := (s.data.toList[p]'hp).toNat_lt
        have a1 := hexD_plain ((s.data.toList[p]'hp).toNat / 16) (by omega)
        have a2 := hexD_plain ((s.data.toList[p]'hp).toNat % 16) (by omega)
        rw [h1, h2]
        show qendL (92 :: 120 :: hexD _ :: hexD _ :: (quoteF s k (p + 1) ++ 34 :: r)) = _
        rw [qendL_cons, if_pos (by rfl), List.drop_succ_cons, List.drop_zero, qendL_cons, if_neg (by omega), if_neg (by omega), qendL_cons, if_neg (by omega), if_neg (by omega), qend_quote s r k (p + 1)]
        simp only [Option.map_some, List.length_append, List.length_cons, List.length_nil]
        congr 1
        omega
      · rw [h1, h3]
        show qendL (92 :: s.data.toList[p]'hp :: (quoteF s k (p + 1) ++ 34 :: r)) = _
        rw [qendL_cons, if_pos (by rfl), List.drop_succ_cons, List.drop_zero, qend_quote s r k (p + 1)]
        simp only [Option.map_some, List.length_append, List.length_cons, List.length_nil]
        congr 1
        omega
      · rw [h1, h2, qend_run _ _ h3, qend_quote s r k (p + w)]
        simp only [Option.map_some, List.length_append]
        congr 1
        omega
    · rw [if_neg (by omega), List.nil_append, qendL_cons]; rfl

/-- Nothing between the quotes is a sign of control. -/
theorem quoteF_high (s : ByteArray) : ∀ (k p : Nat), ∀ b ∈ quoteF s k p, 32 ≤ b.toNat
  | 0, p, b, h => by rw [quoteF] at h; cases h
  | k + 1, p, b, h => by
    have hsz : s.size = s.data.toList.length := Lib.size_eq s
    rw [quoteF] at h
    by_cases hp : p < s.data.toList.length
    · rw [if_pos (by omega)] at h
      rcases List.mem_append.1 h with h | h
      · rcases piece_cases s p hp with ⟨h1, h2⟩ | ⟨h1, h2, h3⟩ | ⟨w, h0, h1, -, hl, h2, h3⟩
        · have hc := (s.data.toList[p]'hp).toNat_lt
          have a1 := hexD_plain ((s.data.toList[p]'hp).toNat / 16) (by omega)
          have a2 := hexD_plain ((s.data.toList[p]'hp).toNat % 16) (by omega)
          rw [h2] at h
          simp only [List.mem_cons, List.not_mem_nil, or_false] at h
          rcases h with rfl | rfl | rfl | rfl
          · decide
          · decide
          · omega
          · omega
        · rw [h3] at h
          simp only [List.mem_cons, List.not_mem_nil, or_false] at h
          rcases h with rfl | rfl
          · decide
          · omega
        · rw [h2] at h
          exact (h3 b h).1
      · exact quoteF_high s k _ b h
    · rw [if_neg (by omega)] at h; cases h
theorem quoteL_high (s : ByteArray) (b : UInt8) (h : b ∈ quoteL s) : 32 ≤ b.toNat := by
  unfold quoteL at h
  rcases List.mem_cons.1 h with rfl | h
  · decide
  rcases List.mem_append.1 h with h | h
  · exact quoteF_high s _ _ b h
  · rw [List.mem_singleton.1 h]; decide

/-! ### a rune stands at each place -/
theorem byteN_drop (o : ByteArray) (q : Nat) (l : List UInt8) (h : o.data.toList.drop q = l) (i : Nat) (hi : i < l.length) : q + i < o.size ∧ byteN o (q + i) = (l[i]'hi).toNat := by
  subst h
  have h2 := hi
  rw [List.length_drop] at h2
  have h3 : q + i < o.data.toList.length := by omega
  refine ⟨by rw [Lib.size_eq]; exact h3, ?_⟩
  rw [byteN_at o (q + i) h3, List.getElem_drop]
theorem right_step (o : ByteArray) (m q w : Nat) (h : widS o q = (w : Int)) (h0 : 0 < w) (hq : q < o.size) : rightFrom o (m + 1) q = rightFrom o m (q + w) := by
  have hw := wid_decode o q hq
  rw [h] at hw
  rw [rightFrom, if_pos hq]
  split at hw
  · rename_i hy
    rw [if_pos hy]
    congr 2
    omega
  · omega
theorem right_ascii (o : ByteArray) (m q : Nat) (c : UInt8) (t : List UInt8) (h : o.data.toList.drop q = c :: t) (hc : c.toNat ≤ 127) : rightFrom o (m + 1) q = rightFrom o m (q + 1) := by
  have hb := byteN_drop o q _ h 0 (by simp)
  simp only [Nat.add_zero, List.getElem_cons_zero] at hb
  refine right_step o m q 1 ?_ (by omega) hb.1
  unfold widS
  rw [if_pos (inB_iff.2 ⟨hb.1, by omega, by omega⟩)]
  rfl
theorem drop_of {o : List UInt8} {q : Nat} {a t : List UInt8} (h : o.drop q = a ++ t) : o.drop (q + a.length) = t := by
  rw [← List.drop_drop, h, List.drop_left]
theorem right_quote (s o : ByteArray) : ∀ (k p m q : Nat), o.data.toList.drop q = quoteF s k p ++ [34] → o.data.toList.length + 1 ≤ q + m → rightFrom o m q = -1
  | 0, p, m, q, hd, hm => by
    rw [quoteF, List.nil_append] at hd
    have hl := congrArg List.length hd
    rw [List.length_drop, List.length_singleton] at hl
    obtain ⟨m, rfl⟩ : ∃ m', m = m' + 1 := ⟨m - 1, by omega⟩
    rw [right_ascii o m q 34 [] hd (by decide), rightFrom_end o m _ (by rw [Lib.size_eq]; omega)]
  | k + 1, p, m, q, hd, hm => by
    have hsz : s.size = s.data.toList.length := Lib.size_eq s
    rw [quoteF] at hd
    by_cases hp : p < s.data.toList.length
    · rw [if_pos (by omega), List.append_assoc] at hd
      have hl := congrArg List.length hd
      rw [List.length_drop, List.length_append, List.length_append, List.length_singleton] at hl
      rcases piece_cases s p hp with ⟨h1, h2⟩ | ⟨h1, h2, h3⟩ | ⟨w, h0, h1, hw, hwl, h2, h3⟩
      · have hc := (s.data.toList[p]'hp).toNat_lt
        have a1 := hexD_plain ((s.data.toList[p]'hp).toNat / 16) (by omega)
        have a2 := hexD_plain ((s.data.toList[p]'hp).toNat % 16) (by omega)
        rw [h1, h2] at hd
        rw [h2] at hl
        simp only [List.length_cons, List.length_nil] at hl
        obtain ⟨m, rfl⟩ : ∃ m', m = m' + 4 := ⟨m - 4, by omega⟩
        have d1 : o.data.toList.drop (q + 1) = 120 :: hexD ((s.data.toList[p]'hp).toNat / 16) :: hexD ((s.data.toList[p]'hp).toNat % 16) :: (quoteF s k (p + 1) ++ [34]) := drop_of (a := [92]) hd
        have d2 : o.data.toList.drop (q + 1 + 1) = hexD ((s.data.toList[p]'hp).toNat / 16) :: hexD ((s.data.toList[p]'hp).toNat % 16) :: (quoteF s k (p + 1) ++ [34]) := drop_of (a := [120]) d1
        have d3 : o.data.toList.drop (q + 1 + 1 + 1) = hexD ((s.data.toList[p]'hp).toNat % 16) :: (quoteF s k (p + 1) ++ [34]) := drop_of (a := [_]) d2
        have d4 : o.data.toList.drop (q + 1 + 1 + 1 + 1) = quoteF s k (p + 1) ++ [34] := drop_of (a := [_]) d3
        rw [right_ascii o (m + 3) q 92 _ hd (by decide), right_ascii o (m + 2) (q + 1) 120 _ d1 (by decide), right_ascii o (m + 1) (q + 1 + 1) _ _ d2 (by omega), right_ascii o m (q + 1 + 1 + 1) _ _ d3 (by omega)]
        exact right_quote s o k (p + 1) m _ d4 (by omega)
      · rw [h1, h3] at hd
        rw [h3] at hl
        simp only [List.length_cons, List.length_nil] at hl
        obtain ⟨m, rfl⟩ : ∃ m', m = m' + 2 := ⟨m - 2, by omega⟩
        have d1 : o.data.toList.drop (q + 1) = (s.data.toList[p]'hp) :: (quoteF s k (p + 1) ++ [34]) := drop_of (a := [92]) hd
        have d2 : o.data.toList.drop (q + 1 + 1) = quoteF s k (p + 1) ++ [34] := drop_of (a := [_]) d1
        rw [right_ascii o (m + 1) q 92 _ hd (by decide), right_ascii o m (q + 1) _ _ d1 (by omega)]
        exact right_quote s o k (p + 1) m _ d2 (by omega)
      · rw [h1, h2] at hd
        rw [h2] at hl
        have hlt : ((s.data.toList.drop p).take w).length = w := by rw [List.length_take, List.length_drop]; omega
        obtain ⟨m, rfl⟩ : ∃ m', m = m' + 1 := ⟨m - 1, by omega⟩
        have d2 := drop_of hd
        rw [hlt] at d2
        have hbd : ∀ i, i < w → q + i < o.size ∧ byteN o (q + i) = byteN s (p + i) := by
          intro i hi
          have := byteN_drop o q _ hd i (by rw [List.length_append, hlt]; omega)
          refine ⟨this.1, ?_⟩
          rw [this.2, List.getElem_append_left (by omega), List.getElem_take, List.getElem_drop, byteN_at s (p + i) (by omega)]
        have hq := hbd (w - 1) (by omega)
        rw [right_step o m q w (wid_local s o p q w hw h0 (by omega) (by omega) (fun i hi => (hbd i hi).2)) h0 (by omega)]
        exact right_quote s o k (p + w) m _ d2 (by omega)
    · rw [if_neg (by omega), List.nil_append] at hd
      have hl := congrArg List.length hd
      rw [List.length_drop, List.length_singleton] at hl
      obtain ⟨m, rfl⟩ : ∃ m', m = m' + 1 := ⟨m - 1, by omega⟩
      rw [right_ascii o m q 34 [] hd (by decide), rightFrom_end o m _ (by rw [Lib.size_eq]; omega)]

theorem quote_valid (s : ByteArray) : validB ⟨(quoteL s).toArray⟩ = true := by
  unfold validB
  rw [decide_eq_true_eq]
  have h0 : (⟨(quoteL s).toArray⟩ : ByteArray).data.toList = quoteL s := by simp
  have hs : (⟨(quoteL s).toArray⟩ : ByteArray).size = (quoteL s).length := by rw [Lib.size_eq, h0]
  generalize ho : (⟨(quoteL s).toArray⟩ : ByteArray) = o at *
  have d0 : o.data.toList.drop 0 = 34 :: (quoteF s s.size 0 ++ [34]) := by rw [List.drop_zero, h0]; rfl
  have d1 : o.data.toList.drop (0 + 1) = quoteF s s.size 0 ++ [34] := drop_of (a := [34]) d0
  unfold rightP
  rw [right_ascii o o.size 0 34 _ d0 (by decide), right_quote s o s.size 0 o.size (0 + 1) d1 (by rw [h0, hs]; omega)]
  decide
theorem quote_read (s : ByteArray) : unquote validB (quoteL s) = some s.data.toList := by
  have hl : (quoteL s).length = (quoteF s s.size 0).length + 2 := by simp [quoteL]
  unfold unquote
  rw [if_pos ⟨by omega, rfl, by unfold quoteL; rw [List.getLast?_cons, List.getLast?_append]; rfl, quote_valid s⟩, hl]
  have : ((quoteL s).drop 1).take ((quoteF s s.size 0).length + 2 - 2) = quoteF s s.size 0 := by
    unfold quoteL
    rw [List.drop_succ_cons, List.drop_zero, Nat.add_sub_cancel, List.take_left]
  rw [this, unq_quote s s.size 0 (by rw [Lib.size_eq]; omega), List.drop_zero]
theorem quote_tok (s : ByteArray) (r : List UInt8) : tokLen (quoteL s ++ r) = (quoteL s).length := by
  have h : quoteL s ++ r = 34 :: (quoteF s s.size 0 ++ 34 :: r) := by unfold quoteL; simp
  unfold tokLen
  rw [h, if_pos (show (34 :: (quoteF s s.size 0 ++ 34 :: r)).head? = some 34 from rfl), List.drop_succ_cons, List.drop_zero, qend_quote]
  show (quoteF s s.size 0).length + 1 + 1 = _
  simp [quoteL]
end Go.Proofs.YtlkbeddlmbghkaaGreatDoor.PR

namespace Go.Proofs.YtlkbeddlmbghkaaGreatDoor.PR
open Go Go.Proofs Go.RowKit Go.Proofs.YtlkbeddlmbghkaaGreatDoorW.PrintWords Go.Proofs.YtlkbeddlmbghkaaGreatDoorW.PrintLast Go.Proofs.YtlkbeddlmbghkaaGreatDoorW.PrintMore Go.Proofs.YtlkbeddlmbghkaaGreatDoor.Lx
set_option linter.unusedVariables false
set_option linter.unusedSimpArgs false

/-- A word's text, if it has one. -/
def shownW : Wd → Option (List UInt8)
  | .text t => some (quoteL t)
  | .num n => if isNum (Lib.itoa n) = true then some (Lib.itoa n) else none
  | .name s => if isName s.data.toList = true then some s.data.toList else none
  | .nil => none
def showW : List Wd → Option (List (List UInt8))
  | [] => some []
  | b :: r => match shownW b with
    | none => none
    | some t => (showW r).map (t :: ·)

/-- A word's text is read as it was, wherever it stands. -/
def Tok (b : Wd) (t : List UInt8) : Prop :=
  wordOf validB t = some b ∧ (∃ c u, t = c :: u ∧ isBl c = false ∧ c.toNat ≠ 35) ∧ (∀ x ∈ t, x.toNat ≠ 10) ∧ ∀ r, (r = [] ∨ ∃ u, r = 32 :: u) → tokLen (t ++ r) = t.length

theorem take_while_all : ∀ (t r : List UInt8), (∀ x ∈ t, isBl x = false) → (r = [] ∨ ∃ u, r = 32 :: u) → ((t ++ r).takeWhile fun c => !isBl c).length = t.length
  | [], r, _, hr => by
    rcases hr with rfl | ⟨u, rfl⟩
    · rfl
    · rfl
  | c :: t, r, h, hr => by
    rw [List.cons_append, List.takeWhile_cons, h c (by simp)]
    show (List.takeWhile _ _).length + 1 = _
    rw [take_while_all t r (fun x hx => h x (by simp [hx])) hr]
    rfl
theorem tok_bare (c : UInt8) (u r : List UInt8) (hc : c.toNat ≠ 34) (h : ∀ x ∈ c :: u, isBl x = false) (hr : r = [] ∨ ∃ u, r = 32 :: u) : tokLen (c :: u ++ r) = (c :: u).length := by
  unfold tokLen
  rw [if_neg (by rw [List.cons_append, List.head?_cons]; intro e; rw [Option.some.inj e] at hc; exact hc rfl)]
  exact take_while_all (c :: u) r h hr

theorem digVal_snoc (l : List UInt8) (c : UInt8) (a : Int) : digVal (l ++ [c]) a = digVal l a * 10 + ((c.toNat : Int) - 48) := by
  unfold digVal
  rw [List.foldl_append]
  rfl
theorem dig_of (k : Nat) (h : k < 10) : isDig (UInt8.ofNat (48 + k)) = true ∧ ((UInt8.ofNat (48 + k)).toNat : Int) - 48 = k := by
  have e : ∀ k : Fin 10, isDig (UInt8.ofNat (48 + k.val)) = true ∧ ((UInt8.ofNat (48 + k.val)).toNat : Int) - 48 = k.val := by decide +kernel
  exact e ⟨k, h⟩
theorem decDigits_val (u : Nat) : (Lib.decDigits u).all isDig = true ∧ digVal (Lib.decDigits u) 0 = u ∧ Lib.decDigits u ≠ [] := by
  induction u using Nat.strongRecOn with
  | ind u ih =>
  rw [Lib.decDigits]
  by_cases h : u < 10
  · rw [dif_pos h]
    have := dig_of u h
    refine ⟨by show (isDig _ && true) = true; rw [this.1]; rfl, ?_, by simp⟩
    show (0 : Int) * 10 + (((UInt8.ofNat (48 + u)).toNat : Int) - 48) = u
    omega
  · rw [dif_neg h]
    obtain ⟨h1, h2, h3⟩ := ih (u / 10) (by omega)
    have := dig_of (u % 10) (by omega)
    refine ⟨by rw [List.all_append, h1]; show (true && (isDig _ && true)) = true; rw [this.1]; rfl, ?_, by simp⟩
    rw [digVal_snoc, h2, this.2]
    omega
theorem itoa_val (n : Int) : numVal (Lib.itoa n) = n := by
  unfold Lib.itoa
  by_cases h : n < 0
  · rw [if_pos h]
    have := (decDigits_val n.natAbs).2.1
    unfold numVal unsign
    rw [if_pos (show (45 :: Lib.decDigits n.natAbs).head? = some 45 from rfl), if_pos (show (45 :: Lib.decDigits n.natAbs).head? = some 45 from rfl), List.tail_cons, this]
    omega
  · rw [if_neg h]
    obtain ⟨h1, h2, h3⟩ := decDigits_val n.toNat
    have hn : (Lib.decDigits n.toNat).head? ≠ some 45 := by
      cases hl : Lib.decDigits n.toNat with
      | nil => exact absurd hl h3
      | cons c t =>
        rw [hl, List.all_cons, Bool.and_eq_true] at h1
        intro e
        rw [Option.some.inj e] at h1
        exact absurd h1.1 (by decide)
    unfold numVal unsign
    rw [if_neg hn, if_neg hn, h2]
    omega
theorem itoa_bytes (n : Int) : ∃ c u, Lib.itoa n = c :: u ∧ ∀ x ∈ c :: u, x.toNat = 45 ∨ (48 ≤ x.toNat ∧ x.toNat ≤ 57) := by
  have hd : ∀ u, ∀ x ∈ Lib.decDigits u, x.toNat = 45 ∨ (48 ≤ x.toNat ∧ x.toNat ≤ 57) := by
    intro u x hx
    have := List.all_eq_true.1 (decDigits_val u).1 x hx
    simp only [isDig, Bool.and_eq_true, decide_eq_true_eq] at this
    exact .inr this
  unfold Lib.itoa
  by_cases h : n < 0
  · rw [if_pos h]
    refine ⟨45, _, rfl, fun x hx => ?_⟩
    rcases List.mem_cons.1 hx with rfl | hx
    · exact .inl rfl
    · exact hd _ x hx
  · rw [if_neg h]
    have h3 := (decDigits_val n.toNat).2.2
    cases hl : Lib.decDigits n.toNat with
    | nil => exact absurd hl h3
    | cons c t => exact ⟨c, t, rfl, fun x hx => hd n.toNat x (by rw [hl]; exact hx)⟩
theorem isBl_no {x : UInt8} (h : x.toNat ≠ 32 ∧ x.toNat ≠ 9) : isBl x = false := by
  unfold isBl
  simp only [decide_eq_false h.1, decide_eq_false h.2, Bool.or_false]
theorem name_bytes {l : List UInt8} (h : isName l = true) : ∃ c u, l = c :: u ∧ isLet c = true ∧ ∀ x ∈ c :: u, (97 ≤ x.toNat ∧ x.toNat ≤ 122) ∨ (48 ≤ x.toNat ∧ x.toNat ≤ 57) := by
  unfold isName at h
  simp only [Bool.and_eq_true, decide_eq_true_eq] at h
  cases l with
  | nil => simp at h
  | cons c u =>
    have hn := h.2
    unfold nameAll at hn
    rw [Bool.and_eq_true] at hn
    refine ⟨c, u, rfl, hn.1, fun x hx => ?_⟩
    rcases List.mem_cons.1 hx with rfl | hx
    · have := hn.1
      simp only [isLet, Bool.and_eq_true, decide_eq_true_eq] at this
      exact .inl this
    · have := List.all_eq_true.1 hn.2 x hx
      simp only [isLet, isDig, Bool.or_eq_true, Bool.and_eq_true, decide_eq_true_eq] at this
      exact this
theorem name_nonum {l : List UInt8} (h : isName l = true) : isNum l = false := by
  obtain ⟨c, u, rfl, hc, -⟩ := name_bytes h
  have h45 : c.toNat ≠ 45 := by simp only [isLet, Bool.and_eq_true, decide_eq_true_eq] at hc; omega
  have hu : unsign (c :: u) = c :: u := by
    unfold unsign
    rw [if_neg]
    rw [List.head?_cons]; intro e; rw [Option.some.inj e] at h45; exact h45 rfl
  have hd : isDig c = false := by
    simp only [isLet, Bool.and_eq_true, decide_eq_true_eq] at hc
    unfold isDig
    rw [decide_eq_false (show ¬ c.toNat ≤ 57 by omega), Bool.and_false]
  unfold isNum
  rw [hu, List.all_cons, hd]
  simp

theorem tok_of (b : Wd) (t : List UInt8) (h : shownW b = some t) : Tok b t := by
  cases b with
  | nil => cases h
  | text s =>
    obtain rfl := Option.some.inj h
    refine ⟨?_, ⟨34, quoteF s s.size 0 ++ [34], rfl, by decide, by decide⟩, fun x hx => by have := quoteL_high s x hx; omega, fun r _ => quote_tok s r⟩
    rw [wordOf_q _ rfl, quote_read]
    rfl
  | num n =>
    change (if isNum (Lib.itoa n) = true then some (Lib.itoa n) else none) = some t at h
    by_cases hn : isNum (Lib.itoa n) = true
    · rw [if_pos hn] at h
      obtain rfl := Option.some.inj h
      obtain ⟨c, u, e, hb⟩ := itoa_bytes n
      have hh : (Lib.itoa n).head? ≠ some 34 := by
        rw [e, List.head?_cons]; intro k; have := hb c (by simp); rw [Option.some.inj k] at this; revert this; decide
      have hc := hb c (by simp)
      refine ⟨by rw [wordOf_b _ hh, if_pos hn, itoa_val], ⟨c, u, e, isBl_no (by omega), by omega⟩, fun x hx => ?_, fun r hr => ?_⟩
      · rw [e] at hx; have := hb x hx; omega
      · rw [e]; exact tok_bare c u r (by omega) (fun x hx => isBl_no (by have := hb x hx; omega)) hr
    · rw [if_neg hn] at h; cases h
  | name s =>
    change (if isName s.data.toList = true then some s.data.toList else none) = some t at h
    by_cases hn : isName s.data.toList = true
    · rw [if_pos hn] at h
      obtain rfl := Option.some.inj h
      obtain ⟨c, u, e, -, hb⟩ := name_bytes hn
      have hc := hb c (by simp)
      have hh : s.data.toList.head? ≠ some 34 := by
        rw [e, List.head?_cons]; intro k; rw [Option.some.inj k] at hc; revert hc; decide
      refine ⟨by rw [wordOf_b _ hh, if_neg (by rw [name_nonum hn]; decide), if_pos hn], ⟨c, u, e, isBl_no (by omega), by omega⟩, fun x hx => ?_, fun r hr => ?_⟩
      · rw [e] at hx; have := hb x hx; omega
      · rw [e]; exact tok_bare c u r (by omega) (fun x hx => isBl_no (by have := hb x hx; omega)) hr
    · rw [if_neg hn] at h; cases h

theorem join_cons (t : List UInt8) (r : List (List UInt8)) : Lib.join (t :: r) [32] = t ++ (if r = [] then [] else 32 :: Lib.join r [32]) := by
  cases r with
  | nil => simp [Lib.join, List.intercalate]
  | cons a r =>
    rw [if_neg (by simp)]
    simp [Lib.join, List.intercalate]
theorem join_len : ∀ (ws : List Wd) (toks : List (List UInt8)), showW ws = some toks → ws.length ≤ (Lib.join toks [32]).length ∧ ∀ x ∈ Lib.join toks [32], x.toNat ≠ 10
  | [], toks, h => by
    obtain rfl := Option.some.inj h
    exact ⟨Nat.zero_le _, fun x hx => by cases hx⟩
  | b :: ws, toks, h => by
    rw [showW] at h
    cases hs : shownW b with
    | none => rw [hs] at h; cases h
    | some t =>
      rw [hs] at h
      cases hr : showW ws with
      | none => rw [hr] at h; cases h
      | some ts =>
        rw [hr] at h
        obtain rfl := Option.some.inj h
        obtain ⟨-, ⟨c, u, e, -, -⟩, h3, -⟩ := tok_of b t hs
        obtain ⟨i1, i2⟩ := join_len ws ts hr
        rw [join_cons]
        have hts : ts = [] → ws = [] := by
          intro h0
          subst h0
          cases ws with
          | nil => rfl
          | cons b2 r =>
            rw [showW] at hr
            split at hr
            · cases hr
            · cases h5 : showW r with
              | none => rw [h5] at hr; cases hr
              | some q => rw [h5] at hr; cases hr
        constructor
        · rw [List.length_append, e]
          split
          · rename_i h0; rw [hts h0]; simp
          · simp only [List.length_cons]; omega
        · intro x hx
          rcases List.mem_append.1 hx with hx | hx
          · exact h3 x hx
          · split at hx
            · cases hx
            · rcases List.mem_cons.1 hx with rfl | hx
              · decide
              · exact i2 x hx
end Go.Proofs.YtlkbeddlmbghkaaGreatDoor.PR

namespace Go.Proofs.YtlkbeddlmbghkaaGreatDoor.PR
open Go Go.Proofs Go.RowKit Go.Proofs.YtlkbeddlmbghkaaGreatDoorW.PrintWords Go.Proofs.YtlkbeddlmbghkaaGreatDoorW.PrintLast Go.Proofs.YtlkbeddlmbghkaaGreatDoorW.PrintMore Go.Proofs.YtlkbeddlmbghkaaGreatDoor.Lx
set_option linter.unusedVariables false
set_option linter.unusedSimpArgs false

theorem u8_eq (x : Int) (b : UInt8) (h : x = (b.toNat : Int)) : x.toNat.toUInt8 = b := by
  subst h
  simp
theorem take1 (s : ByteArray) (p : Nat) (b0 : UInt8) (h0 : s.data.toList[p]? = some b0) : (s.data.toList.drop p).take 1 = [b0] := by
  obtain ⟨h, e⟩ := List.getElem?_eq_some_iff.1 h0
  rw [List.drop_eq_getElem_cons h, e]; rfl
theorem take_next (l : List UInt8) (p n : Nat) (b0 : UInt8) (h0 : l[p]? = some b0) : (l.drop p).take (n + 1) = b0 :: (l.drop (p + 1)).take n := by
  obtain ⟨h, e⟩ := List.getElem?_eq_some_iff.1 h0
  rw [List.drop_eq_getElem_cons h, e, List.take_succ_cons]
theorem byte_at (s : ByteArray) (p : Nat) (h : p < s.size) : ∃ b : UInt8, s.data.toList[p]? = some b ∧ b.toNat = byteN s p := by
  have hl : p < s.data.toList.length := by rw [← Lib.size_eq]; exact h
  exact ⟨s.data.toList[p]'hl, List.getElem?_eq_getElem hl, (byteN_at s p hl).symm⟩

set_option maxHeartbeats 8000000 in
/-- The eight ways of decoding. -/
theorem dec_cases (s : ByteArray) (p : Nat) (hp : p < s.size) :
    (byteN s p < 128 ∧ Utf8.decode s p = (byteN s p, 1)) ∨
    (p + 1 < s.size ∧ byteN s p / 32 = 6 ∧ byteN s (p + 1) / 64 = 2 ∧ 128 ≤ byteN s p % 32 * 64 + byteN s (p + 1) % 64 ∧ Utf8.decode s p = (byteN s p % 32 * 64 + byteN s (p + 1) % 64, 2)) ∨
    (p + 2 < s.size ∧ byteN s p / 16 = 14 ∧ byteN s (p + 1) / 64 = 2 ∧ byteN s (p + 2) / 64 = 2 ∧ 2048 ≤ byteN s p % 16 * 4096 + byteN s (p + 1) % 64 * 64 + byteN s (p + 2) % 64 ∧ (byteN s p % 16 * 4096 + byteN s (p + 1) % 64 * 64 + byteN s (p + 2) % 64 < 55296 ∨ 57344 ≤ byteN s p % 16 * 4096 + byteN s (p + 1) % 64 * 64 + byteN s (p + 2) % 64) ∧ Utf8.decode s p = (byteN s p % 16 * 4096 + byteN s (p + 1) % 64 * 64 + byteN s (p + 2) % 64, 3)) ∨
    (p + 3 < s.size ∧ byteN s p / 8 = 30 ∧ byteN s (p + 1) / 64 = 2 ∧ byteN s (p + 2) / 64 = 2 ∧ byteN s (p + 3) / 64 = 2 ∧ 65536 ≤ byteN s p % 8 * 262144 + byteN s (p + 1) % 64 * 4096 + byteN s (p + 2) % 64 * 64 + byteN s (p + 3) % 64 ∧ byteN s p % 8 * 262144 + byteN s (p + 1) % 64 * 4096 + byteN s (p + 2) % 64 * 64 + byteN s (p + 3) % 64 ≤ 1114111 ∧ Utf8.decode s p = (byteN s p % 8 * 262144 + byteN s (p + 1) % 64 * 4096 + byteN s (p + 2) % 64 * 64 + byteN s (p + 3) % 64, 4)) ∨
    (Utf8.decode s p = (65533, 1) ∧ ¬ (p + 2 < s.size ∧ byteN s p = 239 ∧ byteN s (p + 1) = 191 ∧ byteN s (p + 2) = 189)) := by
  generalize hd : Utf8.decode s p = d
  have g0 := get_byteN s p hp
  have g1 : p + 1 < s.size → (s.get! (p + 1)).toNat = byteN s (p + 1) := get_byteN s (p + 1)
  have g2 : p + 2 < s.size → (s.get! (p + 2)).toNat = byteN s (p + 2) := get_byteN s (p + 2)
  have g3 : p + 3 < s.size → (s.get! (p + 3)).toNat = byteN s (p + 3) := get_byteN s (p + 3)
  unfold Utf8.decode Utf8.runeError Utf8.valid at hd
  simp only [Nat.add_zero, g0] at hd
  generalize byteN s p = b0 at *
  generalize byteN s (p + 1) = b1 at *
  generalize byteN s (p + 2) = b2 at *
  generalize byteN s (p + 3) = b3 at *
  generalize (s.get! (p + 1)).toNat = a1 at *
  generalize (s.get! (p + 2)).toNat = a2 at *
  generalize (s.get! (p + 3)).toNat = a3 at *
  clear g0
  simp only [Bool.and_eq_true, Bool.or_eq_true, decide_eq_true_eq, beq_iff_eq] at hd
  split at hd
  · rename_i h
    exact .inl ⟨h, hd.symm⟩
  split at hd
  · rename_i h1 h2
    have := g1 h2.2.1
    subst this
    split at hd
    · rename_i h3
      exact .inr (.inl ⟨h2.2.1, h2.1, h2.2.2, h3, hd.symm⟩)
    · exact .inr (.inr (.inr (.inr ⟨hd.symm, by omega⟩)))
  split at hd
  · rename_i h1 h2 h4
    obtain ⟨⟨k1, k2, k3⟩, k4, k5⟩ := h4
    have := g1 k2
    subst this
    have := g2 k4
    subst this
    split at hd
    · rename_i h3
      refine .inr (.inr (.inl ⟨k4, k1, k3, k5, h3.1, by omega, hd.symm⟩))
    · exact .inr (.inr (.inr (.inr ⟨hd.symm, by omega⟩)))
  split at hd
  · rename_i h1 h2 h4 h5
    obtain ⟨⟨⟨k1, k2, k3⟩, k4, k5⟩, k6, k7⟩ := h5
    have := g1 k2
    subst this
    have := g2 k4
    subst this
    have := g3 k6
    subst this
    split at hd
    · rename_i h3
      refine .inr (.inr (.inr (.inl ⟨k6, k1, k3, k5, k7, h3.1, by omega, hd.symm⟩)))
    · exact .inr (.inr (.inr (.inr ⟨hd.symm, by omega⟩)))
  · rename_i h1 h2 h4 h5
    refine .inr (.inr (.inr (.inr ⟨hd.symm, ?_⟩)))
    rintro ⟨k1, k2, k3, k4⟩
    have e1 := g1 (by omega)
    have e2 := g2 k1
    exact h4 ⟨⟨by omega, by omega, by omega⟩, by omega, by omega⟩

theorem whole_err (s : ByteArray) (p : Nat) (h : ¬ (p + 2 < s.size ∧ byteN s p = 239 ∧ byteN s (p + 1) = 191 ∧ byteN s (p + 2) = 189)) : wholeB s p 65533 = false := by
  unfold wholeB
  rw [prefix_fffd]
  simp only [bne_self_eq_false, Bool.false_or, Bool.and_eq_false_imp, Bool.and_eq_true, decide_eq_true_eq, decide_eq_false_iff_not]
  intro h1 h2
  exact h ⟨h1.1.1, h1.1.2, h1.2, h2⟩
theorem whole_ok (s : ByteArray) (p : Nat) (r : Int) (h : r ≠ 65533) : wholeB s p r = true := by
  unfold wholeB
  rw [bne_iff_ne.2 h, Bool.true_or]

/-- A rune that stands whole: its bytes. -/
theorem enc_dec (s : ByteArray) (p : Nat) (hp : p < s.size) (hw : wholeB s p ((Utf8.decode s p).1 : Int) = true) :
    Lib.encodeRune ((Utf8.decode s p).1 : Int) = (s.data.toList.drop p).take (Utf8.decode s p).2 := by
  obtain ⟨c0, hc0, n0⟩ := byte_at s p hp
  rcases dec_cases s p hp with ⟨h1, hd⟩ | ⟨hl, h1, h2, h3, hd⟩ | ⟨hl, h1, h2, h3, h4, h5, hd⟩ | ⟨hl, h1, h2, h3, h4, h5, h6, hd⟩ | ⟨hd, h1⟩
  · rw [hd]
    dsimp only
    rw [Lib.encodeRune, Lib.encodeRuneZ_one (by omega) (by omega), take1 s p c0 hc0, List.map_cons, u8_eq _ c0 (by rw [n0])]
    rfl
  · obtain ⟨c1, hc1, n1⟩ := byte_at s (p + 1) hl
    rw [hd]
    dsimp only
    rw [Lib.encodeRune, Lib.encodeRuneZ_two (by omega) (by omega), take_next _ p 1 c0 hc0, take_next _ (p + 1) 0 c1 hc1, List.map_cons, List.map_cons, u8_eq _ c0 (by omega), u8_eq _ c1 (by omega)]
    rfl
  · obtain ⟨c1, hc1, n1⟩ := byte_at s (p + 1) (by omega)
    obtain ⟨c2, hc2, n2⟩ := byte_at s (p + 2) hl
    rw [hd]
    dsimp only
    rw [Lib.encodeRune, Lib.encodeRuneZ_three (by omega), take_next _ p 2 c0 hc0, take_next _ (p + 1) 1 c1 hc1, take_next _ (p + 2) 0 c2 hc2, List.map_cons, List.map_cons, List.map_cons, u8_eq _ c0 (by omega), u8_eq _ c1 (by omega), u8_eq _ c2 (by omega)]
    rfl
  · obtain ⟨c1, hc1, n1⟩ := byte_at s (p + 1) (by omega)
    obtain ⟨c2, hc2, n2⟩ := byte_at s (p + 2) (by omega)
    obtain ⟨c3, hc3, n3⟩ := byte_at s (p + 3) hl
    rw [hd]
    dsimp only
    rw [Lib.encodeRune, Lib.encodeRuneZ_four (by omega) (by omega), take_next _ p 3 c0 hc0, take_next _ (p + 1) 2 c1 hc1, take_next _ (p + 2) 1 c2 hc2, take_next _ (p + 3) 0 c3 hc3, List.map_cons, List.map_cons, List.map_cons, List.map_cons, u8_eq _ c0 (by omega), u8_eq _ c1 (by omega), u8_eq _ c2 (by omega), u8_eq _ c3 (by omega)]
    rfl
  · rw [hd] at hw
    exact absurd (hw.symm.trans (whole_err s p h1)) (by decide)

/-- What the program writes for the rune at a place, and how far it goes on. -/
theorem piece_dec (s : ByteArray) (p : Nat) (hp : p < s.size) : stepQ s p = (Utf8.decode s p).2 ∧ pieceQ s p =
    (if clsP ((Utf8.decode s p).1 : Int) = 4 then 92 :: Lib.encodeRune ((Utf8.decode s p).1 : Int)
     else if ((Utf8.decode s p).1 : Int) < 32 ∨ ((Utf8.decode s p).1 : Int) = 127 ∨ wholeB s p ((Utf8.decode s p).1 : Int) = false then [92, 120, hexD (byteN s p / 16), hexD (byteN s p % 16)]
     else Lib.encodeRune ((Utf8.decode s p).1 : Int)) := by
  have hwid := wid_decode s p hp
  have henc := enc_dec s p hp
  have hcls : ∀ r : Int, clsP r = 4 ↔ (r = 34 ∨ r = 92) := by
    intro r
    unfold clsP
    repeat' split
    all_goals first | omega | (constructor <;> intro h <;> omega)
  -- what is known of the first byte
  have hfst : (byteN s p < 128 ∧ (Utf8.decode s p).1 = byteN s p ∧ (Utf8.decode s p).2 = 1 ∧ wholeB s p ((Utf8.decode s p).1 : Int) = true) ∨ (128 ≤ byteN s p ∧ 128 ≤ (Utf8.decode s p).1 ∧ (wholeB s p ((Utf8.decode s p).1 : Int) = false → (Utf8.decode s p).2 = 1)) := by
    rcases dec_cases s p hp with ⟨h1, hd⟩ | ⟨hl, h1, h2, h3, hd⟩ | ⟨hl, h1, h2, h3, h4, h5, hd⟩ | ⟨hl, h1, h2, h3, h4, h5, h6, hd⟩ | ⟨hd, h1⟩
    · rw [hd]; exact .inl ⟨h1, rfl, rfl, whole_ok s p _ (by dsimp only; omega)⟩
    · rw [hd]; dsimp only; exact .inr ⟨by omega, h3, fun hf => by rw [whole_ok s p _ (by omega)] at hf; cases hf⟩
    · rw [hd]; dsimp only
      refine .inr ⟨by omega, by omega, fun hf => ?_⟩
      unfold wholeB at hf
      rw [prefix_fffd] at hf
      simp only [Bool.or_eq_false_iff, bne_eq_false_iff_eq] at hf
      obtain ⟨e1, e2⟩ := hf
      exfalso
      simp only [Bool.and_eq_false_imp, Bool.and_eq_true, decide_eq_true_eq, decide_eq_false_iff_not] at e2
      exact e2 ⟨⟨hl, by omega⟩, by omega⟩ (by omega)
    · rw [hd]; dsimp only; exact .inr ⟨by omega, by omega, fun hf => by rw [whole_ok s p _ (by omega)] at hf; cases hf⟩
    · rw [hd]; dsimp only
      refine .inr ⟨?_, by decide, fun _ => rfl⟩
      rcases Nat.lt_or_ge (byteN s p) 128 with h | h
      · exfalso
        have : (Utf8.decode s p).1 = byteN s p := by
          have hb := get_byteN s p hp
          unfold Utf8.decode
          simp only [Nat.add_zero, hb]
          rw [if_pos h]
        rw [hd] at this
        dsimp only at this
        omega
      · exact h
  unfold stepQ pieceQ escQ
  rcases hfst with ⟨h1, h2, h3, h4⟩ | ⟨h1, h2, h3⟩
  · rw [if_pos h4] at hwid
    have henc := henc h4
    rw [h3] at hwid henc
    have hz : ¬ widS s p = 0 := by omega
    rw [h2, h3] at *
    have hwn : (widS s p).toNat = 1 := by omega
    by_cases hm : byteN s p = 34 ∨ byteN s p = 92
    · have he : (decide (widS s p = 0) || decide (byteN s p < 32) || decide (byteN s p = 127)) = false := by
        simp only [Bool.or_eq_false_iff, decide_eq_false_iff_not]; omega
      rw [he, if_neg (by decide), if_neg (by decide), if_pos hm, if_pos ((hcls _).2 (by omega)), hwn, henc]
      exact ⟨rfl, rfl⟩
    · rw [if_neg (show ¬ clsP ((byteN s p : Nat) : Int) = 4 from fun h => hm (by have := (hcls _).1 h; omega))]
      by_cases hb : byteN s p < 32 ∨ byteN s p = 127
      · have he : (decide (widS s p = 0) || decide (byteN s p < 32) || decide (byteN s p = 127)) = true := by
          simp only [Bool.or_eq_true, decide_eq_true_eq]; omega
        rw [he, if_pos rfl, if_pos rfl, if_pos (by omega)]
        exact ⟨rfl, rfl⟩
      · have he : (decide (widS s p = 0) || decide (byteN s p < 32) || decide (byteN s p = 127)) = false := by
          simp only [Bool.or_eq_false_iff, decide_eq_false_iff_not]; omega
        rw [he, if_neg (by decide), if_neg (by decide), if_neg hm, if_neg (by rw [h4]; simp; omega), hwn, henc]
        exact ⟨rfl, rfl⟩
  · rw [if_neg (show ¬ clsP ((Utf8.decode s p).1 : Int) = 4 from fun h => by have := (hcls _).1 h; omega)]
    cases hw : wholeB s p ((Utf8.decode s p).1 : Int) with
    | false =>
      rw [hw, if_neg (by decide)] at hwid
      have he : (decide (widS s p = 0) || decide (byteN s p < 32) || decide (byteN s p = 127)) = true := by
        simp only [Bool.or_eq_true, decide_eq_true_eq]; omega
      rw [he, if_pos rfl, if_pos rfl, if_pos (by simp), h3 hw]
      exact ⟨rfl, rfl⟩
    | true =>
      rw [hw, if_pos rfl] at hwid
      have hpos := width_pos s p hp
      have he : (decide (widS s p = 0) || decide (byteN s p < 32) || decide (byteN s p = 127)) = false := by
        simp only [Bool.or_eq_false_iff, decide_eq_false_iff_not]; omega
      rw [he, if_neg (by decide), if_neg (by decide), if_neg (by omega), if_neg (by simp; omega), henc hw]
      have hwn : (widS s p).toNat = (Utf8.decode s p).2 := by omega
      rw [hwn]
      exact ⟨rfl, rfl⟩
end Go.Proofs.YtlkbeddlmbghkaaGreatDoor.PR

namespace Go.Proofs.YtlkbeddlmbghkaaGreatDoor.PR
open Go Go.Proofs Go.RowKit Go.Proofs.YtlkbeddlmbghkaaGreatDoorW.PrintWords Go.Proofs.YtlkbeddlmbghkaaGreatDoorW.PrintLast Go.Proofs.YtlkbeddlmbghkaaGreatDoorW.PrintMore Go.Proofs.YtlkbeddlmbghkaaGreatDoor.Lx
set_option linter.unusedVariables false
set_option linter.unusedSimpArgs false
set_option maxRecDepth 1000000

theorem quoteF_end (s : ByteArray) (k p : Nat) (h : ¬ p < s.size) : quoteF s k p = [] := by
  cases k with
  | zero => rfl
  | succ k => rw [quoteF, if_neg h]
theorem quoteF_step (s : ByteArray) (k p : Nat) (h : p < s.size) : quoteF s (k + 1) p = pieceQ s p ++ quoteF s k (p + stepQ s p) := by rw [quoteF, if_pos h]

theorem dig_eq (i n : Nat) (hi : i = n) (hn : n < 16) (h : i < (⟨#[48, 49, 50, 51, 52, 53, 54, 55, 56, 57, 97, 98, 99, 100, 101, 102]⟩ : ByteArray).size) :
    (((⟨#[48, 49, 50, 51, 52, 53, 54, 55, 56, 57, 97, 98, 99, 100, 101, 102]⟩ : ByteArray)[i]'h).toNat : Int) = ((hexD n).toNat : Int) := by
  subst hi
  have k : ∀ n : Fin 16, (((⟨#[48, 49, 50, 51, 52, 53, 54, 55, 56, 57, 97, 98, 99, 100, 101, 102]⟩ : ByteArray)[n.val]'(show n.val < 16 from n.isLt)).toNat : Int) = ((hexD n.val).toNat : Int) := by decide +kernel
  exact k ⟨i, hn⟩

set_option maxHeartbeats 8000000 in
theorem quote_calls (s : ByteArray) (hs : s.size ≤ 1000000000000) (w : World) :
    Calls Tryz.prog 57 #[.string s] w fun e w' => e = .returned (.string ⟨(quoteL s).toArray⟩) ∧ Below w.heap.size w w' := by
  go_enter Tryz.func57, Tryz.ntmps57
  go_wp2_with (fail)
  refine (Tryz.Builder_WriteByte_k w.heap.size w.heap.size [] 34 _ (Lib.IsBuilderF.of (Lib.fresh_isBuilder 104 5 w)) (by simp) (by rw [World.size_alloc]; omega)).mono ?_
  rintro e W1 ⟨rfl, h1, b1, k1⟩
  have I1 : Lib.IsBuilderF 104 5 w.heap.size w.heap.size (Lib.byteCells [34]) W1 := Or.inr h1
  have HB1 : Below w.heap.size w W1 := ((Below.refl _ w).alloc (Nat.le_refl _) _).trans b1
  have hlt1 : w.heap.size < W1.heap.size := h1.lt
  clear h1 b1 k1
  go_wp2_with (fail)
  go_loopw [] (fun wr => ∃ (pos fuel : Nat) (acc : List UInt8), Lib.IsBuilderF 104 5 w.heap.size w.heap.size (Lib.byteCells acc) wr ∧ wr.heap[W1.heap.size]? = some (.stringIter s pos) ∧ Below w.heap.size w wr ∧ Aside0 (acc ++ quoteF s fuel pos = 34 :: quoteF s s.size 0) ∧ s.size ≤ pos + fuel ∧ acc.length + 4 * fuel ≤ 1 + 4 * s.size) (fun wr => s.size - wr.iterPos W1.heap.size)
  case atStart =>
    exact ⟨0, s.size, [34], I1.alloc _, World.iter_heap W1 s 0, HB1.alloc (Nat.le_of_lt hlt1) _, ⟨rfl⟩, by omega, by simp only [List.length_cons, List.length_nil]; omega⟩
  case round =>
    obtain ⟨pos, fuel, acc, hI, hit, hbw, hacc, hfu, hal⟩ := hrel
    have hsz : W1.heap.size < wr.heap.size := (Array.getElem?_eq_some_iff.1 hit).1
    by_cases hp : pos < s.size
    · have hnx : ∀ ty, (Instr.next (.pointer (some ⟨W1.heap.size, 0, none⟩)) true ty).run Tryz.prog wr = _ := fun ty => Lib.run_next_any_at wr W1.heap.size s pos ty hit hp
      have hwd := width_pos s pos hp
      have hd1 := decode_le s pos
      obtain ⟨hst, hpc⟩ := piece_dec s pos hp
      have hI2 := hI.iterAt hit (pos + (Utf8.decode s pos).2)
      have hit2 := Lib.iterAt_heap wr W1.heap.size s pos (pos + (Utf8.decode s pos).2) hit
      have hbw2 := Lib.below_iterAt hbw (k := W1.heap.size) (Nat.le_of_lt hlt1) s (pos + (Utf8.decode s pos).2)
      have hsz2 : w.heap.size ≤ (wr.iterAt W1.heap.size s (pos + (Utf8.decode s pos).2)).heap.size := by rw [Lib.iterAt_size]; omega
      obtain ⟨f, rfl⟩ : ∃ f, fuel = f + 1 := ⟨fuel - 1, by omega⟩
      rw [quoteF_step s f pos hp, hst, hpc] at hacc
      have HACC := Aside0.mk hacc.out
      have HI2 := Aside0.mk hI2
      have HIT := Aside0.mk hit
      clear hst hpc hI hI2 hacc hbw
      by_cases hc4 : clsP ((Utf8.decode s pos).1 : Int) = 4
      · rw [if_pos hc4] at HACC
        have q1 : (clsP ((Utf8.decode s pos).1 : Int) == 4) = true := beq_iff_eq.2 hc4
        have q2 : (clsP ((Utf8.decode s pos).1 : Int) = 4) = True := eq_true hc4
        clear hc4
        go_wp2_with (fail)
        refine (runes_Class.calls _ (clsP ((Utf8.decode s pos).1 : Int)) _ rfl).mono ?_
        rintro e W0 ⟨rfl, nd, hW0⟩
        have I0 : Lib.IsBuilderF 104 5 w.heap.size w.heap.size (Lib.byteCells acc) W0 := by rw [hW0]; exact HI2.out
        have hit0 : W0.heap[W1.heap.size]? = some (.stringIter s (pos + (Utf8.decode s pos).2)) := by rw [hW0]; exact hit2
        have hbw0 : Below w.heap.size w W0 := by rw [hW0]; exact pw_below_drewN hbw2 _
        have hsz0 : w.heap.size ≤ W0.heap.size := hbw0.size
        clear hW0 HI2 hit2 hbw2 hsz2
        go_wp2_with (fail)
        refine (Tryz.Builder_WriteByte_k w.heap.size w.heap.size _ 92 _ I0 (by rw [Lib.byteCells_length]; omega) hsz0).mono ?_
        rintro e W2 ⟨rfl, h3, b3, k3⟩
        have I3 : Lib.IsBuilderF 104 5 w.heap.size w.heap.size (Lib.byteCells (acc ++ [92])) W2 := by rw [Lib.byteCells_append]; exact Or.inr h3
        have hit3 := k3.iter hit0 (by omega)
        have hb3 := hbw0.trans b3
        have hs3 := h3.lt
        clear h3 b3 k3 I0
        go_wp2_with (fail)
        refine (Tryz.Builder_WriteRune_k w.heap.size w.heap.size _ _ (by omega) (by omega) _ I3 (by rw [Lib.byteCells_length, List.length_append]; simp only [List.length_cons, List.length_nil]; omega) (by omega)).mono ?_
        rintro e W3 ⟨rfl, h4, b4, k4⟩
        go_wp2_with (fail)
        go_roundw
        case rel =>
          have hl4 := Lib.runeCells_le ((Utf8.decode s pos).1 : Int)
          rw [Lib.runeCells_length] at hl4
          have hcl : (Lib.encodeRune ((Utf8.decode s pos).1 : Int)).length = 1 := by
            have : ((Utf8.decode s pos).1 : Int) = 34 ∨ ((Utf8.decode s pos).1 : Int) = 92 := by
              have := beq_iff_eq.1 q1
              revert this
              unfold clsP
              repeat' split
              all_goals intro h
              all_goals first | omega | assumption
            rcases this with h | h <;> rw [h] <;> rfl
          refine ⟨pos + (Utf8.decode s pos).2, f, acc ++ [92] ++ Lib.encodeRune (Utf8.decode s pos).1, ?_, k4.iter hit3 (by omega), hb3.trans b4, ⟨?_⟩, by omega, by simp only [List.length_append, List.length_cons, List.length_nil, hcl]; omega⟩
          · rw [Lib.byteCells_append, Lib.byteCells_encodeRune]; exact Or.inr h4
          · rw [← HACC.out]; simp
        case measure =>
          simp only [World.iterPos, k4.iter hit3 (by omega), HIT.out]
          omega
      · rw [if_neg hc4] at HACC
        have q1 : (clsP ((Utf8.decode s pos).1 : Int) == 4) = false := beq_eq_false_iff_ne.2 hc4
        have q2 : (clsP ((Utf8.decode s pos).1 : Int) = 4) = False := eq_false hc4
        clear hc4
        by_cases hr1 : ((Utf8.decode s pos).1 : Int) < 32
        · have r1 : (((Utf8.decode s pos).1 : Int) < 32) = True := eq_true hr1
          have r2 : decide (((Utf8.decode s pos).1 : Int) < 32) = true := decide_eq_true hr1
          rw [if_pos (.inl hr1)] at HACC
          go_wp2_with (fail)
          refine (runes_Class.calls _ (clsP ((Utf8.decode s pos).1 : Int)) _ rfl).mono ?_
          rintro e W0 ⟨rfl, nd, hW0⟩
          have I0 : Lib.IsBuilderF 104 5 w.heap.size w.heap.size (Lib.byteCells acc) W0 := by rw [hW0]; exact HI2.out
          have hit0 : W0.heap[W1.heap.size]? = some (.stringIter s (pos + (Utf8.decode s pos).2)) := by rw [hW0]; exact hit2
          have hbw0 : Below w.heap.size w W0 := by rw [hW0]; exact pw_below_drewN hbw2 _
          have hsz0 : w.heap.size ≤ W0.heap.size := hbw0.size
          clear hW0 HI2 hit2 hbw2 hsz2
          go_wp2_with (fail)
          refine (Tryz.Builder_WriteString_k w.heap.size w.heap.size _ ⟨#[92, 120]⟩ _ I0 (by rw [Lib.byteCells_length]; have : (⟨#[92, 120]⟩ : ByteArray).size = 2 := rfl; omega) hsz0).mono ?_
          rintro e W2 ⟨rfl, h3, b3, k3⟩
          have I3 : Lib.IsBuilderF 104 5 w.heap.size w.heap.size (Lib.byteCells (acc ++ [92, 120])) W2 := by rw [Lib.byteCells_append]; exact Or.inr h3
          have hit3 := k3.iter hit0 (by omega)
          have hb3 := hbw0.trans b3
          have hs3 := h3.lt
          clear h3 b3 k3 I0
          have p1 : ((pos : Int) < (s.size : Int)) = True := eq_true (by omega)
          have p2 : (pos < s.size) = True := eq_true hp
          have hb0 : byteN s pos = (s[pos]'hp).toNat := by unfold byteN; rw [dif_pos hp]
          have hb1 := (s[pos]'hp).toNat_lt
          have bq : (0 ≤ ((s[pos]'hp).toNat : Int) / 16 ∧ ((s[pos]'hp).toNat : Int) / 16 < 16) = True := eq_true (by omega)
          go_upto_region 12 with (fail)
          go_wp2_with (fail)
          refine (Tryz.Builder_WriteByte_k w.heap.size w.heap.size _ _ _ I3 (by rw [Lib.byteCells_length, List.length_append]; simp only [List.length_cons, List.length_nil]; omega) (by omega)).mono ?_
          rintro e W3 ⟨rfl, h4, b4, k4⟩
          rw [dig_eq _ (byteN s pos / 16) (by omega) (by omega)] at h4
          have I4 : Lib.IsBuilderF 104 5 w.heap.size w.heap.size (Lib.byteCells (acc ++ [92, 120] ++ [hexD (byteN s pos / 16)])) W3 := by rw [Lib.byteCells_append]; exact Or.inr h4
          have hit4 := k4.iter hit3 (by omega)
          have hb4 := hb3.trans b4
          have hs4 := h4.lt
          clear h4 b4 k4 I3
          go_upto_region 13 with (fail)
          go_wp2_with (fail)
          refine (Tryz.Builder_WriteByte_k w.heap.size w.heap.size _ _ _ I4 (by rw [Lib.byteCells_length, List.length_append, List.length_append]; simp only [List.length_cons, List.length_nil]; omega) (by omega)).mono ?_
          rintro e W4 ⟨rfl, h5, b5, k5⟩
          rw [dig_eq _ (byteN s pos % 16) (by omega) (by omega)] at h5
          go_wp2_with (fail)
          go_roundw
          case rel =>
            refine ⟨pos + (Utf8.decode s pos).2, f, acc ++ [92, 120] ++ [hexD (byteN s pos / 16)] ++ [hexD (byteN s pos % 16)], ?_, k5.iter hit4 (by omega), hb4.trans b5, ⟨?_⟩, by omega, by simp only [List.length_append, List.length_cons, List.length_nil]; omega⟩
            · rw [Lib.byteCells_append]; exact Or.inr h5
            · rw [← HACC.out]; simp
          case measure =>
            simp only [World.iterPos, k5.iter hit4 (by omega), HIT.out]
            omega
        · have r1 : (((Utf8.decode s pos).1 : Int) < 32) = False := eq_false hr1
          have r2 : decide (((Utf8.decode s pos).1 : Int) < 32) = false := decide_eq_false hr1
          by_cases hr2 : ((Utf8.decode s pos).1 : Int) = 127
          · have r3 : (((Utf8.decode s pos).1 : Int) == 127) = true := beq_iff_eq.2 hr2
            have r4 : (((Utf8.decode s pos).1 : Int) = 127) = True := eq_true hr2
            rw [if_pos (.inr (.inl hr2))] at HACC
            clear hr2
            go_wp2_with (fail)
            refine (runes_Class.calls _ (clsP ((Utf8.decode s pos).1 : Int)) _ rfl).mono ?_
            rintro e W0 ⟨rfl, nd, hW0⟩
            have I0 : Lib.IsBuilderF 104 5 w.heap.size w.heap.size (Lib.byteCells acc) W0 := by rw [hW0]; exact HI2.out
            have hit0 : W0.heap[W1.heap.size]? = some (.stringIter s (pos + (Utf8.decode s pos).2)) := by rw [hW0]; exact hit2
            have hbw0 : Below w.heap.size w W0 := by rw [hW0]; exact pw_below_drewN hbw2 _
            have hsz0 : w.heap.size ≤ W0.heap.size := hbw0.size
            clear hW0 HI2 hit2 hbw2 hsz2
            go_wp2_with (fail)
            refine (Tryz.Builder_WriteString_k w.heap.size w.heap.size _ ⟨#[92, 120]⟩ _ I0 (by rw [Lib.byteCells_length]; have : (⟨#[92, 120]⟩ : ByteArray).size = 2 := rfl; omega) hsz0).mono ?_
            rintro e W2 ⟨rfl, h3, b3, k3⟩
            have I3 : Lib.IsBuilderF 104 5 w.heap.size w.heap.size (Lib.byteCells (acc ++ [92, 120])) W2 := by rw [Lib.byteCells_append]; exact Or.inr h3
            have hit3 := k3.iter hit0 (by omega)
            have hb3 := hbw0.trans b3
            have hs3 := h3.lt
            clear h3 b3 k3 I0
            have p1 : ((pos : Int) < (s.size : Int)) = True := eq_true (by omega)
            have p2 : (pos < s.size) = True := eq_true hp
            have hb0 : byteN s pos = (s[pos]'hp).toNat := by unfold byteN; rw [dif_pos hp]
            have hb1 := (s[pos]'hp).toNat_lt
            have bq : (0 ≤ ((s[pos]'hp).toNat : Int) / 16 ∧ ((s[pos]'hp).toNat : Int) / 16 < 16) = True := eq_true (by omega)
            go_upto_region 12 with (fail)
            go_wp2_with (fail)
            refine (Tryz.Builder_WriteByte_k w.heap.size w.heap.size _ _ _ I3 (by rw [Lib.byteCells_length, List.length_append]; simp only [List.length_cons, List.length_nil]; omega) (by omega)).mono ?_
            rintro e W3 ⟨rfl, h4, b4, k4⟩
            rw [dig_eq _ (byteN s pos / 16) (by omega) (by omega)] at h4
            have I4 : Lib.IsBuilderF 104 5 w.heap.size w.heap.size (Lib.byteCells (acc ++ [92, 120] ++ [hexD (byteN s pos / 16)])) W3 := by rw [Lib.byteCells_append]; exact Or.inr h4
            have hit4 := k4.iter hit3 (by omega)
            have hb4 := hb3.trans b4
            have hs4 := h4.lt
            clear h4 b4 k4 I3
            go_upto_region 13 with (fail)
            go_wp2_with (fail)
            refine (Tryz.Builder_WriteByte_k w.heap.size w.heap.size _ _ _ I4 (by rw [Lib.byteCells_length, List.length_append, List.length_append]; simp only [List.length_cons, List.length_nil]; omega) (by omega)).mono ?_
            rintro e W4 ⟨rfl, h5, b5, k5⟩
            rw [dig_eq _ (byteN s pos % 16) (by omega) (by omega)] at h5
            go_wp2_with (fail)
            go_roundw
            case rel =>
              refine ⟨pos + (Utf8.decode s pos).2, f, acc ++ [92, 120] ++ [hexD (byteN s pos / 16)] ++ [hexD (byteN s pos % 16)], ?_, k5.iter hit4 (by omega), hb4.trans b5, ⟨?_⟩, by omega, by simp only [List.length_append, List.length_cons, List.length_nil]; omega⟩
              · rw [Lib.byteCells_append]; exact Or.inr h5
              · rw [← HACC.out]; simp
            case measure =>
              simp only [World.iterPos, k5.iter hit4 (by omega), HIT.out]
              omega
          · have r3 : (((Utf8.decode s pos).1 : Int) == 127) = false := beq_eq_false_iff_ne.2 hr2
            have r4 : (((Utf8.decode s pos).1 : Int) = 127) = False := eq_false hr2
            cases hw : wholeB s pos ((Utf8.decode s pos).1 : Int) with
            | false =>
              rw [if_pos (.inr (.inr hw))] at HACC
              have HW := Aside0.mk hw
              clear hw hr1 hr2
              go_wp2_with (fail)
              refine (runes_Class.calls _ (clsP ((Utf8.decode s pos).1 : Int)) _ rfl).mono ?_
              rintro e W0 ⟨rfl, nd, hW0⟩
              have I0 : Lib.IsBuilderF 104 5 w.heap.size w.heap.size (Lib.byteCells acc) W0 := by rw [hW0]; exact HI2.out
              have hit0 : W0.heap[W1.heap.size]? = some (.stringIter s (pos + (Utf8.decode s pos).2)) := by rw [hW0]; exact hit2
              have hbw0 : Below w.heap.size w W0 := by rw [hW0]; exact pw_below_drewN hbw2 _
              have hsz0 : w.heap.size ≤ W0.heap.size := hbw0.size
              clear hW0 HI2 hit2 hbw2 hsz2
              go_wp2_with (fail)
              refine (whole_calls s pos ((Utf8.decode s pos).1 : Int) _ (by omega) (by omega)).mono ?_
              rw [HW.out]
              rintro e W5 ⟨rfl, rfl⟩
              go_wp2_with (fail)
              refine (Tryz.Builder_WriteString_k w.heap.size w.heap.size _ ⟨#[92, 120]⟩ _ I0 (by rw [Lib.byteCells_length]; have : (⟨#[92, 120]⟩ : ByteArray).size = 2 := rfl; omega) hsz0).mono ?_
              rintro e W2 ⟨rfl, h3, b3, k3⟩
              have I3 : Lib.IsBuilderF 104 5 w.heap.size w.heap.size (Lib.byteCells (acc ++ [92, 120])) W2 := by rw [Lib.byteCells_append]; exact Or.inr h3
              have hit3 := k3.iter hit0 (by omega)
              have hb3 := hbw0.trans b3
              have hs3 := h3.lt
              clear h3 b3 k3 I0
              have p1 : ((pos : Int) < (s.size : Int)) = True := eq_true (by omega)
              have p2 : (pos < s.size) = True := eq_true hp
              have hb0 : byteN s pos = (s[pos]'hp).toNat := by unfold byteN; rw [dif_pos hp]
              have hb1 := (s[pos]'hp).toNat_lt
              have bq : (0 ≤ ((s[pos]'hp).toNat : Int) / 16 ∧ ((s[pos]'hp).toNat : Int) / 16 < 16) = True := eq_true (by omega)
              go_upto_region 12 with (fail)
              go_wp2_with (fail)
              refine (Tryz.Builder_WriteByte_k w.heap.size w.heap.size _ _ _ I3 (by rw [Lib.byteCells_length, List.length_append]; simp only [List.length_cons, List.length_nil]; omega) (by omega)).mono ?_
              rintro e W3 ⟨rfl, h4, b4, k4⟩
              rw [dig_eq _ (byteN s pos / 16) (by omega) (by omega)] at h4
              have I4 : Lib.IsBuilderF 104 5 w.heap.size w.heap.size (Lib.byteCells (acc ++ [92, 120] ++ [hexD (byteN s pos / 16)])) W3 := by rw [Lib.byteCells_append]; exact Or.inr h4
              have hit4 := k4.iter hit3 (by omega)
              have hb4 := hb3.trans b4
              have hs4 := h4.lt
              clear h4 b4 k4 I3
              go_upto_region 13 with (fail)
              go_wp2_with (fail)
              refine (Tryz.Builder_WriteByte_k w.heap.size w.heap.size _ _ _ I4 (by rw [Lib.byteCells_length, List.length_append, List.length_append]; simp only [List.length_cons, List.length_nil]; omega) (by omega)).mono ?_
              rintro e W4 ⟨rfl, h5, b5, k5⟩
              rw [dig_eq _ (byteN s pos % 16) (by omega) (by omega)] at h5
              go_wp2_with (fail)
              go_roundw
              case rel =>
                refine ⟨pos + (Utf8.decode s pos).2, f, acc ++ [92, 120] ++ [hexD (byteN s pos / 16)] ++ [hexD (byteN s pos % 16)], ?_, k5.iter hit4 (by omega), hb4.trans b5, ⟨?_⟩, by omega, by simp only [List.length_append, List.length_cons, List.length_nil]; omega⟩
                · rw [Lib.byteCells_append]; exact Or.inr h5
                · rw [← HACC.out]; simp
              case measure =>
                simp only [World.iterPos, k5.iter hit4 (by omega), HIT.out]
                omega
            | true =>
              rw [if_neg (by rw [hw]; simp; omega)] at HACC
              have HW := Aside0.mk hw
              clear hw hr1 hr2
              go_wp2_with (fail)
              refine (runes_Class.calls _ (clsP ((Utf8.decode s pos).1 : Int)) _ rfl).mono ?_
              rintro e W0 ⟨rfl, nd, hW0⟩
              have I0 : Lib.IsBuilderF 104 5 w.heap.size w.heap.size (Lib.byteCells acc) W0 := by rw [hW0]; exact HI2.out
              have hit0 : W0.heap[W1.heap.size]? = some (.stringIter s (pos + (Utf8.decode s pos).2)) := by rw [hW0]; exact hit2
              have hbw0 : Below w.heap.size w W0 := by rw [hW0]; exact pw_below_drewN hbw2 _
              have hsz0 : w.heap.size ≤ W0.heap.size := hbw0.size
              clear hW0 HI2 hit2 hbw2 hsz2
              go_wp2_with (fail)
              refine (whole_calls s pos ((Utf8.decode s pos).1 : Int) _ (by omega) (by omega)).mono ?_
              rw [HW.out]
              rintro e W5 ⟨rfl, rfl⟩
              go_wp2_with (fail)
              refine (Tryz.Builder_WriteRune_k w.heap.size w.heap.size _ _ (by omega) (by omega) _ I0 (by rw [Lib.byteCells_length]; omega) (by omega)).mono ?_
              rintro e W3 ⟨rfl, h4, b4, k4⟩
              go_wp2_with (fail)
              go_roundw
              case rel =>
                have hl4 := Lib.runeCells_le ((Utf8.decode s pos).1 : Int)
                rw [Lib.runeCells_length] at hl4
                refine ⟨pos + (Utf8.decode s pos).2, f, acc ++ Lib.encodeRune (Utf8.decode s pos).1, ?_, k4.iter hit0 (by omega), hbw0.trans b4, ⟨?_⟩, by omega, by simp only [List.length_append]; omega⟩
                · rw [Lib.byteCells_append, Lib.byteCells_encodeRune]; exact Or.inr h4
                · rw [← HACC.out]; simp
              case measure =>
                simp only [World.iterPos, k4.iter hit0 (by omega), HIT.out]
                omega
    · have hnx : ∀ ty, (Instr.next (.pointer (some ⟨W1.heap.size, 0, none⟩)) true ty).run Tryz.prog wr = _ := fun ty => Lib.run_next_end_at wr W1.heap.size s pos ty hit hp
      rw [quoteF_end s fuel pos hp, List.append_nil] at hacc
      have HACC := Aside0.mk hacc.out
      clear hacc
      go_wp2_with (fail)
      refine (Tryz.Builder_WriteByte_k w.heap.size w.heap.size _ 34 _ hI (by rw [Lib.byteCells_length]; omega) (by omega)).mono ?_
      rintro e W2 ⟨rfl, h3, b3, k3⟩
      have I3 : Lib.IsBuilderF 104 5 w.heap.size w.heap.size (Lib.byteCells (acc ++ [34])) W2 := by rw [Lib.byteCells_append]; exact Or.inr h3
      have hs3 := h3.lt
      go_wp2_with (fail)
      refine (Tryz.Builder_String_any_k w.heap.size w.heap.size _ _ I3 (by omega)).mono ?_
      rintro e W3 ⟨rfl, _, b4, _⟩
      go_wp2_with (fail)
      go_ret
      refine ⟨?_, (hbw.trans b3).trans b4⟩
      rw [HACC.out]
      rfl
end Go.Proofs.YtlkbeddlmbghkaaGreatDoor.PR

namespace Go.Proofs.YtlkbeddlmbghkaaGreatDoor.PR
open Go Go.Proofs Go.RowKit Go.Proofs.YtlkbeddlmbghkaaGreatDoorW.PrintWords Go.Proofs.YtlkbeddlmbghkaaGreatDoorW.PrintLast Go.Proofs.YtlkbeddlmbghkaaGreatDoorW.PrintMore Go.Proofs.YtlkbeddlmbghkaaGreatDoor.Lx
attribute [local go_sem] Wd.one Wd.run_store
set_option linter.unusedVariables false
set_option linter.unusedSimpArgs false
set_option maxRecDepth 100000

/-- The table that strconv.Itoa reads. -/
def TenAt (w : World) : Prop := Lib.TabIs Tryz.prog w "internal/strconv.uint64pow10" .u64 Lib.pow10Tab
theorem TenAt.mono {w w' : World} (h : TenAt w) (hb : Below w.heap.size w w') : TenAt w' :=
  Go.Joins.tab_stays (g := 2) (by kernel_rfl) h hb (Nat.le_refl _)
/-- A word that a machine can hold. -/
def Fits : Wd → Prop
  | .text t => t.size ≤ 1000000000000
  | .num n => -9223372036854775808 ≤ n ∧ n ≤ 9223372036854775807
  | _ => True
set_option maxHeartbeats 4000000 in
theorem shown_at (b : Wd) (hf : Fits b) (w : World) (hT : TenAt w) :
    Calls Tryz.prog 33 #[.agg #[Wd.v b]] w fun e w' => Below w.heap.size w w' ∧ ∃ (t : ByteArray) (ok : Bool), e = .returned (.tuple #[.string t, .bool ok]) ∧ ((ok = true ∧ shownW b = some t.data.toList) ∨ (ok = false ∧ shownW b = none)) := by
  have hu49 := Tryz.underlying49
  have HT := Aside0.mk hT
  have HF := Aside0.mk hf
  clear hT hf
  go_enter Tryz.func33, Tryz.ntmps33
  go_upto_region 1 with (fail)
  have B1 := blk_new w (.cells #[Wd.v b] 49)
  have ab1 : Below w.heap.size w (w.alloc (.cells #[Wd.v b] 49)) := (Below.refl _ _).alloc (Nat.le_refl _) _
  change Code.wp _ _ _ _ (w.alloc (.cells #[Wd.v b] 49))
  generalize (w.alloc (.cells #[Wd.v b] 49)) = w1 at *
  have HB1 := Aside0.mk ab1
  have Y1 := Aside0.mk B1
  clear ab1 B1
  have k1 : w1.cell? ⟨w.heap.size, 0, none⟩ = some (Wd.v b) := (blk_cell Y1.out 0).trans rfl
  cases b with
  | text t =>
    go_wp2_with (fail)
    refine (box_AsText.calls (.text t) t true w1 rfl).mono ?_
    rintro e w2 ⟨rfl, hb2⟩
    have HB2 := Aside0.mk (HB1.out.trans (hb2.mono HB1.out.size))
    clear hb2 k1
    go_wp2_with (fail)
    refine (quote_calls t HF.out w2).mono ?_
    rintro e w3 ⟨rfl, hb3⟩
    go_wp2_with (fail)
    go_ret2
    exact ⟨HB2.out.trans (hb3.mono HB2.out.size), _, true, rfl, .inl ⟨rfl, by simp [shownW]⟩⟩
  | num n =>
    go_wp2_with (fail)
    refine (box_AsText.calls (.num n) _ false w1 rfl).mono ?_
    rintro e w2 ⟨rfl, hb2⟩
    have HB2 := Aside0.mk (HB1.out.trans (hb2.mono HB1.out.size))
    have k2 := (hb2.cell (World.block_lt_of_cell? w1 _ k1)).trans k1
    clear hb2 k1
    go_wp2_with (fail)
    refine (box_AsNumber.calls (.num n) n true w2 rfl).mono ?_
    rintro e w3 ⟨rfl, hb3⟩
    have HB3 := Aside0.mk (HB2.out.trans (hb3.mono HB2.out.size))
    clear hb3 k2
    go_wp2_with (fail)
    refine (Tryz.strconv_Itoa n HF.out.1 HF.out.2 w3 (HT.out.mono HB3.out)).mono ?_
    rintro e w4 ⟨rfl, j, os, hw4⟩
    have HB4 := Aside0.mk (HB3.out.trans ((show Below w3.heap.size w3 w4 by rw [hw4]; exact Lib.below_grow w3.heap.size w3 (Nat.le_refl _) j os).mono HB3.out.size))
    clear hw4
    go_wp2_with (fail)
    refine (lex_Number.calls ⟨(Lib.itoa n).toArray⟩ _ _ w4 rfl).mono ?_
    rintro e w5 ⟨rfl, hb5⟩
    go_wp2_with (fail)
    go_ret2
    refine ⟨HB4.out.trans (hb5.mono HB4.out.size), _, _, rfl, ?_⟩
    have e1 : (⟨(Lib.itoa n).toArray⟩ : ByteArray).data.toList = Lib.itoa n := by simp
    rw [e1]
    unfold shownW
    cases hn : isNum (Lib.itoa n) with
    | true => exact .inl ⟨rfl, by simp [hn]⟩
    | false => exact .inr ⟨rfl, by simp [hn]⟩
  | name s =>
    go_wp2_with (fail)
    refine (box_AsText.calls (.name s) _ false w1 rfl).mono ?_
    rintro e w2 ⟨rfl, hb2⟩
    have HB2 := Aside0.mk (HB1.out.trans (hb2.mono HB1.out.size))
    have k2 := (hb2.cell (World.block_lt_of_cell? w1 _ k1)).trans k1
    clear hb2 k1
    go_wp2_with (fail)
    refine (box_AsNumber.calls (.name s) _ false w2 rfl).mono ?_
    rintro e w3 ⟨rfl, hb3⟩
    have HB3 := Aside0.mk (HB2.out.trans (hb3.mono HB2.out.size))
    have k3 := (hb3.cell (World.block_lt_of_cell? w2 _ k2)).trans k2
    clear hb3 k2
    go_wp2_with (fail)
    refine (box_AsName.calls (.name s) s true w3 rfl).mono ?_
    rintro e w4 ⟨rfl, hb4⟩
    have HB4 := Aside0.mk (HB3.out.trans (hb4.mono HB3.out.size))
    clear hb4 k3
    go_wp2_with (fail)
    refine (lex_Name.calls s _ w4 rfl).mono ?_
    rintro e w5 ⟨rfl, hb5⟩
    go_wp2_with (fail)
    go_ret2
    refine ⟨HB4.out.trans (hb5.mono HB4.out.size), _, _, rfl, ?_⟩
    unfold shownW
    cases hn : isName s.data.toList with
    | true => exact .inl ⟨rfl, by simp [hn]⟩
    | false => exact .inr ⟨rfl, by simp [hn]⟩
  | nil =>
    go_wp2_with (fail)
    refine (box_AsText.calls .nil _ false w1 rfl).mono ?_
    rintro e w2 ⟨rfl, hb2⟩
    have HB2 := Aside0.mk (HB1.out.trans (hb2.mono HB1.out.size))
    have k2 := (hb2.cell (World.block_lt_of_cell? w1 _ k1)).trans k1
    clear hb2 k1
    go_wp2_with (fail)
    refine (box_AsNumber.calls .nil _ false w2 rfl).mono ?_
    rintro e w3 ⟨rfl, hb3⟩
    have HB3 := Aside0.mk (HB2.out.trans (hb3.mono HB2.out.size))
    have k3 := (hb3.cell (World.block_lt_of_cell? w2 _ k2)).trans k2
    clear hb3 k2
    go_wp2_with (fail)
    refine (box_AsName.calls .nil _ false w3 rfl).mono ?_
    rintro e w4 ⟨rfl, hb4⟩
    have HB4 := Aside0.mk (HB3.out.trans (hb4.mono HB3.out.size))
    clear hb4 k3
    go_wp2_with (fail)
    refine (lex_Name.calls ⟨#[]⟩ _ w4 rfl).mono ?_
    rintro e w5 ⟨rfl, hb5⟩
    go_wp2_with (fail)
    go_ret2
    exact ⟨HB4.out.trans (hb5.mono HB4.out.size), _, _, rfl, .inr ⟨rfl, rfl⟩⟩

theorem join_at (xs : List ByteArray) (v : Value) (w : World) (base : Nat) (h : Kd.string.R 9 w base (fun _ => True) v xs) (hN : xs.length ≤ 1000000) (hlen : (Lib.join (xs.map (·.data.toList)) [32]).length ≤ 140737488355328) :
    Calls Tryz.prog 34 #[v, .string ⟨#[32]⟩] w fun e w' => e = .returned (.string ⟨(Lib.join (xs.map (·.data.toList)) [32]).toArray⟩) ∧ Below w.heap.size w w' := by
  have ho := Kd.own_of_R h
  obtain ⟨h1, ⟨h2, h3⟩ | ⟨g, cap, cur, hv, hbg, hg, hc1, hc2, hc3, hin⟩⟩ := ho
  · subst h2
    have hx : xs = [] := List.length_eq_zero_iff.1 h3
    subst hx
    exact (Tryz.strings_Join_none none 0 ⟨#[32]⟩ w).mono fun e w' ⟨he, hw⟩ => ⟨he, by rw [hw]; exact Below.refl _ _⟩
  · subst hv
    refine Tryz.strings_Join g 0 cap xs ⟨#[32]⟩ w (fun j x hj => ?_) (blk_lt hg) (by omega) hc1 hlen
    have hjl := (List.getElem?_eq_some_iff.1 hj).1
    have e1 : (cur.toList.take (xs.length * 1))[j]? = some (Value.string x) := by
      rw [hin, encs, List.getElem?_map, hj]; rfl
    rw [List.getElem?_take, if_pos (by omega)] at e1
    rw [Nat.zero_add, blk_cell hg j]
    simpa using e1
end Go.Proofs.YtlkbeddlmbghkaaGreatDoor.PR

namespace Go.Proofs.YtlkbeddlmbghkaaGreatDoor.PR
open Go Go.Proofs Go.RowKit Go.Proofs.YtlkbeddlmbghkaaGreatDoorW.PrintWords Go.Proofs.YtlkbeddlmbghkaaGreatDoorW.PrintLast Go.Proofs.YtlkbeddlmbghkaaGreatDoorW.PrintMore Go.Proofs.YtlkbeddlmbghkaaGreatDoor.Lx
attribute [local go_sem] Wd.one Wd.run_store
set_option linter.unusedVariables false
set_option linter.unusedSimpArgs false
set_option maxRecDepth 100000

theorem showW_append : ∀ (a r : List Wd), showW (a ++ r) = (showW a).bind fun x => (showW r).map (x ++ ·)
  | [], r => by
    show showW r = (showW r).map ([] ++ ·)
    cases showW r <;> rfl
  | b :: a, r => by
    rw [List.cons_append, showW, showW, showW_append a r]
    cases shownW b with
    | none => rfl
    | some t =>
      cases showW a with
      | none => rfl
      | some x =>
        show ((showW r).map (x ++ ·)).map (t :: ·) = (showW r).map (t :: x ++ ·)
        rw [Option.map_map]
        rfl
theorem showW_one (b : Wd) : showW [b] = (shownW b).map fun t => [t] := by
  rw [showW]
  cases shownW b <;> rfl

theorem infoStr : (Tryz.prog.info? 9).map (fun i => (i.zero, i.size, i.bytes)) = some (some (.string ⟨#[]⟩), 1, 16) := by kernel_rfl
/-- Words that a machine can hold, and their line. -/
def FitsAll (ws : List Wd) : Prop := ws.length ≤ 1000000 ∧ (∀ b ∈ ws, Fits b) ∧ ∀ toks, showW ws = some toks → (Lib.join toks [32]).length ≤ 140737488355328

set_option maxHeartbeats 4000000 in
theorem show_at (A : Option Addr) (c : Nat) (l : List S49) (hf : FitsAll (l.map fun b => b.f0)) (hc : l.length ≤ c) (w : World) (hT : TenAt w) (hC : Kd.C k49 w A l.length l) :
    Calls Tryz.prog 11 #[.slice A l.length c] w fun e w' => Below w.heap.size w w' ∧
      ((∃ toks, showW (l.map fun b => b.f0) = some toks ∧ e = .returned (.tuple #[.string ⟨(Lib.join toks [32]).toArray⟩, .int .i64 0])) ∨ (showW (l.map fun b => b.f0) = none ∧ e = .returned (.tuple #[.string ⟨#[]⟩, .int .i64 10]))) := by
  have hu49 := Tryz.underlying49
  have HT := Aside0.mk hT
  have HF := Aside0.mk hf
  have HC := Aside0.mk hC
  have HLL : Aside0 (l.length ≤ 1000000) := ⟨by have := hf.1; rw [List.length_map] at this; exact this⟩
  clear hT hf hC
  go_enter Tryz.func11, Tryz.ntmps11
  go_wp2_with (fail)
  go_loopg [4, 11] (l.length) (fun kq v4 v11 w' => ∃ (i : Nat) (ts : List ByteArray), v11 = .int .i64 (i : Int) ∧ Aside0 (i + kq = l.length) ∧ Aside0 (showW ((l.take i).map fun b => b.f0) = some (ts.map (·.data.toList))) ∧ Aside0 (ts.length = i) ∧ Aside0 (Kd.string.R 9 w' w.heap.size (fun _ => True) v4 ts) ∧ Aside0 (Below w.heap.size w w'))
  case atStart => exact ⟨0, [], rfl, ⟨Nat.zero_add _⟩, ⟨rfl⟩, ⟨rfl⟩, ⟨Kd.R_nil _ _ _ _ _⟩, ⟨Below.refl _ _⟩⟩
  case round =>
    obtain ⟨i, ts, rfl, HI, HS, HTL, HO, HBl⟩ := hrel
    by_cases hlt : i < l.length
    · obtain ⟨k2, rfl⟩ : ∃ k2, gk = k2 + 1 := ⟨gk - 1, by have := HI.out; omega⟩
      have d1 : ((i : Int) < (l.length : Int)) = True := eq_true (by omega)
      have d2 : decide ((i : Int) < (l.length : Int)) = true := decide_eq_true (by omega)
      have d3 : (i < l.length) = True := eq_true hlt
      obtain ⟨i1, hi1⟩ : ∃ i1, i1 = i + 1 := ⟨_, rfl⟩
      have e10 : IntKind.i64.wrap ((i : Int) + 1) = (i1 : Int) := by have := HLL.out; rw [i64_w]; unfold wrap64; omega
      have I1 := Aside0.mk hi1
      clear hi1
      obtain ⟨ad, ead, hx0⟩ := at_T49 (Kd.C_below HC.out HBl.out) (i : Int) (by omega) (by omega)
      subst ead
      simp only [Int.toNat_natCast] at hx0
      have hL1 : rd_T49 l (i : Int) = l[i] := by unfold rd_T49; rw [Int.toNat_natCast, List.getD_eq_getElem?_getD, List.getElem?_eq_getElem hlt]; rfl
      have htk : l.take (i + 1) = l.take i ++ [l[i]] := (List.take_append_getElem hlt).symm
      have hdr : l = l.take (i + 1) ++ l.drop (i + 1) := (List.take_append_drop _ _).symm
      have hfi := HF.out.2.1 _ (List.mem_map.2 ⟨_, List.getElem_mem hlt, rfl⟩)
      rw [← hL1] at htk hfi
      generalize rd_T49 l (i : Int) = b at hx0 hL1 htk hfi
      have hsn : showW ((l.take (i + 1)).map fun b => b.f0) = (shownW b.f0).map fun t => ts.map (·.data.toList) ++ [t] := by
        rw [htk, List.map_append, showW_append, HS.out, List.map_cons, List.map_nil, showW_one]
        cases shownW b.f0 <;> rfl
      have hno : shownW b.f0 = none → showW (l.map fun b => b.f0) = none := by
        intro h0
        rw [hdr, List.map_append, showW_append, hsn, h0]
        rfl
      have HSN := Aside0.mk hsn
      have HNO := Aside0.mk hno
      have HFI := Aside0.mk hfi
      clear hL1 htk hdr hfi hsn hno hlt
      go_wp2_with (fail)
      have hba : Below wr.heap.size wr (wr.alloc (.cells #[Wd.v b.f0] 49)) := (Below.refl _ _).alloc (Nat.le_refl _) _
      have hB2 := HBl.out.trans (hba.mono HBl.out.size)
      refine (shown_at b.f0 HFI.out _ (HT.out.mono hB2)).mono ?_
      rintro e w2 ⟨hb2, t, ok, rfl, hok⟩
      have HB3 := Aside0.mk (hB2.trans (hb2.mono hB2.size))
      have HO3 := Aside0.mk (Kd.R_below (Kd.R_below HO.out hba) hb2)
      have HOK := Aside0.mk hok
      clear hba hB2 hb2 hok hx0 HO HBl
      cases ok with
      | false =>
        have hn : shownW b.f0 = none := by
          rcases HOK.out with ⟨h, _⟩ | ⟨_, h⟩
          · cases h
          · exact h
        have HN := Aside0.mk hn
        clear hn
        go_wp2_with (fail)
        go_ret2
        exact ⟨HB3.out, .inr ⟨HNO.out HN.out, rfl⟩⟩
      | true =>
        have hy : shownW b.f0 = some t.data.toList := by
          rcases HOK.out with ⟨_, h⟩ | ⟨h, _⟩
          · exact h
          · cases h
        have HS2 := Aside0.mk (HSN.out.trans (by rw [hy]; simp : _ = some ((ts ++ [t]).map (·.data.toList))))
        obtain ⟨Av, cv, ev⟩ := Kd.R_slice HO3.out
        subst ev
        clear hy
        go_wp2_with ((with_reducible refine gate_builtin (b := .append) (xs := #[.tmp 22, .tmp 24]) rfl ?_); (try (refine gate_guard (by rfl) ?_; dsimp only)); at_builtin; refine Kd.R_append Kd.string (w0 := w2) w.heap.size rfl (.tmp 22) (.tmp 24) 74 9 (.string ⟨#[]⟩) 16 rfl Tryz.underlying74 infoStr rfl (by decide) (by omega) (.slice Av ts.length cv) ts t [.string t] (fun _ => True) (fun _ => False) rfl rfl ?aP (fun _ hk => hk.elim) (fun _ _ => trivial) HO3.out (Below.refl _ _) ?aS ?aL ?_; (case aP => rfl); (case aS => exact HB3.out.size); (case aL => have := HTL.out; have := HLL.out; have := HI.out; omega); intro v6 w6 ho hb hg hat; have O6 := Aside0.mk ho; have B6 := Aside0.mk hb; clear ho hb hg hat HO3)
        go_roundg k2
        case measure => omega
        case rel => exact ⟨i1, ts ++ [t], rfl, ⟨by have := HI.out; have := I1.out; omega⟩, ⟨by rw [I1.out]; exact HS2.out⟩, ⟨by rw [List.length_append, List.length_singleton, HTL.out, I1.out]⟩, O6, ⟨HB3.out.trans (B6.out.mono (Nat.le_refl _))⟩⟩
    · have hie : i = l.length := by have := HI.out; omega
      subst hie
      have d1 : ((l.length : Int) < (l.length : Int)) = False := eq_false (by omega)
      have HS2 := Aside0.mk (show showW (l.map fun b => b.f0) = some (ts.map (·.data.toList)) by have h := HS.out; rw [List.take_length] at h; exact h)
      clear HS hlt
      obtain ⟨Av, cv, ev⟩ := Kd.R_slice HO.out
      subst ev
      go_wp2_with (fail)
      refine (join_at ts _ wr w.heap.size HO.out (by have := HTL.out; have := HLL.out; omega) (HF.out.2.2 _ HS2.out)).mono ?_
      rintro e w2 ⟨rfl, hb2⟩
      go_wp2_with (fail)
      go_ret2
      exact ⟨HBl.out.trans (hb2.mono HBl.out.size), .inl ⟨_, HS2.out, rfl⟩⟩
end Go.Proofs.YtlkbeddlmbghkaaGreatDoor.PR
