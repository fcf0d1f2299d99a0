/- The document's Number and Name (chapter 3) are the plain ones; LexWords answers true. -/
import Derived.Test.YtlkbeddlmbghkaaGreatDoorLx0
import Derived.Test.YtlkbeddlmbghkaaGreatDoorPRx2
import Derived.Test.YtlkbeddlmbghkaaGreatDoorPRx3
import Derived.Test.YtlkbeddlmbghkaaGreatDoorPRx4
import Derived.Test.YtlkbeddlmbghkaaGreatDoorRng
namespace Go.Proofs.YtlkbeddlmbghkaaGreatDoor.PR
open Go Go.Proofs Go.RowKit Go.Proofs.YtlkbeddlmbghkaaGreatDoorW.PrintWords Go.Proofs.YtlkbeddlmbghkaaGreatDoorW.PrintLast Go.Proofs.YtlkbeddlmbghkaaGreatDoorW.PrintMore Go.Proofs.YtlkbeddlmbghkaaGreatDoor.Lx
set_option linter.unusedVariables false
set_option linter.unusedSimpArgs false

theorem bt_nat (s : ByteArray) (i : Nat) (h : i < s.data.toList.length) : bt s (i : Int) = ((s.data.toList[i]'h).toNat : Int) := by
 have h2 : i < s.size := by rw [Lib.size_eq]; exact h
 have h3 := bt_at s (i : Int)
 unfold bt
 rw [dif_pos (show ((i : Int).toNat < s.size) by simpa using h2)]
 rfl
end Go.Proofs.YtlkbeddlmbghkaaGreatDoor.PR

namespace Go.Proofs.YtlkbeddlmbghkaaGreatDoor.PR
open Go Go.Proofs Go.RowKit Go.Proofs.YtlkbeddlmbghkaaGreatDoorW.PrintWords Go.Proofs.YtlkbeddlmbghkaaGreatDoorW.PrintLast Go.Proofs.YtlkbeddlmbghkaaGreatDoorW.PrintMore Go.Proofs.YtlkbeddlmbghkaaGreatDoor.Lx
set_option linter.unusedVariables false
set_option linter.unusedSimpArgs false

/-- The byte at a place, 0 behind the end; is there one? -/
def byteN (s : ByteArray) (i : Nat) : Nat := if h : i < s.size then (s[i]'h).toNat else 0
def inB (s : ByteArray) (i lo hi : Nat) : Bool := decide (i < s.size) && decide (lo ≤ byteN s i) && decide (byteN s i ≤ hi)

def widS (s : ByteArray) (p : Nat) : Int :=
 if inB s p 0 127 then 1
 else if inB s p 194 223 && inB s (p + 1) 128 191 then 2
 else if (inB s p 224 224 && inB s (p + 1) 160 191 || inB s p 225 236 && inB s (p + 1) 128 191 || inB s p 237 237 && inB s (p + 1) 128 159 || inB s p 238 239 && inB s (p + 1) 128 191) && inB s (p + 2) 128 191 then 3
 else if (inB s p 240 240 && inB s (p + 1) 144 191 || inB s p 241 243 && inB s (p + 1) 128 191 || inB s p 244 244 && inB s (p + 1) 128 143) && inB s (p + 2) 128 191 && inB s (p + 3) 128 191 then 4
 else 0
end Go.Proofs.YtlkbeddlmbghkaaGreatDoor.PR

namespace Go.Proofs.YtlkbeddlmbghkaaGreatDoor.PR
open Go Go.Proofs Go.RowKit Go.Proofs.YtlkbeddlmbghkaaGreatDoorW.PrintWords Go.Proofs.YtlkbeddlmbghkaaGreatDoorW.PrintLast Go.Proofs.YtlkbeddlmbghkaaGreatDoorW.PrintMore Go.Proofs.YtlkbeddlmbghkaaGreatDoor.Lx
set_option linter.unusedVariables false
set_option linter.unusedSimpArgs false

theorem get_byteN (s : ByteArray) (i : Nat) (h : i < s.size) : (s.get! i).toNat = byteN s i := by
 unfold byteN
 rw [dif_pos h]
 simp [ByteArray.get!, h]
 rfl
theorem byteN_lt (s : ByteArray) (i : Nat) : byteN s i < 256 := by
 unfold byteN
 split
 ·
  exact UInt8.toNat_lt _
 ·
  omega

theorem prefix_fffd (s : ByteArray) (p : Nat) : Lib.hasPrefix (s.data.toList.drop p) [239, 191, 189] = (decide (p + 2 < s.size) && decide (byteN s p = 239) && decide (byteN s (p + 1) = 191) && decide (byteN s (p + 2) = 189)) := by
 unfold Lib.hasPrefix
 by_cases h : p + 2 < s.size
 ·
  have hl : p + 2 < s.data.toList.length := by rw [← Lib.size_eq]; exact h
  rw [List.drop_eq_getElem_cons (by omega), List.drop_eq_getElem_cons (i := p + 1) (by omega), List.drop_eq_getElem_cons (i := p + 1 + 1) (by omega)]
  have e : ∀ i (hi : i < s.size) (hi2 : i < s.data.toList.length), byteN s i = (s.data.toList[i]'hi2).toNat := by
   intro i hi hi2
   unfold byteN
   rw [dif_pos hi]; rfl
  rw [e p (by omega) (by omega), e (p + 1) (by omega) (by omega), e (p + 2) h hl, decide_eq_true h]
  have c : ∀ (x : UInt8) (n : Nat) (y : UInt8), y.toNat = n → (y == x) = decide (x.toNat = n) := by
   intro x n y hy
   rw [Bool.eq_iff_iff, beq_iff_eq, decide_eq_true_eq]
   exact ⟨fun e => by rw [← e, hy], fun e => UInt8.toNat_inj.1 (by omega)⟩
  simp only [List.isPrefixOf, Bool.and_true, Bool.true_and]
  rw [c _ 239 239 rfl, c _ 191 191 rfl, c _ 189 189 rfl, Bool.and_assoc]
 ·
  rw [decide_eq_false h]
  simp only [Bool.false_and]
  cases hq : List.isPrefixOf [239, 191, 189] (List.drop p s.data.toList) with
  | false => rfl
  | true =>
   have := (List.isPrefixOf_iff_prefix.1 hq).length_le
   rw [List.length_drop, ← Lib.size_eq] at this
   simp at this
   omega

set_option maxHeartbeats 40000000 in
theorem wid_decode (s : ByteArray) (p : Nat) (hp : p < s.size) : widS s p = if wholeB s p ((Utf8.decode s p).1 : Int) then ((Utf8.decode s p).2 : Int) else 0 := by
 unfold wholeB
 rw [prefix_fffd]
 have h0 := byteN_lt s p
 have h1 := byteN_lt s (p + 1)
 have h2 := byteN_lt s (p + 2)
 have h3 := byteN_lt s (p + 3)
 have g0 := get_byteN s p hp
 have g1 : p + 1 < s.size → (s.get! (p + 1)).toNat = byteN s (p + 1) := get_byteN s (p + 1)
 have g2 : p + 2 < s.size → (s.get! (p + 2)).toNat = byteN s (p + 2) := get_byteN s (p + 2)
 have g3 : p + 3 < s.size → (s.get! (p + 3)).toNat = byteN s (p + 3) := get_byteN s (p + 3)
 unfold widS inB Utf8.decode Utf8.runeError Utf8.valid
 simp only [Nat.add_zero, g0]
 generalize hz : s.size = z at *
 generalize byteN s p = b0 at *
 generalize byteN s (p + 1) = b1 at *
 generalize byteN s (p + 2) = b2 at *
 generalize byteN s (p + 3) = b3 at *
 generalize (s.get! (p + 1)).toNat = a1 at *
 generalize (s.get! (p + 2)).toNat = a2 at *
 generalize (s.get! (p + 3)).toNat = a3 at *
 clear hz g0
 have k1 : p + 1 < z → a1 = b1 := g1
 have k2 : p + 2 < z → a2 = b2 := g2
 have k3 : p + 3 < z → a3 = b3 := g3
 clear g1 g2 g3
 simp only [decide_eq_true hp, Bool.true_and, Bool.and_eq_true, Bool.or_eq_true, decide_eq_true_eq, beq_iff_eq, bne_iff_ne]
 generalize hd : (if b0 < 128 then (b0, 1) else _ : Nat × Nat) = d
 by_cases e1 : p + 1 < z <;> by_cases e2 : p + 2 < z <;> by_cases e3 : p + 3 < z
 all_goals first | (exfalso; omega) | skip
 all_goals
  simp only [e1, e2, e3, true_and, false_and, and_false, or_false, if_false] at hd ⊢
  try (have := k1 e1; subst this)
  try (have := k2 e2; subst this)
  try (have := k3 e3; subst this)
  clear k1 k2 k3 e1 e2 e3 hp
  repeat' split at hd
  all_goals
   subst hd
   repeat' split
   all_goals first | rfl | omega
end Go.Proofs.YtlkbeddlmbghkaaGreatDoor.PR

namespace Go.Proofs.YtlkbeddlmbghkaaGreatDoor.PR
open Go Go.Proofs Go.RowKit Go.Proofs.YtlkbeddlmbghkaaGreatDoorW.PrintWords Go.Proofs.YtlkbeddlmbghkaaGreatDoorW.PrintLast Go.Proofs.YtlkbeddlmbghkaaGreatDoorW.PrintMore Go.Proofs.YtlkbeddlmbghkaaGreatDoor.Lx
set_option linter.unusedVariables false
set_option linter.unusedSimpArgs false

theorem w64_1 (i : Nat) (h : i ≤ 1000000000000) : wrap64 ((i : Int) + 1) = ((i + 1 : Nat) : Int) := by unfold wrap64; omega
theorem w64_3 (i : Nat) (h : i ≤ 1000000000000) : wrap64 ((i : Int) + 3) = ((i + 3 : Nat) : Int) := by unfold wrap64; omega
def validB (s : ByteArray) : Bool := decide (rightP s < 0)

/-! ### digits of bytes -/

def hexI (c : UInt8) : Int := match hexV c with
 | some a => a
 | none => -1
theorem index_hex (c : UInt8) : Lib.indexByte [48, 49, 50, 51, 52, 53, 54, 55, 56, 57, 97, 98, 99, 100, 101, 102] c = hexI c := by
 have h : ∀ n : Fin 256, Lib.indexByte [48, 49, 50, 51, 52, 53, 54, 55, 56, 57, 97, 98, 99, 100, 101, 102] (UInt8.ofNat n) = hexI (UInt8.ofNat n) := by decide +kernel
 have := h ⟨c.toNat, c.toNat_lt⟩
 simpa using this
theorem hexV_lt {c : UInt8} {a : Nat} (h : hexV c = some a) : a < 16 := by
 unfold hexV at h
 split at h
 ·
  have := Option.some.inj h; omega
 ·
  split at h
  ·
   have := Option.some.inj h; omega
  ·
   cases h
theorem or_hex (a b : Nat) (ha : a < 16) (hb : b < 16) : Go.bits .or .i64 (wrap64 ((a : Int) * 16)) (b : Int) % 256 = ((a * 16 + b : Nat) : Int) := by
 have h : ∀ a b : Fin 16, Go.bits .or .i64 (wrap64 ((a.val : Int) * 16)) (b.val : Int) % 256 = ((a.val * 16 + b.val : Nat) : Int) := by decide +kernel
 exact h ⟨a, ha⟩ ⟨b, hb⟩

/-! ### pieces of a text -/

def seg (l : List UInt8) (i n : Nat) : List UInt8 := (l.drop i).take (n - i)
def nums (l : List UInt8) : List Int := l.map fun b => (b.toNat : Int)
theorem nums_snoc (l : List UInt8) (c : UInt8) : nums (l ++ [c]) = nums l ++ [(c.toNat : Int)] := by simp [nums]
theorem str_nums (l : List UInt8) : strOfNums (nums l) = ⟨l.toArray⟩ := by
 unfold strOfNums nums
 rw [List.map_map]
 congr 2
 have : ((fun n : Int => UInt8.ofNat n.toNat) ∘ fun b : UInt8 => (b.toNat : Int)) = id := by funext b; simp
 rw [this, List.map_id]
theorem nums_len (l : List UInt8) : (nums l).length = l.length := by simp [nums]

/-- What an unquoting comes to. -/
def resQ : Option (List UInt8) → ByteArray × Bool
 | none => (⟨#[]⟩, false)
 | some t => (⟨t.toArray⟩, true)
def resA (acc : List UInt8) (o : Option (List UInt8)) : ByteArray × Bool := resQ (o.map (acc ++ ·))
theorem resA_cons (acc : List UInt8) (c : UInt8) (o : Option (List UInt8)) : resA acc (o.map (c :: ·)) = resA (acc ++ [c]) o := by
 cases o <;> simp [resA, resQ]

/-! ### the document's -/

end Go.Proofs.YtlkbeddlmbghkaaGreatDoor.PR

namespace Go.Proofs.YtlkbeddlmbghkaaGreatDoor.PR
open Go Go.Proofs Go.RowKit Go.Proofs.YtlkbeddlmbghkaaGreatDoorW.PrintWords Go.Proofs.YtlkbeddlmbghkaaGreatDoorW.PrintLast Go.Proofs.YtlkbeddlmbghkaaGreatDoorW.PrintMore Go.Proofs.YtlkbeddlmbghkaaGreatDoor.Lx
set_option linter.unusedVariables false
set_option linter.unusedSimpArgs false

theorem badQ_of (c : UInt8) : badQ c = (decide ((c.toNat : Int) = 34) || decide ((c.toNat : Int) < 32) || ((c.toNat : Int) == 127)) := by
 unfold badQ
 congr 1
 ·
  congr 1
  ·
   exact decide_eq_decide.2 (by omega)
  ·
   exact decide_eq_decide.2 (by omega)
 ·
  rw [Bool.eq_iff_iff, beq_iff_eq, decide_eq_true_eq]; omega

theorem w64m (n : Nat) (h : n ≤ 1000000000000) : wrap64 ((n : Int) - 1) = (n : Int) - 1 := by unfold wrap64; omega

theorem ends_of (l : List UInt8) (h : 2 ≤ l.length) : (l.head? = some 34 ↔ (l[0]'(by omega)).toNat = 34) ∧ (l.getLast? = some 34 ↔ (l[l.length - 1]'(by omega)).toNat = 34) := by
 have e : ∀ x : UInt8, x = 34 ↔ x.toNat = 34 := fun x => ⟨fun h => by rw [h]; rfl, fun h => UInt8.toNat_inj.1 (by rw [h]; rfl)⟩
 constructor
 ·
  rw [List.head?_eq_getElem?, List.getElem?_eq_getElem (by omega), Option.some.injEq, e]
 ·
  rw [List.getLast?_eq_getElem?, List.getElem?_eq_getElem (by omega), Option.some.injEq, e]

theorem unquote_no (l : List UInt8) (h : ¬ (2 ≤ l.length ∧ l.head? = some 34 ∧ l.getLast? = some 34 ∧ validB ⟨l.toArray⟩ = true)) : unquote validB l = none := by
 unfold unquote; rw [if_neg h]
theorem unquote_yes (l : List UInt8) (h : 2 ≤ l.length ∧ l.head? = some 34 ∧ l.getLast? = some 34 ∧ validB ⟨l.toArray⟩ = true) : unquote validB l = unqL (seg l 1 (l.length - 1)) := by
 unfold unquote; rw [if_pos h]; unfold seg; rw [show l.length - 1 - 1 = l.length - 2 by omega]

theorem ba_eta (s : ByteArray) : (⟨s.data.toList.toArray⟩ : ByteArray) = s := by simp

/-- What stands behind a backslash: the byte, and how many are read; 0: it may not stand there. -/
def turnS (u : List UInt8) : Int × Int := match u with
 | [] => (0, 0)
 | d :: r => if d.toNat = 34 ∨ d.toNat = 92 then ((d.toNat : Int), 1) else if d.toNat = 120 then (match r with
  | x :: y :: _ => (match hexV x, hexV y with
   | some a, some b => (((a * 16 + b : Nat) : Int), 3)
   | _, _ => (0, 0))
  | _ => (0, 0)) else (0, 0)

set_option maxHeartbeats 1000000 in
theorem turned (s : ByteArray) : Ev (fun k => runes_turned.f k s) (turnS s.data.toList) := by
 have hsz : s.data.toList.length = s.size := (Lib.size_eq s).symm
 cases hl : s.data.toList with
 | nil =>
  rw [hl] at hsz
  refine Ev.congr (fun k => ?_) (Ev.now ((0 : Int), (0 : Int)))
  rw [runes_turned.f, if_pos (by simp at hsz; omega)]
 | cons d r =>
  have hlen : s.size = r.length + 1 := by rw [← hsz, hl]; rfl
  have hb0 : bt s 0 = (d.toNat : Int) := by
   have := bt_nat s 0 (by omega)
   simp only [hl, List.getElem_cons_zero] at this
   exact this
  have j0f : Ev (fun k => runes_turned.j0 k s true) ((d.toNat : Int), (1 : Int)) :=
   Ev.step (f := fun _ => some ((d.toNat : Int), (1 : Int))) (fun k => by rw [runes_turned.j0, if_pos rfl, if_pos (by omega), hb0]) (Ev.now _)
  have fail : Ev (fun k => runes_turned.j1 k s true) ((0 : Int), (0 : Int)) :=
   Ev.step (f := fun _ => some ((0 : Int), (0 : Int))) (fun k => by rw [runes_turned.j1, if_pos rfl]) (Ev.now _)
  unfold turnS
  simp only
  by_cases hq : d.toNat = 34 ∨ d.toNat = 92
  ·
   rw [if_pos hq]
   refine Ev.congr (f := fun k => runes_turned.j0 k s true) (fun k => ?_) j0f
   rw [runes_turned.f, if_neg (by omega), if_pos (by omega), hb0]
   by_cases h34 : (d.toNat : Int) = 34
   ·
    rw [if_pos h34]
   ·
    rw [if_neg h34, beq_iff_eq.2 (by omega)]
  rw [if_neg hq]
  refine Ev.congr (f := fun k => runes_turned.j0 k s false) (fun k => by rw [runes_turned.f, if_neg (by omega), if_pos (by omega), hb0, if_neg (by omega), beq_eq_false_iff_ne.2 (by omega)]) ?_
  by_cases h120 : d.toNat = 120
  case neg =>
   rw [if_neg h120]
   exact Ev.step (f := fun k => runes_turned.j1 k s true) (fun k => by rw [runes_turned.j0, if_neg (by simp), if_pos (by omega), hb0, if_neg (by omega)]) fail
  rw [if_pos h120]
  refine Ev.step (f := fun k => runes_turned.j1 k s (decide ((s.size : Int) ≤ 2))) (fun k => by rw [runes_turned.j0, if_neg (by simp), if_pos (by omega), hb0, if_pos (by omega)]) ?_
  match r, hl, hlen with
  | [], hl, hlen => rw [decide_eq_true (by simp at hlen; omega)]; exact fail
  | [x], hl, hlen => rw [decide_eq_true (by simp at hlen; omega)]; exact fail
  | x :: y :: v, hl, hlen =>
   simp only [List.length_cons] at hlen
   rw [decide_eq_false (by omega)]
   have hb1 : bt s 1 = (x.toNat : Int) := by
    have := bt_nat s 1 (by omega)
    simp only [hl, List.getElem_cons_succ, List.getElem_cons_zero] at this
    exact this
   have hb2 : bt s 2 = (y.toNat : Int) := by
    have := bt_nat s 2 (by omega)
    simp only [hl, List.getElem_cons_succ, List.getElem_cons_zero] at this
    exact this
   have ix : ∀ z : UInt8, strings_IndexByte.f (⟨#[48, 49, 50, 51, 52, 53, 54, 55, 56, 57, 97, 98, 99, 100, 101, 102]⟩ : ByteArray) (z.toNat : Int) = some (hexI z) := by
    intro z
    unfold strings_IndexByte.f
    rw [← index_hex, show ((z.toNat : Int)).toNat.toUInt8 = z by simp]
   simp only
   cases hx : hexV x with
   | none =>
    have hxi : hexI x = -1 := by unfold hexI; rw [hx]
    refine Ev.step (f := fun _ => some ((0 : Int), (0 : Int))) (fun k => ?_) (Ev.now _)
    rw [runes_turned.j1, if_neg (by simp), if_pos (by omega), hb1, ix, Option.bind_some, if_pos (by omega), hb2, ix, Option.bind_some, if_pos (by omega)]
   | some a =>
    have ha := hexV_lt hx
    have hxi : hexI x = (a : Int) := by unfold hexI; rw [hx]
    cases hy : hexV y with
    | none =>
     have hyi : hexI y = -1 := by unfold hexI; rw [hy]
     refine Ev.step (f := fun _ => some ((0 : Int), (0 : Int))) (fun k => ?_) (Ev.now _)
     rw [runes_turned.j1, if_neg (by simp), if_pos (by omega), hb1, ix, Option.bind_some, if_pos (by omega), hb2, ix, Option.bind_some, if_neg (by omega), if_pos (by omega)]
    | some b =>
     have hb := hexV_lt hy
     have hyi : hexI y = (b : Int) := by unfold hexI; rw [hy]
     refine Ev.step (f := fun _ => some (((a * 16 + b : Nat) : Int), (3 : Int))) (fun k => ?_) (Ev.now _)
     rw [runes_turned.j1, if_neg (by simp), if_pos (by omega), hb1, ix, Option.bind_some, if_pos (by omega), hb2, ix, Option.bind_some, if_neg (by omega), if_neg (by omega), hxi, hyi, or_hex a b ha hb]

set_option maxHeartbeats 4000000 in
theorem unq_loop (X : ByteArray) (hs : X.size ≤ 1000000) : ∀ (d i : Nat) (acc : List UInt8), X.data.toList.length - i = d → i ≤ X.data.toList.length → acc.length ≤ i →
  Ev (fun k => runes_Unquote.l0 k (nums acc) X (i : Int)) (resA acc (unqL (X.data.toList.drop i))) := by
 intro d
 induction d using Nat.strongRecOn with
 | ind d ih =>
 intro i acc hd hi hacc
 have hsz : X.data.toList.length = X.size := (Lib.size_eq X).symm
 have hi6 : i ≤ 1000000000000 := by omega
 by_cases hlt : i < X.data.toList.length
 case neg =>
  rw [List.drop_of_length_le (by omega), unqL_nil]
  refine Ev.step (f := fun _ => some (strOfNums (nums acc), true)) (fun k => ?_) ?_
  ·
   rw [runes_Unquote.l0, if_neg (by omega)]
  ·
   rw [str_nums]
   have : resA acc (some []) = ((⟨acc.toArray⟩ : ByteArray), true) := by simp [resA, resQ]
   rw [this]
   exact Ev.now _
 have hb := bt_nat X i hlt
 rw [List.drop_eq_getElem_cons hlt]
 generalize hc : X.data.toList[i]'hlt = c at *
 have hcl := c.toNat_lt
 have fail : Ev (fun k => runes_Unquote.j2 k (nums acc) X (i : Int) (c.toNat : Int) true) (resA acc none) :=
  (Ev.step (f := fun _ => some _) (fun k => by rw [runes_Unquote.j2, if_pos rfl]) (Ev.now _) : Ev _ ((⟨#[]⟩ : ByteArray), false))
 by_cases hbad : badQ c = true
 ·
  rw [unqL_bad _ hbad]
  rw [badQ_of] at hbad
  refine Ev.step (f := fun k => runes_Unquote.j2 k (nums acc) X (i : Int) (c.toNat : Int) true) (fun k => ?_) fail
  rw [runes_Unquote.l0, if_pos (by omega), if_pos (by omega), hb]
  by_cases h1 : (c.toNat : Int) = 34
  ·
   rw [if_pos h1]
  ·
   rw [if_neg h1]
   by_cases h2 : (c.toNat : Int) < 32
   ·
    rw [if_pos h2]
   ·
    rw [if_neg h2]
    rw [decide_eq_false h1, decide_eq_false h2] at hbad
    simp only [Bool.or_self, Bool.false_or] at hbad
    rw [hbad]
 have hgood : badQ c = false := by simpa using hbad
 have hg := hgood
 rw [badQ_of] at hg
 simp only [Bool.or_eq_false_iff, decide_eq_false_iff_not] at hg
 obtain ⟨⟨h34, h32⟩, h127⟩ := hg
 refine Ev.step (f := fun k => runes_Unquote.j2 k (nums acc) X (i : Int) (c.toNat : Int) false) (fun k => ?_) ?_
 ·
  rw [runes_Unquote.l0, if_pos (by omega), if_pos (by omega), hb, if_neg h34, if_neg h32, h127]
 by_cases h92 : c.toNat = 92
 case neg =>
  rw [unqL_plain _ hgood h92, resA_cons]
  refine Ev.step (f := fun k => runes_Unquote.l0 k (nums (acc ++ [c])) X ((i + 1 : Nat) : Int)) (fun k => ?_) (ih (X.data.toList.length - (i + 1)) (by omega) (i + 1) (acc ++ [c]) rfl (by omega) (by simp; omega))
  rw [runes_Unquote.j2, if_neg (by simp), if_neg (by omega), if_pos (by rw [nums_len]; omega), nums_snoc, w64_1 i hi6]
 have hext : (X.extract (((i + 1 : Nat) : Int)).toNat X.size).data.toList = X.data.toList.drop (i + 1) := by rw [Int.toNat_natCast, Lib.extract_to_end]
 have ht := turned (X.extract (((i + 1 : Nat) : Int)).toNat X.size)
 rw [hext] at ht
 refine Ev.step (f := fun k => (runes_turned.f k (X.extract (((i + 1 : Nat) : Int)).toNat X.size)).bind fun bt104 => (if bt104.2 = 0 then (some ((⟨#[]⟩ : ByteArray), false)) else (runes_Unquote.l0 k (nums acc ++ [bt104.1]) X (wrap64 ((wrap64 ((i : Int) + bt104.2)) + 1))))) (fun k => ?_) (Ev.bind ht ?_)
 ·
  rw [runes_Unquote.j2, if_neg (by simp), if_pos (by omega), w64_1 i hi6, if_pos (by omega), if_pos (by omega)]
  congr 1
  funext t
  by_cases h0 : t.2 = 0
  ·
   rw [if_pos h0, if_pos h0]
  ·
   rw [if_neg h0, if_neg h0, if_pos (by rw [nums_len]; omega)]
 have nofail : ∀ o : Option (List UInt8), o = none → (turnS (X.data.toList.drop (i + 1))).2 = 0 → Ev (fun k => if (turnS (X.data.toList.drop (i + 1))).2 = 0 then (some ((⟨#[]⟩ : ByteArray), false)) else (runes_Unquote.l0 k (nums acc ++ [(turnS (X.data.toList.drop (i + 1))).1]) X (wrap64 ((wrap64 ((i : Int) + (turnS (X.data.toList.drop (i + 1))).2)) + 1)))) (resA acc o) := by
  intro o ho h0
  rw [ho, show resA acc none = ((⟨#[]⟩ : ByteArray), false) from rfl]
  exact Ev.congr (f := fun _ => some ((⟨#[]⟩ : ByteArray), false)) (fun k => by rw [if_pos h0]) (Ev.now _)
 by_cases hn1 : i + 1 < X.data.toList.length
 case neg =>
  rw [List.drop_of_length_le (by omega)] at nofail ⊢
  exact nofail _ (unqL_b0 h92) rfl
 rw [List.drop_eq_getElem_cons hn1] at nofail ⊢
 generalize hd1 : X.data.toList[i + 1]'hn1 = e at *
 have hel := e.toNat_lt
 by_cases hq : e.toNat = 34 ∨ e.toNat = 92
 ·
  rw [unqL_bq _ h92 hq, resA_cons]
  have ht2 : turnS (e :: X.data.toList.drop (i + 1 + 1)) = ((e.toNat : Int), 1) := by unfold turnS; simp only [if_pos hq]
  rw [ht2]
  refine Ev.congr (f := fun k => runes_Unquote.l0 k (nums (acc ++ [e])) X ((i + 2 : Nat) : Int)) (fun k => ?_) (ih (X.data.toList.length - (i + 2)) (by omega) (i + 2) (acc ++ [e]) rfl (by omega) (by simp; omega))
  simp only
  rw [if_neg (by omega), w64_1 i hi6, w64_1 (i + 1) (by omega), nums_snoc]
 by_cases h120 : e.toNat = 120
 case neg =>
  refine nofail _ (unqL_bn _ h92 hq h120) ?_
  unfold turnS
  simp only [if_neg hq, if_neg h120]
 by_cases hn3 : i + 3 < X.data.toList.length
 case neg =>
  have hl : (X.data.toList.drop (i + 1 + 1)).length ≤ 1 := by rw [List.length_drop]; omega
  refine nofail _ (unqL_bs _ h92 hq hl) ?_
  unfold turnS
  simp only [if_neg hq, if_pos h120]
  generalize hG : X.data.toList.drop (i + 1 + 1) = G at *
  match G, hl with
  | [], _ => rfl
  | [x], _ => rfl
  | x :: y :: v, hl => simp at hl
 rw [show i + 1 + 1 = i + 2 from rfl, List.drop_eq_getElem_cons (i := i + 2) (by omega), List.drop_eq_getElem_cons (i := i + 2 + 1) (by omega)] at nofail ⊢
 generalize hd2 : X.data.toList[i + 2]'(by omega) = x at *
 generalize hd3 : X.data.toList[i + 2 + 1]'(by omega) = y at *
 cases hx : hexV x with
 | none =>
  refine nofail _ (unqL_bx _ h92 h120 (.inl hx)) ?_
  unfold turnS
  simp only [if_neg hq, if_pos h120, hx]
 | some a =>
  have ha := hexV_lt hx
  cases hy : hexV y with
  | none =>
   refine nofail _ (unqL_bx _ h92 h120 (.inr hy)) ?_
   unfold turnS
   simp only [if_neg hq, if_pos h120, hx, hy]
  | some b =>
   have hbb := hexV_lt hy
   rw [unqL_bh _ h92 h120 hx hy, resA_cons]
   have ht2 : turnS (e :: x :: y :: X.data.toList.drop (i + 2 + 1 + 1)) = (((a * 16 + b : Nat) : Int), 3) := by
    unfold turnS; simp only [if_neg hq, if_pos h120, hx, hy]
   rw [ht2]
   have e1 : ((a * 16 + b : Nat) : Int) = (((a * 16 + b).toUInt8).toNat : Int) := by
    rw [show ((a * 16 + b).toUInt8).toNat = a * 16 + b from by simp; omega]
   refine Ev.congr (f := fun k => runes_Unquote.l0 k (nums (acc ++ [(a * 16 + b).toUInt8])) X ((i + 4 : Nat) : Int)) (fun k => ?_) (ih (X.data.toList.length - (i + 4)) (by omega) (i + 4) (acc ++ [(a * 16 + b).toUInt8]) rfl (by omega) (by simp; omega))
   simp only
   rw [if_neg (by omega), w64_3 i hi6, w64_1 (i + 3) (by omega), nums_snoc, e1]

set_option maxHeartbeats 1000000 in
theorem progUnq (s : ByteArray) (hs : s.size ≤ 1000000) : Ev (fun k => runes_Unquote.f k s) (resQ (unquote validB s.data.toList)) := by
 have hsz : s.data.toList.length = s.size := (Lib.size_eq s).symm
 have fail : Ev (fun k => runes_Unquote.j0 k s true) (resQ none) :=
  Ev.step (f := fun _ => some ((⟨#[]⟩ : ByteArray), false)) (fun k => by rw [runes_Unquote.j0, if_pos rfl]) (Ev.now _)
 by_cases h2 : 2 ≤ s.size
 case neg =>
  rw [unquote_no _ (fun h => by omega)]
  exact Ev.congr (fun k => by rw [runes_Unquote.f, if_pos (by omega)]) fail
 have HM := Aside0.mk (w64m s.size (by omega))
 have hend := ends_of s.data.toList (by omega)
 have hb0 := bt_nat s 0 (by omega)
 have hbl := bt_nat s (s.data.toList.length - 1) (by omega)
 have hcast : ((s.data.toList.length - 1 : Nat) : Int) = (s.size : Int) - 1 := by omega
 rw [hcast] at hbl
 have hb0' : bt s 0 = ((s.data.toList[0]'(by omega)).toNat : Int) := hb0
 by_cases ha : (s.data.toList[0]'(by omega)).toNat = 34
 case neg =>
  rw [unquote_no _ (fun h => ha (hend.1.1 h.2.1))]
  exact Ev.congr (fun k => by rw [runes_Unquote.f, if_neg (by omega), if_pos (by omega), if_neg (by omega)]) fail
 by_cases hz : (s.data.toList[s.data.toList.length - 1]'(by omega)).toNat = 34
 case neg =>
  rw [unquote_no _ (fun h => hz (hend.2.1 h.2.2.1))]
  exact Ev.congr (fun k => by rw [runes_Unquote.f, if_neg (by omega), if_pos (by omega), if_pos (by omega), HM.out, if_pos (by omega), if_pos (by omega), if_neg (by omega)]) fail
 have hrf : runes_Right.f s = some (rightP s) := by unfold runes_Right.f; rw [if_pos (by omega)]
 refine Ev.congr (f := fun k => runes_Unquote.j0 k s (decide (rightP s ≥ 0))) (fun k => by rw [runes_Unquote.f, if_neg (by omega), if_pos (by omega), if_pos (by omega), HM.out, if_pos (by omega), if_pos (by omega), if_pos (by omega), hrf, Option.bind_some]) ?_
 by_cases hr : rightP s ≥ 0
 ·
  rw [unquote_no _ (fun h => by have := h.2.2.2; rw [ba_eta] at this; unfold validB at this; simp at this; omega), decide_eq_true hr]
  exact fail
 ·
  rw [unquote_yes _ ⟨by omega, hend.1.2 ha, hend.2.2 hz, by rw [ba_eta]; unfold validB; simp; omega⟩, decide_eq_false hr]
  have hX : (s.extract 1 ((s.size : Int) - 1).toNat).data.toList = seg s.data.toList 1 (s.data.toList.length - 1) := by
   rw [Lib.extract_data]; unfold seg; congr 1; omega
  have hXs : (s.extract 1 ((s.size : Int) - 1).toNat).size ≤ 1000000 := by
   rw [Lib.size_eq, hX]; unfold seg; rw [List.length_take, List.length_drop]; omega
  refine Ev.step (f := fun k => runes_Unquote.l0 k (nums []) (s.extract 1 ((s.size : Int) - 1).toNat) ((0 : Nat) : Int)) (fun k => by rw [runes_Unquote.j0, if_neg (by simp), HM.out, if_pos (by omega), if_pos (by omega)]; rfl) ?_
  have := unq_loop (s.extract 1 ((s.size : Int) - 1).toNat) hXs _ 0 [] rfl (by omega) (by simp)
  rw [List.drop_zero, hX] at this
  have e : resA [] (unqL (seg s.data.toList 1 (s.data.toList.length - 1))) = resQ (unqL (seg s.data.toList 1 (s.data.toList.length - 1))) := by
   unfold resA
   congr 1
   cases unqL (seg s.data.toList 1 (s.data.toList.length - 1)) <;> rfl
  rw [← e]
  exact this
end Go.Proofs.YtlkbeddlmbghkaaGreatDoor.PR

namespace Go.Proofs.YtlkbeddlmbghkaaGreatDoor.PR
open Go Go.Proofs Go.RowKit Go.Proofs.YtlkbeddlmbghkaaGreatDoorW.PrintWords Go.Proofs.YtlkbeddlmbghkaaGreatDoorW.PrintLast Go.Proofs.YtlkbeddlmbghkaaGreatDoorW.PrintMore Go.Proofs.YtlkbeddlmbghkaaGreatDoor.Lx
set_option linter.unusedVariables false
set_option linter.unusedSimpArgs false

theorem blank_f (c : UInt8) : lex_blank.f (c.toNat : Int) = some (isBl c) := by
 have hc := c.toNat_lt
 have hw : wrap32 (c.toNat : Int) = (c.toNat : Int) := by unfold wrap32; omega
 unfold lex_blank.f
 rw [hw]
 unfold runes_Class.f
 rw [Option.bind_some]
 congr 1
 rw [Bool.eq_iff_iff, beq_iff_eq]
 unfold clsP isBl
 rw [Bool.or_eq_true, decide_eq_true_eq, decide_eq_true_eq]
 repeat' split
 all_goals first | omega | (constructor <;> intro h <;> omega)
def endQ (i : Nat) (none_ : Int) : Option Nat → Int
 | some n => ((i + n : Nat) : Int)
 | none => none_
theorem endQ_map (i j : Nat) (z : Int) (o : Option Nat) : endQ i z (o.map (· + j)) = endQ (i + j) z o := by
 cases o with
 | none => rfl
 | some n => show ((i + (n + j) : Nat) : Int) = ((i + j + n : Nat) : Int); congr 1; omega

theorem quoted_loop (s : ByteArray) (hs : s.size ≤ 1000000) : ∀ (d i : Nat), s.data.toList.length - i = d → i ≤ 1000010 →
  Ev (fun k => lex_quoted.l0 k s (i : Int)) (endQ i 0 (qendL (s.data.toList.drop i))) := by
 intro d
 induction d using Nat.strongRecOn with
 | ind d ih =>
 intro i hd hi
 have hsz : s.data.toList.length = s.size := (Lib.size_eq s).symm
 by_cases hlt : i < s.data.toList.length
 case neg =>
  rw [List.drop_of_length_le (by omega), qendL_nil]
  exact Ev.step (f := fun _ => some 0) (fun k => by rw [lex_quoted.l0, if_neg (by omega)]) (Ev.now _)
 have hb := bt_nat s i hlt
 rw [List.drop_eq_getElem_cons hlt, qendL_cons]
 generalize hc : s.data.toList[i]'hlt = c at *
 by_cases h1 : c.toNat = 92
 ·
  rw [if_pos h1, endQ_map, List.drop_drop]
  refine Ev.step (fun k => ?_) (ih (s.data.toList.length - (i + 2)) (by omega) (i + 2) rfl (by omega))
  rw [lex_quoted.l0, if_pos (by omega), if_pos (by omega), hb, if_pos (by omega), w64_1 i (by omega), w64_1 (i + 1) (by omega)]
 rw [if_neg h1]
 by_cases h2 : c.toNat = 34
 ·
  rw [if_pos h2]
  refine Ev.step (f := fun _ => some ((i + 1 : Nat) : Int)) (fun k => ?_) (Ev.now _)
  rw [lex_quoted.l0, if_pos (by omega), if_pos (by omega), hb, if_neg (by omega), if_pos (by omega), w64_1 i (by omega)]
 ·
  rw [if_neg h2, endQ_map]
  refine Ev.step (fun k => ?_) (ih (s.data.toList.length - (i + 1)) (by omega) (i + 1) rfl (by omega))
  rw [lex_quoted.l0, if_pos (by omega), if_pos (by omega), hb, if_neg (by omega), if_neg (by omega), w64_1 i (by omega)]

def bareLen (l : List UInt8) : Nat := (l.takeWhile (fun c => !isBl c)).length
theorem bareLen_nil : bareLen [] = 0 := rfl
theorem bareLen_yes {c : UInt8} (t : List UInt8) (h : isBl c = true) : bareLen (c :: t) = 0 := by unfold bareLen; rw [List.takeWhile_cons, h]; rfl
theorem bareLen_no {c : UInt8} (t : List UInt8) (h : isBl c = false) : bareLen (c :: t) = bareLen t + 1 := by unfold bareLen; rw [List.takeWhile_cons, h]; rfl
theorem bareLen_le : ∀ (l : List UInt8), bareLen l ≤ l.length
 | [] => Nat.le_refl _
 | c :: t => by
  cases h : isBl c with
  | true => rw [bareLen_yes _ h]; exact Nat.zero_le _
  | false => rw [bareLen_no _ h, List.length_cons]; have := bareLen_le t; omega

theorem bare_loop (s : ByteArray) (hs : s.size ≤ 1000000) : ∀ (d i : Nat), s.data.toList.length - i = d → i ≤ s.data.toList.length →
  Ev (fun k => lex_bare.l0 k s (i : Int)) ((i + bareLen (s.data.toList.drop i) : Nat) : Int)
 | 0, i, hd, hi => by
  have hsz : s.data.toList.length = s.size := (Lib.size_eq s).symm
  rw [List.drop_of_length_le (by omega), bareLen_nil]
  exact Ev.step (f := fun _ => some (i : Int)) (fun k => by rw [lex_bare.l0, if_neg (by omega)]) (Ev.now _)
 | d + 1, i, hd, hi => by
  have hsz : s.data.toList.length = s.size := (Lib.size_eq s).symm
  have hlt : i < s.data.toList.length := by omega
  have hb := bt_nat s i hlt
  rw [List.drop_eq_getElem_cons hlt]
  generalize hc : s.data.toList[i]'hlt = c at *
  cases hbl : isBl c with
  | true =>
   rw [bareLen_yes _ hbl]
   exact Ev.step (f := fun _ => some (i : Int)) (fun k => by rw [lex_bare.l0, if_pos (by omega), if_pos (by omega), hb, blank_f, Option.bind_some, hbl, if_pos rfl]) (Ev.now _)
  | false =>
   rw [bareLen_no _ hbl, show i + (bareLen (s.data.toList.drop (i + 1)) + 1) = i + 1 + bareLen (s.data.toList.drop (i + 1)) by omega]
   refine Ev.step (fun k => ?_) (bare_loop s hs d (i + 1) (by omega) (by omega))
   rw [lex_bare.l0, if_pos (by omega), if_pos (by omega), hb, blank_f, Option.bind_some, hbl, if_neg (by simp), w64_1 i (by omega)]

theorem tokLen_q (c : UInt8) (t : List UInt8) (h : c.toNat = 34) : tokLen (c :: t) = match qendL t with | some n => n + 1 | none => 0 := by
 have : c = 34 := UInt8.toNat_inj.1 h
 subst this
 rfl
theorem tokLen_b (c : UInt8) (t : List UInt8) (h : c.toNat ≠ 34) : tokLen (c :: t) = bareLen (c :: t) := by
 unfold tokLen
 rw [if_neg (by simp; intro e; rw [e] at h; exact h rfl)]
 rfl
theorem tokLen_le (l : List UInt8) : tokLen l ≤ l.length := by
 cases l with
 | nil => simp [tokLen]
 | cons c t =>
  by_cases h : c.toNat = 34
  ·
   rw [tokLen_q c t h]
   cases hq : qendL t with
   | none => simp
   | some n => have := qendL_le _ t (Nat.le_refl _) n hq; simp only [List.length_cons]; omega
  ·
   rw [tokLen_b c t h]; exact bareLen_le _

theorem take_eta (s : ByteArray) (n : Nat) : (s.extract 0 n) = ⟨(s.data.toList.take n).toArray⟩ := by
 rw [← ba_eta (s.extract 0 n), Lib.extract_data, List.drop_zero, Nat.sub_zero]
theorem take_data (s : ByteArray) (n : Nat) : (s.extract 0 n).data.toList = s.data.toList.take n := by rw [Lib.extract_data, List.drop_zero, Nat.sub_zero]

def wordR (l : List UInt8) : Wd × Int := match wordOf validB (l.take (tokLen l)) with
 | none => (Wd.nil, 0)
 | some b => if nextOk l (tokLen l) = true then (b, (tokLen l : Int)) else (Wd.nil, 0)

theorem nextOk_bare : ∀ (l : List UInt8), nextOk l (bareLen l) = true
 | [] => rfl
 | c :: t => by
  cases h : isBl c with
  | true => rw [bareLen_yes _ h]; unfold nextOk; rw [List.drop_zero]; exact h
  | false => rw [bareLen_no _ h]; exact nextOk_bare t

theorem head_take (c : UInt8) (t : List UInt8) (n : Nat) : ((c :: t).take n).head? = if n = 0 then none else some c := by
 cases n with
 | zero => rfl
 | succ n => rfl

theorem wordOf_nil : wordOf validB [] = none := rfl
theorem wordOf_q (l : List UInt8) (h : l.head? = some 34) : wordOf validB l = (unquote validB l).map fun t => Wd.text ⟨t.toArray⟩ := by unfold wordOf; rw [if_pos h]
theorem wordOf_b (l : List UInt8) (h : l.head? ≠ some 34) : wordOf validB l = if isNum l = true then some (Wd.num (numVal l)) else if isName l = true then some (Wd.name ⟨l.toArray⟩) else none := by unfold wordOf; rw [if_neg h]

set_option maxHeartbeats 2000000 in
theorem word_ev (s : ByteArray) (hs : s.size ≤ 1000000) (h0 : 0 < s.size) : Ev (fun k => lex_word.f k s) (wordR s.data.toList) := by
 have hsz : s.data.toList.length = s.size := (Lib.size_eq s).symm
 obtain ⟨c, t, hl⟩ : ∃ c t, s.data.toList = c :: t := by
  cases h : s.data.toList with
  | nil => rw [h] at hsz; simp at hsz; omega
  | cons c t => exact ⟨c, t, rfl⟩
 have hb0 : bt s 0 = (c.toNat : Int) := by
  have := bt_nat s 0 (by omega)
  simp only [hl, List.getElem_cons_zero] at this
  exact this
 have hle := tokLen_le s.data.toList
 have hbtok : ∀ n : Nat, n < s.size → bt s (n : Int) = ((s.data.toList[n]?.getD 0).toNat : Int) := by
  intro n hn
  rw [bt_nat s n (by omega), List.getElem?_eq_getElem (by omega)]; rfl
 by_cases hq : c.toNat = 34
 ·
  -- a text
  have htl := tokLen_q c t hq
  have hquo : Ev (fun k => lex_quoted.f k s) ((tokLen s.data.toList : Nat) : Int) := by
   have := quoted_loop s hs _ 1 rfl (by omega)
   rw [hl] at this ⊢
   rw [List.drop_succ_cons, List.drop_zero] at this
   have e : endQ 1 0 (qendL t) = ((tokLen (c :: t) : Nat) : Int) := by
    rw [htl]
    cases qendL t with
    | none => rfl
    | some n => show ((1 + n : Nat) : Int) = ((n + 1 : Nat) : Int); congr 1; omega
   rw [← e]
   exact Ev.congr (fun k => rfl) this
  generalize hn : tokLen s.data.toList = n at *
  have hu := progUnq (s.extract 0 n) (by rw [Lib.size_eq, take_data, List.length_take]; omega)
  rw [take_data] at hu
  refine Ev.congr (f := fun k => (lex_quoted.f k s).bind fun t115 => (if 0 ≤ t115 then (if t115 ≤ (s.size : Int) then ((runes_Unquote.f k (s.extract 0 (t115 : Int).toNat)).bind fun bt116 => (if bt116.2 = true then (if t115 < (s.size : Int) then ((lex_blank.f (bt s t115)).bind fun t118 => (if t118 = true then ((box_OfText.f bt116.1).bind fun t119 => (some (t119, t115))) else (some (Wd.nil, 0)))) else ((box_OfText.f bt116.1).bind fun t120 => (some (t120, t115)))) else (some (Wd.nil, 0)))) else (none)) else (none))) (fun k => by rw [lex_word.f, if_pos (by omega), hb0, if_pos (by omega)]) ?_
  refine Ev.bind hquo ?_
  refine Ev.congr (f := fun k => (runes_Unquote.f k (s.extract 0 n)).bind fun bt116 => (if bt116.2 = true then (if (n : Int) < (s.size : Int) then ((lex_blank.f (bt s (n : Int))).bind fun t118 => (if t118 = true then ((box_OfText.f bt116.1).bind fun t119 => (some (t119, (n : Int)))) else (some (Wd.nil, 0)))) else ((box_OfText.f bt116.1).bind fun t120 => (some (t120, (n : Int))))) else (some (Wd.nil, 0)))) (fun k => by rw [if_pos (by omega), if_pos (by omega), Int.toNat_natCast]) ?_
  refine Ev.bind hu ?_
  unfold wordR
  rw [hn]
  have hw : wordOf validB (s.data.toList.take n) = (unquote validB (s.data.toList.take n)).map fun t => Wd.text ⟨t.toArray⟩ := by
   by_cases hz : n = 0
   ·
    rw [hz, List.take_zero]; rfl
   ·
    refine wordOf_q _ ?_
    rw [hl, head_take, if_neg hz, UInt8.toNat_inj.1 (show c.toNat = (34 : UInt8).toNat from hq)]
  rw [hw]
  cases hun : unquote validB (s.data.toList.take n) with
  | none => exact Ev.congr (fun k => rfl) (Ev.now (Wd.nil, (0 : Int)))
  | some u =>
   simp only [resQ, if_true, Option.map_some]
   by_cases hnl : n < s.size
   ·
    have hbn := hbtok n hnl
    have hdr : s.data.toList.drop n = (s.data.toList[n]?.getD 0) :: s.data.toList.drop (n + 1) := by
     rw [List.drop_eq_getElem_cons (by omega), List.getElem?_eq_getElem (by omega)]; rfl
    have hnx : nextOk s.data.toList n = isBl (s.data.toList[n]?.getD 0) := by unfold nextOk; rw [hdr]
    rw [hnx]
    refine Ev.congr (f := fun _ => some (if isBl (s.data.toList[n]?.getD 0) = true then (Wd.text ⟨u.toArray⟩, (n : Int)) else (Wd.nil, 0))) (fun k => ?_) (Ev.now _)
    rw [if_pos (by omega), hbn, blank_f, Option.bind_some]
    cases isBl (s.data.toList[n]?.getD 0) <;> rfl
   ·
    have hnx : nextOk s.data.toList n = true := by unfold nextOk; rw [List.drop_of_length_le (by omega)]
    rw [hnx]
    refine Ev.congr (f := fun _ => some (Wd.text ⟨u.toArray⟩, (n : Int))) (fun k => ?_) (Ev.now _)
    rw [if_neg (by omega)]; rfl
 ·
  -- a number, or a name
  have htl := tokLen_b c t hq
  have hbare : Ev (fun k => lex_bare.f k s) ((tokLen s.data.toList : Nat) : Int) := by
   have := bare_loop s hs _ 0 rfl (by omega)
   rw [List.drop_zero, Nat.zero_add] at this
   rw [hl] at this ⊢
   rw [htl]
   exact Ev.congr (fun k => rfl) this
  have hnx : nextOk s.data.toList (tokLen s.data.toList) = true := by rw [hl, htl]; exact nextOk_bare _
  generalize hn : tokLen s.data.toList = n at *
  have hw : wordOf validB (s.data.toList.take n) = if isNum (s.data.toList.take n) = true then some (Wd.num (numVal (s.data.toList.take n))) else if isName (s.data.toList.take n) = true then some (Wd.name ⟨(s.data.toList.take n).toArray⟩) else none := by
   refine wordOf_b _ ?_
   rw [hl, head_take]
   split
   ·
    simp
   ·
    intro e; exact hq (by rw [Option.some.inj e]; rfl)
  refine Ev.congr (f := fun k => (lex_bare.f k s).bind fun t121 => (if 0 ≤ t121 then (if t121 ≤ (s.size : Int) then ((lex_Number.f (s.extract 0 (t121 : Int).toNat)).bind fun bt122 => (if bt122.2 = true then ((box_OfNumber.f bt122.1).bind fun t124 => (some (t124, t121))) else ((lex_Name.f (s.extract 0 (t121 : Int).toNat)).bind fun t125 => (if t125 = true then ((box_OfName.f (s.extract 0 (t121 : Int).toNat)).bind fun t126 => (some (t126, t121))) else (some (Wd.nil, 0)))))) else (none)) else (none))) (fun k => by rw [lex_word.f, if_pos (by omega), hb0, if_neg (by omega)]) ?_
  refine Ev.bind hbare ?_
  unfold wordR
  rw [hn, hw, hnx]
  refine Ev.congr (f := fun _ => some _) (fun k => ?_) (Ev.now _)
  rw [if_pos (by omega), if_pos (by omega), Int.toNat_natCast]
  unfold lex_Number.f lex_Name.f box_OfNumber.f box_OfName.f
  rw [take_data]
  simp only [Option.bind_some]
  cases h1 : isNum (s.data.toList.take n) with
  | true =>
   have : numV (s.data.toList.take n) = numVal (s.data.toList.take n) := by unfold numV; rw [h1]; rfl
   rw [this]; rfl
  | false =>
   cases h2 : isName (s.data.toList.take n) with
   | true => rw [take_eta]; rfl
   | false => rfl

/-! ### the document's word -/

end Go.Proofs.YtlkbeddlmbghkaaGreatDoor.PR

namespace Go.Proofs.YtlkbeddlmbghkaaGreatDoor.PR
open Go Go.Proofs Go.RowKit Go.Proofs.YtlkbeddlmbghkaaGreatDoorW.PrintWords Go.Proofs.YtlkbeddlmbghkaaGreatDoorW.PrintLast Go.Proofs.YtlkbeddlmbghkaaGreatDoorW.PrintMore Go.Proofs.YtlkbeddlmbghkaaGreatDoor.Lx
set_option linter.unusedVariables false
set_option linter.unusedSimpArgs false

theorem trim_f (s : ByteArray) : strings_TrimLeft.f s ⟨#[32, 9]⟩ = some ⟨(s.data.toList.dropWhile isBl).toArray⟩ := by
 unfold strings_TrimLeft.f
 rw [if_pos (by decide)]
 have : (fun c : UInt8 => (⟨#[32, 9]⟩ : ByteArray).data.toList.contains c) = isBl := by
  funext c
  show ([32, 9] : List UInt8).contains c = isBl c
  have e : ∀ y : UInt8, (c == y) = decide (c.toNat = y.toNat) := fun y => by
   rw [Bool.eq_iff_iff, beq_iff_eq, decide_eq_true_eq]
   exact ⟨fun h => by rw [h], fun h => UInt8.toNat_inj.1 h⟩
  simp only [List.contains_cons, List.contains_nil, Bool.or_false]
  rw [e, e]
  rfl
 unfold Lib.trimLeftS
 rw [this]

def resW (acc : List S49) : Option (List Wd) → List S49 × Bool
 | none => ([], false)
 | some ws => (acc ++ ws.map S49.mk, true)
theorem resW_cons (acc : List S49) (b : Wd) (o : Option (List Wd)) : resW acc (o.map (b :: ·)) = resW (acc ++ [⟨b⟩]) o := by cases o <;> simp [resW]
theorem tok_pos (l : List UInt8) (b : Wd) (h : wordOf validB (l.take (tokLen l)) = some b) : 1 ≤ tokLen l := by
 by_cases hz : tokLen l = 0
 ·
  rw [hz, List.take_zero, wordOf_nil] at h; cases h
 ·
  omega

theorem wordsF_stop {m : Nat} {l : List UInt8} (h : l.dropWhile isBl = []) : wordsF validB (m + 1) l = some [] := by rw [wordsF, h]
theorem wordsF_hash {m : Nat} {l : List UInt8} {c : UInt8} {t : List UInt8} (h : l.dropWhile isBl = c :: t) (hc : c.toNat = 35) : wordsF validB (m + 1) l = some [] := by rw [wordsF, h]; simp only [if_pos hc]
theorem wordsF_none {m : Nat} {l : List UInt8} {c : UInt8} {t : List UInt8} (h : l.dropWhile isBl = c :: t) (hc : c.toNat ≠ 35) (hw : wordOf validB ((c :: t).take (tokLen (c :: t))) = none) : wordsF validB (m + 1) l = none := by
 rw [wordsF, h]; simp only [if_neg hc, hw]
theorem wordsF_stuck {m : Nat} {l : List UInt8} {c : UInt8} {t : List UInt8} {b : Wd} (h : l.dropWhile isBl = c :: t) (hc : c.toNat ≠ 35) (hw : wordOf validB ((c :: t).take (tokLen (c :: t))) = some b) (hn : nextOk (c :: t) (tokLen (c :: t)) = false) : wordsF validB (m + 1) l = none := by
 rw [wordsF, h]; simp only [if_neg hc, hw, hn]; simp
theorem wordsF_go {m : Nat} {l : List UInt8} {c : UInt8} {t : List UInt8} {b : Wd} (h : l.dropWhile isBl = c :: t) (hc : c.toNat ≠ 35) (hw : wordOf validB ((c :: t).take (tokLen (c :: t))) = some b) (hn : nextOk (c :: t) (tokLen (c :: t)) = true) : wordsF validB (m + 1) l = (wordsF validB m ((c :: t).drop (tokLen (c :: t)))).map (b :: ·) := by
 rw [wordsF, h]; simp only [if_neg hc, hw, hn, if_true]

theorem dropWhile_len (p : UInt8 → Bool) : ∀ l : List UInt8, (l.dropWhile p).length ≤ l.length
 | [] => Nat.le_refl _
 | c :: t => by
  rw [List.dropWhile_cons]
  split
  ·
   exact Nat.le_succ_of_le (dropWhile_len p t)
  ·
   exact Nat.le_refl _

set_option maxHeartbeats 2000000 in
theorem words_loop : ∀ (m : Nat) (s : ByteArray) (acc : List S49), s.size < m → acc.length + s.size ≤ 1000000 → Ev (fun k => lex_words.l0 k s acc) (resW acc (wordsF validB m s.data.toList))
 | 0, s, acc, h, _ => by omega
 | m + 1, s, acc, h, hb => by
  have hsz : s.data.toList.length = s.size := (Lib.size_eq s).symm
  have hdl := dropWhile_len isBl s.data.toList
  have stop : ∀ T : ByteArray, Ev (fun k => lex_words.j1 k T acc true) (acc, true) := fun T =>
   Ev.step (f := fun _ => some (acc, true)) (fun k => by rw [lex_words.j1, if_pos rfl]) (Ev.now _)
  have hstop : resW acc (some []) = (acc, true) := by simp [resW]
  cases hd : s.data.toList.dropWhile isBl with
  | nil =>
   rw [wordsF_stop hd, hstop]
   refine Ev.step (f := fun k => lex_words.j1 k ⟨[].toArray⟩ acc true) (fun k => ?_) (stop _)
   rw [lex_words.l0, trim_f, hd, Option.bind_some, if_pos (by simp [Lib.toList_data])]
  | cons c t =>
   obtain ⟨T, hT⟩ : ∃ T : ByteArray, T = ⟨(c :: t).toArray⟩ := ⟨_, rfl⟩
   have hTd : T.data.toList = c :: t := by rw [hT]
   have hTs : T.size = t.length + 1 := by rw [Lib.size_eq, hTd]; rfl
   rw [hd] at hdl
   simp only [List.length_cons] at hdl
   have hb0 : bt T 0 = (c.toNat : Int) := by
    have := bt_nat T 0 (by rw [hTd]; simp)
    simp only [hTd, List.getElem_cons_zero] at this
    exact this
   have hstep : ∀ k, lex_words.l0 (k + 1) s acc = lex_words.j1 k T acc ((c.toNat : Int) == 35) := by
    intro k
    rw [lex_words.l0, trim_f, hd, Option.bind_some, ← hT, if_neg (by rw [Lib.toList_data, hTd]; simp), if_pos (by omega), hb0]
   by_cases hh : c.toNat = 35
   ·
    rw [wordsF_hash hd hh, hstop]
    refine Ev.step (f := fun k => lex_words.j1 k T acc true) (fun k => ?_) (stop _)
    rw [hstep, beq_iff_eq.2 (by omega)]
   refine Ev.step (f := fun k => lex_words.j1 k T acc false) (fun k => by rw [hstep, beq_eq_false_iff_ne.2 (by omega)]) ?_
   have hw := word_ev T (by omega) (by omega)
   rw [hTd] at hw
   refine Ev.step (f := fun k => (lex_word.f k T).bind fun bt128 => (if bt128.2 = 0 then (some (([] : List (S49)), false)) else (if acc.length < 8796093022208 then (if 0 ≤ bt128.2 then (if bt128.2 ≤ (T.size : Int) then (lex_words.l0 k (T.extract (bt128.2 : Int).toNat T.size) (acc ++ [(⟨bt128.1⟩ : S49)])) else (none)) else (none)) else (none)))) (fun k => by rw [lex_words.j1, if_neg (by simp)]) (Ev.bind hw ?_)
   have fail : Ev (fun k => some (([] : List S49), false)) (resW acc none) := Ev.now _
   cases ho : wordOf validB ((c :: t).take (tokLen (c :: t))) with
   | none =>
    rw [wordsF_none hd hh ho]
    have hr : wordR (c :: t) = (Wd.nil, 0) := by unfold wordR; rw [ho]
    refine Ev.congr (fun k => ?_) fail
    rw [hr, if_pos rfl]
   | some b =>
    have hp := tok_pos _ _ ho
    have htl := tokLen_le (c :: t)
    simp only [List.length_cons] at htl
    cases hn : nextOk (c :: t) (tokLen (c :: t)) with
    | false =>
     rw [wordsF_stuck hd hh ho hn]
     have hr : wordR (c :: t) = (Wd.nil, 0) := by unfold wordR; rw [ho, hn]; rfl
     refine Ev.congr (fun k => ?_) fail
     rw [hr, if_pos rfl]
    | true =>
     rw [wordsF_go hd hh ho hn, resW_cons]
     have hr : wordR (c :: t) = (b, (tokLen (c :: t) : Int)) := by unfold wordR; rw [ho, hn]; rfl
     have hXd : (T.extract (tokLen (c :: t)) T.size).data.toList = (c :: t).drop (tokLen (c :: t)) := by rw [Lib.extract_to_end, hTd]
     have hXs : (T.extract (tokLen (c :: t)) T.size).size = t.length + 1 - tokLen (c :: t) := by rw [Lib.size_eq, hXd, List.length_drop]; rfl
     have ih := words_loop m (T.extract (tokLen (c :: t)) T.size) (acc ++ [⟨b⟩]) (by omega) (by simp; omega)
     rw [hXd] at ih
     refine Ev.congr (fun k => ?_) ih
     rw [hr]
     simp only
     rw [if_neg (by omega), if_pos (by omega), if_pos (by omega), if_pos (by omega), Int.toNat_natCast]

theorem words_ev (s : ByteArray) (hs : s.size ≤ 900000) : Ev (fun k => lex_words.f k s) (resW [] (wordsL validB s.data.toList)) := by
 have := words_loop (s.size + 1) s [] (by omega) (by simp; omega)
 unfold wordsL
 rw [← Lib.size_eq]
 exact Ev.congr (fun k => rfl) this

/-! ### the document's words -/

end Go.Proofs.YtlkbeddlmbghkaaGreatDoor.PR

namespace Go.Proofs.YtlkbeddlmbghkaaGreatDoor.PR
open Go Go.Proofs Go.RowKit Go.Proofs.YtlkbeddlmbghkaaGreatDoorW.PrintWords Go.Proofs.YtlkbeddlmbghkaaGreatDoorW.PrintLast Go.Proofs.YtlkbeddlmbghkaaGreatDoorW.PrintMore Go.Proofs.YtlkbeddlmbghkaaGreatDoor.Lx
set_option linter.unusedVariables false
set_option linter.unusedSimpArgs false

/-! ### cutting a text into lines -/

theorem indexByte_line : ∀ (a b : List UInt8), (∀ c ∈ a, c.toNat ≠ 10) → Lib.indexByte (a ++ 10 :: b) 10 = (a.length : Int)
 | [], b, _ => rfl
 | c :: a, b, h => by
  have hc : (c == (10 : UInt8)) = false := by
   rw [beq_eq_false_iff_ne]
   intro e
   exact h c (by simp) (by rw [e]; rfl)
  have ih := indexByte_line a b (fun x hx => h x (by simp [hx]))
  rw [List.cons_append, Lib.indexByte, hc, ih]
  have : (((a.length : Int)) == -1) = false := by rw [beq_eq_false_iff_ne]; omega
  rw [this]
  simp

theorem line_split (l : List UInt8) : (∀ c ∈ l, c.toNat ≠ 10) ∨ ∃ a b, l = a ++ 10 :: b ∧ ∀ c ∈ a, c.toNat ≠ 10 := by
 induction l with
 | nil => exact .inl (by simp)
 | cons c t ih =>
  by_cases hc : c.toNat = 10
  ·
   have : c = 10 := UInt8.toNat_inj.1 hc
   exact .inr ⟨[], t, by rw [this]; rfl, by simp⟩
  ·
   rcases ih with h | ⟨a, b, rfl, h⟩
   ·
    exact .inl (fun x hx => by rcases List.mem_cons.1 hx with rfl | hx; exact hc; exact h x hx)
   ·
    exact .inr ⟨c :: a, b, rfl, fun x hx => by rcases List.mem_cons.1 hx with rfl | hx; exact hc; exact h x hx⟩

theorem count_none (l : List UInt8) (h : ∀ c ∈ l, c.toNat ≠ 10) : l.count 10 = 0 := by
 rw [List.count_eq_zero]
 intro hm
 exact h _ hm rfl

theorem splitK_NL : ∀ (n : Nat) (l : List UInt8), l.length ≤ n → Lib.splitK [10] 0 (l.count 10) l = splitNL l
 | 0, l, h => by
  have : l = [] := List.length_eq_zero_iff.1 (by omega)
  subst this; rfl
 | n + 1, l, h => by
  rcases line_split l with hn | ⟨a, b, rfl, ha⟩
  ·
   rw [count_none l hn, splitNL_last l hn]; rfl
  ·
   have hcnt : (a ++ 10 :: b).count 10 = b.count 10 + 1 := by
    rw [List.count_append, count_none a ha, List.count_cons_self, Nat.zero_add]
   rw [hcnt, splitNL_line a b ha, Lib.splitK, index_one, indexByte_line a b ha]
   have hne : (((a.length : Int)) == -1) = false := by rw [beq_eq_false_iff_ne]; omega
   rw [hne]
   simp only [Bool.false_eq_true, if_false, Int.toNat_natCast, Nat.add_zero, List.length_cons, List.length_nil, Nat.zero_add]
   rw [List.take_left, show a.length + 1 = (a ++ [10]).length by simp, show a ++ 10 :: b = (a ++ [10]) ++ b by simp, List.drop_left]
   rw [splitK_NL n b (by simp at h; omega)]

theorem split_f (s : ByteArray) (hs : s.size ≤ 500000) : ∃ ls : List ByteArray, strings_Split.f s ⟨#[10]⟩ = some ls ∧ ls.map (·.data.toList) = splitNL s.data.toList := by
 refine ⟨Lib.splitB ⟨#[10]⟩ 0 (Lib.countB s ⟨#[10]⟩) s, ?_, ?_⟩
 ·
  unfold strings_Split.f
  rw [if_pos ⟨by omega, rfl⟩]
 ·
  rw [Lib.splitB_data]
  have : Lib.countB s ⟨#[10]⟩ = s.data.toList.count 10 := by
   show Lib.count s.data.toList [10] = _
   rw [Lib.count_one]
  rw [this]
  exact splitK_NL _ _ (Nat.le_refl _)

theorem splitNL_len : ∀ (n : Nat) (l : List UInt8), l.length ≤ n → (splitNL l).length ≤ l.length + 1 ∧ ∀ x ∈ splitNL l, x.length ≤ l.length
 | 0, l, h => by
  have : l = [] := List.length_eq_zero_iff.1 (by omega)
  subst this; simp [splitNL]
 | n + 1, l, h => by
  rcases line_split l with hn | ⟨a, b, rfl, ha⟩
  ·
   rw [splitNL_last l hn]; simp
  ·
   rw [splitNL_line a b ha]
   have ih := splitNL_len n b (by simp at h; omega)
   constructor
   ·
    simp; omega
   ·
    intro x hx
    rcases List.mem_cons.1 hx with rfl | hx
    ·
     simp
    ·
     have := ih.2 x hx
     simp; omega

/-! ### the program's lines -/

def toP (p : Int × List Wd) : S39 := ⟨p.1, p.2.map S49.mk⟩
def resP (r : List (Int × List Wd) × Int × Int) : List S39 × Int × Int := (r.1.map toP, r.2.1, r.2.2)
theorem linesS_nil (no : Int) (acc : List (Int × List Wd)) : linesS validB [] no acc = (acc, 0, 0) := rfl
theorem linesS_bad {l : List UInt8} (r : List (List UInt8)) (no : Int) (acc : List (Int × List Wd)) (h : wordsL validB l = none) : linesS validB (l :: r) no acc = ([], no, 7) := by rw [linesS, h]
theorem linesS_some {l : List UInt8} {ws : List Wd} (r : List (List UInt8)) (no : Int) (acc : List (Int × List Wd)) (h : wordsL validB l = some ws) :
  linesS validB (l :: r) no acc = linesS validB r (no + 1) (if 0 < ws.length then acc ++ [(no, ws)] else acc) := by
 rw [linesS, h]; simp only; split <;> rfl

theorem lines_loop (ls : List ByteArray) (hn : ls.length ≤ 500001) (hl : ∀ x ∈ ls, x.size ≤ 500000) : ∀ (d i : Nat) (acc : List (Int × List Wd)), ls.length - i = d → i ≤ ls.length → acc.length ≤ i →
  Ev (fun k => lex_Lines.l0 k (acc.map toP) ls (ls.length : Int) (i : Int)) (resP (linesS validB ((ls.drop i).map (·.data.toList)) ((i + 1 : Nat) : Int) acc))
 | 0, i, acc, hd, hi, ha => by
  rw [List.drop_of_length_le (by omega), List.map_nil, linesS_nil]
  exact Ev.step (f := fun _ => some (acc.map toP, 0, 0)) (fun k => by rw [lex_Lines.l0, if_neg (by omega)]) (Ev.now _)
 | d + 1, i, acc, hd, hi, ha => by
  have hlt : i < ls.length := by omega
  have hw := words_ev (ls[i]'hlt) (by have := hl _ (List.getElem_mem hlt); omega)
  have hrd : rdOf ByteArray.empty ls (i : Int) = ls[i]'hlt := by unfold rdOf; rw [Int.toNat_natCast]; simp [hlt]
  rw [List.drop_eq_getElem_cons hlt, List.map_cons]
  refine Ev.step (f := fun k => (lex_words.f k (ls[i]'hlt)).bind fun bt138 => (if bt138.2 = true then (if (bt138.1.length : Int) > 0 then (lex_Lines.l0 k (acc.map toP ++ [(⟨((i + 1 : Nat) : Int), bt138.1⟩ : S39)]) ls (ls.length : Int) ((i + 1 : Nat) : Int)) else (lex_Lines.l0 k (acc.map toP) ls (ls.length : Int) ((i + 1 : Nat) : Int))) else (some (([] : List (S39)), ((i + 1 : Nat) : Int), 7)))) (fun k => ?_) (Ev.bind hw ?_)
  ·
   rw [lex_Lines.l0, if_pos (by omega), if_pos (by omega), if_pos (by omega), hrd, w64_1 i (by omega)]
   congr 1
   funext r
   rw [if_pos (show (acc.map toP).length < 4398046511104 by rw [List.length_map]; omega)]
  cases ho : wordsL validB (ls[i]'hlt).data.toList with
  | none =>
   rw [linesS_bad _ _ _ ho]
   exact Ev.congr (f := fun _ => some (([] : List S39), ((i + 1 : Nat) : Int), 7)) (fun k => rfl) (Ev.now _)
  | some ws =>
   rw [linesS_some _ _ _ ho]
   have hlen : ((resW [] (some ws)).1.length : Int) = (ws.length : Int) := by simp [resW]
   have hcast : ((i + 1 : Nat) : Int) + 1 = ((i + 1 + 1 : Nat) : Int) := by omega
   by_cases hp : 0 < ws.length
   ·
    rw [if_pos hp, hcast]
    have ih := lines_loop ls hn hl d (i + 1) (acc ++ [(((i + 1 : Nat) : Int), ws)]) (by omega) (by omega) (by simp; omega)
    refine Ev.congr (fun k => ?_) ih
    rw [if_pos (by rfl), if_pos (by rw [hlen]; omega), List.map_append]
    rfl
   ·
    rw [if_neg hp, hcast]
    have ih := lines_loop ls hn hl d (i + 1) acc (by omega) (by omega) (by omega)
    refine Ev.congr (fun k => ?_) ih
    rw [if_pos (by rfl), if_neg (by rw [hlen]; omega)]

theorem lines_ev (s : ByteArray) (hs : s.size ≤ 500000) : Ev (fun k => lex_Lines.f k s) (resP (linesL validB s.data.toList)) := by
 have hsz : s.data.toList.length = s.size := (Lib.size_eq s).symm
 unfold linesL
 rw [hsz]
 by_cases h : 20000 < s.size
 ·
  rw [if_pos h]
  exact Ev.congr (f := fun _ => some (([] : List S39), 0, 1)) (fun k => by rw [lex_Lines.f, if_pos (by omega)]) (Ev.now _)
 ·
  rw [if_neg h]
  obtain ⟨ls, h1, h2⟩ := split_f s hs
  have h3 := splitNL_len _ s.data.toList (Nat.le_refl _)
  rw [← h2] at h3
  have hl : ∀ x ∈ ls, x.size ≤ 500000 := by
   intro x hx
   have := h3.2 _ (List.mem_map_of_mem hx)
   rw [Lib.size_eq]; omega
  have := lines_loop ls (by have := h3.1; rw [List.length_map] at this; omega) hl _ 0 [] rfl (by omega) (by simp)
  rw [List.drop_zero, h2] at this
  refine Ev.congr (fun k => ?_) this
  rw [lex_Lines.f, if_neg (by omega), h1, Option.bind_some]
  rfl

/-! ### the document's lines -/

theorem wordsF_len : ∀ (m : Nat) (l : List UInt8) (ws : List Wd), wordsF validB m l = some ws → ws.length ≤ m
 | 0, l, ws, h => by
  have := Option.some.inj h
  rw [← this]; simp
 | m + 1, l, ws, h => by
  cases hd : l.dropWhile isBl with
  | nil => rw [wordsF_stop hd] at h; rw [← Option.some.inj h]; simp
  | cons c t =>
   by_cases hc : c.toNat = 35
   ·
    rw [wordsF_hash hd hc] at h; rw [← Option.some.inj h]; simp
   ·
    cases ho : wordOf validB ((c :: t).take (tokLen (c :: t))) with
    | none => rw [wordsF_none hd hc ho] at h; cases h
    | some b =>
     cases hn : nextOk (c :: t) (tokLen (c :: t)) with
     | false => rw [wordsF_stuck hd hc ho hn] at h; cases h
     | true =>
      rw [wordsF_go hd hc ho hn] at h
      cases hr : wordsF validB m ((c :: t).drop (tokLen (c :: t))) with
      | none => rw [hr] at h; cases h
      | some us =>
       rw [hr] at h
       have := Option.some.inj h
       rw [← this, List.length_cons]
       have := wordsF_len m _ us hr
       omega

theorem linesS_len (b : Nat) : ∀ (ls : List (List UInt8)) (no : Int) (acc : List (Int × List Wd)), (∀ x ∈ ls, x.length ≤ b) → (∀ p ∈ acc, p.2.length ≤ b + 1) →
  (linesS validB ls no acc).1.length ≤ acc.length + ls.length ∧ ∀ p ∈ (linesS validB ls no acc).1, p.2.length ≤ b + 1
 | [], no, acc, hl, ha => ⟨by rw [linesS_nil]; simp, by rw [linesS_nil]; exact ha⟩
 | l :: r, no, acc, hl, ha => by
  cases ho : wordsL validB l with
  | none => rw [linesS_bad _ _ _ ho]; simp
  | some ws =>
   rw [linesS_some _ _ _ ho]
   have hws : ws.length ≤ b + 1 := by
    have := wordsF_len _ _ _ ho
    have := hl l (by simp)
    omega
   have ih := linesS_len b r (no + 1) (if 0 < ws.length then acc ++ [(no, ws)] else acc) (fun x hx => hl x (by simp [hx])) (by
    split
    ·
     intro p hp
     rcases List.mem_append.1 hp with hp | hp
     ·
      exact ha p hp
     ·
      rw [List.mem_singleton.1 hp]; exact hws
    ·
     exact ha)
   refine ⟨?_, ih.2⟩
   have h1 := ih.1
   rw [List.length_cons]
   split at h1
   ·
    rw [List.length_append, List.length_singleton] at h1; split <;> omega
   ·
    split <;> omega

theorem linesL_len (s : ByteArray) (hs : s.size ≤ 500000) : (linesL validB s.data.toList).1.length ≤ 1000000 ∧ ∀ p ∈ (linesL validB s.data.toList).1, p.2.length ≤ 1000000 := by
 have hsz : s.data.toList.length = s.size := (Lib.size_eq s).symm
 unfold linesL
 split
 ·
  simp
 ·
  have h3 := splitNL_len _ s.data.toList (Nat.le_refl _)
  have h4 := linesS_len s.size (splitNL s.data.toList) 1 [] (fun x hx => by have := h3.2 x hx; omega) (by simp)
  refine ⟨?_, fun p hp => ?_⟩
  ·
   have := h4.1; have := h3.1; simp only [List.length_nil] at *; omega
  ·
   have := h4.2 p hp; omega
end Go.Proofs.YtlkbeddlmbghkaaGreatDoor.PR
