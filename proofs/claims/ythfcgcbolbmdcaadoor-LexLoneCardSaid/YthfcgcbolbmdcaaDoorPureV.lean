/- Runes: the document's Width is the decoder's; Right is Right. -/
import Derived.Test.YthfcgcbolbmdcaaDoorPureU
namespace Go.Proofs.YthfcgcbolbmdcaaDoor.PR
open Go Go.Proofs Go.RowKit Go.Proofs.YthfcgcbolbmdcaaDoorW.PrintWords Go.Proofs.YthfcgcbolbmdcaaDoorW.PrintLast Go.Proofs.YthfcgcbolbmdcaaDoorW.PrintMore Go.Proofs.YthfcgcbolbmdcaaDoor.Lx
set_option linter.unusedVariables false
set_option linter.unusedSimpArgs false

theorem get_byteN (s : ByteArray) (i : Nat) (h : i < s.size) : (s.get! i).toNat = byteN s i := by
  unfold byteN
  rw [dif_pos h]
  simp [ByteArray.get!, h]
  rfl
theorem byteN_lt (s : ByteArray) (i : Nat) : byteN s i < 256 := by
  unfold byteN
  split
  · exact UInt8.toNat_lt _
  · omega

theorem prefix_fffd (s : ByteArray) (p : Nat) : Lib.hasPrefix (s.data.toList.drop p) [239, 191, 189] = (decide (p + 2 < s.size) && decide (byteN s p = 239) && decide (byteN s (p + 1) = 191) && decide (byteN s (p + 2) = 189)) := by
  unfold Lib.hasPrefix
  by_cases h : p + 2 < s.size
  · have hl : p + 2 < s.data.toList.length := by rw [← Lib.size_eq]; exact h
    rw [List.drop_eq_getElem_cons (by omega), List.drop_eq_getElem_cons (i := p + 1) (by omega), List.drop_eq_getElem_cons (i := p + 1 + 1) (by omega)]
    have e : ∀ i (hi : i < s.size) (hi2 : i < s.data.toList.length), byteN s i = (s.data.toList[i]'hi2).toNat := by
      intro i hi hi2
      unfold byteN
      rw [dif_pos hi]; rfl
    rw [e p (by omega) (by omega), e (p + 1) (by omega) (by omega), e (p + 2) h hl, decide_eq_true h]
    have c : ∀ (x : UInt8) (n : Nat) (y : UInt8), y.toNat = n → (y == x) = decide (x.toNat = n) := by
      intro x n y hy
      rw [Bool.eq_iff_iff, beq_iff_eq, decide_eq_true_eq]
      exact ⟨fun e => by rw [← e, hy], fun e => UInt8.toNat_inj.1 (by omega)⟩
    simp only [List.isPrefixOf, Bool.and_true, Bool.true_and]
    rw [c _ 239 239 rfl, c _ 191 191 rfl, c _ 189 189 rfl, Bool.and_assoc]
  · rw [decide_eq_false h]
    simp only [Bool.false_and]
    cases hq : List.isPrefixOf [239, 191, 189] (List.drop p s.data.toList) with
    | false => rfl
    | true =>
      have := (List.isPrefixOf_iff_prefix.1 hq).length_le
      rw [List.length_drop, ← Lib.size_eq] at this
      simp at this
      omega

set_option maxHeartbeats 40000000 in
theorem wid_decode (s : ByteArray) (p : Nat) (hp : p < s.size) : widS s p = if wholeB s p ((Utf8.decode s p).1 : Int) then ((Utf8.decode s p).2 : Int) else 0 := by
  unfold wholeB
  rw [prefix_fffd]
  have h0 := byteN_lt s p
  have h1 := byteN_lt s (p + 1)
  have h2 := byteN_lt s (p + 2)
  have h3 := byteN_lt s (p + 3)
  have g0 := get_byteN s p hp
  have g1 : p + 1 < s.size → (s.get! (p + 1)).toNat = byteN s (p + 1) := get_byteN s (p + 1)
  have g2 : p + 2 < s.size → (s.get! (p + 2)).toNat = byteN s (p + 2) := get_byteN s (p + 2)
  have g3 : p + 3 < s.size → (s.get! (p + 3)).toNat = byteN s (p + 3) := get_byteN s (p + 3)
  unfold widS inB Utf8.decode Utf8.runeError Utf8.valid
  simp only [Nat.add_zero, g0]
  generalize hz : s.size = z at *
  generalize byteN s p = b0 at *
  generalize byteN s (p + 1) = b1 at *
  generalize byteN s (p + 2) = b2 at *
  generalize byteN s (p + 3) = b3 at *
  generalize (s.get! (p + 1)).toNat = a1 at *
  generalize (s.get! (p + 2)).toNat = a2 at *
  generalize (s.get! (p + 3)).toNat = a3 at *
  clear hz g0
  have k1 : p + 1 < z → a1 = b1 := g1
  have k2 : p + 2 < z → a2 = b2 := g2
  have k3 : p + 3 < z → a3 = b3 := g3
  clear g1 g2 g3
  simp only [decide_eq_true hp, Bool.true_and, Bool.and_eq_true, Bool.or_eq_true, decide_eq_true_eq, beq_iff_eq, bne_iff_ne]
  generalize hd : (if b0 < 128 then (b0, 1) else _ : Nat × Nat) = d
  by_cases e1 : p + 1 < z <;> by_cases e2 : p + 2 < z <;> by_cases e3 : p + 3 < z
  all_goals first | (exfalso; omega) | skip
  all_goals
    simp only [e1, e2, e3, true_and, false_and, and_false, or_false, if_false] at hd ⊢
    try (have := k1 e1; subst this)
    try (have := k2 e2; subst this)
    try (have := k3 e3; subst this)
    clear k1 k2 k3 e1 e2 e3 hp
    repeat' split at hd
    all_goals
      subst hd
      repeat' split
      all_goals first | rfl | omega

theorem refRight_loop (s : ByteArray) (hs : s.size ≤ 1000000) : ∀ (m p : Nat), s.size + 1 ≤ p + m → p ≤ 1000010 →
    Ev (fun k => rundleref01_Right.l0 k s p) (rightFrom s m p)
  | 0, p, hm, hp => by
    refine Ev.step (f := fun _ => some _) (fun k => ?_) (Ev.now _)
    rw [rundleref01_Right.l0, if_neg (by omega)]; rfl
  | m + 1, p, hm, hp => by
    by_cases h : p < s.size
    · have hw := wid_decode s p h
      have hpos := width_pos s p h
      have hd4 : (Utf8.decode s p).2 ≤ 4 := by
        unfold Utf8.decode
        simp only []
        repeat' split
        all_goals simp
      have hstep : rightFrom s (m + 1) p = if wholeB s p (Utf8.decode s p).1 then rightFrom s m (p + (Utf8.decode s p).2) else p := by simp [rightFrom, h]
      have hW : Ev (fun k => rundleref01_Width.f k s p) (widS s p) := Ev.of (rundleref01_Width.mono s p) (width_f s p (by omega) 0)
      by_cases hb : wholeB s p (Utf8.decode s p).1 = true
      · rw [if_pos hb] at hw hstep
        rw [hstep]
        refine Ev.step (f := fun k => (rundleref01_Width.f k s p).bind fun t152 => (if t152 = 0 then (some (p : Int)) else (rundleref01_Right.l0 k s (wrap64 (p + t152))))) (fun k => by rw [rundleref01_Right.l0, if_pos (by omega)]) (Ev.bind hW ?_)
        refine Ev.congr (f := fun k => rundleref01_Right.l0 k s ((p + (Utf8.decode s p).2 : Nat) : Int)) (fun k => ?_) (refRight_loop s hs m _ (by omega) (by omega))
        rw [hw, if_neg (by omega), w64 (by omega) (by omega)]
        rfl
      · rw [if_neg hb] at hw hstep
        rw [hstep]
        refine Ev.step (f := fun k => (rundleref01_Width.f k s p).bind fun t152 => (if t152 = 0 then (some (p : Int)) else (rundleref01_Right.l0 k s (wrap64 (p + t152))))) (fun k => by rw [rundleref01_Right.l0, if_pos (by omega)]) (Ev.bind hW ?_)
        refine Ev.congr (fun k => ?_) (Ev.now (p : Int))
        rw [hw, if_pos rfl]
    · rw [rightFrom_end s _ _ h]
      refine Ev.step (f := fun _ => some _) (fun k => ?_) (Ev.now _)
      rw [rundleref01_Right.l0, if_neg (by omega)]

theorem refRight (s : ByteArray) (hs : s.size ≤ 1000000) : Ev (fun k => rundleref01_Right.f k s) (rightP s) :=
  Ev.congr (f := fun k => rundleref01_Right.l0 k s ((0 : Nat) : Int)) (fun k => rfl) (refRight_loop s hs (s.size + 1) 0 (by omega) (by omega))
end Go.Proofs.YthfcgcbolbmdcaaDoor.PR
