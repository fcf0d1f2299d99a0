/- model.Scan over lists alone. -/
import Derived.Test.YtgnnhomipfjanaaMGets
namespace Go.Proofs.Ytgnnhomipfjanaa.PM
open Go Go.Proofs Go.RowKit Go.Proofs.YtgnnhomipfjanaaW.PrintWords Go.Proofs.YtgnnhomipfjanaaW.PrintLast Go.Proofs.YtgnnhomipfjanaaW.PrintMore

def scanL (ms : List S112) (v : Int) (lo hi : ByteArray) (all : Bool) (lim : Int) : List ByteArray → List S74 → List S74
  | [], acc => acc
  | k :: t, acc => if lim ≤ acc.length then acc else if (getE ms v k).2 = true ∧ hasE lo hi all k = true then scanL ms v lo hi all lim t (acc ++ [⟨k, (getE ms v k).1⟩]) else scanL ms v lo hi all lim t acc
def scanE (ms : List S112) (v : Int) (lo hi : ByteArray) (all : Bool) (lim : Int) : List S74 := scanL ms v lo hi all lim (keysE ms v) []

theorem rdOf_at (l : List ByteArray) (i : Nat) (h : i < l.length) : rdOf ByteArray.empty l (i : Int) = l[i] := by unfold rdOf; simp [h]
theorem scan_loop (ms : List S112) (hms : ms.length < 1000000000000) (v : Int) (lo hi : ByteArray) (all : Bool) (lim : Int) (ks : List ByteArray) (hk : ks.length < 1000000000000) :
    ∀ (d i : Nat), ks.length - i = d → i ≤ ks.length → ∀ acc : List S74, acc.length ≤ i → Ev (fun k => model_Scan.l0 k v lim acc ks (ks.length : Int) (i : Int) ms lo hi all) (scanL ms v lo hi all lim (ks.drop i) acc)
  | 0, i, hd, hi', acc, ha => Ev.step (f := fun _ => some (scanL ms v lo hi all lim (ks.drop i) acc)) (fun k => by
      simp only [model_Scan.l0]; rw [if_neg (by omega), List.drop_of_length_le (by omega)]; rfl) (Ev.now _)
  | d + 1, i, hd, hi', acc, ha => by
    have hil : i < ks.length := by omega
    rw [List.drop_eq_getElem_cons hil, scanL]
    by_cases hlim : lim ≤ acc.length
    · rw [if_pos hlim]
      refine Ev.step (f := fun _ => some acc) (fun k => ?_) (Ev.now _)
      simp only [model_Scan.l0]
      rw [if_pos (by omega), if_pos (by omega), if_pos (by omega), if_pos (by omega)]
    · rw [if_neg hlim]
      have skip := scan_loop ms hms v lo hi all lim ks hk d (i + 1) (by omega) (by omega) acc (by omega)
      have take := scan_loop ms hms v lo hi all lim ks hk d (i + 1) (by omega) (by omega) (acc ++ [⟨ks[i], (getE ms v ks[i]).1⟩]) (by rw [List.length_append, List.length_singleton]; omega)
      by_cases hg : (getE ms v ks[i]).2 = true
      · by_cases hh : hasE lo hi all ks[i] = true
        · rw [if_pos ⟨hg, hh⟩]
          refine Ev.step (fun k => ?_) take
          simp only [model_Scan.l0]
          rw [if_pos (by omega), if_pos (by omega), if_pos (by omega), if_neg (by omega), rdOf_at ks i hil, get_says ms v _ hms, Option.bind_some, if_pos hg]
          unfold key_Has.f
          rw [Option.bind_some, if_pos hh, if_pos (by omega), wr1 i (by omega)]
        · rw [if_neg (fun h => hh h.2)]
          refine Ev.step (fun k => ?_) skip
          simp only [model_Scan.l0]
          rw [if_pos (by omega), if_pos (by omega), if_pos (by omega), if_neg (by omega), rdOf_at ks i hil, get_says ms v _ hms, Option.bind_some, if_pos hg]
          unfold key_Has.f
          rw [Option.bind_some, if_neg hh, wr1 i (by omega)]
      · rw [if_neg (fun h => hg h.1)]
        refine Ev.step (fun k => ?_) skip
        simp only [model_Scan.l0]
        rw [if_pos (by omega), if_pos (by omega), if_pos (by omega), if_neg (by omega), rdOf_at ks i hil, get_says ms v _ hms, Option.bind_some, if_neg hg, wr1 i (by omega)]
theorem dd_length {α : Type} [DecidableEq α] (l : List α) : (dd l).length ≤ l.length := by
  induction l with
  | nil => exact Nat.le_refl _
  | cons x t ih =>
    unfold dd
    split
    · rw [List.length_cons]; omega
    · rw [List.length_cons, List.length_cons]; omega
theorem keysE_length (ms : List S112) (v : Int) : (keysE ms v).length ≤ (seenK ms).length := by
  unfold keysE keysB
  rw [List.length_map, List.length_mergeSort]
  exact Nat.le_trans (dd_length _) (upto_len ms v)
theorem scan_says (ms : List S112) (h : KeysOk ms) (v : Int) (lo hi : ByteArray) (all : Bool) (lim : Int) : Ev (fun k => model_Scan.f k ms v lo hi all lim) (scanE ms v lo hi all lim) := by
  have hk : (keysE ms v).length < 1000000000000 := Nat.lt_of_le_of_lt (keysE_length ms v) h.1
  refine Ev.congr (fun k => ?_) (scan_loop ms h.2.1 v lo hi all lim (keysE ms v) hk _ 0 rfl (Nat.zero_le _) [] (Nat.le_refl _))
  show model_Scan.f k ms v lo hi all lim = _
  unfold model_Scan.f model_Keys.f
  rw [if_pos h]
  rfl

theorem scanL_len (ms : List S112) (v : Int) (lo hi : ByteArray) (all : Bool) (lim : Int) : ∀ (ks : List ByteArray) (acc : List S74), (scanL ms v lo hi all lim ks acc).length ≤ acc.length + ks.length
  | [], acc => Nat.le_refl _
  | k :: t, acc => by
    rw [scanL]
    split
    · omega
    · split
      · have := scanL_len ms v lo hi all lim t (acc ++ [⟨k, (getE ms v k).1⟩])
        rw [List.length_append, List.length_singleton] at this
        rw [List.length_cons]; omega
      · have := scanL_len ms v lo hi all lim t acc
        rw [List.length_cons]; omega
theorem scan_len (ms : List S112) (h : KeysOk ms) (v : Int) (lo hi : ByteArray) (all : Bool) (lim : Int) : (scanE ms v lo hi all lim).length < 1000000000000 := by
  have h1 := scanL_len ms v lo hi all lim (keysE ms v) []
  have h2 := keysE_length ms v
  have h3 := h.1
  unfold scanE
  simp at h1
  omega

/-- The model of small changes is within what is told. -/
theorem seen_ms (cs : List S78) (h : ∀ c ∈ cs, c.f1.length ≤ 500 ∧ ∀ e ∈ c.f1, SmallE e) : (seenK (msOf cs)).length ≤ 500 * cs.length ∧ ∀ c ∈ msOf cs, ∀ x ∈ c.f1, x.f0.size ≤ 9223372036854775807 := by
  induction cs with
  | nil => exact ⟨by simp [seenK, msOf], by simp [msOf]⟩
  | cons u t ih =>
    obtain ⟨h1, h2⟩ := ih (fun c hc => h c (by simp [hc]))
    have hu := h u (by simp)
    have e : (seenK (msOf (u :: t))).length = u.f1.length + (seenK (msOf t)).length := by unfold seenK msOf entK; simp [sortE_length]
    refine ⟨by rw [e, List.length_cons]; omega, fun c hc x hx => ?_⟩
    rcases List.mem_cons.1 (show c ∈ _ :: msOf t from hc) with rfl | hc
    · have := hu.2 x (((sortE_same u.f1).mem swoE x).2 (show x ∈ sortE u.f1 from hx))
      have := this.1
      omega
    · exact h2 c hc x hx
theorem ok_ms (cs : List S78) (h : ∀ c ∈ cs, c.f1.length ≤ 500 ∧ ∀ e ∈ c.f1, SmallE e) (hl : cs.length ≤ 50) : KeysOk (msOf cs) := by
  have := seen_ms cs h
  refine ⟨by omega, ?_, this.2⟩
  unfold msOf; rw [List.length_map]; omega
theorem layC_small {l : List S78} (hS : Small l) : ∀ c ∈ layC 0 l, c.f1.length ≤ 500 ∧ ∀ e ∈ c.f1, SmallE e := fun c hc => hS.2 c (layC_good l 0 c hc).2
theorem layC_len {l : List S78} (hS : Small l) : (layC 0 l).length ≤ 40 := by have := layC_length l 0; have := hS.1; omega
end Go.Proofs.Ytgnnhomipfjanaa.PM
