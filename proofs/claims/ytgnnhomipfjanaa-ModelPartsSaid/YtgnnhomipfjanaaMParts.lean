/- ModelParts, over lists alone: what is scanned in two spans that join one another is what is scanned in both together. -/
import Derived.Test.YtgnnhomipfjanaaMPartsW
import Derived.Test.YtgnnhomipfjanaaMScan
namespace Go.Proofs.Ytgnnhomipfjanaa.PM
open Go Go.Proofs Go.RowKit Go.Proofs.YtgnnhomipfjanaaW.PrintWords Go.Proofs.YtgnnhomipfjanaaW.PrintLast Go.Proofs.YtgnnhomipfjanaaW.PrintMore

theorem prd74_at (l : List S74) (i : Nat) (h : i < l.length) : rd_T74 l (i : Int) = l[i] := by unfold rd_T74; simp [h]
def scanG (ms : List S112) (v : Int) (lo hi : ByteArray) (all : Bool) (k : ByteArray) : Option S74 := if (getE ms v k).2 = true ∧ hasE lo hi all k = true then some ⟨k, (getE ms v k).1⟩ else none
theorem scanL_filter (ms : List S112) (v : Int) (lo hi : ByteArray) (all : Bool) (lim : Int) : ∀ (ks : List ByteArray) (acc : List S74), (acc.length : Int) + ks.length ≤ lim → scanL ms v lo hi all lim ks acc = acc ++ ks.filterMap (scanG ms v lo hi all)
  | [], acc, _ => by simp [scanL]
  | k :: t, acc, h => by
    rw [List.length_cons] at h
    rw [scanL, if_neg (by omega)]
    by_cases hg : (getE ms v k).2 = true ∧ hasE lo hi all k = true
    · have e : scanG ms v lo hi all k = some ⟨k, (getE ms v k).1⟩ := by unfold scanG; rw [if_pos hg]
      rw [if_pos hg, scanL_filter ms v lo hi all lim t _ (by rw [List.length_append, List.length_singleton]; omega), List.filterMap_cons, e, List.append_assoc, List.singleton_append]
    · have e : scanG ms v lo hi all k = none := by unfold scanG; rw [if_neg hg]
      rw [if_neg hg, scanL_filter ms v lo hi all lim t acc (by omega), List.filterMap_cons, e]
theorem scanE_filter (ms : List S112) (v : Int) (lo hi : ByteArray) (all : Bool) (lim : Int) (h : ((keysE ms v).length : Int) ≤ lim) : scanE ms v lo hi all lim = (keysE ms v).filterMap (scanG ms v lo hi all) := by
  unfold scanE
  rw [scanL_filter ms v lo hi all lim _ _ (by simpa using h)]
  rfl

/-- The keys rise. -/
theorem keys_sorted (ms : List S112) (v : Int) : (keysE ms v).Pairwise (fun a b => a.data.toList ≤ b.data.toList) := by
  unfold keysE keysB
  rw [List.pairwise_map]
  have tr : ∀ a b c : List UInt8, leB a b = true → leB b c = true → leB a c = true := fun a b c h1 h2 => by simp only [leB, decide_eq_true_eq] at *; exact List.le_trans h1 h2
  have tt : ∀ a b : List UInt8, (leB a b || leB b a) = true := fun a b => by simp only [leB, Bool.or_eq_true, decide_eq_true_eq]; exact List.le_total a b
  exact (List.pairwise_mergeSort tr tt _).imp fun h => by simpa [leB] using h
theorem ltB_iff (a b : ByteArray) : Srt.ltB a b = true ↔ a.data.toList < b.data.toList := by
  unfold Srt.ltB
  rw [Go.Proofs.bytesLess_eq, Go.Lib.toList_data, Go.Lib.toList_data, decide_eq_true_iff]
theorem ltB_empty (a : ByteArray) : Srt.ltB a ⟨#[]⟩ = false := by
  rw [Bool.eq_false_iff]
  intro h
  have := (ltB_iff a ⟨#[]⟩).1 h
  simp at this
theorem split_filter {f g1 g2 : ByteArray → Option S74} (at_ : ByteArray) (hf : ∀ k, f k = if Srt.ltB k at_ = true then g1 k else g2 k) (h1 : ∀ k, Srt.ltB k at_ = false → g1 k = none) (h2 : ∀ k, Srt.ltB k at_ = true → g2 k = none) :
    ∀ ks : List ByteArray, ks.Pairwise (fun a b => a.data.toList ≤ b.data.toList) → ks.filterMap f = ks.filterMap g1 ++ ks.filterMap g2
  | [], _ => rfl
  | k :: t, hp => by
    have hp' := (List.pairwise_cons.1 hp).2
    have hk := (List.pairwise_cons.1 hp).1
    have ih := split_filter at_ hf h1 h2 t hp'
    rw [List.filterMap_cons, List.filterMap_cons, List.filterMap_cons, hf k, ih]
    by_cases h : Srt.ltB k at_ = true
    · rw [if_pos h, h2 k h]
      cases g1 k <;> rfl
    · have h' := Bool.eq_false_iff.2 h
      have hnone : t.filterMap g1 = [] := by
        rw [List.filterMap_eq_nil_iff]
        intro x hx
        refine h1 x ?_
        rw [Bool.eq_false_iff]
        intro hlt
        have a1 := (ltB_iff x at_).1 hlt
        have a2 := hk x hx
        exact h ((ltB_iff k at_).2 (List.lt_of_le_of_lt a2 a1))
      rw [if_neg h, h1 k h', hnone]
      cases g2 k <;> rfl

theorem cut_says (at_ : ByteArray) : key_Cut.f (⟨#[]⟩) (⟨#[]⟩) true at_ = some (⟨#[]⟩, at_, false, at_, ⟨#[]⟩, true) := by
  unfold key_Cut.f key_Meet.f key_upper.f
  simp only [if_true, Option.bind_some]
  have e1 : Go.Lib.maxS (⟨#[]⟩ : ByteArray) ⟨#[]⟩ = ⟨#[]⟩ := rfl
  have e2 : Go.Lib.maxS (⟨#[]⟩ : ByteArray) at_ = at_ := by
    unfold Go.Lib.maxS
    by_cases h : (⟨#[]⟩ : ByteArray).data.toList < at_.data.toList
    · rw [if_pos h]
    · rw [if_neg h]
      have : at_.data.toList = [] := by
        cases hh : at_.data.toList with
        | nil => rfl
        | cons x t => rw [hh] at h; exact absurd (List.nil_lt_cons x t) h
      cases at_ with
      | mk d => congr 1; exact (Array.toList_inj.1 (by rw [this]))
  rw [e1, e2]
  simp

theorem parts_split (ms : List S112) (v : Int) (at_ : ByteArray) (h : ((keysE ms v).length : Int) ≤ 100000) :
    scanE ms v (⟨#[]⟩) (⟨#[]⟩) true 100000 = scanE ms v (⟨#[]⟩) at_ false 100000 ++ scanE ms v at_ (⟨#[]⟩) true 100000 := by
  rw [scanE_filter _ _ _ _ _ _ h, scanE_filter _ _ _ _ _ _ h, scanE_filter _ _ _ _ _ _ h]
  refine split_filter at_ (fun k => ?_) (fun k hk => ?_) (fun k hk => ?_) _ (keys_sorted ms v)
  · unfold scanG hasE
    rw [ltB_empty]
    cases h : Srt.ltB k at_ <;> simp
  · unfold scanG hasE
    rw [hk]; simp
  · unfold scanG hasE
    rw [hk]; simp
theorem scan_has (ms : List S112) (v : Int) (lo hi : ByteArray) (all : Bool) (h : ((keysE ms v).length : Int) ≤ 100000) : ∀ p ∈ scanE ms v lo hi all 100000, getE ms v p.f0 = (p.f1, true) := by
  rw [scanE_filter _ _ _ _ _ _ h]
  intro p hp
  obtain ⟨k, _, hk⟩ := List.mem_filterMap.1 hp
  unfold scanG at hk
  split at hk
  · rename_i hg
    cases hk
    show getE ms v k = ((getE ms v k).1, true)
    rw [← hg.1]
  · cases hk

set_option maxHeartbeats 4000000 in
set_option maxRecDepth 100000 in
/-- More than is looked at: the example again. -/
theorem parts_long (K : Nat) (A0 : Option Addr) (c0 : Nat) (l0 : List S78) (a1 : Int) (at2 : ByteArray) (b : Bool) (w : World)
    (hr0 : Kd.C k78 w A0 l0.length l0) (hc0 : l0.length ≤ c0) (hlg : rundlelaw24_long.f K l0 = some b) (hb : b = true ∨ 10000 < at2.size) :
    Calls Try.prog 10 #[.slice A0 l0.length c0, .int .i64 a1, .string at2] w fun e w' => e = .returned (.bool true) ∧ Below w.heap.size w w' := by
  have HR0 := Aside0.mk hr0
  have HC0 := Aside0.mk hc0
  have LG := Aside0.mk hlg
  have HX := Aside0.mk hb
  clear hr0 hc0 hlg hb
  go_enter Try.func10, Try.ntmps10
  cases b with
  | true =>
    go_upto_region 2 with (first
      | (go_at_call 26; with_reducible refine (rundlelaw24_awake.calls true _ awake_says).mono ?_; rintro e w1 ⟨rfl, hb⟩; have HB1 := Aside0.mk hb; clear hb)
      | (go_at_call 27; with_reducible refine (rundlelaw24_long.calls K A0 c0 l0 true _ ?s1 HC0.out LG.out).mono ?_; (case s1 => exact Kd.C_below HR0.out HB1.out); rintro e w2 ⟨rfl, hb⟩; have HB2 := Aside0.mk hb; clear hb))
    have HB2w := Aside0.mk (HB1.out.trans (HB2.out.mono HB1.out.size))
    clear HB1 HB2
    go_wp2_with (go_at_call 26; with_reducible refine (rundlelaw24_awake.calls true _ awake_says).mono ?_; rintro e w3 ⟨rfl, hb⟩; have HB3 := Aside0.mk hb; clear hb)
    go_ret
    exact ⟨rfl, HB2w.out.trans (HB3.out.mono HB2w.out.size)⟩
  | false =>
    have hx : 10000 < at2.size := HX.out.elim (fun h => by cases h) id
    have b1 : decide ((10000 : Int) < (at2.size : Int)) = true := decide_eq_true (by omega)
    have b2 : ((10000 : Int) < (at2.size : Int)) = True := eq_true (by omega)
    have b3 : (10000 < at2.size) = True := eq_true hx
    clear hx
    go_upto_region 2 with (first
      | (go_at_call 26; with_reducible refine (rundlelaw24_awake.calls true _ awake_says).mono ?_; rintro e w1 ⟨rfl, hb⟩; have HB1 := Aside0.mk hb; clear hb)
      | (go_at_call 27; with_reducible refine (rundlelaw24_long.calls K A0 c0 l0 false _ ?s1 HC0.out LG.out).mono ?_; (case s1 => exact Kd.C_below HR0.out HB1.out); rintro e w2 ⟨rfl, hb⟩; have HB2 := Aside0.mk hb; clear hb))
    have HB2w := Aside0.mk (HB1.out.trans (HB2.out.mono HB1.out.size))
    clear HB1 HB2
    go_wp2_with (go_at_call 26; with_reducible refine (rundlelaw24_awake.calls true _ awake_says).mono ?_; rintro e w3 ⟨rfl, hb⟩; have HB3 := Aside0.mk hb; clear hb)
    go_ret
    exact ⟨rfl, HB2w.out.trans (HB3.out.mono HB2w.out.size)⟩

theorem ModelParts_calls (A0 : Option Addr) (c0 : Nat) (l0 : List S78) (a1 : Int) (at2 : ByteArray) (w : World) (hr0 : Kd.C k78 w A0 l0.length l0) (hc0 : l0.length ≤ c0) :
    Calls Try.prog 10 #[.slice A0 l0.length c0, .int .i64 a1, .string at2] w fun e w' => e = .returned (.bool true) ∧ Below w.heap.size w w' := by
  obtain ⟨b, ⟨K0, h0⟩, hs⟩ := long_says l0
  by_cases hx : b = true ∨ 10000 < at2.size
  · exact parts_long K0 A0 c0 l0 a1 at2 b w hr0 hc0 (h0 K0 (Nat.le_refl _)) hx
  · have hb : b = false := by cases b <;> simp_all
    have hS := hs hb
    have hcl := layC_len hS
    have hok := ok_ms (layC 0 l0) (layC_small hS) (by omega)
    have hkl : ((keysE (msOf (layC 0 l0)) a1).length : Int) ≤ 100000 := by
      have h1 := keysE_length (msOf (layC 0 l0)) a1
      have h2 := (seen_ms (layC 0 l0) (layC_small hS)).1
      omega
    obtain ⟨K1, h1⟩ := lay_says l0 hS
    obtain ⟨K2, h2⟩ := scan_says (msOf (layC 0 l0)) hok a1 (⟨#[]⟩) at2 false 100000
    obtain ⟨K3, h3⟩ := scan_says (msOf (layC 0 l0)) hok a1 at2 (⟨#[]⟩) true 100000
    obtain ⟨K4, h4⟩ := scan_says (msOf (layC 0 l0)) hok a1 (⟨#[]⟩) (⟨#[]⟩) true 100000
    have hlen := scan_len (msOf (layC 0 l0)) hok a1 (⟨#[]⟩) (⟨#[]⟩) true 100000
    have hhas := scan_has (msOf (layC 0 l0)) a1 (⟨#[]⟩) (⟨#[]⟩) true hkl
    exact parts_walk (K0 + K1 + K2 + K3 + K4) A0 c0 l0 a1 at2 w hr0 hc0 (by omega) awake_says ((h0 _ (by omega)).trans (by rw [hb])) (msOf (layC 0 l0)) _ (h1 _ (by omega)) (cut_says at2) _ _ _ (h2 _ (by omega)) (h3 _ (by omega)) (h4 _ (by omega))
      (parts_split (msOf (layC 0 l0)) a1 at2 hkl) hlen (fun p hp => by rw [get_says _ _ _ hok.2.1, hhas p hp])
end Go.Proofs.Ytgnnhomipfjanaa.PM
