/- ModelKeeps, over lists alone: a change changes nothing at the versions below its own. -/
import Derived.Test.YtgnnhomipfjanaaPMx9
import Derived.Test.YtgnnhomipfjanaaMScan
namespace Go.Proofs.Ytgnnhomipfjanaa.PM
open Go Go.Proofs Go.RowKit Go.Proofs.YtgnnhomipfjanaaW.PrintWords Go.Proofs.YtgnnhomipfjanaaW.PrintLast Go.Proofs.YtgnnhomipfjanaaW.PrintMore

theorem upto_below (ms : List S112) (c : S112) (v : Int) (h : v < c.f0) : uptoV (ms ++ [c]) v = uptoV ms v := by
  unfold uptoV
  rw [List.takeWhile_append]
  split
  · rename_i e
    rw [List.takeWhile_cons_of_neg (by simp; omega), List.append_nil]
    exact ((List.takeWhile_prefix _).eq_of_length e).symm
  · rfl
theorem keys_below (ms : List S112) (c : S112) (v : Int) (h : v < c.f0) : keysE (ms ++ [c]) v = keysE ms v := by unfold keysE keysB; rw [upto_below ms c v h]
theorem get_below (ms : List S112) (c : S112) (v : Int) (kk : ByteArray) (h : v < c.f0) : getE (ms ++ [c]) v kk = getE ms v kk := by
  unfold getE entryE
  rw [List.reverse_append, List.reverse_singleton, List.singleton_append, List.findSome?_cons]
  have e : hitE v kk c = none := by unfold hitE; rw [if_pos h]
  rw [e]
theorem scanL_below (ms : List S112) (c : S112) (v : Int) (lo hi : ByteArray) (all : Bool) (lim : Int) (h : v < c.f0) : ∀ (ks : List ByteArray) (acc : List S74), scanL (ms ++ [c]) v lo hi all lim ks acc = scanL ms v lo hi all lim ks acc
  | [], acc => rfl
  | k :: t, acc => by
    rw [scanL, scanL, get_below ms c v k h, scanL_below ms c v lo hi all lim h t, scanL_below ms c v lo hi all lim h t]
theorem scan_below (ms : List S112) (c : S112) (v : Int) (lo hi : ByteArray) (all : Bool) (lim : Int) (h : v < c.f0) : scanE (ms ++ [c]) v lo hi all lim = scanE ms v lo hi all lim := by
  unfold scanE
  rw [keys_below ms c v h, scanL_below ms c v lo hi all lim h]

theorem rd74_at (l : List S74) (i : Nat) (h : i < l.length) : rd_T74 l (i : Int) = l[i] := by unfold rd_T74; simp [h]
theorem keeps_loop (v v1 : Int) (l1 : List S37) (was thn : List S74) (hw : was.length < 1000000000000) (ht : v < v1 → thn = was) : ∀ (d i : Nat), was.length - i = d → i ≤ was.length → Ev (fun k => rundlelaw24_ModelKeeps.l0 k v was was thn (i : Int) v1 l1) true
  | 0, i, hd, hi => Ev.step (f := fun _ => some true) (fun k => by simp only [rundlelaw24_ModelKeeps.l0]; rw [if_neg (by omega)]) (Ev.now _)
  | d + 1, i, hd, hi => by
    have hil : i < was.length := by omega
    refine Ev.step (fun k => ?_) (keeps_loop v v1 l1 was thn hw ht d (i + 1) (by omega) (by omega))
    simp only [rundlelaw24_ModelKeeps.l0]
    rw [if_pos (by omega), if_pos (by omega), if_pos (by omega), if_neg (by simp)]
    by_cases hv : v < v1
    · rw [if_pos hv, ht hv, if_pos (by omega), if_neg (by simp), wr1 i (by omega)]
    · rw [if_neg hv, wr1 i (by omega)]

theorem small_one {v : Int} {l1 : List S37} (h : Small [⟨v, l1⟩]) : SmallU ⟨v, l1⟩ := h.2 _ (by simp)
theorem add_ms (cs : List S78) (v : Int) (l1 : List S37) : addE (msOf cs) v l1 = if v ≤ lastC cs then ([], 10) else if Good l1 then (msOf (cs ++ [⟨v, l1⟩]), 0) else ([], 1) := by
  unfold addE
  rw [lastE_ms, msOf_snoc]
theorem keeps_j0 (l : List S78) (v v1 : Int) (l1 : List S37) (hS : Small l) (hX : Small [⟨v1, l1⟩]) : ∃ K, ∀ k, K ≤ k → rundlelaw24_ModelKeeps.j0 k l v false v1 l1 = some true := by
  have hx := small_one hX
  have hcl := layC_len hS
  have hok := ok_ms (layC 0 l) (layC_small hS) (by omega)
  have hml := hok.2.1
  obtain ⟨K1, h1⟩ := lay_says l hS
  obtain ⟨K2, h2⟩ := scan_says (msOf (layC 0 l)) hok v (⟨#[]⟩) (⟨#[]⟩) true 100000
  have hadd : model_Add.f (msOf (layC 0 l)) v1 l1 = some (addE (msOf (layC 0 l)) v1 l1) := by unfold model_Add.f; rw [if_pos ⟨hml, by have := hx.1; change l1.length ≤ 500 at this; omega⟩]
  have hlast := last_says (msOf (layC 0 l)) hml
  by_cases hgood : ¬ v1 ≤ lastC (layC 0 l) ∧ Good l1
  · have hae : addE (msOf (layC 0 l)) v1 l1 = (msOf (layC 0 l ++ [⟨v1, l1⟩]), 0) := by rw [add_ms, if_neg hgood.1, if_pos hgood.2]
    have hok2 := ok_ms (layC 0 l ++ [⟨v1, l1⟩]) (fun c hc => by
      rcases List.mem_append.1 hc with h | h
      · exact layC_small hS c h
      · rw [List.mem_singleton.1 h]; exact hx) (by simp; omega)
    have hlast2 := last_says (msOf (layC 0 l ++ [⟨v1, l1⟩])) hok2.2.1
    rw [lastE_ms, lastC_snoc] at hlast2
    obtain ⟨K3, h3⟩ := scan_says (msOf (layC 0 l ++ [⟨v1, l1⟩])) hok2 v (⟨#[]⟩) (⟨#[]⟩) true 100000
    have hth : v < v1 → scanE (msOf (layC 0 l ++ [⟨v1, l1⟩])) v (⟨#[]⟩) (⟨#[]⟩) true 100000 = scanE (msOf (layC 0 l)) v (⟨#[]⟩) (⟨#[]⟩) true 100000 := fun h => by rw [msOf_snoc]; exact scan_below _ _ _ _ _ _ _ h
    have hwl := scan_len (msOf (layC 0 l)) hok v (⟨#[]⟩) (⟨#[]⟩) true 100000
    obtain ⟨K4, h4⟩ := keeps_loop v v1 l1 _ _ hwl hth _ 0 rfl (Nat.zero_le _)
    refine ⟨K1 + K2 + K3 + K4 + 10, fun k hk => ?_⟩
    obtain ⟨k, rfl⟩ : ∃ m, k = m + 2 := ⟨k - 2, by omega⟩
    have e1 : rundlelaw24_lay.f (k + 1) l = _ := h1 (k + 1) (by omega)
    have e2 : model_Scan.f (k + 1) (msOf (layC 0 l)) v (⟨#[]⟩) (⟨#[]⟩) true 100000 = _ := h2 (k + 1) (by omega)
    have e3 : model_Scan.f (k + 1) (msOf (layC 0 l ++ [⟨v1, l1⟩])) v (⟨#[]⟩) (⟨#[]⟩) true 100000 = _ := h3 (k + 1) (by omega)
    have e4 : rundlelaw24_ModelKeeps.l0 k v _ _ _ ((0 : Nat) : Int) v1 l1 = _ := h4 k (by omega)
    have hj1 : ∀ b : Bool, (b = false) → rundlelaw24_ModelKeeps.j1 (k + 1) v (scanE (msOf (layC 0 l)) v (⟨#[]⟩) (⟨#[]⟩) true 100000) (scanE (msOf (layC 0 l)) v (⟨#[]⟩) (⟨#[]⟩) true 100000) (scanE (msOf (layC 0 l ++ [⟨v1, l1⟩])) v (⟨#[]⟩) (⟨#[]⟩) true 100000) b v1 l1 = some true := fun b hb => by
      rw [rundlelaw24_ModelKeeps.j1, hb, if_neg (by simp)]
      exact e4
    rw [rundlelaw24_ModelKeeps.j0, if_neg (by simp), e1]
    simp only [Option.bind_some]
    rw [if_pos trivial]
    unfold key_Whole.f
    simp only [Option.bind_some]
    rw [e2]
    simp only [Option.bind_some]
    rw [hlast]
    simp only [Option.bind_some]
    rw [hadd, hae]
    simp only [Option.bind_some]
    rw [if_pos trivial, e3]
    simp only [Option.bind_some]
    rw [if_pos trivial, hlast2]
    simp only [Option.bind_some]
    rw [if_pos trivial, if_pos trivial]
    by_cases hv : v < v1
    · rw [if_pos hv]
      exact hj1 _ (by rw [hth hv]; simp)
    · rw [if_neg hv]
      exact hj1 _ rfl
  · have hae : (addE (msOf (layC 0 l)) v1 l1).2 ≠ 0 := by
      rw [add_ms]
      split
      · simp
      · rename_i h
        rw [if_neg (fun hg => hgood ⟨h, hg⟩)]
        simp
    refine ⟨K1 + K2 + 10, fun k hk => ?_⟩
    obtain ⟨k, rfl⟩ : ∃ m, k = m + 2 := ⟨k - 2, by omega⟩
    have e1 : rundlelaw24_lay.f (k + 1) l = _ := h1 (k + 1) (by omega)
    have e2 : model_Scan.f (k + 1) (msOf (layC 0 l)) v (⟨#[]⟩) (⟨#[]⟩) true 100000 = _ := h2 (k + 1) (by omega)
    rw [rundlelaw24_ModelKeeps.j0, if_neg (by simp), e1]
    simp only [Option.bind_some]
    rw [if_pos trivial]
    unfold key_Whole.f
    simp only [Option.bind_some]
    rw [e2]
    simp only [Option.bind_some]
    rw [hlast]
    simp only [Option.bind_some]
    rw [hadd]
    simp only [Option.bind_some]
    rw [if_neg hae]

theorem ModelKeeps_pure (l : List S78) (v1 : Int) (l1 : List S37) (v : Int) : ∃ k, rundlelaw24_ModelKeeps.f k l v1 l1 v = some true := by
  have fin : ∀ b b2 : Bool, Ev (fun k => rundlelaw24_long.f k l) b → (b = false → Small l) → Ev (fun k => rundlelaw24_long.f k [⟨v1, l1⟩]) b2 → (b2 = false → Small [⟨v1, l1⟩]) → ∃ k, rundlelaw24_ModelKeeps.f k l v1 l1 v = some true := by
    intro b b2 ⟨K1, h1⟩ hs ⟨K2, h2⟩ hx
    have stop : ∀ k, rundlelaw24_ModelKeeps.j0 (k + 1) l v true v1 l1 = some true := fun k => by
      rw [rundlelaw24_ModelKeeps.j0, if_pos rfl, awake_says]; rfl
    cases hb : b with
    | true =>
      refine ⟨K1 + 1, ?_⟩
      have e1 : rundlelaw24_long.f (K1 + 1) l = _ := h1 (K1 + 1) (by omega)
      unfold rundlelaw24_ModelKeeps.f
      rw [awake_says]
      simp only [Option.bind_some]
      rw [if_pos trivial, e1, hb]
      simp only [Option.bind_some]
      rw [if_pos trivial]
      exact stop K1
    | false =>
      cases hb2 : b2 with
      | true =>
        refine ⟨K1 + K2 + 1, ?_⟩
        have e1 : rundlelaw24_long.f (K1 + K2 + 1) l = _ := h1 (K1 + K2 + 1) (by omega)
        have e2 : rundlelaw24_long.f (K1 + K2 + 1) [⟨v1, l1⟩] = _ := h2 (K1 + K2 + 1) (by omega)
        unfold rundlelaw24_ModelKeeps.f
        rw [awake_says]
        simp only [Option.bind_some]
        rw [if_pos trivial, e1, hb]
        simp only [Option.bind_some]
        rw [if_neg (by simp), e2, hb2]
        simp only [Option.bind_some]
        exact stop _
      | false =>
        obtain ⟨K3, h3⟩ := keeps_j0 l v v1 l1 (hs hb) (hx hb2)
        refine ⟨K1 + K2 + K3 + 1, ?_⟩
        have e1 : rundlelaw24_long.f (K1 + K2 + K3 + 1) l = _ := h1 (K1 + K2 + K3 + 1) (by omega)
        have e2 : rundlelaw24_long.f (K1 + K2 + K3 + 1) [⟨v1, l1⟩] = _ := h2 (K1 + K2 + K3 + 1) (by omega)
        unfold rundlelaw24_ModelKeeps.f
        rw [awake_says]
        simp only [Option.bind_some]
        rw [if_pos trivial, e1, hb]
        simp only [Option.bind_some]
        rw [if_neg (by simp), e2, hb2]
        simp only [Option.bind_some]
        exact h3 _ (by omega)
  obtain ⟨b, hb, hs⟩ := long_says l
  obtain ⟨b2, hb2, hx⟩ := long_says [⟨v1, l1⟩]
  exact fin b b2 hb hs hb2 hx
end Go.Proofs.Ytgnnhomipfjanaa.PM
