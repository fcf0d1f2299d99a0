/- What BatchBounds answers, over numbers alone. -/
import Derived.Test.YtgnnhomipfjanaaPureA
import Derived.Test.YtgnnhomipfjanaaBounds
namespace Go.Proofs.Ytgnnhomipfjanaa.PA
open Go Go.Proofs Go.RowKit Go.Proofs.YtgnnhomipfjanaaW.PrintWords Go.Proofs.YtgnnhomipfjanaaW.PrintLast Go.Proofs.YtgnnhomipfjanaaW.PrintMore

def bkey (i : Nat) : S37 := ⟨strOfNums [((1 + i / 200 : Nat) : Int), ((1 + i % 200 : Nat) : Int)], ⟨#[]⟩, false⟩
def blist (n : Nat) : List S37 := (List.range n).map bkey
theorem blist_length (n : Nat) : (blist n).length = n := by simp [blist]
theorem blist_succ (n : Nat) : blist (n + 1) = blist n ++ [bkey n] := by simp [blist, List.range_succ]

theorem bkey_is (i : Nat) (h : i < 4200) : (⟨strOfNums (([(wrap64 (1 + (wrap64 (Int.tdiv (i : Int) 200)))) % 256, (wrap64 (1 + (Int.tmod (i : Int) 200))) % 256] : List Int)), (⟨#[]⟩ : ByteArray), false⟩ : S37) = bkey i := by
  have e1 : Int.tdiv (i : Int) 200 = ((i / 200 : Nat) : Int) := by rw [Int.tdiv_eq_ediv_of_nonneg (by omega)]; omega
  have e2 : Int.tmod (i : Int) 200 = ((i % 200 : Nat) : Int) := by rw [Int.tmod_eq_emod_of_nonneg (by omega)]; omega
  rw [e1, e2, w64 ((i / 200 : Nat) : Int) (by omega), w64 _ (by omega), w64 _ (by omega)]
  unfold bkey
  have h1 : (1 + ((i / 200 : Nat) : Int)) % 256 = ((1 + i / 200 : Nat) : Int) := by omega
  have h2 : (1 + ((i % 200 : Nat) : Int)) % 256 = ((1 + i % 200 : Nat) : Int) := by omega
  rw [h1, h2]

theorem byte_inj {a b : Nat} (ha : a < 256) (hb : b < 256) (h : UInt8.ofNat ((a : Int)).toNat = UInt8.ofNat ((b : Int)).toNat) : a = b := by
  have := congrArg UInt8.toNat h
  rw [Int.toNat_natCast, Int.toNat_natCast, UInt8.toNat_ofNat', UInt8.toNat_ofNat'] at this
  omega

theorem bkey_inj {i j : Nat} (hi : i < 4200) (hj : j < 4200) (h : (bkey i).f0 = (bkey j).f0) : i = j := by
  have h2 := congrArg (fun x => x.data.toList) h
  simp only [bkey, strOfNums_data, List.map_cons, List.map_nil, List.cons.injEq, and_true] at h2
  have a := byte_inj (by omega) (by omega) h2.1
  have b := byte_inj (by omega) (by omega) h2.2
  omega

theorem blist_good (n : Nat) (h : n < 4200) : Good (blist n) ↔ 1 ≤ n ∧ n ≤ 4096 := by
  unfold Good
  rw [blist_length]
  constructor
  · rintro ⟨h1, h2, _⟩; exact ⟨h1, h2⟩
  · rintro ⟨h1, h2⟩
    refine ⟨h1, h2, fun x hx => ?_, ?_⟩
    · obtain ⟨i, _, rfl⟩ := List.mem_map.1 hx
      have h1 : (bkey i).f0.size = 2 := by unfold bkey; rw [strOfNums_size]; rfl
      have h2 : (bkey i).f1.size = 0 := rfl
      have h3 : (bkey i).f2 = false := rfl
      unfold okE
      rw [h1, h2, h3]; decide
    · unfold Lone blist
      rw [List.pairwise_map]
      refine List.Pairwise.imp_of_mem ?_ (List.pairwise_lt_range (n := n))
      intro a b ha hb hab e
      rw [List.mem_range] at ha hb
      have := bkey_inj (by omega) (by omega) e
      omega

def bone (a b : Nat) : List S37 := [⟨strOfNums (List.replicate a 0), strOfNums (List.replicate b 0), false⟩]
theorem bone_good (a b : Nat) : Good (bone a b) ↔ 1 ≤ a ∧ a ≤ 1024 ∧ b ≤ 65536 := by
  unfold Good bone
  simp [okE, strOfNums_size, Lone]
  omega

open Classical in
theorem bounds_end (k : Nat) (hk : 5000 < k) (n : Nat) (hn : n < 4200) (a b : Nat) :
    ((batch_Check.f k (blist n)).bind fun t127 => (if ((blist n).length : Int) ≥ 1 then (if ((t127 == 0) == (decide (((blist n).length : Int) ≤ 4096))) = true then ((batch_Check.f k (bone a b)).bind fun t137 => (if ((a : Nat) : Int) ≥ 1 then (if ((a : Nat) : Int) ≤ 1024 then (some ((t137 == 0) == (decide (((b : Nat) : Int) ≤ 65536)))) else (some ((t137 == 0) == false))) else (some ((t137 == 0) == false)))) else (some false)) else (if ((t127 == 0) == false) = true then ((batch_Check.f k (bone a b)).bind fun t138 => (if ((a : Nat) : Int) ≥ 1 then (if ((a : Nat) : Int) ≤ 1024 then (some ((t138 == 0) == (decide (((b : Nat) : Int) ≤ 65536)))) else (some ((t138 == 0) == false))) else (some ((t138 == 0) == false)))) else (some false)))) = some true := by
  have hl : (bone a b).length = 1 := rfl
  rw [check_says _ k hk (by rw [blist_length]; omega), check_says _ k hk (by rw [hl]; omega), blist_length]
  simp only [Option.bind_some]
  have two : (if ((a : Nat) : Int) ≥ 1 then (if ((a : Nat) : Int) ≤ 1024 then (some (((if Good (bone a b) then (0 : Int) else 1) == 0) == (decide (((b : Nat) : Int) ≤ 65536)))) else (some (((if Good (bone a b) then (0 : Int) else 1) == 0) == false))) else (some (((if Good (bone a b) then (0 : Int) else 1) == 0) == false))) = some true := by
    have g := bone_good a b
    by_cases h1 : ((a : Nat) : Int) ≥ 1
    · rw [if_pos h1]
      by_cases h2 : ((a : Nat) : Int) ≤ 1024
      · rw [if_pos h2]
        by_cases h3 : b ≤ 65536
        · rw [if_pos (g.2 ⟨by omega, by omega, h3⟩), decide_eq_true (by omega)]; rfl
        · rw [if_neg fun h => h3 (g.1 h).2.2, decide_eq_false (by omega)]; rfl
      · rw [if_neg h2, if_neg fun h => h2 (by have := (g.1 h).2.1; omega)]; rfl
    · rw [if_neg h1, if_neg fun h => h1 (by have := (g.1 h).1; omega)]; rfl
  rw [two]
  have g := blist_good n hn
  by_cases h1 : ((n : Nat) : Int) ≥ 1
  · rw [if_pos h1]
    by_cases h2 : n ≤ 4096
    · rw [if_pos (g.2 ⟨by omega, h2⟩), decide_eq_true (by omega)]; rfl
    · rw [if_neg fun h => h2 (g.1 h).2, decide_eq_false (by omega)]; rfl
  · rw [if_neg h1, if_neg (show ¬ Good (blist n) from fun h => h1 (by have := (g.1 h).1; omega))]; rfl

theorem bounds_loop (a0 a1 a2 : Int) (N a b : Nat) (h0 : Int.tmod (wrap64 a0) 4200 = (N : Int)) (hN : N < 4200) (h1 : wrap64 (Int.tmod a1 1100) = (a : Int)) (ha : a < 1100) (h2 : wrap64 (65500 + (wrap64 (Int.tmod a2 80))) = (b : Int)) (hb : b < 65580) :
    ∀ (m k i : Nat), N - i = m → i ≤ N → 5001 + m < k → rundlelaw09_BatchBounds.l0 k a0 a1 a2 (blist i) (i : Int) = some true
  | 0, k, i, hm, hi, hk => by
    obtain ⟨k, rfl⟩ : ∃ k', k = k' + 1 := ⟨k - 1, by omega⟩
    obtain rfl : i = N := by omega
    rw [rundlelaw09_BatchBounds.l0, h0, h1, h2, if_neg (by omega)]
    have e := bounds_end k (by omega) i hN a b
    rw [check_says _ k (by omega) (by rw [blist_length]; omega)] at e ⊢
    simp only [Option.bind_some] at e ⊢
    rw [if_pos (by omega), if_pos (by omega), if_pos (by omega), if_pos (by omega), Int.toNat_natCast, Int.toNat_natCast]
    exact e
  | m + 1, k, i, hm, hi, hk => by
    obtain ⟨k, rfl⟩ : ∃ k', k = k' + 1 := ⟨k - 1, by omega⟩
    rw [rundlelaw09_BatchBounds.l0, h0, if_pos (by omega), if_pos (by rw [blist_length]; omega), bkey_is i (by omega), ← blist_succ, w64 _ (by omega), show ((i : Int) + 1) = ((i + 1 : Nat) : Int) from by omega]
    exact bounds_loop a0 a1 a2 N a b h0 hN h1 ha h2 hb m k (i + 1) (by omega) (by omega) (by omega)

/-- THE LAW BatchBounds. -/
theorem BatchBounds_pure (a0 a1 a2 : Int) (w0 : (Lit.int .u16 a0).wf = true) (w1 : (Lit.int .u32 a1).wf = true) (w2 : (Lit.int .u32 a2).wf = true) : rundlelaw09_BatchBounds.f 20000 a0 a1 a2 = some true := by
  have r0 : IntKind.u16.min ≤ a0 ∧ a0 ≤ IntKind.u16.max := by simpa [Lit.wf] using w0
  have r1 : IntKind.u32.min ≤ a1 ∧ a1 ≤ IntKind.u32.max := by simpa [Lit.wf] using w1
  have r2 : IntKind.u32.min ≤ a2 ∧ a2 ≤ IntKind.u32.max := by simpa [Lit.wf] using w2
  replace r0 : 0 ≤ a0 ∧ a0 ≤ 65535 := r0
  replace r1 : 0 ≤ a1 ∧ a1 ≤ 4294967295 := r1
  replace r2 : 0 ≤ a2 ∧ a2 ≤ 4294967295 := r2
  unfold rundlelaw09_BatchBounds.f
  rw [awake_says _ (by omega)]
  simp only [Option.bind_some]
  rw [if_pos trivial]
  have m1 : Int.tmod a1 1100 = a1 % 1100 := Int.tmod_eq_emod_of_nonneg (by omega)
  have m2 : Int.tmod a2 80 = a2 % 80 := Int.tmod_eq_emod_of_nonneg (by omega)
  have m0 : Int.tmod a0 4200 = a0 % 4200 := Int.tmod_eq_emod_of_nonneg (by omega)
  exact bounds_loop a0 a1 a2 (a0 % 4200).toNat (a1 % 1100).toNat (65500 + a2 % 80).toNat (by rw [w64 a0 (by omega), m0]; omega) (by omega) (by rw [m1, w64 _ (by omega)]; omega) (by omega) (by rw [m2, w64 (a2 % 80) (by omega), w64 _ (by omega)]; omega) (by omega) _ 20000 0 rfl (by omega) (by omega)
end Go.Proofs.Ytgnnhomipfjanaa.PA
