/- The range swap and the rotation of the library's stable sort come to their plain models, over any row of three cells an element. -/
import Derived.Test.YtgnnhomipfjanaaProg
import Derived.Shelf.SlSortCmp.KitK
import Derived.Sort.WalkB2
import Derived.Sort.WalkB12
import Derived.Deep.LoopGhost
import Derived.BigRegion
import Derived.WalkKit
import Derived.Lib.Hide
namespace Go.Proofs.Ytgnnhomipfjanaa.Srt
open Go Go.Proofs Go.Shelf Go.RowKit Go.Lib Go.Sort
variable {P : Program} {k : Nat} {α : Type} [Inhabited α]

/-- What the walks lean on of a program: the bodies, and what its types are; an element has k cells. -/
structure SL (P : Program) (k : Nat) : Prop where
  mixed : P.follows .mixedOrders = true
  f83 : P.funcs[83]? = some Try.f83
  f77 : P.funcs[77]? = some Try.f77
  f63 : P.funcs[63]? = some Try.f63
  f62 : P.funcs[62]? = some Try.f62
  f56 : P.funcs[56]? = some Try.f56
  f44 : P.funcs[44]? = some Try.f44
  t0 : P.underlying 0 = some (TypeDesc.tuple #[])
  a0 : ∀ w, (isAgg 0).run P w = .ok false w
  z0 : ∀ w, (Go.sizeOf 0).run P w = .ok 1 w
  v0 : ∀ w, (zeroValue 0).run P w = .ok (Value.tuple #[]) w
  t3 : P.underlying 3 = some (TypeDesc.int IntKind.i64)
  a3 : ∀ w, (isAgg 3).run P w = .ok false w
  z3 : ∀ w, (Go.sizeOf 3).run P w = .ok 1 w
  v3 : ∀ w, (zeroValue 3).run P w = .ok (Value.int IntKind.i64 0) w
  t4 : P.underlying 4 = some (TypeDesc.bool)
  a4 : ∀ w, (isAgg 4).run P w = .ok false w
  z4 : ∀ w, (Go.sizeOf 4).run P w = .ok 1 w
  v4 : ∀ w, (zeroValue 4).run P w = .ok (Value.bool false) w
  t25 : P.underlying 25 = some (TypeDesc.slice 37)
  a25 : ∀ w, (isAgg 25).run P w = .ok false w
  z25 : ∀ w, (Go.sizeOf 25).run P w = .ok 1 w
  v25 : ∀ w, (zeroValue 25).run P w = .ok (Value.slice none 0 0) w
  t98 : P.underlying 98 = some (TypeDesc.func #[37, 37] #[3] false)
  a98 : ∀ w, (isAgg 98).run P w = .ok false w
  z98 : ∀ w, (Go.sizeOf 98).run P w = .ok 1 w
  v98 : ∀ w, (zeroValue 98).run P w = .ok (Value.nilFunc) w
  t124 : P.underlying 124 = some (TypeDesc.int IntKind.u64)
  a124 : ∀ w, (isAgg 124).run P w = .ok false w
  z124 : ∀ w, (Go.sizeOf 124).run P w = .ok 1 w
  v124 : ∀ w, (zeroValue 124).run P w = .ok (Value.int IntKind.u64 0) w
  aE : ∀ w, (isAgg 37).run P w = .ok true w
  zE : ∀ w, (Go.sizeOf 37).run P w = .ok k w

theorem SL.try_ : SL Try.prog 3 where
  mixed := by kernel_rfl
  f83 := Try.func83
  f77 := Try.func77
  f63 := Try.func63
  f62 := Try.func62
  f56 := Try.func56
  f44 := Try.func44
  t0 := Try.underlying0
  a0 := Try.isAgg0
  z0 := Try.sizeOf0
  v0 := Try.zeroValue0
  t3 := Try.underlying3
  a3 := Try.isAgg3
  z3 := Try.sizeOf3
  v3 := Try.zeroValue3
  t4 := Try.underlying4
  a4 := Try.isAgg4
  z4 := Try.sizeOf4
  v4 := Try.zeroValue4
  t25 := Try.underlying25
  a25 := Try.isAgg25
  z25 := Try.sizeOf25
  v25 := Try.zeroValue25
  t98 := Try.underlying98
  a98 := Try.isAgg98
  z98 := Try.sizeOf98
  v98 := Try.zeroValue98
  t124 := Try.underlying124
  a124 := Try.isAgg124
  z124 := Try.sizeOf124
  v124 := Try.zeroValue124
  aE := Try.isAgg37
  zE := Try.sizeOf37

def swapRange (d : Array α) (a b : Nat) : Nat → Array α
  | 0 => d
  | n + 1 => swp (swapRange d a b n) (a + n) (b + n)

theorem size_swapRange (d : Array α) (a b n : Nat) : (swapRange d a b n).size = d.size := by
  induction n with
  | zero => rfl
  | succ n ih => rw [swapRange, size_swp, ih]

set_option maxHeartbeats 4000000 in
set_option maxRecDepth 1000000 in
theorem swapRange_calls (L : SL P k) (enc : α → List Value) (g : Nat) (cb : Array Value) (blk off cap a b n : Nat) (d0 d : Array α) (w0 w : World)
    (R : RowK enc k w0 blk off d0) (hs : d0.size = d.size) (S : SWK enc k w0 blk off d w) (ha : a + n ≤ d.size) (hb : b + n ≤ d.size) (hsz : d.size < 4611686018427387904) :
    Calls P 83 #[.slice (some ⟨blk, off, none⟩) d.size cap, .int .i64 a, .int .i64 b, .int .i64 n, .func (.func g) #[] cb] w fun e w' =>
      e = .returned (.tuple #[]) ∧ SWK enc k w0 blk off (swapRange d a b n) w' := by
  have mixed := L.mixed; have t0 := L.t0; have a0 := L.a0; have z0 := L.z0; have v0 := L.v0; have t3 := L.t3; have a3 := L.a3; have z3 := L.z3; have v3 := L.v3; have t4 := L.t4; have a4 := L.a4; have z4 := L.z4; have v4 := L.v4; have t25 := L.t25; have a25 := L.a25; have z25 := L.z25; have v25 := L.v25; have t98 := L.t98; have a98 := L.a98; have z98 := L.z98; have v98 := L.v98; have aE := L.aE; have zE := L.zE
  have FG := L.f83
  have S0 : Aside _ := S
  clear S L
  go_enter FG, Try.ntmps83
  go_wp2
  go_loopg [10] n (fun kx s10 wr => ∃ (i : Nat), s10 = .int .i64 i ∧ i ≤ n ∧ n - i ≤ kx ∧ Aside (SWK enc k w0 blk off (swapRange d a b i) wr))
  case atStart => exact ⟨0, rfl, by omega, by omega, S0⟩
  case round =>
    obtain ⟨i, rfl, hi, hkx, S1⟩ := hrel
    clear S0
    by_cases hlt : i < n
    · have hltz : (i : Int) < (n : Int) := by omega
      have hds := size_swapRange d a b i
      have S4 := S1.out.swapped R (a + i) (b + i) (by omega) (by omega)
      have e1 : ((a : Int) + (i : Int)).toNat = a + i := by omega
      have e2 : ((b : Int) + (i : Int)).toNat = b + i := by omega
      have p1 : (0 : Int) ≤ (a : Int) + (i : Int) := by omega
      have p2 : (0 : Int) ≤ (b : Int) + (i : Int) := by omega
      have b1 : (a : Int) + (i : Int) < (d.size : Int) := by omega
      have b2 : (b : Int) + (i : Int) < (d.size : Int) := by omega
      have r1 : IntKind.i64.wrap ((a : Int) + (i : Int)) = (a : Int) + (i : Int) := by rw [IntKind.wrap_i64]; omega
      have r2 : IntKind.i64.wrap ((b : Int) + (i : Int)) = (b : Int) + (i : Int) := by rw [IntKind.wrap_i64]; omega
      have la := S1.out.ld1 R (by omega) P (a + i) (by omega)
      have lb := S1.out.ld1 R (by omega) P (b + i) (by omega)
      have sa := S1.out.st1 R (by omega) P (a + i) (by omega) (swapRange d a b i)[b + i]!
      have sb := S1.out.st2 R (by omega) P (a + i) (b + i) (by omega) (by omega) (swapRange d a b i)[b + i]! (swapRange d a b i)[a + i]!
      have na : (enc (swapRange d a b i)[a + i]!).length = k := R.hk _
      have nb : (enc (swapRange d a b i)[b + i]!).length = k := R.hk _
      have S5 : Aside _ := S4
      clear S4 S1
      generalize enc (swapRange d a b i)[a + i]! = cI at S5 la sb na
      generalize enc (swapRange d a b i)[b + i]! = cJ at S5 lb sa sb nb
      clear hds
      go_wp2_with fail
      go_big_region_o
      clear la lb sa sb
      generalize (wr.drew.setCells blk (off + (a + i) * k) cJ).setCells blk (off + (b + i) * k) cI = w4 at S5 ⊢
      go_wp2
      go_roundg (n - (i + 1))
      case measure => omega
      case rel => exact ⟨i + 1, by go_num, by omega, by omega, S5⟩
    · have hltz : ¬ (i : Int) < (n : Int) := by omega
      obtain rfl : i = n := by omega
      go_wp2
      go_end0
      exact ⟨rfl, S1.out⟩

def rot (m : Nat) : Nat → Nat → Nat → Array α → Array α
  | 0, _, _, d => d
  | f + 1, i, j, d =>
    if i = j then swapRange d (m - i) m i
    else if j < i then rot m f (i - j) j (swapRange d (m - i) m j)
    else rot m f i (j - i) (swapRange d (m - i) (m + j - i) i)

theorem rot_gt (m f i j : Nat) (d : Array α) (h : ¬ i = j) (h2 : j < i) : rot m (f + 1) i j d = rot m f (i - j) j (swapRange d (m - i) m j) := by rw [rot, if_neg h, if_pos h2]
theorem rot_lt (m f i j : Nat) (d : Array α) (h : ¬ i = j) (h2 : ¬ j < i) : rot m (f + 1) i j d = rot m f i (j - i) (swapRange d (m - i) (m + j - i) i) := by rw [rot, if_neg h, if_neg h2]

theorem size_rot (m : Nat) : ∀ (f i j : Nat) (d : Array α), (rot m f i j d).size = d.size
  | 0, _, _, _ => rfl
  | f + 1, i, j, d => by
    unfold rot
    split
    · exact size_swapRange _ _ _ _
    · split
      · rw [size_rot m f, size_swapRange]
      · rw [size_rot m f, size_swapRange]

set_option maxHeartbeats 4000000 in
set_option maxRecDepth 1000000 in
theorem rotate_calls (L : SL P k) (enc : α → List Value) (g : Nat) (cb : Array Value) (blk off cap a m b : Nat) (d0 d : Array α) (w0 w : World)
    (R : RowK enc k w0 blk off d0) (hs : d0.size = d.size) (S : SWK enc k w0 blk off d w) (ha : a < m) (hm : m < b) (hb : b ≤ d.size) (hsz : d.size < 4611686018427387904) :
    Calls P 77 #[.slice (some ⟨blk, off, none⟩) d.size cap, .int .i64 a, .int .i64 m, .int .i64 b, .func (.func g) #[] cb] w fun e w' =>
      e = .returned (.tuple #[]) ∧ SWK enc k w0 blk off (rot m (b - a) (m - a) (b - m) d) w' := by
  have mixed := L.mixed; have t0 := L.t0; have a0 := L.a0; have z0 := L.z0; have v0 := L.v0; have t3 := L.t3; have a3 := L.a3; have z3 := L.z3; have v3 := L.v3; have t4 := L.t4; have a4 := L.a4; have z4 := L.z4; have v4 := L.v4; have t25 := L.t25; have a25 := L.a25; have z25 := L.z25; have v25 := L.v25; have t98 := L.t98; have a98 := L.a98; have z98 := L.z98; have v98 := L.v98
  have FG := L.f77
  have e83 : ∀ args w, (callFunc 83 args).run P w = .ok (.enter 83 args) w := enters_of L.f83 (by kernel_rfl) rfl
  have S0 : Aside _ := S
  have LL : Aside _ := L
  clear S L
  have r1 : (m : Int) - (a : Int) = ((m - a : Nat) : Int) := by omega
  have r2 : (b : Int) - (m : Int) = ((b - m : Nat) : Int) := by omega
  go_enter FG, Try.ntmps77
  go_wp2
  go_loopg [10, 11] (b - a) (fun kx s10 s11 wr => ∃ (i j f : Nat) (dk : Array α), s10 = .int .i64 i ∧ s11 = .int .i64 j ∧ 1 ≤ i ∧ 1 ≤ j ∧ a + i ≤ m ∧ m + j ≤ b ∧ i + j ≤ kx ∧ i + j ≤ f ∧ dk.size = d.size ∧ Aside (SWK enc k w0 blk off dk wr) ∧ Hid (rot m f i j dk = rot m (b - a) (m - a) (b - m) d))
  case atStart => exact ⟨m - a, b - m, b - a, d, rfl, rfl, by omega, by omega, by omega, by omega, by omega, by omega, rfl, S0, rfl⟩
  case round =>
    obtain ⟨i, j, f, dk, rfl, rfl, hi, hj, hai, hjb, hkx, hf, hds, S1, HE⟩ := hrel
    clear S0 r1 r2
    obtain ⟨f, rfl⟩ : ∃ f', f = f' + 1 := ⟨f - 1, by omega⟩
    have em : (m : Int) - (i : Int) = ((m - i : Nat) : Int) := by omega
    by_cases hij : i = j
    · subst hij
      have hne : ((i : Int) != (i : Int)) = false := by simp
      have C := fun wx S => swapRange_calls LL.out enc g cb blk off cap (m - i) m i d0 dk w0 wx R (by omega) S (by omega) (by omega) (by omega)
      rw [hds, ← em] at C
      have CC := Lib.hid C
      clear C em
      go_wp2_with fail
      refine (CC.out _ S1.out).mono ?_
      rintro e w' ⟨rfl, S2⟩
      go_wp2
      go_end0
      refine ⟨rfl, ?_⟩
      rw [← HE.out, rot, if_pos rfl]
      exact S2
    · have hne : ((i : Int) != (j : Int)) = true := by rw [bne_iff_ne]; omega
      by_cases hji : j < i
      · have hjiz : (j : Int) < (i : Int) := by omega
        have C := fun wx S => swapRange_calls LL.out enc g cb blk off cap (m - i) m j d0 dk w0 wx R (by omega) S (by omega) (by omega) (by omega)
        rw [hds, ← em] at C
        have CC := Lib.hid C
        clear C em
        go_wp2_with fail
        refine (CC.out _ S1.out).mono ?_
        rintro e w' ⟨rfl, S2⟩
        go_wp2
        go_roundg (i - j + j)
        case measure => omega
        case rel => exact ⟨i - j, j, f, swapRange dk (m - i) m j, by go_num, rfl, by omega, by omega, by omega, by omega, by omega, by omega, by rw [size_swapRange]; exact hds, S2, (show Hid _ from (rot_gt m f i j dk hij hji).symm.trans HE.out)⟩
      · have hjiz : ¬ (j : Int) < (i : Int) := by omega
        have em2 : (m : Int) + (j : Int) - (i : Int) = ((m + j - i : Nat) : Int) := by omega
        have C := fun wx S => swapRange_calls LL.out enc g cb blk off cap (m - i) (m + j - i) i d0 dk w0 wx R (by omega) S (by omega) (by omega) (by omega)
        rw [hds, ← em, ← em2] at C
        have CC := Lib.hid C
        clear C em em2
        go_wp2_with fail
        refine (CC.out _ S1.out).mono ?_
        rintro e w' ⟨rfl, S2⟩
        go_wp2
        go_roundg (i + (j - i))
        case measure => omega
        case rel => exact ⟨i, j - i, f, swapRange dk (m - i) (m + j - i) i, rfl, by go_num, by omega, by omega, by omega, by omega, by omega, by omega, by rw [size_swapRange]; exact hds, S2, (show Hid _ from (rot_lt m f i j dk hij hji).symm.trans HE.out)⟩
end Go.Proofs.Ytgnnhomipfjanaa.Srt
