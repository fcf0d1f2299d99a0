/- The stable sort's merge comes to its plain model where one of its two parts has one element, over any row. -/
import Derived.Test.YtgnnhomipfjanaaSortA
namespace Go.Proofs.Ytgnnhomipfjanaa.Srt
open Go Go.Proofs Go.Shelf Go.RowKit Go.Lib Go.Sort
variable {P : Program} {k : Nat} {α : Type} [Inhabited α]

/-- The least place from i on, below j, of which p does not hold, by halves. -/
def bsearch (p : Nat → Bool) : Nat → Nat → Nat → Nat
  | 0, i, _ => i
  | f + 1, i, j => if i < j then (if p ((i + j) / 2) then bsearch p f ((i + j) / 2 + 1) j else bsearch p f i ((i + j) / 2)) else i

theorem bsearch_end (p : Nat → Bool) (f i j : Nat) (h : ¬ i < j) : bsearch p f i j = i := by
  cases f with
  | zero => rfl
  | succ f => rw [bsearch, if_neg h]
theorem bsearch_yes (p : Nat → Bool) (f i j : Nat) (h : i < j) (hp : p ((i + j) / 2) = true) : bsearch p (f + 1) i j = bsearch p f ((i + j) / 2 + 1) j := by
  rw [bsearch, if_pos h, if_pos hp]
theorem bsearch_no (p : Nat → Bool) (f i j : Nat) (h : i < j) (hp : p ((i + j) / 2) = false) : bsearch p (f + 1) i j = bsearch p f i ((i + j) / 2) := by
  rw [bsearch, if_pos h, if_neg (by rw [hp]; simp)]

def bubUp (d : Array α) (a : Nat) : Nat → Array α
  | 0 => d
  | n + 1 => swp (bubUp d a n) (a + n) (a + n + 1)
theorem size_bubUp (d : Array α) (a n : Nat) : (bubUp d a n).size = d.size := by
  induction n with
  | zero => rfl
  | succ n ih => rw [bubUp, size_swp, ih]

def bubDown (d : Array α) (m : Nat) : Nat → Array α
  | 0 => d
  | n + 1 => swp (bubDown d m n) (m - n) (m - n - 1)
theorem size_bubDown (d : Array α) (a n : Nat) : (bubDown d a n).size = d.size := by
  induction n with
  | zero => rfl
  | succ n ih => rw [bubDown, size_swp, ih]

set_option maxHeartbeats 8000000 in
set_option maxRecDepth 1000000 in
theorem symMerge_one (L : SL P k) (enc : α → List Value) (cf : α → α → Int) (g : Nat) (cb : Array Value) (blk off cap a b : Nat) (d0 d : Array α) (w0 w : World)
    (eg : ∀ args w, (callFunc g args).run P w = .ok (.enter g args) w) (hcmp : CmpLays P g cb enc k cf blk off d0.size w0) (R : RowK enc k w0 blk off d0) (hs : d0.size = d.size) (S : SWK enc k w0 blk off d w) (hab : a + 1 < b) (hb : b ≤ d.size) (hsz : d.size < 4611686018427387904) :
    Calls P 63 #[.slice (some ⟨blk, off, none⟩) d.size cap, .int .i64 a, .int .i64 (a + 1 : Nat), .int .i64 b, .func (.func g) #[] cb] w fun e w' =>
      e = .returned (.tuple #[]) ∧ SWK enc k w0 blk off (bubUp d a (bsearch (fun h => ltOf cf d[h]! d[a]!) (b - (a + 1)) (a + 1) b - 1 - a)) w' := by
  have mixed := L.mixed; have t0 := L.t0; have a0 := L.a0; have z0 := L.z0; have v0 := L.v0; have t3 := L.t3; have a3 := L.a3; have z3 := L.z3; have v3 := L.v3; have t4 := L.t4; have a4 := L.a4; have z4 := L.z4; have v4 := L.v4; have t25 := L.t25; have a25 := L.a25; have z25 := L.z25; have v25 := L.v25; have t98 := L.t98; have a98 := L.a98; have z98 := L.z98; have v98 := L.v98; have t124 := L.t124; have a124 := L.a124; have z124 := L.z124; have v124 := L.v124; have aE := L.aE; have zE := L.zE
  have FG := L.f63
  have HC : Aside _ := hcmp
  have S0 : Aside _ := S
  clear hcmp S L
  have em : ((a + 1 : Nat) : Int) = (a : Int) + 1 := by omega
  rw [em]
  clear em
  have e1 : ((a : Int) + 1 - (a : Int) == 1) = true := by rw [beq_iff_eq]; omega
  go_enter FG, Try.ntmps63
  go_wp2_with fail
  go_loopg [10, 11, 12] (b - (a + 1)) (fun kx s10 s11 s12 wr => ∃ (i j f : Nat), s10 = .int .i64 i ∧ s11 = .int .i64 j ∧ a + 1 ≤ i ∧ i ≤ j ∧ j ≤ b ∧ j - i ≤ kx ∧ j - i ≤ f ∧ Aside (SWK enc k w0 blk off d wr) ∧ Hid (bsearch (fun h => ltOf cf d[h]! d[a]!) f i j = bsearch (fun h => ltOf cf d[h]! d[a]!) (b - (a + 1)) (a + 1) b))
  case atStart => exact ⟨a + 1, b, b - (a + 1), by go_num, rfl, by omega, by omega, by omega, by omega, by omega, S0, rfl⟩
  case round =>
    obtain ⟨i, j, f, rfl, rfl, hi, hij, hj, hkx, hf, S1, HE⟩ := hrel
    clear S0
    by_cases hlt : i < j
    · have hltz : (i : Int) < (j : Int) := by omega
      obtain ⟨f, rfl⟩ : ∃ f', f = f' + 1 := ⟨f - 1, by omega⟩
      have ea : (((i : Int) + (j : Int)) / 2).toNat = (i + j) / 2 := by omega
      have pa : (0 : Int) ≤ ((i : Int) + (j : Int)) / 2 := by omega
      have ba : ((i : Int) + (j : Int)) / 2 < (d.size : Int) := by omega
      have ra : IntKind.i64.wrap (((i : Int) + (j : Int)) / 2) = ((i : Int) + (j : Int)) / 2 := by rw [IntKind.wrap_i64]; omega
      have ec : ((a : Int)).toNat = a := by omega
      have pc : (0 : Int) ≤ (a : Int) := by omega
      have bc : (a : Int) < (d.size : Int) := by omega
      have rc : IntKind.i64.wrap (a : Int) = (a : Int) := by rw [IntKind.wrap_i64]; omega
      obtain ⟨x, hx⟩ : ∃ x, x = d[(i + j) / 2]! := ⟨_, rfl⟩
      obtain ⟨y, hy⟩ : ∃ x, x = d[a]! := ⟨_, rfl⟩
      have la := S1.out.ld R (by omega) P ((i + j) / 2) (by omega)
      have lb := S1.out.ld R (by omega) P a (by omega)
      rw [← hx] at la
      rw [← hy] at lb
      have hc := S1.out.cmp HC.out (by omega) x y
      cases hL : ltOf cf d[(i + j) / 2]! d[a]! with
      | true =>
        have hv : cf x y < 0 := by rw [hx, hy]; exact of_decide_eq_true hL
        have hd : decide (cf x y < 0) = true := decide_eq_true hv
        have HL := Lib.hid hL
        clear hx hy hL
        go_wp2_with fail
        go_quiet_grown (first | (go_at_fn g; refine Calls.grown_of (hc _ _)))
        have S2 : Aside (SWK enc k w0 blk off d (grow (wr.drewN nq) osq)) := S1.out.grown nq osq
        clear la lb hc S1
        generalize grow (wr.drewN nq) osq = w2 at S2 ⊢
        clear nq osq
        clear ea pa ba ra
        go_wp2
        go_roundg (j - ((i + j) / 2 + 1))
        case measure => omega
        case rel => exact ⟨(i + j) / 2 + 1, j, f, by go_num, rfl, by omega, by omega, by omega, by omega, by omega, S2, (show Hid _ from (bsearch_yes _ f i j hlt HL.out).symm.trans HE.out)⟩
      | false =>
        have hv : ¬ cf x y < 0 := by rw [hx, hy]; exact of_decide_eq_false hL
        have hd : decide (cf x y < 0) = false := decide_eq_false hv
        have HL := Lib.hid hL
        clear hx hy hL
        go_wp2_with fail
        go_quiet_grown (first | (go_at_fn g; refine Calls.grown_of (hc _ _)))
        have S2 : Aside (SWK enc k w0 blk off d (grow (wr.drewN nq) osq)) := S1.out.grown nq osq
        clear la lb hc S1
        generalize grow (wr.drewN nq) osq = w2 at S2 ⊢
        clear nq osq
        clear ea pa ba ra
        go_wp2
        go_roundg ((i + j) / 2 - i)
        case measure => omega
        case rel => exact ⟨i, (i + j) / 2, f, rfl, by go_num, by omega, by omega, by omega, by omega, by omega, S2, (show Hid _ from (bsearch_no _ f i j hlt HL.out).symm.trans HE.out)⟩
    · have hltz : ¬ (i : Int) < (j : Int) := by omega
      have HI := Lib.hid ((bsearch_end _ f i j hlt).symm.trans HE.out)
      have hib : i ≤ b := by omega
      go_wp2_with fail
      clear hlt hltz hij hj hkx hf
      go_loopg [13] (i - 1 - a) (fun kx s13 wr => ∃ (n : Nat), s13 = .int .i64 (a + n : Nat) ∧ a + n ≤ i - 1 ∧ i - 1 - (a + n) ≤ kx ∧ Aside (SWK enc k w0 blk off (bubUp d a n) wr))
      case atStart => exact ⟨0, rfl, by omega, by omega, S1⟩
      case round =>
        obtain ⟨n, rfl, hn, hkx, S2⟩ := hrel
        clear S1
        by_cases hlt : a + n < i - 1
        · have em : ((a + n : Nat) : Int) = (a : Int) + (n : Int) := by omega
          rw [em]
          clear em
          have hltz : (a : Int) + (n : Int) < (i : Int) - 1 := by omega
          have hds := size_bubUp d a n
          have S4 := S2.out.swapped R (a + n) (a + n + 1) (by omega) (by omega)
          have e1 : ((a : Int) + (n : Int)).toNat = a + n := by omega
          have e2 : ((a : Int) + (n : Int) + 1).toNat = a + n + 1 := by omega
          have p1 : (0 : Int) ≤ (a : Int) + (n : Int) := by omega
          have p2 : (0 : Int) ≤ (a : Int) + (n : Int) + 1 := by omega
          have b1 : (a : Int) + (n : Int) < (d.size : Int) := by omega
          have b2 : (a : Int) + (n : Int) + 1 < (d.size : Int) := by omega
          have r1 : IntKind.i64.wrap ((a : Int) + (n : Int)) = (a : Int) + (n : Int) := by rw [IntKind.wrap_i64]; omega
          have r2 : IntKind.i64.wrap ((a : Int) + (n : Int) + 1) = (a : Int) + (n : Int) + 1 := by rw [IntKind.wrap_i64]; omega
          have la := S2.out.ld1 R (by omega) P (a + n) (by omega)
          have lb := S2.out.ld1 R (by omega) P (a + n + 1) (by omega)
          have sa := S2.out.st1 R (by omega) P (a + n) (by omega) (bubUp d a n)[a + n + 1]!
          have sb := S2.out.st2 R (by omega) P (a + n) (a + n + 1) (by omega) (by omega) (bubUp d a n)[a + n + 1]! (bubUp d a n)[a + n]!
          have na : (enc (bubUp d a n)[a + n]!).length = k := R.hk _
          have nb : (enc (bubUp d a n)[a + n + 1]!).length = k := R.hk _
          have S5 : Aside _ := S4
          clear S4 S2
          generalize enc (bubUp d a n)[a + n]! = cI at S5 la sb na
          generalize enc (bubUp d a n)[a + n + 1]! = cJ at S5 lb sa sb nb
          clear hds
          go_wp2_with fail
          go_big_region_o
          clear la lb sa sb
          generalize (wr.drew.setCells blk (off + (a + n) * k) cJ).setCells blk (off + (a + n + 1) * k) cI = w4 at S5 ⊢
          go_wp2
          go_roundg (i - 1 - (a + (n + 1)))
          case measure => omega
          case rel => exact ⟨n + 1, by go_num, by omega, by omega, S5⟩
        · have hltz : ¬ ((a + n : Nat) : Int) < (i : Int) - 1 := by omega
          go_wp2
          (try simp only [Exit.inBlock, Exit.then]); refine bodyPost_ret (results_none rfl _ _ _) rfl ?_
          refine ⟨rfl, ?_⟩
          rw [← HI.out, show i - 1 - a = n from by omega]
          exact S2.out
end Go.Proofs.Ytgnnhomipfjanaa.Srt
