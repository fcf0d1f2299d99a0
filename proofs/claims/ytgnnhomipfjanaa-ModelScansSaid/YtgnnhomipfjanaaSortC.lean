/- The stable sort's merge comes to its plain model where its second part has one element, over any row. -/
import Derived.Test.YtgnnhomipfjanaaSortB
namespace Go.Proofs.Ytgnnhomipfjanaa.Srt
open Go Go.Proofs Go.Shelf Go.RowKit Go.Lib Go.Sort
variable {P : Program} {k : Nat} {α : Type} [Inhabited α]

set_option maxHeartbeats 8000000 in
set_option maxRecDepth 1000000 in
theorem symMerge_two (L : SL P k) (enc : α → List Value) (cf : α → α → Int) (g : Nat) (cb : Array Value) (blk off cap a m : Nat) (d0 d : Array α) (w0 w : World)
    (eg : ∀ args w, (callFunc g args).run P w = .ok (.enter g args) w) (hcmp : CmpLays P g cb enc k cf blk off d0.size w0) (R : RowK enc k w0 blk off d0) (hs : d0.size = d.size) (S : SWK enc k w0 blk off d w) (hab : a + 1 < m) (hb : m + 1 ≤ d.size) (hsz : d.size < 4611686018427387904) :
    Calls P 63 #[.slice (some ⟨blk, off, none⟩) d.size cap, .int .i64 a, .int .i64 m, .int .i64 (m + 1 : Nat), .func (.func g) #[] cb] w fun e w' =>
      e = .returned (.tuple #[]) ∧ SWK enc k w0 blk off (bubDown d m (m - bsearch (fun h => !ltOf cf d[m]! d[h]!) (m - a) a m)) w' := by
  have mixed := L.mixed; have t0 := L.t0; have a0 := L.a0; have z0 := L.z0; have v0 := L.v0; have t3 := L.t3; have a3 := L.a3; have z3 := L.z3; have v3 := L.v3; have t4 := L.t4; have a4 := L.a4; have z4 := L.z4; have v4 := L.v4; have t25 := L.t25; have a25 := L.a25; have z25 := L.z25; have v25 := L.v25; have t98 := L.t98; have a98 := L.a98; have z98 := L.z98; have v98 := L.v98; have t124 := L.t124; have a124 := L.a124; have z124 := L.z124; have v124 := L.v124; have aE := L.aE; have zE := L.zE
  have FG := L.f63
  have HC : Aside _ := hcmp
  have S0 : Aside _ := S
  clear hcmp S L
  have em : ((m + 1 : Nat) : Int) = (m : Int) + 1 := by omega
  rw [em]
  clear em
  have e1 : ((m : Int) + 1 - (m : Int) == 1) = true := by rw [beq_iff_eq]; omega
  have e0 : ((m : Int) - (a : Int) == 1) = false := by rw [beq_eq_false_iff_ne]; omega
  go_enter FG, Try.ntmps63
  go_wp2_with fail
  go_loopg [14, 15, 16] (m - a) (fun kx s10 s11 s12 wr => ∃ (i j f : Nat), s10 = .int .i64 i ∧ s11 = .int .i64 j ∧ a ≤ i ∧ i ≤ j ∧ j ≤ m ∧ j - i ≤ kx ∧ j - i ≤ f ∧ Aside (SWK enc k w0 blk off d wr) ∧ Hid (bsearch (fun h => !ltOf cf d[m]! d[h]!) f i j = bsearch (fun h => !ltOf cf d[m]! d[h]!) (m - a) a m))
  case atStart => exact ⟨a, m, m - a, rfl, rfl, by omega, by omega, by omega, by omega, by omega, S0, rfl⟩
  case round =>
    obtain ⟨i, j, f, rfl, rfl, hi, hij, hj, hkx, hf, S1, HE⟩ := hrel
    clear S0
    by_cases hlt : i < j
    · have hltz : (i : Int) < (j : Int) := by omega
      obtain ⟨f, rfl⟩ : ∃ f', f = f' + 1 := ⟨f - 1, by omega⟩
      have ea : (((i : Int) + (j : Int)) / 2).toNat = (i + j) / 2 := by omega
      have pa : (0 : Int) ≤ ((i : Int) + (j : Int)) / 2 := by omega
      have ba : ((i : Int) + (j : Int)) / 2 < (d.size : Int) := by omega
      have ra : IntKind.i64.wrap (((i : Int) + (j : Int)) / 2) = ((i : Int) + (j : Int)) / 2 := by rw [IntKind.wrap_i64]; omega
      have ec : ((m : Int)).toNat = m := by omega
      have pc : (0 : Int) ≤ (m : Int) := by omega
      have bc : (m : Int) < (d.size : Int) := by omega
      have rc : IntKind.i64.wrap (m : Int) = (m : Int) := by rw [IntKind.wrap_i64]; omega
      obtain ⟨x, hx⟩ : ∃ x, x = d[(i + j) / 2]! := ⟨_, rfl⟩
      obtain ⟨y, hy⟩ : ∃ x, x = d[m]! := ⟨_, rfl⟩
      have la := S1.out.ld R (by omega) P ((i + j) / 2) (by omega)
      have lb := S1.out.ld R (by omega) P m (by omega)
      rw [← hx] at la
      rw [← hy] at lb
      have hc := S1.out.cmp HC.out (by omega) y x
      cases hL : ltOf cf d[m]! d[(i + j) / 2]! with
      | true =>
        have hv : cf y x < 0 := by rw [hx, hy]; exact of_decide_eq_true hL
        have hd : decide (cf y x < 0) = true := decide_eq_true hv
        have HL := Lib.hid hL
        clear hx hy hL
        go_wp2_with fail
        go_quiet_grown (first | (go_at_fn g; refine Calls.grown_of (hc _ _)))
        have S2 : Aside (SWK enc k w0 blk off d (grow (wr.drewN nq) osq)) := S1.out.grown nq osq
        clear la lb hc S1
        generalize grow (wr.drewN nq) osq = w2 at S2 ⊢
        clear nq osq
        clear ea pa ba ra
        go_wp2
        go_roundg ((i + j) / 2 - i)
        case measure => omega
        case rel => exact ⟨i, (i + j) / 2, f, rfl, by go_num, by omega, by omega, by omega, by omega, by omega, S2, (show Hid _ from (bsearch_no _ f i j hlt (by show (!_) = false; rw [HL.out]; rfl)).symm.trans HE.out)⟩
      | false =>
        have hv : ¬ cf y x < 0 := by rw [hx, hy]; exact of_decide_eq_false hL
        have hd : decide (cf y x < 0) = false := decide_eq_false hv
        have HL := Lib.hid hL
        clear hx hy hL
        go_wp2_with fail
        go_quiet_grown (first | (go_at_fn g; refine Calls.grown_of (hc _ _)))
        have S2 : Aside (SWK enc k w0 blk off d (grow (wr.drewN nq) osq)) := S1.out.grown nq osq
        clear la lb hc S1
        generalize grow (wr.drewN nq) osq = w2 at S2 ⊢
        clear nq osq
        clear ea pa ba ra
        go_wp2
        go_roundg (j - ((i + j) / 2 + 1))
        case measure => omega
        case rel => exact ⟨(i + j) / 2 + 1, j, f, by go_num, rfl, by omega, by omega, by omega, by omega, by omega, S2, (show Hid _ from (bsearch_yes _ f i j hlt (by show (!_) = true; rw [HL.out]; rfl)).symm.trans HE.out)⟩
    · have hltz : ¬ (i : Int) < (j : Int) := by omega
      have HI := Lib.hid ((bsearch_end _ f i j hlt).symm.trans HE.out)
      have hib : i ≤ m := by omega
      go_wp2_with fail
      clear hlt hltz hij hj hkx hf
      go_loopg [17] (m - i) (fun kx s13 wr => ∃ (n : Nat), s13 = .int .i64 (m - n : Nat) ∧ i + n ≤ m ∧ m - n - i ≤ kx ∧ Aside (SWK enc k w0 blk off (bubDown d m n) wr))
      case atStart => exact ⟨0, rfl, by omega, by omega, S1⟩
      case round =>
        obtain ⟨n, rfl, hn, hkx, S2⟩ := hrel
        clear S1
        by_cases hlt : i < m - n
        · obtain ⟨q, hq⟩ : ∃ q, q + 1 = m - n := ⟨m - n - 1, by omega⟩
          have em : ((m - n : Nat) : Int) = (q : Int) + 1 := by omega
          rw [em]
          clear em
          have hltz : (i : Int) < (q : Int) + 1 := by omega
          have hds := size_bubDown d m n
          have S4 := S2.out.swapped R (q + 1) q (by omega) (by omega)
          have e1 : ((q : Int)).toNat = q := by omega
          have e2 : ((q : Int) + 1).toNat = q + 1 := by omega
          have p1 : (0 : Int) ≤ (q : Int) := by omega
          have p2 : (0 : Int) ≤ (q : Int) + 1 := by omega
          have b1 : (q : Int) < (d.size : Int) := by omega
          have b2 : (q : Int) + 1 < (d.size : Int) := by omega
          have r1 : IntKind.i64.wrap (q : Int) = (q : Int) := by rw [IntKind.wrap_i64]; omega
          have r2 : IntKind.i64.wrap ((q : Int) + 1) = (q : Int) + 1 := by rw [IntKind.wrap_i64]; omega
          have la := S2.out.ld1 R (by omega) P (q + 1) (by omega)
          have lb := S2.out.ld1 R (by omega) P q (by omega)
          have sa := S2.out.st1 R (by omega) P (q + 1) (by omega) (bubDown d m n)[q]!
          have sb := S2.out.st2 R (by omega) P (q + 1) q (by omega) (by omega) (bubDown d m n)[q]! (bubDown d m n)[q + 1]!
          have na : (enc (bubDown d m n)[q + 1]!).length = k := R.hk _
          have nb : (enc (bubDown d m n)[q]!).length = k := R.hk _
          have S5 : Aside _ := S4
          clear S4 S2
          generalize enc (bubDown d m n)[q + 1]! = cI at S5 la sb na
          generalize enc (bubDown d m n)[q]! = cJ at S5 lb sa sb nb
          have HQ := Lib.hid hq
          clear hds hq
          go_wp2_with fail
          go_big_region_o
          clear la lb sa sb
          generalize (wr.drew.setCells blk (off + (q + 1) * k) cJ).setCells blk (off + q * k) cI = w4 at S5 ⊢
          go_wp2
          have hq := HQ.out
          go_roundg (m - (n + 1) - i)
          case measure => omega
          case rel => exact ⟨n + 1, by go_num, by omega, by omega, by show Aside (SWK enc k w0 blk off (swp (bubDown d m n) (m - n) (m - n - 1)) w4); rw [← hq, Nat.add_sub_cancel]; exact S5⟩
        · have hltz : ¬ (i : Int) < ((m - n : Nat) : Int) := by omega
          go_wp2
          (try simp only [Exit.inBlock, Exit.then]); refine bodyPost_ret (results_none rfl _ _ _) rfl ?_
          refine ⟨rfl, ?_⟩
          rw [← HI.out, show m - i = n from by omega]
          exact S2.out

end Go.Proofs.Ytgnnhomipfjanaa.Srt
