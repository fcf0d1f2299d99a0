/- The stable sort's merge comes to its plain model, over any row. -/
import Derived.Test.YtgnnhomipfjanaaSortC
namespace Go.Proofs.Ytgnnhomipfjanaa.Srt
open Go Go.Proofs Go.Shelf Go.RowKit Go.Lib Go.Sort
variable {P : Program} {k : Nat} {α : Type} [Inhabited α]

theorem bsearch_range (p : Nat → Bool) : ∀ (f i j : Nat), i ≤ j → i ≤ bsearch p f i j ∧ bsearch p f i j ≤ j
  | 0, i, j, h => ⟨Nat.le_refl _, h⟩
  | f + 1, i, j, h => by
    rw [bsearch]
    split
    · split
      · have := bsearch_range p f ((i + j) / 2 + 1) j (by omega); omega
      · have := bsearch_range p f i ((i + j) / 2) (by omega); omega
    · omega

/-- Where the two parts are parted: n = mid + m. -/
def cutAt (lt : α → α → Bool) (a m b : Nat) (d : Array α) : Nat :=
  if (a + b) / 2 < m then bsearch (fun c => !lt d[(a + b) / 2 + m - 1 - c]! d[c]!) (b - m) ((a + b) / 2 + m - b) ((a + b) / 2)
  else bsearch (fun c => !lt d[(a + b) / 2 + m - 1 - c]! d[c]!) (m - a) a m

def symM (lt : α → α → Bool) : Nat → Nat → Nat → Nat → Array α → Array α
  | 0, _, _, _, d => d
  | f + 1, a, m, b, d =>
    if m = a + 1 then bubUp d a (bsearch (fun h => lt d[h]! d[a]!) (b - (a + 1)) (a + 1) b - 1 - a)
    else if b = m + 1 then bubDown d m (m - bsearch (fun h => !lt d[m]! d[h]!) (m - a) a m)
    else
      let st := cutAt lt a m b d
      let e := (a + b) / 2 + m - st
      let d1 := if st < m ∧ m < e then rot m (e - st) (m - st) (e - m) d else d
      let d2 := if a < st ∧ st < (a + b) / 2 then symM lt f a st ((a + b) / 2) d1 else d1
      if (a + b) / 2 < e ∧ e < b then symM lt f ((a + b) / 2) e b d2 else d2

theorem cutAt_range (lt : α → α → Bool) (a m b : Nat) (d : Array α) (h1 : a < m) (h2 : m < b) :
    a ≤ cutAt lt a m b d ∧ cutAt lt a m b d ≤ m ∧ cutAt lt a m b d ≤ (a + b) / 2 ∧ m ≤ (a + b) / 2 + m - cutAt lt a m b d ∧ (a + b) / 2 ≤ (a + b) / 2 + m - cutAt lt a m b d ∧ (a + b) / 2 + m - cutAt lt a m b d ≤ b := by
  unfold cutAt
  split
  · have := bsearch_range (fun c => !lt d[(a + b) / 2 + m - 1 - c]! d[c]!) (b - m) ((a + b) / 2 + m - b) ((a + b) / 2) (by omega); omega
  · have := bsearch_range (fun c => !lt d[(a + b) / 2 + m - 1 - c]! d[c]!) (m - a) a m (by omega); omega

theorem size_symM (lt : α → α → Bool) : ∀ (f a m b : Nat) (d : Array α), (symM lt f a m b d).size = d.size
  | 0, _, _, _, _ => rfl
  | f + 1, a, m, b, d => by
    have ih := size_symM lt f
    rw [symM]
    split
    · exact size_bubUp _ _ _
    · split
      · exact size_bubDown _ _ _
      · dsimp only
        have h1 : (if cutAt lt a m b d < m ∧ m < (a + b) / 2 + m - cutAt lt a m b d then rot m ((a + b) / 2 + m - cutAt lt a m b d - cutAt lt a m b d) (m - cutAt lt a m b d) ((a + b) / 2 + m - cutAt lt a m b d - m) d else d).size = d.size := by
          split
          · exact size_rot _ _ _ _ _
          · rfl
        generalize (if cutAt lt a m b d < m ∧ m < (a + b) / 2 + m - cutAt lt a m b d then rot m ((a + b) / 2 + m - cutAt lt a m b d - cutAt lt a m b d) (m - cutAt lt a m b d) ((a + b) / 2 + m - cutAt lt a m b d - m) d else d) = d1 at h1
        have h2 : (if a < cutAt lt a m b d ∧ cutAt lt a m b d < (a + b) / 2 then symM lt f a (cutAt lt a m b d) ((a + b) / 2) d1 else d1).size = d.size := by
          split
          · rw [ih, h1]
          · exact h1
        split
        · rw [ih, h2]
        · exact h2

theorem symM_main (lt : α → α → Bool) (f a m b i e md : Nat) (d : Array α) (h1 : ¬ m = a + 1) (h2 : ¬ b = m + 1) (hmd : md = (a + b) / 2) (hi : cutAt lt a m b d = i) (he : e = md + m - i) :
    symM lt (f + 1) a m b d = (if md < e ∧ e < b then symM lt f md e b (if a < i ∧ i < md then symM lt f a i md (if i < m ∧ m < e then rot m (e - i) (m - i) (e - m) d else d) else (if i < m ∧ m < e then rot m (e - i) (m - i) (e - m) d else d)) else (if a < i ∧ i < md then symM lt f a i md (if i < m ∧ m < e then rot m (e - i) (m - i) (e - m) d else d) else (if i < m ∧ m < e then rot m (e - i) (m - i) (e - m) d else d))) := by
  subst hmd hi he
  rw [symM, if_neg h1, if_neg h2]

def SymSays (P : Program) (k : Nat) (enc : α → List Value) (cf : α → α → Int) (g : Nat) (cb : Array Value) (blk off cap : Nat) (d0 : Array α) (w0 : World) (f : Nat) : Prop :=
  ∀ (a m b : Nat) (d : Array α) (w : World), d0.size = d.size → SWK enc k w0 blk off d w → a < m → m < b → b ≤ d.size → b - a ≤ f →
    Calls P 63 #[.slice (some ⟨blk, off, none⟩) d.size cap, .int .i64 a, .int .i64 m, .int .i64 b, .func (.func g) #[] cb] w fun e w' =>
      e = .returned (.tuple #[]) ∧ SWK enc k w0 blk off (symM (ltOf cf) f a m b d) w'

theorem SymSays.at {enc : α → List Value} {cf : α → α → Int} {g : Nat} {cb : Array Value} {blk off cap : Nat} {d0 : Array α} {w0 : World} {f : Nat} (h : SymSays P k enc cf g cb blk off cap d0 w0 f) {N : Nat} (a m b : Nat) (d : Array α) (w : World) (hN : d.size = N) (hs : d0.size = d.size) (S : SWK enc k w0 blk off d w) (h1 : a < m) (h2 : m < b) (h3 : b ≤ d.size) (h4 : b - a ≤ f) {x y z : Int} (ex : x = a) (ey : y = m) (ez : z = b) :
    Calls P 63 #[.slice (some ⟨blk, off, none⟩) N cap, .int .i64 x, .int .i64 y, .int .i64 z, .func (.func g) #[] cb] w fun e w' =>
      e = .returned (.tuple #[]) ∧ SWK enc k w0 blk off (symM (ltOf cf) f a m b d) w' := by
  subst ex ey ez hN
  exact h a m b d w hs S h1 h2 h3 h4

theorem rotate_at (L : SL P k) (enc : α → List Value) (g : Nat) (cb : Array Value) (blk off cap a m b : Nat) (d0 d : Array α) (w0 w : World) {N : Nat} (hN : d.size = N)
    (R : RowK enc k w0 blk off d0) (hs : d0.size = d.size) (S : SWK enc k w0 blk off d w) (ha : a < m) (hm : m < b) (hb : b ≤ d.size) (hsz : d.size < 4611686018427387904) {x y z : Int} (ex : x = a) (ey : y = m) (ez : z = b) :
    Calls P 77 #[.slice (some ⟨blk, off, none⟩) N cap, .int .i64 x, .int .i64 y, .int .i64 z, .func (.func g) #[] cb] w fun e w' =>
      e = .returned (.tuple #[]) ∧ SWK enc k w0 blk off (rot m (b - a) (m - a) (b - m) d) w' := by
  subst ex ey ez hN
  exact rotate_calls L enc g cb blk off cap a m b d0 d w0 w R hs S ha hm hb hsz

set_option maxHeartbeats 16000000 in
set_option maxRecDepth 1000000 in
theorem symMerge_main (L : SL P k) (enc : α → List Value) (cf : α → α → Int) (g : Nat) (cb : Array Value) (blk off cap a m b f : Nat) (d0 d : Array α) (w0 w : World) (IH : SymSays P k enc cf g cb blk off cap d0 w0 f)
    (eg : ∀ args w, (callFunc g args).run P w = .ok (.enter g args) w) (hcmp : CmpLays P g cb enc k cf blk off d0.size w0) (R : RowK enc k w0 blk off d0) (hs : d0.size = d.size) (S : SWK enc k w0 blk off d w) (ham : a + 1 < m) (hmb : m + 1 < b) (hb : b ≤ d.size) (hsz : d.size < 4611686018427387904) (hf : b - a ≤ f + 1) :
    Calls P 63 #[.slice (some ⟨blk, off, none⟩) d.size cap, .int .i64 a, .int .i64 m, .int .i64 b, .func (.func g) #[] cb] w fun e w' =>
      e = .returned (.tuple #[]) ∧ SWK enc k w0 blk off (symM (ltOf cf) (f + 1) a m b d) w' := by
  have mixed := L.mixed; have t0 := L.t0; have a0 := L.a0; have z0 := L.z0; have v0 := L.v0; have t3 := L.t3; have a3 := L.a3; have z3 := L.z3; have v3 := L.v3; have t4 := L.t4; have a4 := L.a4; have z4 := L.z4; have v4 := L.v4; have t25 := L.t25; have a25 := L.a25; have z25 := L.z25; have v25 := L.v25; have t98 := L.t98; have a98 := L.a98; have z98 := L.z98; have v98 := L.v98; have t124 := L.t124; have a124 := L.a124; have z124 := L.z124; have v124 := L.v124; have aE := L.aE; have zE := L.zE
  have FG := L.f63
  have e77 : ∀ args w, (callFunc 77 args).run P w = .ok (.enter 77 args) w := enters_of L.f77 (by kernel_rfl) rfl
  have e63 : ∀ args w, (callFunc 63 args).run P w = .ok (.enter 63 args) w := enters_of L.f63 (by kernel_rfl) rfl
  have LL : Aside _ := L
  have HC : Aside _ := hcmp
  have S0 : Aside _ := S
  have HI : Aside _ := IH
  clear hcmp S L IH
  have e0 : ((m : Int) - (a : Int) == 1) = false := by rw [beq_eq_false_iff_ne]; omega
  have e1 : ((b : Int) - (m : Int) == 1) = false := by rw [beq_eq_false_iff_ne]; omega
  obtain ⟨md, hmd⟩ : ∃ md, md = (a + b) / 2 := ⟨_, rfl⟩
  have hmd1 : 2 * md ≤ a + b := by omega
  have hmd2 : a + b ≤ 2 * md + 1 := by omega
  have emd : ((a : Int) + (b : Int)) / 2 = (md : Int) := by omega
  have HMD := Lib.hid hmd
  clear hmd
  by_cases hmm : md < m
  · have hmmz : (md : Int) < (m : Int) := by omega
    obtain ⟨lo, hlo⟩ : ∃ lo, lo + b = md + m := ⟨md + m - b, by omega⟩
    have hlo2 : (md : Int) + (m : Int) - (b : Int) = (lo : Int) := by omega
    have HCUT : Hid (bsearch (fun c => !ltOf cf d[md + m - 1 - c]! d[c]!) (b - m) lo md = cutAt (ltOf cf) a m b d) := by
      show _ = _
      unfold cutAt
      rw [← HMD.out, if_pos hmm, show md + m - b = lo from by omega]
    have k1 : lo ≤ md := by omega
    have k2 : md ≤ md := by omega
    have k3 : md ≤ m := by omega
    have k4 : a ≤ lo := by omega
    have k5 : md + m ≤ b + lo := by omega
    have k6 : md - lo ≤ (b - m) := by omega
    have HLO := Lib.hid hlo2
    clear hlo hlo2
    go_enter FG, Try.ntmps63
    go_wp2_with fail
    go_loopg [20, 21, 23] (b - m) (fun kx s20 s21 s23 wr => ∃ (i j f' : Nat), s20 = .int .i64 i ∧ s21 = .int .i64 j ∧ lo ≤ i ∧ i ≤ j ∧ j ≤ md ∧ j - i ≤ kx ∧ j - i ≤ f' ∧ Aside (SWK enc k w0 blk off d wr) ∧ Hid (bsearch (fun c => !ltOf cf d[md + m - 1 - c]! d[c]!) f' i j = cutAt (ltOf cf) a m b d))
    case atStart => exact ⟨lo, md, (b - m), by rw [← HLO.out], rfl, by omega, by omega, by omega, by omega, by omega, S0, HCUT⟩
    case round =>
      obtain ⟨i, j, f', rfl, rfl, hi, hij, hj, hkx, hf', S1, HE⟩ := hrel
      clear S0
      by_cases hlt : i < j
      · have hltz : (i : Int) < (j : Int) := by omega
        obtain ⟨f', rfl⟩ : ∃ f0, f' = f0 + 1 := ⟨f' - 1, by omega⟩
        have ea : (((i : Int) + (j : Int)) / 2).toNat = (i + j) / 2 := by omega
        have pa : (0 : Int) ≤ ((i : Int) + (j : Int)) / 2 := by omega
        have ba : ((i : Int) + (j : Int)) / 2 < (d.size : Int) := by omega
        have ra : IntKind.i64.wrap (((i : Int) + (j : Int)) / 2) = ((i : Int) + (j : Int)) / 2 := by rw [IntKind.wrap_i64]; omega
        obtain ⟨q, hq⟩ : ∃ q, q = md + m - 1 - (i + j) / 2 := ⟨_, rfl⟩
        have pc : (0 : Int) ≤ (q : Int) := by omega
        have bc : (q : Int) < (d.size : Int) := by omega
        have rc : IntKind.i64.wrap ((md : Int) + (m : Int) - 1 - ((i : Int) + (j : Int)) / 2) = (q : Int) := by rw [IntKind.wrap_i64]; omega
        obtain ⟨x, hx⟩ : ∃ x, x = d[(i + j) / 2]! := ⟨_, rfl⟩
        obtain ⟨y, hy⟩ : ∃ x, x = d[q]! := ⟨_, rfl⟩
        have la := S1.out.ld R (by omega) P ((i + j) / 2) (by omega)
        have lb := S1.out.ld R (by omega) P q (by omega)
        rw [← hx] at la
        rw [← hy] at lb
        have hc := S1.out.cmp HC.out (by omega) y x
        have HQ := Lib.hid hq
        cases hL : ltOf cf d[q]! d[(i + j) / 2]! with
        | true =>
          have hv : cf y x < 0 := by rw [hx, hy]; exact of_decide_eq_true hL
          have hd : decide (cf y x < 0) = true := decide_eq_true hv
          have HL := Lib.hid hL
          clear hx hy hL hq
          go_wp2_with fail
          go_quiet_grown (first | (go_at_fn g; refine Calls.grown_of (hc _ _)))
          have S2 : Aside (SWK enc k w0 blk off d (grow (wr.drewN nq) osq)) := S1.out.grown nq osq
          clear la lb hc S1
          generalize grow (wr.drewN nq) osq = w2 at S2 ⊢
          clear nq osq
          clear ea pa ba ra pc bc rc
          go_wp2
          go_roundg ((i + j) / 2 - i)
          case measure => omega
          case rel => exact ⟨i, (i + j) / 2, f', rfl, by go_num, by omega, by omega, by omega, by omega, by omega, S2, (show Hid _ from (bsearch_no _ f' i j hlt (by show (!ltOf cf d[md + m - 1 - (i + j) / 2]! d[(i + j) / 2]!) = false; rw [← HQ.out, HL.out]; rfl)).symm.trans HE.out)⟩
        | false =>
          have hv : ¬ cf y x < 0 := by rw [hx, hy]; exact of_decide_eq_false hL
          have hd : decide (cf y x < 0) = false := decide_eq_false hv
          have HL := Lib.hid hL
          clear hx hy hL hq
          go_wp2_with fail
          go_quiet_grown (first | (go_at_fn g; refine Calls.grown_of (hc _ _)))
          have S2 : Aside (SWK enc k w0 blk off d (grow (wr.drewN nq) osq)) := S1.out.grown nq osq
          clear la lb hc S1
          generalize grow (wr.drewN nq) osq = w2 at S2 ⊢
          clear nq osq
          clear ea pa ba ra pc bc rc
          go_wp2
          go_roundg (j - ((i + j) / 2 + 1))
          case measure => omega
          case rel => exact ⟨(i + j) / 2 + 1, j, f', by go_num, rfl, by omega, by omega, by omega, by omega, by omega, S2, (show Hid _ from (bsearch_yes _ f' i j hlt (by show (!ltOf cf d[md + m - 1 - (i + j) / 2]! d[(i + j) / 2]!) = true; rw [← HQ.out, HL.out]; rfl)).symm.trans HE.out)⟩
      · have hltz : ¬ (i : Int) < (j : Int) := by omega
        have HI2 := Lib.hid ((bsearch_end _ f' i j hlt).symm.trans HE.out)
        obtain ⟨e, he⟩ : ∃ e, e + i = md + m := ⟨md + m - i, by omega⟩
        have he1 : e + i ≤ md + m := by omega
        have he2 : md + m ≤ e + i := by omega
        have eE : (md : Int) + (m : Int) - (i : Int) = (e : Int) := by omega
        have HM := Lib.hid (symM_main (ltOf cf) f a m b i e md d (by omega) (by omega) HMD.out HI2.out.symm (by omega))
        clear he
        by_cases z1 : i < m <;> by_cases z2 : i < md <;> by_cases z3 : a < i <;> by_cases z4 : e < b
        · have y1 : (i : Int) < (m : Int) := by omega
          have y2 : (m : Int) < (e : Int) := by omega
          have y3 : (a : Int) < (i : Int) := by omega
          have y4 : (i : Int) < (md : Int) := by omega
          have y5 : (md : Int) < (e : Int) := by omega
          have y6 : (e : Int) < (b : Int) := by omega
          go_wp2_with fail
          refine (rotate_at LL.out enc g cb blk off cap i m e d0 d w0 _ rfl R (by omega) S1.out (by omega) (by omega) (by omega) (by omega) rfl rfl rfl).mono ?_
          rintro e' w2 ⟨rfl, S2'⟩
          have S2 : Aside _ := S2'
          clear S2'
          have hz2 : (rot m (e - i) (m - i) (e - m) d).size = d.size := size_rot _ _ _ _ _
          generalize hr : rot m (e - i) (m - i) (e - m) d = d1 at S2 hz2
          have HR := Lib.hid hr
          clear hr
          go_wp2_with fail
          refine (SymSays.at HI.out a i md d1 _ (by omega) (by omega) S2.out (by omega) (by omega) (by omega) (by omega) rfl rfl rfl).mono ?_
          rintro e' w3 ⟨rfl, S3'⟩
          have S3 : Aside _ := S3'
          clear S3'
          have hz3 : (symM (ltOf cf) f a i md d1).size = d1.size := size_symM _ _ _ _ _ _
          generalize hr3 : symM (ltOf cf) f a i md d1 = d2 at S3 hz3
          have HR3 := Lib.hid hr3
          clear hr3
          go_wp2_with fail
          refine (SymSays.at HI.out md e b d2 _ (by omega) (by omega) S3.out (by omega) (by omega) (by omega) (by omega) rfl rfl rfl).mono ?_
          rintro e' w4 ⟨rfl, S4'⟩
          have S4 : Aside _ := S4'
          clear S4'
          go_wp2_with fail
          go_end0
          refine ⟨rfl, ?_⟩
          rw [HM.out, if_pos (show md < e ∧ e < b from ⟨by omega, z4⟩), if_pos (show a < i ∧ i < md from ⟨z3, z2⟩), if_pos (show i < m ∧ m < e from ⟨z1, by omega⟩), HR.out, HR3.out]
          exact S4.out
        · have y1 : (i : Int) < (m : Int) := by omega
          have y2 : (m : Int) < (e : Int) := by omega
          have y3 : (a : Int) < (i : Int) := by omega
          have y4 : (i : Int) < (md : Int) := by omega
          have y5 : (md : Int) < (e : Int) := by omega
          have y6 : ¬ (e : Int) < (b : Int) := by omega
          go_wp2_with fail
          refine (rotate_at LL.out enc g cb blk off cap i m e d0 d w0 _ rfl R (by omega) S1.out (by omega) (by omega) (by omega) (by omega) rfl rfl rfl).mono ?_
          rintro e' w2 ⟨rfl, S2'⟩
          have S2 : Aside _ := S2'
          clear S2'
          have hz2 : (rot m (e - i) (m - i) (e - m) d).size = d.size := size_rot _ _ _ _ _
          generalize hr : rot m (e - i) (m - i) (e - m) d = d1 at S2 hz2
          have HR := Lib.hid hr
          clear hr
          go_wp2_with fail
          refine (SymSays.at HI.out a i md d1 _ (by omega) (by omega) S2.out (by omega) (by omega) (by omega) (by omega) rfl rfl rfl).mono ?_
          rintro e' w3 ⟨rfl, S3'⟩
          have S3 : Aside _ := S3'
          clear S3'
          have hz3 : (symM (ltOf cf) f a i md d1).size = d1.size := size_symM _ _ _ _ _ _
          generalize hr3 : symM (ltOf cf) f a i md d1 = d2 at S3 hz3
          have HR3 := Lib.hid hr3
          clear hr3
          go_wp2_with fail
          go_end0
          refine ⟨rfl, ?_⟩
          rw [HM.out, if_neg (show ¬ (md < e ∧ e < b) from by omega), if_pos (show a < i ∧ i < md from ⟨z3, z2⟩), if_pos (show i < m ∧ m < e from ⟨z1, by omega⟩), HR.out, HR3.out]
          exact S3.out
        · have y1 : (i : Int) < (m : Int) := by omega
          have y2 : (m : Int) < (e : Int) := by omega
          have y3 : ¬ (a : Int) < (i : Int) := by omega
          have y4 : (i : Int) < (md : Int) := by omega
          have y5 : (md : Int) < (e : Int) := by omega
          have y6 : (e : Int) < (b : Int) := by omega
          go_wp2_with fail
          refine (rotate_at LL.out enc g cb blk off cap i m e d0 d w0 _ rfl R (by omega) S1.out (by omega) (by omega) (by omega) (by omega) rfl rfl rfl).mono ?_
          rintro e' w2 ⟨rfl, S2'⟩
          have S2 : Aside _ := S2'
          clear S2'
          have hz2 : (rot m (e - i) (m - i) (e - m) d).size = d.size := size_rot _ _ _ _ _
          generalize hr : rot m (e - i) (m - i) (e - m) d = d1 at S2 hz2
          have HR := Lib.hid hr
          clear hr
          go_wp2_with fail
          refine (SymSays.at HI.out md e b d1 _ (by omega) (by omega) S2.out (by omega) (by omega) (by omega) (by omega) rfl rfl rfl).mono ?_
          rintro e' w4 ⟨rfl, S4'⟩
          have S4 : Aside _ := S4'
          clear S4'
          go_wp2_with fail
          go_end0
          refine ⟨rfl, ?_⟩
          rw [HM.out, if_pos (show md < e ∧ e < b from ⟨by omega, z4⟩), if_neg (show ¬ (a < i ∧ i < md) from by omega), if_pos (show i < m ∧ m < e from ⟨z1, by omega⟩), HR.out]
          exact S4.out
        · have y1 : (i : Int) < (m : Int) := by omega
          have y2 : (m : Int) < (e : Int) := by omega
          have y3 : ¬ (a : Int) < (i : Int) := by omega
          have y4 : (i : Int) < (md : Int) := by omega
          have y5 : (md : Int) < (e : Int) := by omega
          have y6 : ¬ (e : Int) < (b : Int) := by omega
          go_wp2_with fail
          refine (rotate_at LL.out enc g cb blk off cap i m e d0 d w0 _ rfl R (by omega) S1.out (by omega) (by omega) (by omega) (by omega) rfl rfl rfl).mono ?_
          rintro e' w2 ⟨rfl, S2'⟩
          have S2 : Aside _ := S2'
          clear S2'
          have hz2 : (rot m (e - i) (m - i) (e - m) d).size = d.size := size_rot _ _ _ _ _
          generalize hr : rot m (e - i) (m - i) (e - m) d = d1 at S2 hz2
          have HR := Lib.hid hr
          clear hr
          go_wp2_with fail
          go_end0
          refine ⟨rfl, ?_⟩
          rw [HM.out, if_neg (show ¬ (md < e ∧ e < b) from by omega), if_neg (show ¬ (a < i ∧ i < md) from by omega), if_pos (show i < m ∧ m < e from ⟨z1, by omega⟩), HR.out]
          exact S2.out
        · have y1 : (i : Int) < (m : Int) := by omega
          have y2 : ¬ (m : Int) < (e : Int) := by omega
          have y3 : (a : Int) < (i : Int) := by omega
          have y4 : ¬ (i : Int) < (md : Int) := by omega
          have y5 : (md : Int) < (e : Int) := by omega
          have y6 : (e : Int) < (b : Int) := by omega
          go_wp2_with fail
          refine (SymSays.at HI.out md e b d _ (by omega) (by omega) S1.out (by omega) (by omega) (by omega) (by omega) rfl rfl rfl).mono ?_
          rintro e' w4 ⟨rfl, S4'⟩
          have S4 : Aside _ := S4'
          clear S4'
          go_wp2_with fail
          go_end0
          refine ⟨rfl, ?_⟩
          rw [HM.out, if_pos (show md < e ∧ e < b from ⟨by omega, z4⟩), if_neg (show ¬ (a < i ∧ i < md) from by omega), if_neg (show ¬ (i < m ∧ m < e) from by omega)]
          exact S4.out
        · have y1 : (i : Int) < (m : Int) := by omega
          have y2 : ¬ (m : Int) < (e : Int) := by omega
          have y3 : (a : Int) < (i : Int) := by omega
          have y4 : ¬ (i : Int) < (md : Int) := by omega
          have y5 : (md : Int) < (e : Int) := by omega
          have y6 : ¬ (e : Int) < (b : Int) := by omega
          go_wp2_with fail
          go_end0
          refine ⟨rfl, ?_⟩
          rw [HM.out, if_neg (show ¬ (md < e ∧ e < b) from by omega), if_neg (show ¬ (a < i ∧ i < md) from by omega), if_neg (show ¬ (i < m ∧ m < e) from by omega)]
          exact S1.out
        · have y1 : (i : Int) < (m : Int) := by omega
          have y2 : ¬ (m : Int) < (e : Int) := by omega
          have y3 : ¬ (a : Int) < (i : Int) := by omega
          have y4 : ¬ (i : Int) < (md : Int) := by omega
          have y5 : (md : Int) < (e : Int) := by omega
          have y6 : (e : Int) < (b : Int) := by omega
          go_wp2_with fail
          refine (SymSays.at HI.out md e b d _ (by omega) (by omega) S1.out (by omega) (by omega) (by omega) (by omega) rfl rfl rfl).mono ?_
          rintro e' w4 ⟨rfl, S4'⟩
          have S4 : Aside _ := S4'
          clear S4'
          go_wp2_with fail
          go_end0
          refine ⟨rfl, ?_⟩
          rw [HM.out, if_pos (show md < e ∧ e < b from ⟨by omega, z4⟩), if_neg (show ¬ (a < i ∧ i < md) from by omega), if_neg (show ¬ (i < m ∧ m < e) from by omega)]
          exact S4.out
        · have y1 : (i : Int) < (m : Int) := by omega
          have y2 : ¬ (m : Int) < (e : Int) := by omega
          have y3 : ¬ (a : Int) < (i : Int) := by omega
          have y4 : ¬ (i : Int) < (md : Int) := by omega
          have y5 : (md : Int) < (e : Int) := by omega
          have y6 : ¬ (e : Int) < (b : Int) := by omega
          go_wp2_with fail
          go_end0
          refine ⟨rfl, ?_⟩
          rw [HM.out, if_neg (show ¬ (md < e ∧ e < b) from by omega), if_neg (show ¬ (a < i ∧ i < md) from by omega), if_neg (show ¬ (i < m ∧ m < e) from by omega)]
          exact S1.out
        · exfalso; omega
        · exfalso; omega
        · exfalso; omega
        · exfalso; omega
        · exfalso; omega
        · exfalso; omega
        · exfalso; omega
        · exfalso; omega
  · have hmmz : ¬ (md : Int) < (m : Int) := by omega
    obtain ⟨lo, hlo⟩ : ∃ lo, lo = a := ⟨_, rfl⟩
    have hlo2 : (a : Int) = (lo : Int) := by omega
    have HCUT : Hid (bsearch (fun c => !ltOf cf d[md + m - 1 - c]! d[c]!) (m - a) lo m = cutAt (ltOf cf) a m b d) := by
      show _ = _
      unfold cutAt
      rw [← HMD.out, if_neg hmm, hlo]
    have k1 : lo ≤ m := by omega
    have k2 : m ≤ md := by omega
    have k3 : m ≤ m := by omega
    have k4 : a ≤ lo := by omega
    have k5 : md + m ≤ b + lo := by omega
    have k6 : m - lo ≤ (m - a) := by omega
    have HLO := Lib.hid hlo2
    clear hlo hlo2
    go_enter FG, Try.ntmps63
    go_wp2_with fail
    go_loopg [20, 21, 23] (m - a) (fun kx s20 s21 s23 wr => ∃ (i j f' : Nat), s20 = .int .i64 i ∧ s21 = .int .i64 j ∧ lo ≤ i ∧ i ≤ j ∧ j ≤ m ∧ j - i ≤ kx ∧ j - i ≤ f' ∧ Aside (SWK enc k w0 blk off d wr) ∧ Hid (bsearch (fun c => !ltOf cf d[md + m - 1 - c]! d[c]!) f' i j = cutAt (ltOf cf) a m b d))
    case atStart => exact ⟨lo, m, (m - a), by rw [← HLO.out], rfl, by omega, by omega, by omega, by omega, by omega, S0, HCUT⟩
    case round =>
      obtain ⟨i, j, f', rfl, rfl, hi, hij, hj, hkx, hf', S1, HE⟩ := hrel
      clear S0
      by_cases hlt : i < j
      · have hltz : (i : Int) < (j : Int) := by omega
        obtain ⟨f', rfl⟩ : ∃ f0, f' = f0 + 1 := ⟨f' - 1, by omega⟩
        have ea : (((i : Int) + (j : Int)) / 2).toNat = (i + j) / 2 := by omega
        have pa : (0 : Int) ≤ ((i : Int) + (j : Int)) / 2 := by omega
        have ba : ((i : Int) + (j : Int)) / 2 < (d.size : Int) := by omega
        have ra : IntKind.i64.wrap (((i : Int) + (j : Int)) / 2) = ((i : Int) + (j : Int)) / 2 := by rw [IntKind.wrap_i64]; omega
        obtain ⟨q, hq⟩ : ∃ q, q = md + m - 1 - (i + j) / 2 := ⟨_, rfl⟩
        have pc : (0 : Int) ≤ (q : Int) := by omega
        have bc : (q : Int) < (d.size : Int) := by omega
        have rc : IntKind.i64.wrap ((md : Int) + (m : Int) - 1 - ((i : Int) + (j : Int)) / 2) = (q : Int) := by rw [IntKind.wrap_i64]; omega
        obtain ⟨x, hx⟩ : ∃ x, x = d[(i + j) / 2]! := ⟨_, rfl⟩
        obtain ⟨y, hy⟩ : ∃ x, x = d[q]! := ⟨_, rfl⟩
        have la := S1.out.ld R (by omega) P ((i + j) / 2) (by omega)
        have lb := S1.out.ld R (by omega) P q (by omega)
        rw [← hx] at la
        rw [← hy] at lb
        have hc := S1.out.cmp HC.out (by omega) y x
        have HQ := Lib.hid hq
        cases hL : ltOf cf d[q]! d[(i + j) / 2]! with
        | true =>
          have hv : cf y x < 0 := by rw [hx, hy]; exact of_decide_eq_true hL
          have hd : decide (cf y x < 0) = true := decide_eq_true hv
          have HL := Lib.hid hL
          clear hx hy hL hq
          go_wp2_with fail
          go_quiet_grown (first | (go_at_fn g; refine Calls.grown_of (hc _ _)))
          have S2 : Aside (SWK enc k w0 blk off d (grow (wr.drewN nq) osq)) := S1.out.grown nq osq
          clear la lb hc S1
          generalize grow (wr.drewN nq) osq = w2 at S2 ⊢
          clear nq osq
          clear ea pa ba ra pc bc rc
          go_wp2
          go_roundg ((i + j) / 2 - i)
          case measure => omega
          case rel => exact ⟨i, (i + j) / 2, f', rfl, by go_num, by omega, by omega, by omega, by omega, by omega, S2, (show Hid _ from (bsearch_no _ f' i j hlt (by show (!ltOf cf d[md + m - 1 - (i + j) / 2]! d[(i + j) / 2]!) = false; rw [← HQ.out, HL.out]; rfl)).symm.trans HE.out)⟩
        | false =>
          have hv : ¬ cf y x < 0 := by rw [hx, hy]; exact of_decide_eq_false hL
          have hd : decide (cf y x < 0) = false := decide_eq_false hv
          have HL := Lib.hid hL
          clear hx hy hL hq
          go_wp2_with fail
          go_quiet_grown (first | (go_at_fn g; refine Calls.grown_of (hc _ _)))
          have S2 : Aside (SWK enc k w0 blk off d (grow (wr.drewN nq) osq)) := S1.out.grown nq osq
          clear la lb hc S1
          generalize grow (wr.drewN nq) osq = w2 at S2 ⊢
          clear nq osq
          clear ea pa ba ra pc bc rc
          go_wp2
          go_roundg (j - ((i + j) / 2 + 1))
          case measure => omega
          case rel => exact ⟨(i + j) / 2 + 1, j, f', by go_num, rfl, by omega, by omega, by omega, by omega, by omega, S2, (show Hid _ from (bsearch_yes _ f' i j hlt (by show (!ltOf cf d[md + m - 1 - (i + j) / 2]! d[(i + j) / 2]!) = true; rw [← HQ.out, HL.out]; rfl)).symm.trans HE.out)⟩
      · have hltz : ¬ (i : Int) < (j : Int) := by omega
        have HI2 := Lib.hid ((bsearch_end _ f' i j hlt).symm.trans HE.out)
        obtain ⟨e, he⟩ : ∃ e, e + i = md + m := ⟨md + m - i, by omega⟩
        have he1 : e + i ≤ md + m := by omega
        have he2 : md + m ≤ e + i := by omega
        have eE : (md : Int) + (m : Int) - (i : Int) = (e : Int) := by omega
        have HM := Lib.hid (symM_main (ltOf cf) f a m b i e md d (by omega) (by omega) HMD.out HI2.out.symm (by omega))
        clear he
        by_cases z1 : i < m <;> by_cases z2 : i < md <;> by_cases z3 : a < i <;> by_cases z4 : e < b
        · have y1 : (i : Int) < (m : Int) := by omega
          have y2 : (m : Int) < (e : Int) := by omega
          have y3 : (a : Int) < (i : Int) := by omega
          have y4 : (i : Int) < (md : Int) := by omega
          have y5 : (md : Int) < (e : Int) := by omega
          have y6 : (e : Int) < (b : Int) := by omega
          go_wp2_with fail
          refine (rotate_at LL.out enc g cb blk off cap i m e d0 d w0 _ rfl R (by omega) S1.out (by omega) (by omega) (by omega) (by omega) rfl rfl rfl).mono ?_
          rintro e' w2 ⟨rfl, S2'⟩
          have S2 : Aside _ := S2'
          clear S2'
          have hz2 : (rot m (e - i) (m - i) (e - m) d).size = d.size := size_rot _ _ _ _ _
          generalize hr : rot m (e - i) (m - i) (e - m) d = d1 at S2 hz2
          have HR := Lib.hid hr
          clear hr
          go_wp2_with fail
          refine (SymSays.at HI.out a i md d1 _ (by omega) (by omega) S2.out (by omega) (by omega) (by omega) (by omega) rfl rfl rfl).mono ?_
          rintro e' w3 ⟨rfl, S3'⟩
          have S3 : Aside _ := S3'
          clear S3'
          have hz3 : (symM (ltOf cf) f a i md d1).size = d1.size := size_symM _ _ _ _ _ _
          generalize hr3 : symM (ltOf cf) f a i md d1 = d2 at S3 hz3
          have HR3 := Lib.hid hr3
          clear hr3
          go_wp2_with fail
          refine (SymSays.at HI.out md e b d2 _ (by omega) (by omega) S3.out (by omega) (by omega) (by omega) (by omega) rfl rfl rfl).mono ?_
          rintro e' w4 ⟨rfl, S4'⟩
          have S4 : Aside _ := S4'
          clear S4'
          go_wp2_with fail
          go_end0
          refine ⟨rfl, ?_⟩
          rw [HM.out, if_pos (show md < e ∧ e < b from ⟨by omega, z4⟩), if_pos (show a < i ∧ i < md from ⟨z3, z2⟩), if_pos (show i < m ∧ m < e from ⟨z1, by omega⟩), HR.out, HR3.out]
          exact S4.out
        · have y1 : (i : Int) < (m : Int) := by omega
          have y2 : (m : Int) < (e : Int) := by omega
          have y3 : (a : Int) < (i : Int) := by omega
          have y4 : (i : Int) < (md : Int) := by omega
          have y5 : (md : Int) < (e : Int) := by omega
          have y6 : ¬ (e : Int) < (b : Int) := by omega
          go_wp2_with fail
          refine (rotate_at LL.out enc g cb blk off cap i m e d0 d w0 _ rfl R (by omega) S1.out (by omega) (by omega) (by omega) (by omega) rfl rfl rfl).mono ?_
          rintro e' w2 ⟨rfl, S2'⟩
          have S2 : Aside _ := S2'
          clear S2'
          have hz2 : (rot m (e - i) (m - i) (e - m) d).size = d.size := size_rot _ _ _ _ _
          generalize hr : rot m (e - i) (m - i) (e - m) d = d1 at S2 hz2
          have HR := Lib.hid hr
          clear hr
          go_wp2_with fail
          refine (SymSays.at HI.out a i md d1 _ (by omega) (by omega) S2.out (by omega) (by omega) (by omega) (by omega) rfl rfl rfl).mono ?_
          rintro e' w3 ⟨rfl, S3'⟩
          have S3 : Aside _ := S3'
          clear S3'
          have hz3 : (symM (ltOf cf) f a i md d1).size = d1.size := size_symM _ _ _ _ _ _
          generalize hr3 : symM (ltOf cf) f a i md d1 = d2 at S3 hz3
          have HR3 := Lib.hid hr3
          clear hr3
          go_wp2_with fail
          go_end0
          refine ⟨rfl, ?_⟩
          rw [HM.out, if_neg (show ¬ (md < e ∧ e < b) from by omega), if_pos (show a < i ∧ i < md from ⟨z3, z2⟩), if_pos (show i < m ∧ m < e from ⟨z1, by omega⟩), HR.out, HR3.out]
          exact S3.out
        · have y1 : (i : Int) < (m : Int) := by omega
          have y2 : (m : Int) < (e : Int) := by omega
          have y3 : ¬ (a : Int) < (i : Int) := by omega
          have y4 : (i : Int) < (md : Int) := by omega
          have y5 : (md : Int) < (e : Int) := by omega
          have y6 : (e : Int) < (b : Int) := by omega
          go_wp2_with fail
          refine (rotate_at LL.out enc g cb blk off cap i m e d0 d w0 _ rfl R (by omega) S1.out (by omega) (by omega) (by omega) (by omega) rfl rfl rfl).mono ?_
          rintro e' w2 ⟨rfl, S2'⟩
          have S2 : Aside _ := S2'
          clear S2'
          have hz2 : (rot m (e - i) (m - i) (e - m) d).size = d.size := size_rot _ _ _ _ _
          generalize hr : rot m (e - i) (m - i) (e - m) d = d1 at S2 hz2
          have HR := Lib.hid hr
          clear hr
          go_wp2_with fail
          refine (SymSays.at HI.out md e b d1 _ (by omega) (by omega) S2.out (by omega) (by omega) (by omega) (by omega) rfl rfl rfl).mono ?_
          rintro e' w4 ⟨rfl, S4'⟩
          have S4 : Aside _ := S4'
          clear S4'
          go_wp2_with fail
          go_end0
          refine ⟨rfl, ?_⟩
          rw [HM.out, if_pos (show md < e ∧ e < b from ⟨by omega, z4⟩), if_neg (show ¬ (a < i ∧ i < md) from by omega), if_pos (show i < m ∧ m < e from ⟨z1, by omega⟩), HR.out]
          exact S4.out
        · have y1 : (i : Int) < (m : Int) := by omega
          have y2 : (m : Int) < (e : Int) := by omega
          have y3 : ¬ (a : Int) < (i : Int) := by omega
          have y4 : (i : Int) < (md : Int) := by omega
          have y5 : (md : Int) < (e : Int) := by omega
          have y6 : ¬ (e : Int) < (b : Int) := by omega
          go_wp2_with fail
          refine (rotate_at LL.out enc g cb blk off cap i m e d0 d w0 _ rfl R (by omega) S1.out (by omega) (by omega) (by omega) (by omega) rfl rfl rfl).mono ?_
          rintro e' w2 ⟨rfl, S2'⟩
          have S2 : Aside _ := S2'
          clear S2'
          have hz2 : (rot m (e - i) (m - i) (e - m) d).size = d.size := size_rot _ _ _ _ _
          generalize hr : rot m (e - i) (m - i) (e - m) d = d1 at S2 hz2
          have HR := Lib.hid hr
          clear hr
          go_wp2_with fail
          go_end0
          refine ⟨rfl, ?_⟩
          rw [HM.out, if_neg (show ¬ (md < e ∧ e < b) from by omega), if_neg (show ¬ (a < i ∧ i < md) from by omega), if_pos (show i < m ∧ m < e from ⟨z1, by omega⟩), HR.out]
          exact S2.out
        · exfalso; omega
        · exfalso; omega
        · exfalso; omega
        · exfalso; omega
        · have y1 : ¬ (i : Int) < (m : Int) := by omega
          have y2 : (m : Int) < (e : Int) := by omega
          have y3 : (a : Int) < (i : Int) := by omega
          have y4 : (i : Int) < (md : Int) := by omega
          have y5 : ¬ (md : Int) < (e : Int) := by omega
          have y6 : (e : Int) < (b : Int) := by omega
          go_wp2_with fail
          refine (SymSays.at HI.out a i md d _ (by omega) (by omega) S1.out (by omega) (by omega) (by omega) (by omega) rfl rfl rfl).mono ?_
          rintro e' w3 ⟨rfl, S3'⟩
          have S3 : Aside _ := S3'
          clear S3'
          have hz3 : (symM (ltOf cf) f a i md d).size = d.size := size_symM _ _ _ _ _ _
          generalize hr3 : symM (ltOf cf) f a i md d = d2 at S3 hz3
          have HR3 := Lib.hid hr3
          clear hr3
          go_wp2_with fail
          go_end0
          refine ⟨rfl, ?_⟩
          rw [HM.out, if_neg (show ¬ (md < e ∧ e < b) from by omega), if_pos (show a < i ∧ i < md from ⟨z3, z2⟩), if_neg (show ¬ (i < m ∧ m < e) from by omega), HR3.out]
          exact S3.out
        · exfalso; omega
        · have y1 : ¬ (i : Int) < (m : Int) := by omega
          have y2 : (m : Int) < (e : Int) := by omega
          have y3 : ¬ (a : Int) < (i : Int) := by omega
          have y4 : (i : Int) < (md : Int) := by omega
          have y5 : ¬ (md : Int) < (e : Int) := by omega
          have y6 : (e : Int) < (b : Int) := by omega
          go_wp2_with fail
          go_end0
          refine ⟨rfl, ?_⟩
          rw [HM.out, if_neg (show ¬ (md < e ∧ e < b) from by omega), if_neg (show ¬ (a < i ∧ i < md) from by omega), if_neg (show ¬ (i < m ∧ m < e) from by omega)]
          exact S1.out
        · exfalso; omega
        · have y1 : ¬ (i : Int) < (m : Int) := by omega
          have y2 : ¬ (m : Int) < (e : Int) := by omega
          have y3 : (a : Int) < (i : Int) := by omega
          have y4 : ¬ (i : Int) < (md : Int) := by omega
          have y5 : ¬ (md : Int) < (e : Int) := by omega
          have y6 : (e : Int) < (b : Int) := by omega
          go_wp2_with fail
          go_end0
          refine ⟨rfl, ?_⟩
          rw [HM.out, if_neg (show ¬ (md < e ∧ e < b) from by omega), if_neg (show ¬ (a < i ∧ i < md) from by omega), if_neg (show ¬ (i < m ∧ m < e) from by omega)]
          exact S1.out
        · exfalso; omega
        · have y1 : ¬ (i : Int) < (m : Int) := by omega
          have y2 : ¬ (m : Int) < (e : Int) := by omega
          have y3 : ¬ (a : Int) < (i : Int) := by omega
          have y4 : ¬ (i : Int) < (md : Int) := by omega
          have y5 : ¬ (md : Int) < (e : Int) := by omega
          have y6 : (e : Int) < (b : Int) := by omega
          go_wp2_with fail
          go_end0
          refine ⟨rfl, ?_⟩
          rw [HM.out, if_neg (show ¬ (md < e ∧ e < b) from by omega), if_neg (show ¬ (a < i ∧ i < md) from by omega), if_neg (show ¬ (i < m ∧ m < e) from by omega)]
          exact S1.out
        · exfalso; omega
end Go.Proofs.Ytgnnhomipfjanaa.Srt
