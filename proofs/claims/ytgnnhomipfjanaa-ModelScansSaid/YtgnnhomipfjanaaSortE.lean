/- The library's stable sort comes to its plain model, over any row of entries. -/
import Derived.Test.YtgnnhomipfjanaaSortD
namespace Go.Proofs.Ytgnnhomipfjanaa.Srt
open Go Go.Proofs Go.Shelf Go.RowKit Go.Lib Go.Sort
variable {α : Type} [Inhabited α]

theorem symMerge_says {P : Program} {k : Nat} (L : SL P k) (enc : α → List Value) (cf : α → α → Int) (g : Nat) (cb : Array Value) (blk off cap : Nat) (d0 : Array α) (w0 : World)
    (eg : ∀ args w, (callFunc g args).run P w = .ok (.enter g args) w) (hcmp : CmpLays P g cb enc k cf blk off d0.size w0) (R : RowK enc k w0 blk off d0) (hsz : d0.size < 4611686018427387904) :
    ∀ f, SymSays P k enc cf g cb blk off cap d0 w0 f
  | 0 => fun a m b d w hs S h1 h2 h3 h4 => by omega
  | f + 1 => fun a m b d w hs S h1 h2 h3 h4 => by
    by_cases e1 : m = a + 1
    · subst e1
      have C := symMerge_one L enc cf g cb blk off cap a b d0 d w0 w eg hcmp R hs S h2 h3 (by omega)
      rw [symM, if_pos rfl]
      exact C
    · by_cases e2 : b = m + 1
      · subst e2
        have C := symMerge_two L enc cf g cb blk off cap a m d0 d w0 w eg hcmp R hs S (by omega) h3 (by omega)
        rw [symM, if_neg e1, if_pos rfl]
        exact C
      · exact symMerge_main L enc cf g cb blk off cap a m b f d0 d w0 w (symMerge_says L enc cf g cb blk off cap d0 w0 eg hcmp R hsz f) eg hcmp R hs S (by omega) (by omega) h3 (by omega) h4

def insRen : Ren := ⟨fun | 20 => 62 | n => n, fun | 22 => 25 | 24 => 37 | 25 => 98 | n => n, fun n => n⟩
theorem insLaid : SlLaysF0.n20 Try.prog insRen :=
  { mixed := by kernel_rfl
    f20 := ⟨Try.f62.name, by decide, Try.func62⟩
    t0 := Try.underlying0
    a0 := Try.isAgg0
    z0 := Try.sizeOf0
    v0 := Try.zeroValue0
    t3 := Try.underlying3
    a3 := Try.isAgg3
    z3 := Try.sizeOf3
    v3 := Try.zeroValue3
    t4 := Try.underlying4
    a4 := Try.isAgg4
    z4 := Try.sizeOf4
    v4 := Try.zeroValue4
    t22 := Try.underlying25
    a22 := Try.isAgg25
    z22 := Try.sizeOf25
    v22 := Try.zeroValue25
    t25 := Try.underlying98
    a25 := Try.isAgg98
    z25 := Try.sizeOf98
    v25 := Try.zeroValue98 }




theorem insInner_sz (lt : α → α → Bool) (a : Nat) : ∀ (j : Nat) (d : Array α), (insInner lt a j d).size = d.size
  | 0, d => rfl
  | j + 1, d => by
    rw [insInner]
    split
    · rw [insInner_sz lt a j, size_swp]
    · rfl
theorem insOuter_sz (lt : α → α → Bool) (a b i : Nat) (d : Array α) : (insOuter lt a b i d).size = d.size := by
  rw [insOuter]
  split
  · rw [insOuter_sz lt a b (i + 1), insInner_sz]
  · rfl
termination_by b - i

theorem ins_size (lt : α → α → Bool) (d : Array α) (a b : Nat) : (Sort.insertionSort lt d a b).size = d.size := by
  unfold Sort.insertionSort
  exact insOuter_sz lt a b (a + 1) d

theorem ins_w (enc : α → List Value) (cf : α → α → Int) (g : Nat) (cb : Array Value) (blk off cap a b : Nat) (d0 d : Array α) (w0 w : World) {N : Nat} (hN : d.size = N)
    (eg : ∀ args w, (callFunc g args).run Try.prog w = .ok (.enter g args) w) (hcmp : CmpLays Try.prog g cb enc 3 cf blk off d0.size w0) (R : RowK enc 3 w0 blk off d0) (hs : d0.size = d.size) (S : SWK enc 3 w0 blk off d w) (hab : a ≤ b) (hb : b ≤ d.size) (hsz : d.size < 4611686018427387904) {x y : Int} (ex : x = a) (ey : y = b) :
    Calls Try.prog 62 #[.slice (some ⟨blk, off, none⟩) N cap, .int .i64 x, .int .i64 y, .func (.func g) #[] cb] w fun e w' =>
      e = .returned (.tuple #[]) ∧ SWK enc 3 w0 blk off (Sort.insertionSort (ltOf cf) d a b) w' := by
  subst ex ey hN
  have hC : CmpLays Try.prog g cb enc 3 cf blk off d.size w := fun m os dk hdk x y => by
    obtain ⟨m', os', e⟩ := S.on R.hblk m dk os (by omega)
    rw [e]
    exact hcmp m' os' dk (by omega) x y
  refine (AnyQ.insertionSortCmpFunc insLaid 3 Try.isAgg37 Try.sizeOf37 enc R.hk R.h1 cf g cb blk off cap a b d w eg hC (S.holds R.hblk R.hH hs.symm) (S.lt R.hblk) hab hb hsz).mono ?_
  rintro e w' ⟨rfl, n, os, rfl⟩
  refine ⟨rfl, S.on R.hblk n _ os ?_⟩
  exact ins_size (ltOf cf) d a b

def insB (lt : α → α → Bool) (n : Nat) : Nat → Nat → Array α → Array α
  | 0, a, d => Sort.insertionSort lt d a n
  | f + 1, a, d => if a + 20 ≤ n then insB lt n f (a + 20) (Sort.insertionSort lt d a (a + 20)) else Sort.insertionSort lt d a n

def passB (lt : α → α → Bool) (n bs : Nat) : Nat → Nat → Array α → Array α
  | 0, _, d => d
  | f + 1, a, d => if a + 2 * bs ≤ n then passB lt n bs f (a + 2 * bs) (symM lt n a (a + bs) (a + 2 * bs) d) else if a + bs < n then symM lt n a (a + bs) n d else d

def passes (lt : α → α → Bool) (n : Nat) : Nat → Nat → Array α → Array α
  | 0, _, d => d
  | f + 1, bs, d => if bs < n then passes lt n f (2 * bs) (passB lt n bs (n + 1) 0 d) else d

/-- The stable sort, as the library does it. -/
def stable (lt : α → α → Bool) (d : Array α) : Array α := passes lt d.size (d.size + 1) 20 (insB lt d.size (d.size + 1) 0 d)

theorem size_insB (lt : α → α → Bool) (n : Nat) : ∀ (f a : Nat) (d : Array α), (insB lt n f a d).size = d.size
  | 0, a, d => ins_size lt d a n
  | f + 1, a, d => by
    rw [insB]
    split
    · rw [size_insB lt n f, ins_size]
    · exact ins_size lt d a n
theorem size_passB (lt : α → α → Bool) (n bs : Nat) : ∀ (f a : Nat) (d : Array α), (passB lt n bs f a d).size = d.size
  | 0, a, d => rfl
  | f + 1, a, d => by
    rw [passB]
    split
    · rw [size_passB lt n bs f, size_symM]
    · split
      · exact size_symM _ _ _ _ _ _
      · rfl
theorem size_passes (lt : α → α → Bool) (n : Nat) : ∀ (f bs : Nat) (d : Array α), (passes lt n f bs d).size = d.size
  | 0, bs, d => rfl
  | f + 1, bs, d => by
    rw [passes]
    split
    · rw [size_passes lt n f, size_passB]
    · rfl
theorem size_stable (lt : α → α → Bool) (d : Array α) : (stable lt d).size = d.size := by rw [stable, size_passes, size_insB]

theorem insB_go (lt : α → α → Bool) (n f a : Nat) (d : Array α) (h : a + 20 ≤ n) : insB lt n (f + 1) a d = insB lt n f (a + 20) (Sort.insertionSort lt d a (a + 20)) := by rw [insB, if_pos h]
theorem insB_end (lt : α → α → Bool) (n f a : Nat) (d : Array α) (h : ¬ a + 20 ≤ n) : insB lt n f a d = Sort.insertionSort lt d a n := by
  cases f with
  | zero => rfl
  | succ f => rw [insB, if_neg h]
theorem passB_go (lt : α → α → Bool) (n bs f a : Nat) (d : Array α) (h : a + 2 * bs ≤ n) : passB lt n bs (f + 1) a d = passB lt n bs f (a + 2 * bs) (symM lt n a (a + bs) (a + 2 * bs) d) := by rw [passB, if_pos h]
theorem passB_one (lt : α → α → Bool) (n bs f a : Nat) (d : Array α) (h : ¬ a + 2 * bs ≤ n) (h2 : a + bs < n) : passB lt n bs (f + 1) a d = symM lt n a (a + bs) n d := by rw [passB, if_neg h, if_pos h2]
theorem passB_end (lt : α → α → Bool) (n bs f a : Nat) (d : Array α) (h : ¬ a + 2 * bs ≤ n) (h2 : ¬ a + bs < n) : passB lt n bs f a d = d := by
  cases f with
  | zero => rfl
  | succ f => rw [passB, if_neg h, if_neg h2]
theorem passes_go (lt : α → α → Bool) (n f bs : Nat) (d : Array α) (h : bs < n) : passes lt n (f + 1) bs d = passes lt n f (2 * bs) (passB lt n bs (n + 1) 0 d) := by rw [passes, if_pos h]
theorem passes_end (lt : α → α → Bool) (n f bs : Nat) (d : Array α) (h : ¬ bs < n) : passes lt n f bs d = d := by
  cases f with
  | zero => rfl
  | succ f => rw [passes, if_neg h]

set_option maxHeartbeats 8000000 in
set_option maxRecDepth 1000000 in
theorem stable_calls (enc : α → List Value) (cf : α → α → Int) (g : Nat) (cb : Array Value) (blk off cap : Nat) (d : Array α) (w : World)
    (eg : ∀ args w, (callFunc g args).run Try.prog w = .ok (.enter g args) w) (hcmp : CmpLays Try.prog g cb enc 3 cf blk off d.size w) (R : RowK enc 3 w blk off d) (hsz : d.size < 1152921504606846976) :
    Calls Try.prog 56 #[.slice (some ⟨blk, off, none⟩) d.size cap, .int .i64 d.size, .func (.func g) #[] cb] w fun e w' =>
      e = .returned (.tuple #[]) ∧ SWK enc 3 w blk off (stable (ltOf cf) d) w' := by
  have hsz' : d.size < 4611686018427387904 := by omega
  have SYM : Aside _ := symMerge_says SL.try_ enc cf g cb blk off cap d w eg hcmp R hsz'
  have S0 : Aside _ := SWK.start R.hH
  have HC : Aside _ := hcmp
  clear hcmp
  go_enter Try.func56, Try.ntmps56
  go_wp2_with fail
  go_loopg [7, 8] d.size (fun kx s7 s8 wr => ∃ (a f : Nat) (dk : Array α), s7 = .int .i64 a ∧ s8 = .int .i64 (a + 20 : Nat) ∧ a ≤ d.size ∧ d.size - a ≤ kx ∧ d.size - a ≤ f ∧ dk.size = d.size ∧ Aside (SWK enc 3 w blk off dk wr) ∧ Hid (insB (ltOf cf) d.size f a dk = insB (ltOf cf) d.size (d.size + 1) 0 d))
  case atStart => exact ⟨0, d.size + 1, d, rfl, rfl, by omega, by omega, by omega, rfl, S0, rfl⟩
  case round =>
    obtain ⟨a, f, dk, rfl, rfl, ha, hkx, hf, hds, S1, HE⟩ := hrel
    clear S0
    by_cases hlt : a + 20 ≤ d.size
    · have hltz : ((a + 20 : Nat) : Int) ≤ (d.size : Int) := by omega
      obtain ⟨f, rfl⟩ : ∃ f0, f = f0 + 1 := ⟨f - 1, by omega⟩
      go_wp2_with fail
      refine (ins_w enc cf g cb blk off cap a (a + 20) d dk w _ hds eg HC.out R (by omega) S1.out (by omega) (by omega) (by omega) rfl rfl).mono ?_
      rintro e w' ⟨rfl, S2⟩
      go_wp2
      go_roundg (d.size - (a + 20))
      case measure => omega
      case rel => exact ⟨a + 20, f, Sort.insertionSort (ltOf cf) dk a (a + 20), rfl, by go_num, by omega, by omega, by omega, by rw [ins_size]; exact hds, S2, (show Hid _ from (insB_go _ _ _ _ _ hlt).symm.trans HE.out)⟩
    · have hltz : ¬ ((a + 20 : Nat) : Int) ≤ (d.size : Int) := by omega
      have HI := Lib.hid ((insB_end _ _ f a dk hlt).symm.trans HE.out)
      go_wp2_with fail
      refine (ins_w enc cf g cb blk off cap a d.size d dk w _ hds eg HC.out R (by omega) S1.out (by omega) (by omega) (by omega) rfl rfl).mono ?_
      rintro e w' ⟨rfl, S2'⟩
      rw [HI.out] at S2'
      have hz2 : (insB (ltOf cf) d.size (d.size + 1) 0 d).size = d.size := size_insB _ _ _ _ _
      have S2 : Aside _ := S2'
      clear S2' S1 HE HI hltz hlt hds hf hkx ha
      have HST : Hid (stable (ltOf cf) d = passes (ltOf cf) d.size (d.size + 1) 20 (insB (ltOf cf) d.size (d.size + 1) 0 d)) := rfl
      generalize insB (ltOf cf) d.size (d.size + 1) 0 d = e1 at S2 HST hz2
      go_wp2_with fail
      go_loopg [6, 7, 8, 9] d.size (fun kx s6 _ _ _ wr => ∃ (bs f : Nat) (dk : Array α), s6 = .int .i64 bs ∧ 1 ≤ bs ∧ bs ≤ 2 * d.size + 20 ∧ d.size - bs ≤ kx ∧ d.size - bs ≤ f ∧ dk.size = d.size ∧ Aside (SWK enc 3 w blk off dk wr) ∧ Hid (passes (ltOf cf) d.size f bs dk = passes (ltOf cf) d.size (d.size + 1) 20 e1))
      case atStart => exact ⟨20, d.size + 1, e1, rfl, by omega, by omega, by omega, by omega, hz2, S2, rfl⟩
      case round =>
        obtain ⟨bs, f, dk, rfl, hb1, hb2, hkx, hf, hds, S1, HE⟩ := hrel
        clear S2
        by_cases hlt : bs < d.size
        · have hltz : (bs : Int) < (d.size : Int) := by omega
          obtain ⟨f, rfl⟩ : ∃ f0, f = f0 + 1 := ⟨f - 1, by omega⟩
          have HF : Hid (passes (ltOf cf) d.size f (2 * bs) (passB (ltOf cf) d.size bs (d.size + 1) 0 dk) = passes (ltOf cf) d.size (d.size + 1) 20 e1) := (passes_go _ _ _ _ _ hlt).symm.trans HE.out
          clear HE
          go_wp2_with fail
          go_loopg [7, 8] d.size (fun kx2 s7 s8 wr2 => ∃ (a f2 : Nat) (dk2 : Array α), s7 = .int .i64 a ∧ s8 = .int .i64 ((a : Int) + 2 * (bs : Int)) ∧ a ≤ d.size ∧ d.size - a ≤ kx2 ∧ d.size - a < f2 ∧ dk2.size = d.size ∧ Aside (SWK enc 3 w blk off dk2 wr2) ∧ Hid (passB (ltOf cf) d.size bs f2 a dk2 = passB (ltOf cf) d.size bs (d.size + 1) 0 dk))
          case atStart => exact ⟨0, d.size + 1, dk, rfl, by go_num, by omega, by omega, by omega, hds, S1, rfl⟩
          case round =>
            obtain ⟨a, f2, dk2, rfl, rfl, ha, hkx2, hf2, hds2, S3, HE2⟩ := hrel
            clear S1
            obtain ⟨f2, rfl⟩ : ∃ f0, f2 = f0 + 1 := ⟨f2 - 1, by omega⟩
            by_cases hlt2 : a + 2 * bs ≤ d.size
            · have hltz2 : (a : Int) + 2 * (bs : Int) ≤ (d.size : Int) := by omega
              go_wp2_with fail
              refine (SymSays.at (SYM.out d.size) a (a + bs) (a + 2 * bs) dk2 _ hds2 (by omega) S3.out (by omega) (by omega) (by omega) (by omega) rfl (by omega) (by omega)).mono ?_
              rintro e w' ⟨rfl, S4⟩
              go_wp2
              go_roundg (d.size - (a + 2 * bs))
              case measure => omega
              case rel => exact ⟨a + 2 * bs, f2, symM (ltOf cf) d.size a (a + bs) (a + 2 * bs) dk2, by go_num, by go_num, by omega, by omega, by omega, by rw [size_symM]; exact hds2, S4, (show Hid _ from (passB_go _ _ _ _ _ _ hlt2).symm.trans HE2.out)⟩
            · have hltz2 : ¬ (a : Int) + 2 * (bs : Int) ≤ (d.size : Int) := by omega
              by_cases hlt3 : a + bs < d.size
              · have hltz3 : (a : Int) + (bs : Int) < (d.size : Int) := by omega
                have HI := Lib.hid ((passB_one _ _ _ f2 a dk2 hlt2 hlt3).symm.trans HE2.out)
                go_wp2_with fail
                refine (SymSays.at (SYM.out d.size) a (a + bs) d.size dk2 _ hds2 (by omega) S3.out (by omega) (by omega) (by omega) (by omega) rfl (by omega) rfl).mono ?_
                rintro e w' ⟨rfl, S4⟩
                rw [HI.out] at S4
                go_wp2
                go_roundg (d.size - 2 * bs)
                case measure => omega
                case rel => exact ⟨2 * bs, f, passB (ltOf cf) d.size bs (d.size + 1) 0 dk, by go_num, by omega, by omega, by omega, by omega, by rw [size_passB]; exact hds, S4, HF⟩
              · have hltz3 : ¬ (a : Int) + (bs : Int) < (d.size : Int) := by omega
                have HI := Lib.hid ((passB_end _ _ _ _ a dk2 hlt2 hlt3).symm.trans HE2.out)
                have S4 : Aside (SWK enc 3 w blk off (passB (ltOf cf) d.size bs (d.size + 1) 0 dk) wr) := by rw [← HI.out]; exact S3
                go_wp2
                go_roundg (d.size - 2 * bs)
                case measure => omega
                case rel => exact ⟨2 * bs, f, passB (ltOf cf) d.size bs (d.size + 1) 0 dk, by go_num, by omega, by omega, by omega, by omega, by rw [size_passB]; exact hds, S4, HF⟩
        · have hltz : ¬ (bs : Int) < (d.size : Int) := by omega
          go_wp2
          go_end0
          refine ⟨rfl, ?_⟩
          rw [HST.out, ← HE.out, passes_end _ _ _ _ _ hlt]
          exact S1.out

theorem SortStable_calls (enc : α → List Value) (cf : α → α → Int) (g : Nat) (cb : Array Value) (blk off cap : Nat) (d : Array α) (w : World)
    (eg : ∀ args w, (callFunc g args).run Try.prog w = .ok (.enter g args) w) (hcmp : CmpLays Try.prog g cb enc 3 cf blk off d.size w) (R : RowK enc 3 w blk off d) (hsz : d.size < 1152921504606846976) :
    Calls Try.prog 44 #[.slice (some ⟨blk, off, none⟩) d.size cap, .func (.func g) #[] cb] w fun e w' =>
      e = .returned (.tuple #[]) ∧ SWK enc 3 w blk off (stable (ltOf cf) d) w' := by
  have C := stable_calls enc cf g cb blk off cap d w eg hcmp R hsz
  have CC := Lib.hid C
  clear C hcmp R
  go_enter Try.func44, Try.ntmps44
  go_wp2_with fail
  refine Calls.mono CC.out ?_
  rintro e w' ⟨rfl, S⟩
  go_wp2
  go_end0
  exact ⟨rfl, S⟩
end Go.Proofs.Ytgnnhomipfjanaa.Srt
