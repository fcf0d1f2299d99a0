/- slices.Clone and batch.Sorted of entries, in the print's own form: a new row of the entries; the entries in the order of their keys. -/
import Derived.Test.YtgnnhomipfjanaaPMx0
import Derived.Test.YtgnnhomipfjanaaSortQ
import Derived.WalkSpells
import Derived.Laws.Cover1
namespace Go.Proofs.Ytgnnhomipfjanaa.PM
open Go Go.Proofs Go.Shelf Go.RowKit Go.Proofs.YtgnnhomipfjanaaW.PrintWords Go.Proofs.YtgnnhomipfjanaaW.PrintLast Go.Proofs.YtgnnhomipfjanaaW.PrintMore

instance : Inhabited S37 := ⟨z37⟩
def encE (x : S37) : List Value := [.string x.f0, .string x.f1, .bool x.f2]
def cmpE (x y : S37) : Int := Srt.cmpB x.f0 y.f0
def ltE (x y : S37) : Bool := Srt.ltB x.f0 y.f0

def api_Entry.f (l0 : List (S37)) : Option (List (S37)) := if l0.length < 3518437208883 then some l0 else none

set_option maxHeartbeats 4000000 in
set_option maxRecDepth 100000 in
theorem api_Entry.calls (A0 : Option Addr) (c0 : Nat) (l0 : List (S37)) (r : List (S37)) (w : World) (hr0 : Kd.C k37 w A0 l0.length l0) (hc0 : l0.length ≤ c0) (h : api_Entry.f l0 = some r) :
    Calls Try.prog 43 #[.slice A0 l0.length c0] w fun e w' => ∃ v0_ : Value, e = .returned (v0_) ∧ Kd.R k37 37 w' w.heap.size (fun _ => True) v0_ r ∧ Below w.heap.size w w' := by
  unfold api_Entry.f at h
  by_cases hl : l0.length < 3518437208883
  · rw [if_pos hl] at h
    obtain rfl := Option.some.inj h
    clear h
    cases A0 with
    | none =>
      have hn : l0 = [] := by
        cases l0 with
        | nil => rfl
        | cons x t =>
          obtain ⟨ad, _, e, _⟩ := Kd.C_get hr0 z37 0 (by omega) (by simp)
          cases e
      subst hn
      have heq := fun wx => Lib.run_eql_slice_nil (P := Try.prog) wx 25 37 none 0 c0 0 0 Try.underlying25
      clear hr0 hc0 hl
      go_enter Try.func43, Try.ntmps43
      go_wp2
      go_ret
      exact ⟨_, rfl, Kd.R_nil _ _ _ _ _, Below.refl _ _⟩
    | some ad =>
      have heq := fun wx => Lib.run_eql_slice_nil (P := Try.prog) wx 25 37 (some ad) l0.length c0 0 0 Try.underlying25
      have HR0 := Aside0.mk hr0
      have LM := Aside0.mk hl
      clear hr0 hc0 hl
      have HB := Aside0.mk (Below.refl w.heap.size w)
      go_enter Try.func43, Try.ntmps43
      go_wp2_with (first | ((with_reducible refine gate_dst (N := 5) rfl ?_); refine Kd.R_lit k37 _ 37 ?hg (N := 5) ?hd (xs := ([] : List (S37))) (inner := []) (ok := fun _ => True) (okp := fun _ => True) ?hr ?hp (fun _ hk => hk) trivial (Below.refl _ _) (Nat.le_refl _) (by simp) ?_; (case hd => rfl); (case hg => rfl); (case hr => first | (go_simp; done) | (go_simp; rfl)); (case hp => exact (Reps.none _ _)); intro v126 w5 ho6 hb hg_ hnew_; clear hg_ hnew_; have n0_ := Aside0.mk (Kd.R_lower ho6 (below_size HB.out)); have n1_ := Aside0.mk (below_step HB.out hb); clear HB; have HO127 := n0_; have HB := n1_; clear n0_ n1_; clear hb ho6) | ((with_reducible refine gate_builtin (b := .append) (xs := #[.tmp 5, .tmp 6]) rfl ?_); at_builtin; refine Kd.R_append_rows k37 (w0 := w) w.heap.size rfl (.tmp 5) (.tmp 6) 25 37 (.agg #[(.string ⟨#[]⟩), (.string ⟨#[]⟩), (.bool false)]) 40 rfl Try.underlying25 info37 rfl (by decide) (by omega) v126 [] l0 _ _ _ (fun _ => True) (fun _ => False) rfl rfl ?aO ?aR (fun _ _ h => h) (fun _ h => h.elim) ?aF ?aB ?aS ?aL ?_; (case aR => exact (Kd.C_below HR0.out HB.out)); (case aB => exact HB.out); (case aF => exact (fun _ _ => trivial)); (case aO => exact HO127.out); (case aS => exact (below_size HB.out)); (case aL => have := LM.out; simp; omega); intro v129 w7 ho hb hg hat; have n0_ := Aside0.mk (hb); have n1_ := Aside0.mk (ho); clear HB; clear HO127; have HB := n0_; have HO130 := n1_; clear n0_ n1_; clear ho hb hg hat))
      go_ret
      exact ⟨_, rfl, HO130.out, HB.out⟩
  · rw [if_neg hl] at h; cases h

/-- The entries in the order of their keys, equals as they came. -/
def sortE (l : List S37) : List S37 := (Srt.stable ltE l.toArray).toList

theorem ltOf_cmpE : ltOf cmpE = ltE := by
  funext x y
  unfold ltOf cmpE ltE Srt.cmpB
  cases h1 : Srt.ltB x.f0 y.f0 with
  | true => rfl
  | false => cases h2 : Srt.ltB y.f0 x.f0 <;> rfl

theorem swoE : Go.Sort.SWO ltE where
  irrefl _ := Srt.bl_irrefl _
  trans _ _ _ := Srt.bl_trans _ _ _
  ntrans _ _ _ := Srt.bl_ntrans _ _ _

theorem sortE_length (l : List S37) : (sortE l).length = l.length := by
  unfold sortE; rw [Array.length_toList, Srt.size_stable]; simp

theorem sortE_srt (l : List S37) : Srt.Srt ltE (sortE l) := (Srt.stable_says swoE l.toArray).1
theorem sortE_same (l : List S37) : Srt.Same ltE l (sortE l) := by
  have := (Srt.stable_says swoE l.toArray).2
  unfold sortE
  simpa using this

theorem ins_none (A : Option Addr) (n c : Nat) (f : Value) (W : World) : Calls Try.prog 62 #[.slice A n c, .int .i64 0, .int .i64 0, f] W fun e w' => e = .returned (.tuple #[]) ∧ W = w' := by
  go_enter Try.func62, Try.ntmps62
  go_wp2_with fail
  refine wp_loop_rounds 1 ?_
  rw [rounds_succ]
  go_wp2
  go_end0
  exact ⟨rfl, rfl⟩

theorem stable_none (A : Option Addr) (n c : Nat) (f : Value) (W : World) : Calls Try.prog 56 #[.slice A n c, .int .i64 0, f] W fun e w' => e = .returned (.tuple #[]) ∧ W = w' := by
  go_enter Try.func56, Try.ntmps56
  go_wp2_with fail
  refine wp_loop_rounds 1 ?_
  rw [rounds_succ]
  go_wp2_with (go_at_call 62; refine (ins_none _ _ _ _ _).mono ?_; rintro e w' ⟨rfl, rfl⟩)
  refine wp_loop_rounds 1 ?_
  rw [rounds_succ]
  go_wp2
  go_end0
  exact ⟨rfl, rfl⟩

theorem sortStable_none (A : Option Addr) (c : Nat) (f : Value) (W : World) : Calls Try.prog 44 #[.slice A 0 c, f] W fun e w' => e = .returned (.tuple #[]) ∧ W = w' := by
  go_enter Try.func44, Try.ntmps44
  go_wp2_with (go_at_call 56; refine (stable_none _ _ _ _ _).mono ?_; rintro e w' ⟨rfl, rfl⟩)
  go_end0
  exact ⟨rfl, rfl⟩

theorem sort_R {v : Value} {l : List S37} {base : Nat} {ok : Nat → Prop} {w W : World} (hR : Kd.R k37 37 W base ok v l) (hB : Below base w W) (hbase : base ≤ W.heap.size) (hl : l.length < 3518437208883) :
    Calls Try.prog 44 #[v, .func (.func 45) #[] #[]] W fun e w' => e = .returned (.tuple #[]) ∧ Kd.R k37 37 w' base ok v (sortE l) ∧ Below base w w' := by
  obtain ⟨hok, inner, ⟨hlen, hown⟩, hr⟩ := hR
  have hflat : inner = l.flatMap encE := Srt.flat_of_reps (R := k37.M W base (fun k => ok k ∧ some k ≠ v.ownBlock)) (fun p c hp => k37_openM hp) hr
  rcases hown with ⟨rfl, hn⟩ | ⟨g, cap, cur, rfl, hg, hh, hnc, hcm, hcs, htake⟩
  · have : l = [] := List.length_eq_zero_iff.1 hn
    subst this
    refine (sortStable_none none 0 _ W).mono ?_
    rintro e w' ⟨rfl, rfl⟩
    have e0 : sortE [] = [] := List.length_eq_zero_iff.1 (sortE_length [])
    rw [e0]
    exact ⟨rfl, ⟨hok, [], ⟨rfl, .inl ⟨rfl, rfl⟩⟩, Reps.none _ _⟩, hB⟩
  · have hk : ∀ x, (encE x).length = 3 := fun _ => rfl
    have hd : l.toArray.size = l.length := by simp
    have hsz3 : (k37).sz = 3 := rfl
    rw [hsz3] at hlen hcs htake
    have R : RowK encE 3 W g 0 l.toArray := ⟨hk, fun x u hu => by
        simp [encE] at hu; rcases hu with rfl | rfl | rfl <;> rfl,
      Srt.holdsK_of_block hk hh l.toArray (by rw [hd, htake, hflat]), (Array.getElem?_eq_some_iff.1 hh).1⟩
    have eg : ∀ args w, (callFunc 45 args).run Try.prog w = .ok (.enter 45 args) w := enters_of Try.func45 (by kernel_rfl) rfl
    have hcmp : CmpLays Try.prog 45 #[] encE 3 cmpE g 0 l.toArray.size W := fun m os dk _ x y => Srt.by_calls x.f0 x.f1 y.f0 y.f1 x.f2 y.f2 _
    have C := Srt.SortStable_calls encE cmpE 45 #[] g 0 cap l.toArray W eg hcmp R (by omega)
    rw [hd] at C
    refine C.mono ?_
    rintro e w' ⟨rfl, S⟩
    rw [ltOf_cmpE] at S
    have hz : (Srt.stable ltE l.toArray).size = l.length := by rw [Srt.size_stable]; simp
    have hsl : (sortE l).length = l.length := sortE_length l
    obtain ⟨cur', h1, h2, h3⟩ := Srt.block_of_sorted hk hh (by rw [hz, hcs]; exact Nat.mul_le_mul_right _ hnc) S
    rw [hz] at h3
    refine ⟨rfl, ⟨hok, (sortE l).flatMap encE, ⟨by rw [Srt.flat_length hk, hsl]; rfl, .inr ⟨g, cap, cur', by rw [hsl], hg, h1, by rw [hsl]; exact hnc, hcm, by rw [h2, hcs]; rfl, by rw [hsl]; exact h3⟩⟩, ?_⟩, Srt.below_sorted hB hg hbase S⟩
    exact Srt.reps_of_flat hk (fun p => k37_mkM _ _ _ p) _

def batch_Sorted.f (l0 : List (S37)) : Option (List (S37)) := if l0.length < 3518437208883 then some (sortE l0) else none

set_option maxHeartbeats 4000000 in
theorem batch_Sorted.calls (A0 : Option Addr) (c0 : Nat) (l0 : List (S37)) (r : List (S37)) (w : World) (hr0 : Kd.C k37 w A0 l0.length l0) (hc0 : l0.length ≤ c0) (h : batch_Sorted.f l0 = some r) :
    Calls Try.prog 18 #[.slice A0 l0.length c0] w fun e w' => ∃ v0_ : Value, e = .returned (v0_) ∧ Kd.R k37 37 w' w.heap.size (fun _ => True) v0_ r ∧ Below w.heap.size w w' := by
  unfold batch_Sorted.f at h
  by_cases hl : l0.length < 3518437208883
  · rw [if_pos hl] at h
    obtain rfl := Option.some.inj h
    clear h
    have C := api_Entry.calls A0 c0 l0 l0 w hr0 hc0 (by unfold api_Entry.f; rw [if_pos hl])
    have CC := Lib.hid C
    have LM := Aside0.mk hl
    clear C hr0 hc0 hl
    go_enter Try.func18, Try.ntmps18
    go_wp2_with fail
    refine Calls.mono CC.out ?_
    rintro e w1 ⟨v, rfl, hR, hB⟩
    have HR := Aside0.mk hR
    have HB := Aside0.mk hB
    clear hR hB CC
    go_wp2_with fail
    refine (sort_R HR.out HB.out HB.out.size LM.out).mono ?_
    rintro e w2 ⟨rfl, hR, hB⟩
    have HR2 := Aside0.mk hR
    have HB2 := Aside0.mk hB
    clear hR hB HR HB
    go_wp2
    go_ret
    exact ⟨_, rfl, HR2.out, HB2.out⟩
  · rw [if_neg hl] at h; cases h
end Go.Proofs.Ytgnnhomipfjanaa.PM
