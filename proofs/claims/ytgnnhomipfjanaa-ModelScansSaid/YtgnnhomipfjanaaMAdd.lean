/- model.Add, in the print's own form: one change more; the elder changes' rows are shared. -/
import Derived.Test.YtgnnhomipfjanaaMPure
import Derived.Test.YtgnnhomipfjanaaMApp
import Derived.Deep.RegionHeld3
namespace Go.Proofs.Ytgnnhomipfjanaa.PM
open Go Go.Proofs Go.RowKit Go.Proofs.YtgnnhomipfjanaaW.PrintWords Go.Proofs.YtgnnhomipfjanaaW.PrintLast Go.Proofs.YtgnnhomipfjanaaW.PrintMore

/-- The version of the last change; 0. -/
def lastE (ms : List S112) : Int := if ms.length = 0 then 0 else (ms.getD (ms.length - 1) z112).f0
theorem last_says (ms : List S112) (h : ms.length < 1000000000000) : model_Last.f ms = some (lastE ms) := by
  unfold model_Last.f lastE
  by_cases c : ms.length = 0
  · rw [if_pos (by omega), if_pos c]
  · rw [if_neg (by omega), if_neg c, w64 _ (by omega), if_pos (by omega), if_pos (by omega)]
    have : ((ms.length : Int) - 1).toNat = ms.length - 1 := by omega
    unfold rd_T112
    rw [this]
instance (l : List S37) : Decidable (Lone l) := by unfold Lone; exact inferInstance
instance (l : List S37) : Decidable (Good l) := by unfold Good; exact inferInstance
/-- A model with one change more, and the error. -/
def addE (ms : List S112) (v : Int) (l : List S37) : List S112 × Int := if v ≤ lastE ms then ([], 10) else if Good l then (ms ++ [⟨v, sortE l⟩], 0) else ([], 1)
def model_Add.f (l0 : List S112) (a1 : Int) (l2 : List S37) : Option (List S112 × Int) := if l0.length < 1000000000000 ∧ l2.length < 3518437208883 then some (addE l0 a1 l2) else none


theorem bcell {W w1 : World} (hb : Below W.heap.size W w1) : (∀ b o, b < W.heap.size → w1.cell? ⟨b, o, none⟩ = W.cell? ⟨b, o, none⟩) ∧ (∀ b o, b < W.heap.size → w1.frozen? ⟨b, o, none⟩ = W.frozen? ⟨b, o, none⟩) :=
  ⟨fun b o h => hb.cell (p := ⟨b, o, none⟩) h, fun b o h => hb.frozen (p := ⟨b, o, none⟩) h⟩

theorem two_heap (w : World) (o1 o2 : Obj) : ((w.alloc o1).alloc o2).heap[w.heap.size + 1]? = some o2 := by
  have := blk_new (w.alloc o1) o2
  rwa [World.size_alloc] at this
theorem one_heap (w : World) (o1 o2 : Obj) : ((w.alloc o1).alloc o2).heap[w.heap.size]? = some o1 :=
  (Below.heap_alloc _ _ _ (by simp)).trans (blk_new w o1)
theorem bel2 (w : World) (o1 o2 : Obj) : Below w.heap.size w ((w.alloc o1).alloc o2) := ((Below.refl _ w).alloc (Nat.le_refl _) _).alloc (by simp) _
theorem cell_of_heap {W : World} {g o : Nat} {cs : Array Value} {t : TypeId} {fr : Nat × Nat} {v : Value} (h : W.heap[g]? = some (.cells cs t fr)) (hv : cs[o]? = some v) : W.cell? ⟨g, o, none⟩ = some v := by simp [World.cell?, h, hv]
theorem frozen_of_heap {W : World} {g o : Nat} {cs : Array Value} {t : TypeId} (h : W.heap[g]? = some (.cells cs t (0, 0))) : W.frozen? ⟨g, o, none⟩ = false := by simp [World.frozen?, h]

theorem F_inner {α : Type} {d : Kd α} {W : World} {ok : Nat → Prop} {A : Option Addr} {xs : List α} (h : Kd.F d W ok A xs.length xs) : ∃ inner, Reps (Kd.FK d W ok) d.sz xs inner ∧ ∀ b, A = some b → ∀ j u, inner[j]? = some u → W.cell? (b.add j) = some u := by
  cases A with
  | none =>
    have hn : xs = [] := by
      rcases Nat.eq_zero_or_pos xs.length with h0 | h0
      · exact List.eq_nil_of_length_eq_zero h0
      · obtain ⟨_, e, _⟩ := (Kd.F_now h).2.2 h0
        cases e
    subst hn
    exact ⟨[], Reps.none _ _, fun b e => by cases e⟩
  | some ad =>
    obtain ⟨inner, hr, hc⟩ := ReadsRow.inner_ (Kd.F_rows h)
    exact ⟨inner, hr, fun b e => by cases e; exact hc⟩
theorem N_grown_row {α : Type} {d : Kd α} {e : Nat} {W w1 : World} {base : Nat} {okp ok : Nat → Prop} {v : Value} {xs : List α} {inner : List Value} (hr : Reps (Kd.FK d W okp) d.sz xs inner) (ho : w1.ownsRow W.heap.size e d.sz v xs.length inner) (hg : W.grownBy w1 none) (hb : base ≤ W.heap.size)
    (hok : ∀ k, okp k → ok k) (hfresh : ∀ k, W.heap.size ≤ k → ok k) : Kd.N d e w1 base ok v xs := by
  refine ⟨fun k hk => hfresh k (own_base ho k hk), Kd.chunks d.sz xs.length inner, Kd.chunks_length _ _ _, ⟨fun k hk => hk.symm, inner, by rw [Kd.chunks_length]; exact own_weaken ho hb, Kd.reps_raw hr (fun x c hp => ⟨d.K_len (Kd.FK_now hp), d.K_one (Kd.FK_now hp)⟩)⟩, fun j x c hx hc => ?_⟩
  rw [Kd.chunks_get hc]
  exact Kd.FK_mono (Kd.FK_step (Kd.FK_bound (hr.2 j x hx)) (fun k hk hlt => hg.block k hlt (by simp))) (fun k hk => ⟨hok k hk.1, fun he => by have := own_base ho k he.symm; have := hk.2; omega⟩)
theorem F_none {α : Type} {d : Kd α} {W : World} {ok : Nat → Prop} {A : Option Addr} {xs : List α} (h : Kd.F d W ok A xs.length xs) : A = none → xs.length = 0 ∧ xs.length = 0 := fun e => by
  rcases Nat.eq_zero_or_pos xs.length with h0 | h0
  · exact ⟨h0, h0⟩
  · obtain ⟨_, e', _⟩ := (Kd.F_now h).2.2 h0
    rw [e] at e'; cases e'
theorem cell_alloc_lt (W : World) (o : Obj) {p : Addr} (h : p.block < W.heap.size) : (W.alloc o).cell? p = W.cell? p := (below_alloc (Below.refl _ W) o).cell h
theorem frozen_alloc_lt (W : World) (o : Obj) {p : Addr} (h : p.block < W.heap.size) : (W.alloc o).frozen? p = W.frozen? p := (below_alloc (Below.refl _ W) o).frozen h
theorem own_form {W : World} {base : Nat} {e : TypeId} {size n : Nat} {v : Value} {xs : List Value} (h : W.ownsRow base e size v (n + 1) xs) : ∃ g cap, v = .slice (some ⟨g, 0, none⟩) (n + 1) cap := by
  obtain ⟨g, cap, h1, _⟩ := h.form (by omega)
  exact ⟨g, cap, h1⟩
theorem info112 : (Try.prog.info? 112).map (fun i => (i.zero, i.size, i.bytes)) = some (some (.agg #[(.int .i64 0), (.slice none 0 0)]), 2, 32) := by kernel_rfl
abbrev addW (w : World) (A : Option Addr) (n c : Nat) : World := (w.alloc (.cells #[.slice A n c] 57)).alloc (.cells #[.slice none 0 0] 57)

set_option maxHeartbeats 4000000 in
set_option maxRecDepth 100000 in
theorem add1 (A : Option Addr) (c : Nat) (l0 : List S112) (a1 : Int) (B : Option Addr) (d : Nat) (l2 : List S37) (w : World) (hC0 : Kd.C k112 w A l0.length l0) (hlc : l0.length ≤ c) (hl : l0.length < 1000000000000) (h1 : a1 ≤ lastE l0) :
    Calls Try.prog 37 #[.agg #[.slice A l0.length c], .int .i64 a1, .slice B l2.length d] w fun e w' => e = .returned (.tuple #[.agg #[.slice none 0 0], .int .i64 10]) ∧ Below w.heap.size w w' := by
  have HC0 := Aside0.mk hC0
  have HL0 := Aside0.mk hlc
  have LA := Aside0.mk (last_says l0 hl)
  have d1 : decide (a1 ≤ lastE l0) = true := decide_eq_true h1
  clear hC0 hlc hl
  have hu57 := Try.underlying57
  go_enter Try.func37, Try.ntmps37
  go_wp2_with (go_at_call 36; refine (model_Last.calls A c l0 (lastE l0) _ (Kd.C_below HC0.out (by repeat (first | exact Below.refl _ _ | apply below_alloc))) HL0.out LA.out).mono ?_; rintro e w7 ⟨rfl, hb⟩; obtain ⟨hc7, hf7⟩ := bcell hb; have hz7 : w.heap.size + 1 < w7.heap.size := (by have := hb.size; simp only [World.size_alloc] at this; omega); have HB := Aside0.mk hb; clear hb)
  have hh := (HB.out.block (w.heap.size + 1) (by simp)).trans (two_heap w _ _)
  refine bodyPost_ret (results_ct rfl _ _ (w.heap.size + 1) 57 #[.slice none 0 0] (0, 0) _ rfl ?_ Try.underlying57 rfl (by kernel_rfl)) rfl ⟨rfl, ?_⟩
  · exact blk_put hh 0 _ rfl
  · exact ((bel2 w _ _).trans (HB.out.mono (by simp only [World.size_alloc]; omega))).setCell (by simp) _

set_option maxHeartbeats 4000000 in
set_option maxRecDepth 100000 in
theorem add2 (A : Option Addr) (c : Nat) (l0 : List S112) (a1 : Int) (B : Option Addr) (d : Nat) (l2 : List S37) (w : World) (hC0 : Kd.C k112 w A l0.length l0) (hlc : l0.length ≤ c) (hl : l0.length < 1000000000000) (h1 : ¬ a1 ≤ lastE l0)
    (hC2 : Kd.C k37 w B l2.length l2) (hl2 : l2.length ≤ d) (hc : batch_Check.f 6000 l2 = some 1) :
    Calls Try.prog 37 #[.agg #[.slice A l0.length c], .int .i64 a1, .slice B l2.length d] w fun e w' => e = .returned (.tuple #[.agg #[.slice none 0 0], .int .i64 1]) ∧ Below w.heap.size w w' := by
  have HC0 := Aside0.mk hC0
  have HL0 := Aside0.mk hlc
  have HC2 := Aside0.mk hC2
  have HL2 := Aside0.mk hl2
  have LA := Aside0.mk (last_says l0 hl)
  have CK := Aside0.mk hc
  have d1 : decide (a1 ≤ lastE l0) = false := decide_eq_false h1
  clear hC0 hlc hl hC2 hl2 hc
  have hu57 := Try.underlying57
  go_enter Try.func37, Try.ntmps37
  go_wp2_with (first | (go_at_call 36; refine (model_Last.calls A c l0 (lastE l0) _ (Kd.C_below HC0.out (by repeat (first | exact Below.refl _ _ | apply below_alloc))) HL0.out LA.out).mono ?_; rintro e w7 ⟨rfl, hb⟩; obtain ⟨hc7, hf7⟩ := bcell hb; have hz7 : w.heap.size + 1 < w7.heap.size := (by have := hb.size; simp only [World.size_alloc] at this; omega); have HB := Aside0.mk hb; clear hb) | (go_at_call 15; refine (batch_Check.calls 6000 B d l2 1 _ (Kd.C_below HC2.out ((bel2 w _ _).trans (HB.out.mono (by simp only [World.size_alloc]; omega)))) HL2.out CK.out).mono ?_; rintro e w8 ⟨rfl, hb⟩; obtain ⟨hc8, hf8⟩ := bcell hb; have hz8 : w.heap.size + 1 < w8.heap.size := (by have := hb.size; omega); have HB8 := Aside0.mk hb; clear hb))
  have hs := HB.out.size
  have hh := (HB.out.block (w.heap.size + 1) (by simp)).trans (two_heap w _ _)
  have hh8 := (HB8.out.block (w.heap.size + 1) (by omega)).trans hh
  refine bodyPost_ret (results_ct rfl _ _ (w.heap.size + 1) 57 #[.slice none 0 0] (0, 0) _ rfl ?_ Try.underlying57 rfl (by kernel_rfl)) rfl ⟨rfl, ?_⟩
  · exact blk_put hh8 0 _ rfl
  · exact (((bel2 w _ _).trans (HB.out.mono (by simp only [World.size_alloc]; omega))).trans (HB8.out.mono (by omega))).setCell (by simp) _

set_option maxHeartbeats 4000000 in
set_option maxRecDepth 100000 in
theorem add3 (P0_ : Nat → Prop) (A : Option Addr) (c : Nat) (l0 : List S112) (a1 : Int) (B : Option Addr) (d : Nat) (l2 : List S37) (w : World) (hF : Kd.F k112 w P0_ A l0.length l0) (hlc : l0.length ≤ c) (hl : l0.length < 1000000000000) (h1 : ¬ a1 ≤ lastE l0)
    (hC2 : Kd.C k37 w B l2.length l2) (hl2 : l2.length ≤ d) (hlm : l2.length < 3518437208883) (hc : batch_Check.f 6000 l2 = some 0) :
    Calls Try.prog 37 #[.agg #[.slice A l0.length c], .int .i64 a1, .slice B l2.length d] w fun e w' => ∃ v0_ : Value, e = .returned (.tuple #[.agg #[v0_], .int .i64 0]) ∧ Kd.N k112 112 w' w.heap.size (fun k_ => P0_ k_ ∨ w.heap.size ≤ k_) v0_ (l0 ++ [⟨a1, sortE l2⟩]) ∧ Below w.heap.size w w' := by
  have HF := Aside0.mk hF
  have HC0 := Aside0.mk (Kd.F_now hF)
  have HL0 := Aside0.mk hlc
  have HC2 := Aside0.mk hC2
  have HL2 := Aside0.mk hl2
  have HLM := Aside0.mk hlm
  have HL9 := Aside0.mk hl
  have LA := Aside0.mk (last_says l0 hl)
  have CK := Aside0.mk hc
  have ST := Aside0.mk (show batch_Sorted.f l2 = some (sortE l2) by unfold batch_Sorted.f; rw [if_pos hlm])
  have d1 : decide (a1 ≤ lastE l0) = false := decide_eq_false h1
  have n1 : (0 : Int) ≤ (l0.length : Int) := by omega
  have n2 : (l0.length : Int) ≤ (c : Int) := by omega
  clear hF hlc hl hC2 hl2 hc hlm
  have hu57 := Try.underlying57
  have hu112 := Try.underlying112
  go_enter Try.func37, Try.ntmps37
  go_wp2_with (first | (go_at_call 36; refine (model_Last.calls A c l0 (lastE l0) _ (Kd.C_below HC0.out (by repeat (first | exact Below.refl _ _ | apply below_alloc))) HL0.out LA.out).mono ?_; rintro e w7 ⟨rfl, hb⟩; obtain ⟨hc7, hf7⟩ := bcell hb; have hz7 : w.heap.size + 1 < w7.heap.size := (by have := hb.size; simp only [World.size_alloc] at this; omega); have HB := Aside0.mk hb; clear hb) | (go_at_call 15; refine (batch_Check.calls 6000 B d l2 0 _ (Kd.C_below HC2.out ((bel2 w _ _).trans (HB.out.mono (by simp only [World.size_alloc]; omega)))) HL2.out CK.out).mono ?_; rintro e w8 ⟨rfl, hb⟩; obtain ⟨hc8, hf8⟩ := bcell hb; have hz8 : w.heap.size + 1 < w8.heap.size := (by have := hb.size; omega); have HB8 := Aside0.mk hb; have q8 : w8.cell? ⟨w.heap.size, 0, none⟩ = some (.slice A l0.length c) := (hc8 _ _ (by omega)).trans ((hc7 _ _ (by simp only [World.size_alloc]; omega)).trans (cell_of_heap (one_heap w _ _) rfl)); have r8 : w8.cell? ⟨w.heap.size + 1, 0, none⟩ = some (.slice none 0 0) := (hc8 _ _ (by omega)).trans ((hc7 _ _ (by simp only [World.size_alloc]; omega)).trans (cell_of_heap (two_heap w _ _) rfl)); have f8 : w8.frozen? ⟨w.heap.size + 1, 0, none⟩ = false := (hf8 _ _ (by omega)).trans ((hf7 _ _ (by simp only [World.size_alloc]; omega)).trans (frozen_of_heap (two_heap w _ _))); clear hb hc7 hf7 hc8 hf8))
  have HB2 := Aside0.mk (show Below w.heap.size w w8 from ((bel2 w _ _).trans (HB.out.mono (by simp only [World.size_alloc]; omega))).trans (HB8.out.mono (by omega)))
  have HH8 := Aside0.mk ((HB8.out.block (w.heap.size + 1) (by omega)).trans ((HB.out.block (w.heap.size + 1) (by simp)).trans (two_heap w _ _)))
  clear HB HB8
  obtain ⟨old, hr, hcl⟩ := F_inner HF.out
  have HRp := Aside0.mk hr
  have HCl := Aside0.mk hcl
  have HZ := Aside0.mk hz8
  clear hr hcl
  go_region_held3 (fun w' => w'.cell? ⟨w.heap.size, 0, none⟩ = some (.slice A l0.length c)) (go_keep) ((first | (go_at_call 18; (refine (batch_Sorted.calls B d l2 (sortE l2) _ (Kd.C_below HC2.out (below_drew HB2.out)) HL2.out ST.out).mono ?_); rintro e w9 ⟨v9, rfl, hR, hb⟩; have k0 := (hb.cell (p := ⟨w.heap.size, 0, none⟩) (by show w.heap.size < w8.heap.size; omega)).trans q8; have r9 := (hb.cell (p := ⟨w.heap.size + 1, 0, none⟩) (by show w.heap.size + 1 < w8.heap.size; omega)).trans r8; have f9 := (hb.frozen (p := ⟨w.heap.size + 1, 0, none⟩) (by show w.heap.size + 1 < w8.heap.size; omega)).trans f8; have HR9 := Aside0.mk hR; have HB9 := Aside0.mk hb; clear hR hb; obtain ⟨A9, c9, rfl, hc9, hC9⟩ := Kd.R_reads HR9.out; clear hC9; have HC9 := Aside0.mk hc9; clear hc9) | (refine append_grows_step (W := w9.alloc (.cells #[.int .i64 a1, .slice A9 (sortE l2).length c9] 112)) (by rfl) (.tmp 28) (.tmp 33) 55 rfl 112 (.agg #[(.int .i64 0), (.slice none 0 0)]) 2 32 Try.underlying55 info112 rfl (by decide) A l0.length l0.length old (by rfl) ?n1 ?n2 ?n3 ⟨w9.heap.size, 0, none⟩ 1 1 [.int .i64 a1, .slice A9 (sortE l2).length c9] (by rfl) (by rfl) ?n4 ?n5 (by omega) ?n6 ?n7 ?_; (case n1 => exact F_none HF.out); (case n2 => exact HRp.out.1); (case n3 => exact fun b e j u hu => ((below_alloc (HB2.out.drew.trans (HB9.out.mono (by show w.heap.size ≤ w8.heap.size; have := HZ.out; omega))) _).cell (World.block_lt_of_cell? w _ (HCl.out b e j u hu))).trans (HCl.out b e j u hu)); (case n4 => exact World.news_of_block (cs := #[.int .i64 a1, .slice A9 (sortE l2).length c9]) (t := 112) (fr := (0, 0)) (heap_alloc_new w9 _)); (case n5 => simp [Value.oneCell']); (case n6 => have := HL9.out; unfold maxLen; omega); (case n7 => have := HL9.out; omega); intro v10 w10 ho hg; obtain ⟨g10, c10, rfl⟩ := own_form ho; have k0 : w10.cell? ⟨w.heap.size, 0, none⟩ = some (.slice A l0.length c) := (hg.cell_far ⟨w.heap.size, 0, none⟩ (by simp only [World.size_alloc]; have := HB9.out.size; change w8.heap.size ≤ _ at this; show w.heap.size < _; omega) (by simp)).trans ((cell_alloc_lt _ _ (by have := HB9.out.size; change w8.heap.size ≤ _ at this; show w.heap.size < _; omega)).trans k0); have r10 : w10.cell? ⟨w.heap.size + 1, 0, none⟩ = some (.slice none 0 0) := (hg.cell_far ⟨w.heap.size + 1, 0, none⟩ (by simp only [World.size_alloc]; have := HB9.out.size; change w8.heap.size ≤ _ at this; show w.heap.size + 1 < _; omega) (by simp)).trans ((cell_alloc_lt _ _ (by have := HB9.out.size; change w8.heap.size ≤ _ at this; show w.heap.size + 1 < _; omega)).trans r9); have f10 : w10.frozen? ⟨w.heap.size + 1, 0, none⟩ = false := (hg.frozen_far ⟨w.heap.size + 1, 0, none⟩ (by simp only [World.size_alloc]; have := HB9.out.size; change w8.heap.size ≤ _ at this; show w.heap.size + 1 < _; omega) (by simp)).trans ((frozen_alloc_lt _ _ (by have := HB9.out.size; change w8.heap.size ≤ _ at this; show w.heap.size + 1 < _; omega)).trans f9); have HO := Aside0.mk ho; have HG := Aside0.mk hg; clear ho hg)))
  go_wp2
  have hs9 : w8.heap.size ≤ w9.heap.size := HB9.out.size
  have hz := HZ.out
  have hh10 := (HG.out.block (w.heap.size + 1) (by simp only [World.size_alloc]; omega) (by simp)).trans ((Below.heap_alloc _ _ _ (by omega)).trans ((HB9.out.block (w.heap.size + 1) (by show _ < w8.heap.size; omega)).trans HH8.out))
  have hBw9 : Below w.heap.size w w9 := HB2.out.drew.trans (HB9.out.mono (by show _ ≤ w8.heap.size; omega))
  have hBw10 : Below w.heap.size w w10 := (hBw9.alloc (by omega) _).grown HG.out (by simp only [World.size_alloc]; omega) (fun k e => by cases e)
  refine bodyPost_ret (results_ct rfl _ _ (w.heap.size + 1) 57 #[.slice (some ⟨g10, 0, none⟩) (l0.length + 1) c10] (0, 0) _ rfl (blk_put hh10 0 _ rfl) Try.underlying57 rfl (by kernel_rfl)) rfl ⟨_, rfl, ?_, hBw10.setCell (by simp) _⟩
  have hRn := Kd.R_mono (Kd.R_bound HR9.out) (ok' := fun k => w.heap.size + 2 ≤ k ∧ k < w9.heap.size) (fun k hk => ⟨by have := hk.2.1; change w8.heap.size ≤ k at this; omega, hk.2.2.1⟩)
  have hnew : Kd.FK k112 (w9.alloc (.cells #[.int .i64 a1, .slice A9 (sortE l2).length c9] 112)) (fun k => (P0_ k ∧ k < w.heap.size) ∨ w.heap.size + 2 ≤ k) ⟨a1, sortE l2⟩ [.int .i64 a1, .slice A9 (sortE l2).length c9] :=
    k112_mkF _ _ ⟨a1, sortE l2⟩ HC9.out (Kd.F_mono (Kd.F_alloc (Kd.R_F hRn) _) (fun k hk => .inr hk.1))
  have hold : Reps (Kd.FK k112 (w9.alloc (.cells #[.int .i64 a1, .slice A9 (sortE l2).length c9] 112)) (fun k => (P0_ k ∧ k < w.heap.size) ∨ w.heap.size + 2 ≤ k)) 2 l0 old :=
    HRp.out.imp_ (fun x cs hk => Kd.FK_mono (Kd.FK_step (Kd.FK_bound hk) (fun k hk hlt => (hBw9.alloc (by omega) _).block k hlt)) (fun k hk => .inl hk))
  have hall := hold.snoc hnew rfl
  have hN := N_grown_row (d := k112) (base := w.heap.size) (ok := fun k => (P0_ k ∧ k < w.heap.size) ∨ w.heap.size + 2 ≤ k) hall (by rw [List.length_append]; exact HO.out) HG.out (by simp only [World.size_alloc]; omega) (fun _ h => h) (fun k hk => .inr (by simp only [World.size_alloc] at hk; omega))
  exact Kd.N_mono (Kd.N_far hN (fun k hk => by rcases hk with hk | hk <;> (have := hk; simp only []; omega)) _) (fun k hk => hk.elim (fun h => .inl h.1) (fun h => .inr (by omega)))

theorem model_Add.calls (P0_ : Nat → Prop) (A : Option Addr) (c : Nat) (l0 : List S112) (a1 : Int) (B : Option Addr) (d : Nat) (l2 : List S37) (r1 : List S112) (r2 : Int) (w : World) (hs0 : Kd.V k112 112 w w.heap.size P0_ (.slice A l0.length c) l0) (hr2 : Kd.C k37 w B l2.length l2) (hc2 : l2.length ≤ d) (h : model_Add.f l0 a1 l2 = some (r1, r2)) :
    Calls Try.prog 37 #[.agg #[.slice A l0.length c], .int .i64 a1, .slice B l2.length d] w fun e w' => ∃ v0_ : Value, e = .returned (.tuple #[.agg #[v0_], .int .i64 r2]) ∧ Kd.N k112 112 w' w.heap.size (fun k_ => P0_ k_ ∨ w.heap.size ≤ k_) v0_ r1 ∧ Below w.heap.size w w' := by
  unfold model_Add.f at h
  by_cases hl : l0.length < 1000000000000 ∧ l2.length < 3518437208883
  · rw [if_pos hl] at h
    have hE := Option.some.inj h
    clear h
    obtain ⟨_, hlc, hF⟩ := Kd.V_at hs0
    have CK := check_says l2 6000 (by omega) hl.2
    unfold addE at hE
    by_cases h1 : a1 ≤ lastE l0
    · rw [if_pos h1] at hE
      cases hE
      exact (add1 A c l0 a1 B d l2 w (Kd.F_now hF) hlc hl.1 h1).mono fun e w' ⟨he, hb⟩ => ⟨_, he, Kd.N_nil _ _ _ _ _, hb⟩
    · rw [if_neg h1] at hE
      by_cases hg : Good l2
      · rw [if_pos hg] at hE CK
        cases hE
        exact add3 P0_ A c l0 a1 B d l2 w hF hlc hl.1 h1 hr2 hc2 hl.2 CK
      · rw [if_neg hg] at hE CK
        cases hE
        exact (add2 A c l0 a1 B d l2 w (Kd.F_now hF) hlc hl.1 h1 hr2 hc2 CK).mono fun e w' ⟨he, hb⟩ => ⟨_, he, Kd.N_nil _ _ _ _ _, hb⟩
  · rw [if_neg hl] at h; cases h
end Go.Proofs.Ytgnnhomipfjanaa.PM
