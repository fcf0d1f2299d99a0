/- Functions with the same answers as the Go functions named, and that the Go code comes to just these; written by a program of this work, out of the kit's print. -/
import Derived.Test.YthfcgcbolbmdcaaDoorPRx0
import Derived.Test.YthfcgcbolbmdcaaDoorPRx5
import Derived.Test.YthfcgcbolbmdcaaDoorPRx6
import Derived.Test.YthfcgcbolbmdcaaDoorPRx9
import Derived.Test.YthfcgcbolbmdcaaDoorBox
namespace Go.Proofs.YthfcgcbolbmdcaaDoor.PR
open Go.RowKit Go.Proofs.YthfcgcbolbmdcaaDoorW.PrintWords Go.Proofs.YthfcgcbolbmdcaaDoorW.PrintLast Go.Proofs.YthfcgcbolbmdcaaDoorW.PrintMore
attribute [local go_sem] Wd.one Wd.run_store Go.Lib.run_max_strs max2_int min2_int max_two min_two max_three min_three max_four min_four   -- for this text's walks alone
set_option linter.unusedVariables false
set_option linter.unusedSimpArgs false

/-! ### rundleref03_word: function 42 -/
def rundleref03_word.j0 : Nat → ByteArray → Bool → Option (Int × Int × ByteArray × Bool)
  | 0, _, _ => none
  | k + 1, x0, x15 => if x15 = true then ((rundleref01_Unquote.f k x0).bind fun bt234 => (some (3, 0, bt234.1, bt234.2))) else ((rundleref03_Number.f k x0).bind fun bt236 => (if bt236.2 = true then (some (1, bt236.1, (⟨#[]⟩ : ByteArray), true)) else ((rundleref03_Name.f k x0).bind fun t238 => (some (2, 0, x0, t238)))))
def rundleref03_word.f (k : Nat) (a0 : ByteArray) : Option (Int × Int × ByteArray × Bool) := if (a0.size : Int) > 0 then (if 0 < (a0.size : Int) then (rundleref03_word.j0 k a0 ((bt a0 0) == 34)) else (none)) else (rundleref03_word.j0 k a0 false)
theorem rundleref03_word.mono_l : ∀ k, (∀ y0 y1, LeO (rundleref03_word.j0 k y0 y1) (rundleref03_word.j0 (k + 1) y0 y1))
  | 0 => fun _ _ r h => by simp [rundleref03_word.j0] at h
  | k + 1 => by
    have ih0 := rundleref03_word.mono_l k
    · intro y0 y1
      unfold rundleref03_word.j0
      repeat' first
      | (with_reducible exact ih0 _ _)
      | (with_reducible exact rundleref01_Unquote.mono _ _)
      | (with_reducible exact rundleref03_Name.mono _ _)
      | (with_reducible exact rundleref03_Number.mono _ _)
      | (with_reducible exact LeO.refl _)
      | (with_reducible exact LeO.none _)
      | (with_reducible refine LeO.ite ?_ ?_)
      | (with_reducible refine LeO.bind ?_ (fun _ => ?_))
      | exact ih0 _ _
      | exact rundleref01_Unquote.mono _ _
      | exact rundleref03_Name.mono _ _
      | exact rundleref03_Number.mono _ _
      | exact LeO.none _
      | refine LeO.ite ?_ ?_
      | refine LeO.bind ?_ (fun _ => ?_)
theorem rundleref03_word.mono : ∀ a0 k, LeO (rundleref03_word.f k a0) (rundleref03_word.f (k + 1) a0) := by
  intro a0 k
  have ih0 := rundleref03_word.mono_l k
  unfold rundleref03_word.f
  repeat' first
      | (with_reducible exact ih0 _ _)
      | (with_reducible exact rundleref01_Unquote.mono _ _)
      | (with_reducible exact rundleref03_Name.mono _ _)
      | (with_reducible exact rundleref03_Number.mono _ _)
      | (with_reducible exact LeO.refl _)
      | (with_reducible exact LeO.none _)
      | (with_reducible refine LeO.ite ?_ ?_)
      | (with_reducible refine LeO.bind ?_ (fun _ => ?_))
      | exact ih0 _ _
      | exact rundleref01_Unquote.mono _ _
      | exact rundleref03_Name.mono _ _
      | exact rundleref03_Number.mono _ _
      | exact LeO.none _
      | refine LeO.ite ?_ ?_
      | refine LeO.bind ?_ (fun _ => ?_)
set_option maxHeartbeats 8000000 in
set_option maxRecDepth 100000 in
theorem rundleref03_word.calls (k : Nat) (a0 : ByteArray) (r1 : Int) (r2 : Int) (r3 : ByteArray) (r4 : Bool) (w : World) (h : rundleref03_word.f k a0 = some (r1, r2, r3, r4)) :
    Calls Tryd.prog 42 #[.string a0] w fun e w' => e = .returned (.tuple #[.agg #[.int .i64 r1, .int .i64 r2, .string r3], .bool r4]) ∧ Below w.heap.size w w' := by
  have hu69 := Tryd.underlying69
  have HB := Aside0.mk (Below.refl w.heap.size w)
  have H : (if (a0.size : Int) > 0 then (if 0 < (a0.size : Int) then (rundleref03_word.j0 k a0 ((bt a0 0) == 34)) else (none)) else (rundleref03_word.j0 k a0 false)) = some (r1, r2, r3, r4) := h
  clear h
  have HC2 := Aside0.mk H
  clear H
  go_enter Tryd.func42, Tryd.ntmps42
  go_upto_region 1 with (first | ((with_reducible refine gate_dst (N := 2) rfl ?_); refine box_event ?hg (N := 2) ?hd (cs := #[.int .i64 0, .int .i64 0, .string (⟨#[]⟩ : ByteArray)]) (t := 69) ?hr ?_; (case hd => rfl); (case hg => rfl); (case hr => first | (go_simp; done) | (go_simp; rfl)); intro gb233 hg w3 hbox hb; have n0_ := Aside0.mk (below_step (by repeat (first | (with_reducible first | exact HB.out | apply below_alloc | apply pw_below_drewN | apply below_drew1) | exact HB.out)) hb); have n1_ := Aside0.mk (hbox); have n2_ := Aside0.mk ((by rw [hg]; exact (below_size (by repeat (first | (with_reducible first | exact HB.out | apply below_alloc | apply pw_below_drewN | apply below_drew1) | exact HB.out))) : w.heap.size ≤ gb233)); have n3_ := Aside0.mk ((by rw [hg]; exact (below_size (by repeat (first | (with_reducible first | exact HB.out | apply below_alloc | apply pw_below_drewN | apply below_drew1) | exact HB.out))) : w.heap.size ≤ gb233)); clear HB; have HB := n0_; have BK233 := n1_; have GW233 := n2_; have GE233 := n3_; clear n0_ n1_ n2_ n3_; clear hb hbox hg))
  (try simp only [Act.put, List.setIfInBounds_toArray, List.set_cons_zero, List.set_cons_succ])
  go_cut [15] (fun v15 wc => ∃ (kq : Nat) (x15_1 : Bool), v15 = .bool x15_1 ∧ Aside0 (rundleref03_word.j0 kq a0 x15_1 = some (r1, r2, r3, r4)) ∧ Aside0 (kq ≤ k) ∧ Aside0 (wc.heap[gb233]? = some (.cells #[.int .i64 0, .int .i64 0, .string (⟨#[]⟩ : ByteArray)] 69 (0, 0))) ∧ Aside0 (Below w.heap.size w wc))
  case first =>
    have H := HC2.out
    clear HC2
    by_cases c4 : (a0.size : Int) > 0
    · rw [if_pos c4] at H
      have c4b0 : decide (0 < (a0.size : Int)) = true := decide_eq_true c4
      have c4b1 : decide (0 < a0.size) = true := decide_eq_true (by omega)
      clear c4
      (first | rw [c4b0] | (simp only [i64_w, i32_w]; rw [c4b0]) | skip)
      by_cases c5 : 0 < (a0.size : Int)
      · rw [if_pos c5] at H
        have c5b0 : decide (0 < (a0.size : Int)) = true := decide_eq_true c5
        have c5b1 : decide (0 < a0.size) = true := decide_eq_true (by omega)
        clear c5
        have H' := Aside0.mk H
        clear H
        have p6 : 0 ≤ (0 : Int) := (by omega)
        have q6 : 0 < a0.size := (by have : (0 : Int) < (a0.size : Int) := of_decide_eq_true (by first | (with_reducible assumption) | assumption); omega)
        have hx6 : ∀ h : 0 < a0.size, ((a0[0]'h).toNat : Int) = bt a0 0 := bt_at a0 0
        clear p6
        have qi6 : (0 < (a0.size : Int)) = True := eq_true (of_decide_eq_true (by first | (with_reducible assumption) | assumption))
        replace q6 := eq_true q6
        go_wp2
        go_meet
        case rel => exact ⟨_, (((bt a0 0) == 34)), (by first | rfl | (simp; done) | (simp [*]; done)), H', ⟨by first | omega | exact Nat.le_refl _⟩, ⟨by (with_reducible repeat (first | refine blk_drewN ?_ _ | refine blk_drew ?_ | refine blk_alloc ?_ _)); exact BK233.out⟩, ⟨by repeat (first | (with_reducible first | exact HB.out | apply below_alloc | apply pw_below_drewN | apply below_drew1 | refine below_set ?_ GE233.out) | exact HB.out)⟩⟩
      · rw [if_neg c5] at H
        exact absurd H (by simp)
    · rw [if_neg c4] at H
      have c4b0 : decide (0 < (a0.size : Int)) = false := decide_eq_false c4
      have c4b1 : decide (0 < a0.size) = false := decide_eq_false (by omega)
      clear c4
      (first | rw [c4b0] | (simp only [i64_w, i32_w]; rw [c4b0]) | skip)
      have H' := Aside0.mk H
      clear H
      go_wp2
      go_meet
      case rel => exact ⟨_, (false), (by first | rfl | (simp; done) | (simp [*]; done)), H', ⟨by first | omega | exact Nat.le_refl _⟩, ⟨by (with_reducible repeat (first | refine blk_drewN ?_ _ | refine blk_drew ?_ | refine blk_alloc ?_ _)); exact BK233.out⟩, ⟨by repeat (first | (with_reducible first | exact HB.out | apply below_alloc | apply pw_below_drewN | apply below_drew1 | refine below_set ?_ GE233.out) | exact HB.out)⟩⟩
  case rest =>
    clear HC2
    try clear p2
    try clear c4
    try clear c4b0
    try clear c4b1
    try clear c5
    try clear c5b0
    try clear c5b1
    try clear p6
    try clear q6
    try clear hx6
    try clear qi6
    try clear p6
    try clear q6
    obtain ⟨kq, x15_1, rfl, HA, HJ1, BK233, HB⟩ := hcut
    cases kq with
    | zero => exact absurd HA.out (by simp [rundleref03_word.j0])
    | succ kj1 =>
      have H := HA.out
      clear HA
      simp only [rundleref03_word.j0] at H
      by_cases c7 : x15_1 = true
      · subst c7
        have H1 : ((rundleref01_Unquote.f kj1 a0).bind fun bt234 => (some (3, 0, bt234.1, bt234.2))) = some (r1, r2, r3, r4) := by rw [if_pos rfl] at H; exact H
        clear H
        have H := H1
        clear H1
        replace H := Option.bind_eq_some_iff.mp H
        obtain ⟨⟨t234, t235⟩, A80, H⟩ := H
        replace H : (some (3, 0, t234, t235)) = some (r1, r2, r3, r4) := H
        have A8 := Aside0.mk A80
        clear A80
        simp only [Option.some.injEq, Prod.mk.injEq] at H
        obtain ⟨rfl, rfl, rfl, rfl⟩ := H
        go_wp2_with (first | ((with_reducible refine gate_callee (f := 68) rfl ?_); refine goesL_ (some 18) rfl rfl Tryd.func68 (by kernel_rfl) rfl #[.string a0] rfl (by (try simp only [List.map_toArray, List.map_cons, List.map_nil]); first | done | rfl | (simp only [List.length_drop, List.length_take]; rfl)) ?_; (with_reducible refine (rundleref01_Unquote.calls kj1 a0 t234 t235 _ A8.out).mono ?_); rintro e w9 ⟨rfl, hb⟩; refine ⟨_, rfl, ?_⟩; have n0_ := Aside0.mk (blk_below (g := gb233) (o := .cells #[.int .i64 0, .int .i64 0, .string (⟨#[]⟩ : ByteArray)] 69 (0, 0)) (by (with_reducible repeat (first | refine blk_drewN ?_ _ | refine blk_drew ?_ | refine blk_alloc ?_ _)); exact BK233.out) hb); have n1_ := Aside0.mk (below_step (by repeat (first | (with_reducible first | exact HB.out | apply below_alloc | apply pw_below_drewN | apply below_drew1 | refine below_set ?_ GE233.out) | exact HB.out)) hb); clear BK233; clear HB; have BK233 := n0_; have HB := n1_; clear n0_ n1_; (try clear hb); (try clear hb2); (try clear hk); (try clear hi); have hcz10_0 : w9.cell? ⟨gb233, 0, none⟩ = some (.int .i64 0) := (blk_cell BK233.out 0).trans rfl; have hcz10_1 : w9.cell? ⟨gb233, 1, none⟩ = some (.int .i64 0) := (blk_cell BK233.out 1).trans rfl; have hcz10_2 : w9.cell? ⟨gb233, 2, none⟩ = some (.string (⟨#[]⟩ : ByteArray)) := (blk_cell BK233.out 2).trans rfl; have hfz10_0 := blk_frozen BK233.out 0; have hfz10_1 := blk_frozen BK233.out 1; have hfz10_2 := blk_frozen BK233.out 2))
        refine bodyPost_ret (results_ct rfl _ _ gb233 69 #[.int .i64 3, .int .i64 0, .string t234] (0, 0) _ rfl (by (with_reducible repeat (first | refine blk_drewN ?_ _ | refine blk_drew ?_ | refine blk_alloc ?_ _)); refine blk_put (cs := #[.int .i64 3, .int .i64 0, .string (⟨#[]⟩ : ByteArray)]) ?_ 2 _ rfl; (with_reducible repeat (first | refine blk_drewN ?_ _ | refine blk_drew ?_ | refine blk_alloc ?_ _)); refine blk_put (cs := #[.int .i64 3, .int .i64 0, .string (⟨#[]⟩ : ByteArray)]) ?_ 1 _ rfl; (with_reducible repeat (first | refine blk_drewN ?_ _ | refine blk_drew ?_ | refine blk_alloc ?_ _)); refine blk_put (cs := #[.int .i64 0, .int .i64 0, .string (⟨#[]⟩ : ByteArray)]) ?_ 0 _ rfl; (with_reducible repeat (first | refine blk_drewN ?_ _ | refine blk_drew ?_ | refine blk_alloc ?_ _)); exact BK233.out) Tryd.underlying69 rfl (by kernel_rfl)) rfl ?_
        exact ⟨by first | rfl | (simp [errW_none, errW_some] <;> rfl) | (simp [*, errW_none, errW_some] <;> rfl), by repeat (first | (with_reducible first | exact HB.out | apply below_alloc | apply pw_below_drewN | apply below_drew1 | refine below_set ?_ GE233.out) | exact HB.out)⟩
      · replace c7 := Bool.eq_false_iff.mpr c7
        subst c7
        have H1 : ((rundleref03_Number.f kj1 a0).bind fun bt236 => (if bt236.2 = true then (some (1, bt236.1, (⟨#[]⟩ : ByteArray), true)) else ((rundleref03_Name.f kj1 a0).bind fun t238 => (some (2, 0, a0, t238))))) = some (r1, r2, r3, r4) := by rw [if_neg (show ¬ (false = true) by decide)] at H; exact H
        clear H
        have H := H1
        clear H1
        replace H := Option.bind_eq_some_iff.mp H
        obtain ⟨⟨t236, t237⟩, A110, H⟩ := H
        replace H : (if t237 = true then (some (1, t236, (⟨#[]⟩ : ByteArray), true)) else ((rundleref03_Name.f kj1 a0).bind fun t238 => (some (2, 0, a0, t238)))) = some (r1, r2, r3, r4) := H
        have A11 := Aside0.mk A110
        clear A110
        by_cases c12 : t237 = true
        · subst c12
          have H1 : (some (1, t236, (⟨#[]⟩ : ByteArray), true)) = some (r1, r2, r3, r4) := by rw [if_pos rfl] at H; exact H
          clear H
          have H := H1
          clear H1
          simp only [Option.some.injEq, Prod.mk.injEq] at H
          obtain ⟨rfl, rfl, rfl, rfl⟩ := H
          go_wp2_with (first | ((with_reducible refine gate_callee (f := 9) rfl ?_); refine goesL_ (some 26) rfl rfl Tryd.func9 (by kernel_rfl) rfl #[.string a0] rfl (by (try simp only [List.map_toArray, List.map_cons, List.map_nil]); first | done | rfl | (simp only [List.length_drop, List.length_take]; rfl)) ?_; (with_reducible refine (rundleref03_Number.calls kj1 a0 t236 true _ A11.out).mono ?_); rintro e w' ⟨rfl, ⟨nd, rfl⟩⟩; refine ⟨_, rfl, ?_⟩; (try (rw [drewN_self wc]; generalize hq_ : World.drewN wc _ = wc; have n0_ : Aside0 (wc.heap[gb233]? = some (.cells #[.int .i64 0, .int .i64 0, .string (⟨#[]⟩ : ByteArray)] 69 (0, 0))) := ⟨by rw [← hq_]; exact (by (with_reducible repeat (first | refine blk_drewN ?_ _ | refine blk_drew ?_ | refine blk_alloc ?_ _)); exact BK233.out)⟩; have n1_ : Aside0 (Below w.heap.size w wc) := ⟨by rw [← hq_]; exact (by repeat (first | (with_reducible first | exact HB.out | apply below_alloc | apply pw_below_drewN | apply below_drew1 | refine below_set ?_ GE233.out) | exact HB.out))⟩; clear BK233 HB hq_; have BK233 := n0_; have HB := n1_; clear n0_ n1_)); have hcz13_0 : wc.cell? ⟨gb233, 0, none⟩ = some (.int .i64 0) := (blk_cell BK233.out 0).trans rfl; have hcz13_1 : wc.cell? ⟨gb233, 1, none⟩ = some (.int .i64 0) := (blk_cell BK233.out 1).trans rfl; have hcz13_2 : wc.cell? ⟨gb233, 2, none⟩ = some (.string (⟨#[]⟩ : ByteArray)) := (blk_cell BK233.out 2).trans rfl; have hfz13_0 := blk_frozen BK233.out 0; have hfz13_1 := blk_frozen BK233.out 1; have hfz13_2 := blk_frozen BK233.out 2))
          refine bodyPost_ret (results_ct rfl _ _ gb233 69 #[.int .i64 1, .int .i64 t236, .string (⟨#[]⟩ : ByteArray)] (0, 0) _ rfl (by (with_reducible repeat (first | refine blk_drewN ?_ _ | refine blk_drew ?_ | refine blk_alloc ?_ _)); refine blk_put (cs := #[.int .i64 1, .int .i64 t236, .string (⟨#[]⟩ : ByteArray)]) ?_ 2 _ rfl; (with_reducible repeat (first | refine blk_drewN ?_ _ | refine blk_drew ?_ | refine blk_alloc ?_ _)); refine blk_put (cs := #[.int .i64 1, .int .i64 0, .string (⟨#[]⟩ : ByteArray)]) ?_ 1 _ rfl; (with_reducible repeat (first | refine blk_drewN ?_ _ | refine blk_drew ?_ | refine blk_alloc ?_ _)); refine blk_put (cs := #[.int .i64 0, .int .i64 0, .string (⟨#[]⟩ : ByteArray)]) ?_ 0 _ rfl; (with_reducible repeat (first | refine blk_drewN ?_ _ | refine blk_drew ?_ | refine blk_alloc ?_ _)); exact BK233.out) Tryd.underlying69 rfl (by kernel_rfl)) rfl ?_
          exact ⟨by first | rfl | (simp [errW_none, errW_some] <;> rfl) | (simp [*, errW_none, errW_some] <;> rfl), by repeat (first | (with_reducible first | exact HB.out | apply below_alloc | apply pw_below_drewN | apply below_drew1 | refine below_set ?_ GE233.out) | exact HB.out)⟩
        · replace c12 := Bool.eq_false_iff.mpr c12
          subst c12
          have H1 : ((rundleref03_Name.f kj1 a0).bind fun t238 => (some (2, 0, a0, t238))) = some (r1, r2, r3, r4) := by rw [if_neg (show ¬ (false = true) by decide)] at H; exact H
          clear H
          have H := H1
          clear H1
          replace H := Option.bind_eq_some_iff.mp H
          obtain ⟨t238, A140, H⟩ := H
          replace H : (some (2, 0, a0, t238)) = some (r1, r2, r3, r4) := H
          have A14 := Aside0.mk A140
          clear A140
          simp only [Option.some.injEq, Prod.mk.injEq] at H
          obtain ⟨rfl, rfl, rfl, rfl⟩ := H
          go_wp2_with (first | ((with_reducible refine gate_callee (f := 9) rfl ?_); refine goesL_ (some 26) rfl rfl Tryd.func9 (by kernel_rfl) rfl #[.string a0] rfl (by (try simp only [List.map_toArray, List.map_cons, List.map_nil]); first | done | rfl | (simp only [List.length_drop, List.length_take]; rfl)) ?_; (with_reducible refine (rundleref03_Number.calls kj1 a0 t236 false _ A11.out).mono ?_); rintro e w' ⟨rfl, ⟨nd, rfl⟩⟩; refine ⟨_, rfl, ?_⟩; (try (rw [drewN_self wc]; generalize hq_ : World.drewN wc _ = wc; have n0_ : Aside0 (wc.heap[gb233]? = some (.cells #[.int .i64 0, .int .i64 0, .string (⟨#[]⟩ : ByteArray)] 69 (0, 0))) := ⟨by rw [← hq_]; exact (by (with_reducible repeat (first | refine blk_drewN ?_ _ | refine blk_drew ?_ | refine blk_alloc ?_ _)); exact BK233.out)⟩; have n1_ : Aside0 (Below w.heap.size w wc) := ⟨by rw [← hq_]; exact (by repeat (first | (with_reducible first | exact HB.out | apply below_alloc | apply pw_below_drewN | apply below_drew1 | refine below_set ?_ GE233.out) | exact HB.out))⟩; clear BK233 HB hq_; have BK233 := n0_; have HB := n1_; clear n0_ n1_))) | ((with_reducible refine gate_callee (f := 11) rfl ?_); refine goesL_ (some 35) rfl rfl Tryd.func11 (by kernel_rfl) rfl #[.string a0] rfl (by (try simp only [List.map_toArray, List.map_cons, List.map_nil]); first | done | rfl | (simp only [List.length_drop, List.length_take]; rfl)) ?_; (with_reducible refine (rundleref03_Name.calls kj1 a0 t238 _ A14.out).mono ?_); rintro e w' ⟨rfl, ⟨nd, rfl⟩⟩; refine ⟨_, rfl, ?_⟩; (try (rw [drewN_self wc]; generalize hq_ : World.drewN wc _ = wc; have n0_ : Aside0 (wc.heap[gb233]? = some (.cells #[.int .i64 0, .int .i64 0, .string (⟨#[]⟩ : ByteArray)] 69 (0, 0))) := ⟨by rw [← hq_]; exact (by (with_reducible repeat (first | refine blk_drewN ?_ _ | refine blk_drew ?_ | refine blk_alloc ?_ _)); exact BK233.out)⟩; have n1_ : Aside0 (Below w.heap.size w wc) := ⟨by rw [← hq_]; exact (by repeat (first | (with_reducible first | exact HB.out | apply below_alloc | apply pw_below_drewN | apply below_drew1 | refine below_set ?_ GE233.out) | exact HB.out))⟩; clear BK233 HB hq_; have BK233 := n0_; have HB := n1_; clear n0_ n1_)); have hcz15_0 : wc.cell? ⟨gb233, 0, none⟩ = some (.int .i64 0) := (blk_cell BK233.out 0).trans rfl; have hcz15_1 : wc.cell? ⟨gb233, 1, none⟩ = some (.int .i64 0) := (blk_cell BK233.out 1).trans rfl; have hcz15_2 : wc.cell? ⟨gb233, 2, none⟩ = some (.string (⟨#[]⟩ : ByteArray)) := (blk_cell BK233.out 2).trans rfl; have hfz15_0 := blk_frozen BK233.out 0; have hfz15_1 := blk_frozen BK233.out 1; have hfz15_2 := blk_frozen BK233.out 2))
          refine bodyPost_ret (results_ct rfl _ _ gb233 69 #[.int .i64 2, .int .i64 0, .string a0] (0, 0) _ rfl (by (with_reducible repeat (first | refine blk_drewN ?_ _ | refine blk_drew ?_ | refine blk_alloc ?_ _)); refine blk_put (cs := #[.int .i64 2, .int .i64 0, .string (⟨#[]⟩ : ByteArray)]) ?_ 2 _ rfl; (with_reducible repeat (first | refine blk_drewN ?_ _ | refine blk_drew ?_ | refine blk_alloc ?_ _)); refine blk_put (cs := #[.int .i64 2, .int .i64 0, .string (⟨#[]⟩ : ByteArray)]) ?_ 1 _ rfl; (with_reducible repeat (first | refine blk_drewN ?_ _ | refine blk_drew ?_ | refine blk_alloc ?_ _)); refine blk_put (cs := #[.int .i64 0, .int .i64 0, .string (⟨#[]⟩ : ByteArray)]) ?_ 0 _ rfl; (with_reducible repeat (first | refine blk_drewN ?_ _ | refine blk_drew ?_ | refine blk_alloc ?_ _)); exact BK233.out) Tryd.underlying69 rfl (by kernel_rfl)) rfl ?_
          exact ⟨by first | rfl | (simp [errW_none, errW_some] <;> rfl) | (simp [*, errW_none, errW_some] <;> rfl), by repeat (first | (with_reducible first | exact HB.out | apply below_alloc | apply pw_below_drewN | apply below_drew1 | refine below_set ?_ GE233.out) | exact HB.out)⟩

/-! ### rundleref03_words: function 25 -/
def rundleref03_words.l0 : Nat → ByteArray → List (S69) → Int → Option ((List (S69)) × Bool)
  | 0, _, _, _ => none
  | k + 1, x0, x4, x5 => if x5 < (x0.size : Int) then (if 0 ≤ x5 then ((rundleref03_blank.f (bt x0 x5)).bind fun t239 => (if t239 = true then (rundleref03_words.l0 k x0 x4 (wrap64 (x5 + 1))) else (if (bt x0 x5) = 35 then (some (x4, true)) else ((rundleref03_end.f k x0 x5).bind fun t240 => (if x5 ≤ t240 then (if t240 ≤ (x0.size : Int) then ((rundleref03_word.f k (x0.extract (x5 : Int).toNat (t240 : Int).toNat)).bind fun bt241 => (if bt241.2.2.2 = true then (if t240 < (x0.size : Int) then (if 0 ≤ t240 then ((rundleref03_blank.f (bt x0 t240)).bind fun t246 => (if t246 = true then (if x4.length < 4398046511104 then (rundleref03_words.l0 k x0 (x4 ++ [(⟨bt241.1, bt241.2.1, bt241.2.2.1⟩ : S69)]) t240) else (none)) else (some (([] : List (S69)), false)))) else (none)) else (if x4.length < 4398046511104 then (rundleref03_words.l0 k x0 (x4 ++ [(⟨bt241.1, bt241.2.1, bt241.2.2.1⟩ : S69)]) t240) else (none))) else (some (([] : List (S69)), false)))) else (none)) else (none)))))) else (none)) else (some (x4, true))
def rundleref03_words.f (k : Nat) (a0 : ByteArray) : Option ((List (S69)) × Bool) := rundleref03_words.l0 k a0 ([] : List (S69)) 0
theorem rundleref03_words.mono_l : ∀ k, (∀ y0 y1 y2, LeO (rundleref03_words.l0 k y0 y1 y2) (rundleref03_words.l0 (k + 1) y0 y1 y2))
  | 0 => fun _ _ _ r h => by simp [rundleref03_words.l0] at h
  | k + 1 => by
    have ih0 := rundleref03_words.mono_l k
    · intro y0 y1 y2
      unfold rundleref03_words.l0
      repeat' first
      | (with_reducible exact ih0 _ _ _)
      | (with_reducible exact rundleref03_end.mono _ _ _)
      | (with_reducible exact rundleref03_word.mono _ _)
      | (with_reducible exact LeO.refl _)
      | (with_reducible exact LeO.none _)
      | (with_reducible refine LeO.ite ?_ ?_)
      | (with_reducible refine LeO.bind ?_ (fun _ => ?_))
      | exact ih0 _ _ _
      | exact rundleref03_end.mono _ _ _
      | exact rundleref03_word.mono _ _
      | exact LeO.none _
      | refine LeO.ite ?_ ?_
      | refine LeO.bind ?_ (fun _ => ?_)
theorem rundleref03_words.mono : ∀ a0 k, LeO (rundleref03_words.f k a0) (rundleref03_words.f (k + 1) a0) := by
  intro a0 k
  have ih0 := rundleref03_words.mono_l k
  unfold rundleref03_words.f
  repeat' first
      | (with_reducible exact ih0 _ _ _)
      | (with_reducible exact rundleref03_end.mono _ _ _)
      | (with_reducible exact rundleref03_word.mono _ _)
      | (with_reducible exact LeO.refl _)
      | (with_reducible exact LeO.none _)
      | (with_reducible refine LeO.ite ?_ ?_)
      | (with_reducible refine LeO.bind ?_ (fun _ => ?_))
      | exact ih0 _ _ _
      | exact rundleref03_end.mono _ _ _
      | exact rundleref03_word.mono _ _
      | exact LeO.none _
      | refine LeO.ite ?_ ?_
      | refine LeO.bind ?_ (fun _ => ?_)
set_option maxHeartbeats 8000000 in
set_option maxRecDepth 100000 in
theorem rundleref03_words.calls (k : Nat) (a0 : ByteArray) (r1 : List (S69)) (r2 : Bool) (w : World) (h : rundleref03_words.f k a0 = some (r1, r2)) :
    Calls Tryd.prog 25 #[.string a0] w fun e w' => ∃ v0_ : Value, e = .returned (.tuple #[v0_, .bool r2]) ∧ Kd.R k69 69 w' w.heap.size (fun _ => True) v0_ r1 ∧ Below w.heap.size w w' := by
  have hu69 := Tryd.underlying69
  have HB := Aside0.mk (Below.refl w.heap.size w)
  have H : (rundleref03_words.l0 k a0 ([] : List (S69)) 0) = some (r1, r2) := h
  clear h
  have H' := Aside0.mk H
  clear H
  go_enter Tryd.func25, Tryd.ntmps25
  go_wp2
  go_loopg [4, 5] k (fun kq v4 v5 w' => ∃ (x4_1 : List (S69)) (x5_1 : Int), v5 = .int .i64 x5_1 ∧ Aside0 (rundleref03_words.l0 kq a0 x4_1 x5_1 = some (r1, r2)) ∧ Aside0 (kq ≤ k) ∧ Aside0 (Kd.R k69 69 w' w.heap.size (fun _ => True) v4 x4_1) ∧ Aside0 (Below w.heap.size w w'))
  case atStart => exact ⟨(([] : List (S69))), (0), (by first | rfl | (simp; done) | (simp [*]; done)), H', ⟨Nat.le_refl _⟩, ⟨by first | exact Kd.R_nil _ _ _ _ _ | exact Kd.N_nil _ _ _ _ _ | exact Kd.V_nil _ _ _ _ _ | exact Kd.Q_nil _ _ _ _ _ | exact Kd.S_nil _ _ _ _ _⟩, ⟨by repeat (first | (with_reducible first | exact HB.out | apply below_alloc | apply pw_below_drewN | apply below_drew1) | exact HB.out)⟩⟩
  case round =>
    clear H'
    obtain ⟨x4_1, x5_1, rfl, HA, HK1, HO_4, HB⟩ := hrel
    cases gk with
    | zero => exact absurd HA.out (by simp [rundleref03_words.l0])
    | succ k1 =>
      have H := HA.out
      clear HA
      simp only [rundleref03_words.l0] at H
      by_cases c2 : x5_1 < (a0.size : Int)
      · rw [if_pos c2] at H
        have c2b0 : decide (x5_1 < (a0.size : Int)) = true := decide_eq_true c2
        clear c2
        by_cases c3 : 0 ≤ x5_1
        · rw [if_pos c3] at H
          have c3b0 : decide (0 ≤ x5_1) = true := decide_eq_true c3
          clear c3
          replace H := Option.bind_eq_some_iff.mp H
          obtain ⟨t239, A50, H⟩ := H
          replace H : (if t239 = true then (rundleref03_words.l0 k1 a0 x4_1 (wrap64 (x5_1 + 1))) else (if (bt a0 x5_1) = 35 then (some (x4_1, true)) else ((rundleref03_end.f k1 a0 x5_1).bind fun t240 => (if x5_1 ≤ t240 then (if t240 ≤ (a0.size : Int) then ((rundleref03_word.f k1 (a0.extract (x5_1 : Int).toNat (t240 : Int).toNat)).bind fun bt241 => (if bt241.2.2.2 = true then (if t240 < (a0.size : Int) then (if 0 ≤ t240 then ((rundleref03_blank.f (bt a0 t240)).bind fun t246 => (if t246 = true then (if x4_1.length < 4398046511104 then (rundleref03_words.l0 k1 a0 (x4_1 ++ [(⟨bt241.1, bt241.2.1, bt241.2.2.1⟩ : S69)]) t240) else (none)) else (some (([] : List (S69)), false)))) else (none)) else (if x4_1.length < 4398046511104 then (rundleref03_words.l0 k1 a0 (x4_1 ++ [(⟨bt241.1, bt241.2.1, bt241.2.2.1⟩ : S69)]) t240) else (none))) else (some (([] : List (S69)), false)))) else (none)) else (none))))) = some (r1, r2) := H
          have A5 := Aside0.mk A50
          clear A50
          by_cases c6 : t239 = true
          · subst c6
            have H1 : (rundleref03_words.l0 k1 a0 x4_1 (wrap64 (x5_1 + 1))) = some (r1, r2) := by rw [if_pos rfl] at H; exact H
            clear H
            have H := H1
            clear H1
            have H' := Aside0.mk H
            clear H
            have p4 : 0 ≤ (x5_1 : Int) := of_decide_eq_true (by first | (with_reducible assumption) | assumption)
            have q4 : x5_1 < (a0.size : Int) := of_decide_eq_true (by first | (with_reducible assumption) | assumption)
            have hx4 := bt_at a0 x5_1
            replace p4 := eq_true p4
            replace q4 := eq_true q4
            go_wp2_with (first | ((with_reducible refine gate_callee (f := 40) rfl ?_); refine goesL_ (some 16) rfl rfl Tryd.func40 (by kernel_rfl) rfl #[.int .u8 (bt a0 x5_1)] rfl (by (try simp only [List.map_toArray, List.map_cons, List.map_nil]); first | done | rfl | (simp only [List.length_drop, List.length_take]; rfl)) ?_; (with_reducible refine (rundleref03_blank.calls (bt a0 x5_1) true _ A5.out).mono ?_); rintro e w' ⟨rfl, ⟨nd, rfl⟩⟩; refine ⟨_, rfl, ?_⟩))
            go_roundg k1
            case measure => have := HK1.out; omega
            case rel => exact ⟨(x4_1), (wrap64 (x5_1 + 1)), (by first | rfl | (simp; done) | (simp [*]; done)), H', ⟨by have := HK1.out; omega⟩, ⟨by (with_reducible repeat (first | apply Kd.R_alloc | apply Kd.R_drewN | apply Kd.R_drew)); exact HO_4.out⟩, ⟨by repeat (first | (with_reducible first | exact HB.out | apply below_alloc | apply pw_below_drewN | apply below_drew1) | exact HB.out)⟩⟩
          · replace c6 := Bool.eq_false_iff.mpr c6
            subst c6
            have H1 : (if (bt a0 x5_1) = 35 then (some (x4_1, true)) else ((rundleref03_end.f k1 a0 x5_1).bind fun t240 => (if x5_1 ≤ t240 then (if t240 ≤ (a0.size : Int) then ((rundleref03_word.f k1 (a0.extract (x5_1 : Int).toNat (t240 : Int).toNat)).bind fun bt241 => (if bt241.2.2.2 = true then (if t240 < (a0.size : Int) then (if 0 ≤ t240 then ((rundleref03_blank.f (bt a0 t240)).bind fun t246 => (if t246 = true then (if x4_1.length < 4398046511104 then (rundleref03_words.l0 k1 a0 (x4_1 ++ [(⟨bt241.1, bt241.2.1, bt241.2.2.1⟩ : S69)]) t240) else (none)) else (some (([] : List (S69)), false)))) else (none)) else (if x4_1.length < 4398046511104 then (rundleref03_words.l0 k1 a0 (x4_1 ++ [(⟨bt241.1, bt241.2.1, bt241.2.2.1⟩ : S69)]) t240) else (none))) else (some (([] : List (S69)), false)))) else (none)) else (none)))) = some (r1, r2) := by rw [if_neg (show ¬ (false = true) by decide)] at H; exact H
            clear H
            have H := H1
            clear H1
            by_cases c8 : (bt a0 x5_1) = 35
            · rw [if_pos c8] at H
              have c8b0 : ((bt a0 x5_1) == 35) = true := beq_iff_eq.mpr c8
              have c8b1 : ((bt a0 x5_1) != 35) = false := bne_eq_false_iff_eq.mpr c8
              clear c8
              simp only [Option.some.injEq, Prod.mk.injEq] at H
              obtain ⟨rfl, rfl⟩ := H
              have p4 : 0 ≤ (x5_1 : Int) := of_decide_eq_true (by first | (with_reducible assumption) | assumption)
              have q4 : x5_1 < (a0.size : Int) := of_decide_eq_true (by first | (with_reducible assumption) | assumption)
              have hx4 := bt_at a0 x5_1
              replace p4 := eq_true p4
              replace q4 := eq_true q4
              go_wp2_with (first | ((with_reducible refine gate_callee (f := 40) rfl ?_); refine goesL_ (some 16) rfl rfl Tryd.func40 (by kernel_rfl) rfl #[.int .u8 (bt a0 x5_1)] rfl (by (try simp only [List.map_toArray, List.map_cons, List.map_nil]); first | done | rfl | (simp only [List.length_drop, List.length_take]; rfl)) ?_; (with_reducible refine (rundleref03_blank.calls (bt a0 x5_1) false _ A5.out).mono ?_); rintro e w' ⟨rfl, ⟨nd, rfl⟩⟩; refine ⟨_, rfl, ?_⟩; have p7 : 0 ≤ (x5_1 : Int) := of_decide_eq_true (by first | (with_reducible assumption) | assumption); have q7 : x5_1 < (a0.size : Int) := of_decide_eq_true (by first | (with_reducible assumption) | assumption); have hx7 := bt_at a0 x5_1; replace p7 := eq_true p7; replace q7 := eq_true q7))
              go_ret2
              exact ⟨_, by first | rfl | (simp [errW_none, errW_some] <;> rfl) | (simp [*, errW_none, errW_some] <;> rfl), by (with_reducible repeat (first | apply Kd.R_alloc | apply Kd.R_drewN | apply Kd.R_drew)); exact HO_4.out, by repeat (first | (with_reducible first | exact HB.out | apply below_alloc | apply pw_below_drewN | apply below_drew1) | exact HB.out)⟩
            · rw [if_neg c8] at H
              have c8b0 : ((bt a0 x5_1) == 35) = false := beq_eq_false_iff_ne.mpr c8
              have c8b1 : ((bt a0 x5_1) != 35) = true := bne_iff_ne.mpr c8
              replace H := Option.bind_eq_some_iff.mp H
              obtain ⟨t240, A90, H⟩ := H
              replace H : (if x5_1 ≤ t240 then (if t240 ≤ (a0.size : Int) then ((rundleref03_word.f k1 (a0.extract (x5_1 : Int).toNat (t240 : Int).toNat)).bind fun bt241 => (if bt241.2.2.2 = true then (if t240 < (a0.size : Int) then (if 0 ≤ t240 then ((rundleref03_blank.f (bt a0 t240)).bind fun t246 => (if t246 = true then (if x4_1.length < 4398046511104 then (rundleref03_words.l0 k1 a0 (x4_1 ++ [(⟨bt241.1, bt241.2.1, bt241.2.2.1⟩ : S69)]) t240) else (none)) else (some (([] : List (S69)), false)))) else (none)) else (if x4_1.length < 4398046511104 then (rundleref03_words.l0 k1 a0 (x4_1 ++ [(⟨bt241.1, bt241.2.1, bt241.2.2.1⟩ : S69)]) t240) else (none))) else (some (([] : List (S69)), false)))) else (none)) else (none)) = some (r1, r2) := H
              have A9 := Aside0.mk A90
              clear A90
              have c10b0 := eq_true (of_decide_eq_true (by first | (with_reducible assumption) | assumption) : 0 ≤ x5_1)
              by_cases c11 : x5_1 ≤ t240
              · rw [if_pos c11] at H
                have c11b0 := eq_true c11
                have c11b1 : decide (x5_1 ≤ t240) = true := decide_eq_true c11
                clear c11
                by_cases c12 : t240 ≤ (a0.size : Int)
                · rw [if_pos c12] at H
                  have c12b0 := eq_true c12
                  have c12b1 : decide (t240 ≤ (a0.size : Int)) = true := decide_eq_true c12
                  clear c12
                  replace H := Option.bind_eq_some_iff.mp H
                  obtain ⟨⟨t241, t242, t243, t244⟩, A130, H⟩ := H
                  replace H : (if t244 = true then (if t240 < (a0.size : Int) then (if 0 ≤ t240 then ((rundleref03_blank.f (bt a0 t240)).bind fun t246 => (if t246 = true then (if x4_1.length < 4398046511104 then (rundleref03_words.l0 k1 a0 (x4_1 ++ [(⟨t241, t242, t243⟩ : S69)]) t240) else (none)) else (some (([] : List (S69)), false)))) else (none)) else (if x4_1.length < 4398046511104 then (rundleref03_words.l0 k1 a0 (x4_1 ++ [(⟨t241, t242, t243⟩ : S69)]) t240) else (none))) else (some (([] : List (S69)), false))) = some (r1, r2) := H
                  have A13 := Aside0.mk A130
                  clear A130
                  by_cases c14 : t244 = true
                  · subst c14
                    have H1 : (if t240 < (a0.size : Int) then (if 0 ≤ t240 then ((rundleref03_blank.f (bt a0 t240)).bind fun t246 => (if t246 = true then (if x4_1.length < 4398046511104 then (rundleref03_words.l0 k1 a0 (x4_1 ++ [(⟨t241, t242, t243⟩ : S69)]) t240) else (none)) else (some (([] : List (S69)), false)))) else (none)) else (if x4_1.length < 4398046511104 then (rundleref03_words.l0 k1 a0 (x4_1 ++ [(⟨t241, t242, t243⟩ : S69)]) t240) else (none))) = some (r1, r2) := by rw [if_pos rfl] at H; exact H
                    clear H
                    have H := H1
                    clear H1
                    by_cases c15 : t240 < (a0.size : Int)
                    · rw [if_pos c15] at H
                      have c15b0 : decide (t240 < (a0.size : Int)) = true := decide_eq_true c15
                      clear c15
                      by_cases c16 : 0 ≤ t240
                      · rw [if_pos c16] at H
                        have c16b0 : decide (0 ≤ t240) = true := decide_eq_true c16
                        clear c16
                        replace H := Option.bind_eq_some_iff.mp H
                        obtain ⟨t246, A180, H⟩ := H
                        replace H : (if t246 = true then (if x4_1.length < 4398046511104 then (rundleref03_words.l0 k1 a0 (x4_1 ++ [(⟨t241, t242, t243⟩ : S69)]) t240) else (none)) else (some (([] : List (S69)), false))) = some (r1, r2) := H
                        have A18 := Aside0.mk A180
                        clear A180
                        by_cases c19 : t246 = true
                        · subst c19
                          have H1 : (if x4_1.length < 4398046511104 then (rundleref03_words.l0 k1 a0 (x4_1 ++ [(⟨t241, t242, t243⟩ : S69)]) t240) else (none)) = some (r1, r2) := by rw [if_pos rfl] at H; exact H
                          clear H
                          have H := H1
                          clear H1
                          by_cases c20 : x4_1.length < 4398046511104
                          · rw [if_pos c20] at H
                            have LMc20 := Aside0.mk c20
                            clear c20
                            obtain ⟨y247, hy247⟩ : ∃ y_ : List (S69), y_ = (x4_1 ++ [(⟨t241, t242, t243⟩ : S69)]) := ⟨_, rfl⟩
                            replace H : (rundleref03_words.l0 k1 a0 y247 t240) = some (r1, r2) := by first | (rw [hy247]; with_reducible exact H) | (have H2_ := (Option.bind_some _ _).symm.trans H; rw [hy247]; with_reducible exact H2_) | (have H2_ := (Option.bind_some _ _).symm.trans H; with_reducible exact H2_) | with_reducible exact H | (rw [hy247]; exact H) | exact H
                            have Ny247 := Aside0.mk hy247
                            clear hy247
                            have H' := Aside0.mk H
                            clear H
                            have p4 : 0 ≤ (x5_1 : Int) := of_decide_eq_true (by first | (with_reducible assumption) | assumption)
                            have q4 : x5_1 < (a0.size : Int) := of_decide_eq_true (by first | (with_reducible assumption) | assumption)
                            have hx4 := bt_at a0 x5_1
                            replace p4 := eq_true p4
                            replace q4 := eq_true q4
                            go_wp2_with (first | ((with_reducible refine gate_callee (f := 40) rfl ?_); refine goesL_ (some 16) rfl rfl Tryd.func40 (by kernel_rfl) rfl #[.int .u8 (bt a0 x5_1)] rfl (by (try simp only [List.map_toArray, List.map_cons, List.map_nil]); first | done | rfl | (simp only [List.length_drop, List.length_take]; rfl)) ?_; (with_reducible refine (rundleref03_blank.calls (bt a0 x5_1) false _ A5.out).mono ?_); rintro e w' ⟨rfl, ⟨nd, rfl⟩⟩; refine ⟨_, rfl, ?_⟩; (try (rw [drewN_self wr]; generalize hq_ : World.drewN wr _ = wr; have n0_ : Aside0 (Kd.R k69 69 wr w.heap.size (fun _ => True) u4 x4_1) := ⟨by rw [← hq_]; exact (by (with_reducible repeat (first | apply Kd.R_alloc | apply Kd.R_drewN | apply Kd.R_drew)); exact HO_4.out)⟩; have n1_ : Aside0 (Below w.heap.size w wr) := ⟨by rw [← hq_]; exact (by repeat (first | (with_reducible first | exact HB.out | apply below_alloc | apply pw_below_drewN | apply below_drew1) | exact HB.out))⟩; clear HO_4 HB hq_; have HO_4 := n0_; have HB := n1_; clear n0_ n1_)); have p7 : 0 ≤ (x5_1 : Int) := of_decide_eq_true (by first | (with_reducible assumption) | assumption); have q7 : x5_1 < (a0.size : Int) := of_decide_eq_true (by first | (with_reducible assumption) | assumption); have hx7 := bt_at a0 x5_1; replace p7 := eq_true p7; replace q7 := eq_true q7) | ((with_reducible refine gate_callee (f := 41) rfl ?_); refine goesL_ (some 26) rfl rfl Tryd.func41 (by kernel_rfl) rfl #[.string a0, .int .i64 x5_1] rfl (by (try simp only [List.map_toArray, List.map_cons, List.map_nil]); first | done | rfl | (simp only [List.length_drop, List.length_take]; rfl)) ?_; (with_reducible refine (rundleref03_end.calls k1 a0 x5_1 t240 _ A9.out).mono ?_); rintro e w' ⟨rfl, ⟨nd, rfl⟩⟩; refine ⟨_, rfl, ?_⟩; (try (rw [drewN_self wr]; generalize hq_ : World.drewN wr _ = wr; have n0_ : Aside0 (Kd.R k69 69 wr w.heap.size (fun _ => True) u4 x4_1) := ⟨by rw [← hq_]; exact (by (with_reducible repeat (first | apply Kd.R_alloc | apply Kd.R_drewN | apply Kd.R_drew)); exact HO_4.out)⟩; have n1_ : Aside0 (Below w.heap.size w wr) := ⟨by rw [← hq_]; exact (by repeat (first | (with_reducible first | exact HB.out | apply below_alloc | apply pw_below_drewN | apply below_drew1) | exact HB.out))⟩; clear HO_4 HB hq_; have HO_4 := n0_; have HB := n1_; clear n0_ n1_))) | ((with_reducible refine gate_callee (f := 42) rfl ?_); refine goesL_ (some 32) rfl rfl Tryd.func42 (by kernel_rfl) rfl #[.string (a0.extract (x5_1 : Int).toNat (t240 : Int).toNat)] rfl (by (try simp only [List.map_toArray, List.map_cons, List.map_nil]); first | done | rfl | (simp only [List.length_drop, List.length_take]; rfl)) ?_; (with_reducible refine (rundleref03_word.calls k1 (a0.extract (x5_1 : Int).toNat (t240 : Int).toNat) t241 t242 t243 true _ A13.out).mono ?_); rintro e w21 ⟨rfl, hb⟩; refine ⟨_, rfl, ?_⟩; have n0_ := Aside0.mk (Kd.R_below (by (with_reducible repeat (first | apply Kd.R_alloc | apply Kd.R_drewN | apply Kd.R_drew)); exact HO_4.out) hb); have n1_ := Aside0.mk (below_step (by repeat (first | (with_reducible first | exact HB.out | apply below_alloc | apply pw_below_drewN | apply below_drew1) | exact HB.out)) hb); clear HO_4; clear HB; have HO_4 := n0_; have HB := n1_; clear n0_ n1_; (try clear hb); (try clear hb2); (try clear hk); (try clear hi)) | ((with_reducible refine gate_dst (N := 7) rfl ?_); (try (refine gate_guard (by rfl) ?_; dsimp only)); refine box_event ?hg (N := 7) ?hd (cs := #[.int .i64 0, .int .i64 0, .string (⟨#[]⟩ : ByteArray)]) (t := 69) ?hr ?_; (case hd => rfl); (case hg => rfl); (case hr => first | (go_simp; done) | (go_simp; rfl)); intro gb245 hg w22 hbox hb; have n0_ := Aside0.mk (Kd.R_below (Kd.R_elderB (by (with_reducible repeat (first | apply Kd.R_alloc | apply Kd.R_drewN | apply Kd.R_drew)); exact HO_4.out) gb245 (Nat.le_of_eq hg.symm)) hb); have n1_ := Aside0.mk (below_step (by repeat (first | (with_reducible first | exact HB.out | apply below_alloc | apply pw_below_drewN | apply below_drew1) | exact HB.out)) hb); have n2_ := Aside0.mk (hbox); have n3_ := Aside0.mk ((by rw [hg]; exact (below_size (by repeat (first | (with_reducible first | exact HB.out | apply below_alloc | apply pw_below_drewN | apply below_drew1) | exact HB.out))) : w.heap.size ≤ gb245)); have n4_ := Aside0.mk ((by rw [hg]; exact (below_size (by repeat (first | (with_reducible first | exact HB.out | apply below_alloc | apply pw_below_drewN | apply below_drew1) | exact HB.out))) : w.heap.size ≤ gb245)); clear HO_4; clear HB; have HO_4 := n0_; have HB := n1_; have BK245 := n2_; have GW245 := n3_; have GE245 := n4_; clear n0_ n1_ n2_ n3_ n4_; clear hb hbox hg; have hcz23_0 : w22.cell? ⟨gb245, 0, none⟩ = some (.int .i64 0) := (blk_cell BK245.out 0).trans rfl; have hcz23_1 : w22.cell? ⟨gb245, 1, none⟩ = some (.int .i64 0) := (blk_cell BK245.out 1).trans rfl; have hcz23_2 : w22.cell? ⟨gb245, 2, none⟩ = some (.string (⟨#[]⟩ : ByteArray)) := (blk_cell BK245.out 2).trans rfl; have hfz23_0 := blk_frozen BK245.out 0; have hfz23_1 := blk_frozen BK245.out 1; have hfz23_2 := blk_frozen BK245.out 2; have p17 : 0 ≤ (t240 : Int) := of_decide_eq_true (by first | (with_reducible assumption) | assumption); have q17 : t240 < (a0.size : Int) := of_decide_eq_true (by first | (with_reducible assumption) | assumption); have hx17 := bt_at a0 t240; replace p17 := eq_true p17; replace q17 := eq_true q17) | (go_at_call 40; (with_reducible refine (rundleref03_blank.calls (bt a0 t240) true _ A18.out).mono ?_); rintro e w' ⟨rfl, ⟨nd, rfl⟩⟩) | ((with_reducible refine gate_builtin (b := .append) (xs := #[.tmp 50, .tmp 52]) rfl ?_); (try (refine gate_guard (by rfl) ?_; dsimp only)); at_builtin; refine Kd.R_append k69 (w0 := w) w.heap.size rfl (.tmp 50) (.tmp 52) 36 69 (.agg #[(.int .i64 0), (.int .i64 0), (.string ⟨#[]⟩)]) 32 rfl Tryd.underlying36 info69 rfl (by decide) (by omega) u4 x4_1 (⟨t241, t242, t243⟩ : S69) [.int .i64 t241, .int .i64 t242, .string t243] (fun k_ => k_ ≠ gb245) (fun _ => False) rfl (by first | (go_simp; done) | (go_simp; rfl)) ?aP (fun _ hk => hk.elim) ?aF ?aO ?aB ?aS ?aL ?_; (case aP => exact k69_mkM _ _ _ (⟨t241, t242, t243⟩ : S69)); (case aB => exact (by repeat (first | (with_reducible first | exact HB.out | apply below_alloc | apply pw_below_drewN | apply below_drew1 | refine below_set ?_ GE245.out) | exact HB.out))); (case aF => exact (fun k_ hk => Kd.freshB (g := gb245) (o := .cells #[.int .i64 t241, .int .i64 t242, .string t243] 69 (0, 0)) (by (with_reducible repeat (first | refine blk_drewN ?_ _ | refine blk_drew ?_ | refine blk_alloc ?_ _)); refine blk_put (cs := #[.int .i64 t241, .int .i64 t242, .string (⟨#[]⟩ : ByteArray)]) ?_ 2 _ rfl; (with_reducible repeat (first | refine blk_drewN ?_ _ | refine blk_drew ?_ | refine blk_alloc ?_ _)); refine blk_put (cs := #[.int .i64 t241, .int .i64 0, .string (⟨#[]⟩ : ByteArray)]) ?_ 1 _ rfl; (with_reducible repeat (first | refine blk_drewN ?_ _ | refine blk_drew ?_ | refine blk_alloc ?_ _)); refine blk_put (cs := #[.int .i64 0, .int .i64 0, .string (⟨#[]⟩ : ByteArray)]) ?_ 0 _ rfl; (with_reducible repeat (first | refine blk_drewN ?_ _ | refine blk_drew ?_ | refine blk_alloc ?_ _)); exact BK245.out) k_ hk)); (case aO => exact (by (with_reducible repeat (first | apply Kd.R_alloc | apply Kd.R_drewN | apply Kd.R_drew)); exact Kd.R_mono (Kd.R_far (p := ⟨gb245, 2, none⟩) (Kd.R_far (p := ⟨gb245, 1, none⟩) (Kd.R_far (p := ⟨gb245, 0, none⟩) (Kd.R_mono HO_4.out (fun k_ hk => (⟨hk, hk.2⟩ : _ ∧ k_ ≠ gb245))) (fun _ hk => hk.2) (.int .i64 t241)) (fun _ hk => hk.2) (.int .i64 t242)) (fun _ hk => hk.2) (.string t243)) (fun _ hk => hk.1.2))); (case aS => exact (below_size (by repeat (first | (with_reducible first | exact HB.out | apply below_alloc | apply pw_below_drewN | apply below_drew1 | refine below_set ?_ GE245.out) | exact HB.out)))); (case aL => have := LMc20.out; omega); intro v248 w24 ho hb hg hat; rw [← Ny247.out] at ho; have n0_ := Aside0.mk (blk_grown (g := gb245) (o := .cells #[.int .i64 t241, .int .i64 t242, .string t243] 69 (0, 0)) (by (with_reducible repeat (first | refine blk_drewN ?_ _ | refine blk_drew ?_ | refine blk_alloc ?_ _)); refine blk_put (cs := #[.int .i64 t241, .int .i64 t242, .string (⟨#[]⟩ : ByteArray)]) ?_ 2 _ rfl; (with_reducible repeat (first | refine blk_drewN ?_ _ | refine blk_drew ?_ | refine blk_alloc ?_ _)); refine blk_put (cs := #[.int .i64 t241, .int .i64 0, .string (⟨#[]⟩ : ByteArray)]) ?_ 1 _ rfl; (with_reducible repeat (first | refine blk_drewN ?_ _ | refine blk_drew ?_ | refine blk_alloc ?_ _)); refine blk_put (cs := #[.int .i64 0, .int .i64 0, .string (⟨#[]⟩ : ByteArray)]) ?_ 0 _ rfl; (with_reducible repeat (first | refine blk_drewN ?_ _ | refine blk_drew ?_ | refine blk_alloc ?_ _)); exact BK245.out) hg (Kd.R_away HO_4.out (fun _ hk => hk.2))); have n1_ := Aside0.mk (hb); have n2_ := Aside0.mk (ho); clear BK245; clear HB; clear HO_4; have BK245 := n0_; have HB := n1_; have HO249 := n2_; clear n0_ n1_ n2_; clear ho hb hg hat))
                            go_roundg k1
                            case measure => have := HK1.out; omega
                            case rel => exact ⟨(y247), (t240), (by first | rfl | (simp; done) | (simp [*]; done)), H', ⟨by have := HK1.out; omega⟩, ⟨by (with_reducible repeat (first | apply Kd.R_alloc | apply Kd.R_drewN | apply Kd.R_drew)); exact Kd.R_mono HO249.out (fun _ hk => trivial)⟩, ⟨by repeat (first | (with_reducible first | exact HB.out | apply below_alloc | apply pw_below_drewN | apply below_drew1 | refine below_set ?_ GE245.out) | exact HB.out)⟩⟩
                          · rw [if_neg c20] at H
                            exact absurd H (by simp)
                        · replace c19 := Bool.eq_false_iff.mpr c19
                          subst c19
                          have H1 : (some (([] : List (S69)), false)) = some (r1, r2) := by rw [if_neg (show ¬ (false = true) by decide)] at H; exact H
                          clear H
                          have H := H1
                          clear H1
                          simp only [Option.some.injEq, Prod.mk.injEq] at H
                          obtain ⟨rfl, rfl⟩ := H
                          have p4 : 0 ≤ (x5_1 : Int) := of_decide_eq_true (by first | (with_reducible assumption) | assumption)
                          have q4 : x5_1 < (a0.size : Int) := of_decide_eq_true (by first | (with_reducible assumption) | assumption)
                          have hx4 := bt_at a0 x5_1
                          replace p4 := eq_true p4
                          replace q4 := eq_true q4
                          go_wp2_with (first | ((with_reducible refine gate_callee (f := 40) rfl ?_); refine goesL_ (some 16) rfl rfl Tryd.func40 (by kernel_rfl) rfl #[.int .u8 (bt a0 x5_1)] rfl (by (try simp only [List.map_toArray, List.map_cons, List.map_nil]); first | done | rfl | (simp only [List.length_drop, List.length_take]; rfl)) ?_; (with_reducible refine (rundleref03_blank.calls (bt a0 x5_1) false _ A5.out).mono ?_); rintro e w' ⟨rfl, ⟨nd, rfl⟩⟩; refine ⟨_, rfl, ?_⟩; (try (rw [drewN_self wr]; generalize hq_ : World.drewN wr _ = wr; have n0_ : Aside0 (Kd.R k69 69 wr w.heap.size (fun _ => True) u4 x4_1) := ⟨by rw [← hq_]; exact (by (with_reducible repeat (first | apply Kd.R_alloc | apply Kd.R_drewN | apply Kd.R_drew)); exact HO_4.out)⟩; have n1_ : Aside0 (Below w.heap.size w wr) := ⟨by rw [← hq_]; exact (by repeat (first | (with_reducible first | exact HB.out | apply below_alloc | apply pw_below_drewN | apply below_drew1) | exact HB.out))⟩; clear HO_4 HB hq_; have HO_4 := n0_; have HB := n1_; clear n0_ n1_)); have p7 : 0 ≤ (x5_1 : Int) := of_decide_eq_true (by first | (with_reducible assumption) | assumption); have q7 : x5_1 < (a0.size : Int) := of_decide_eq_true (by first | (with_reducible assumption) | assumption); have hx7 := bt_at a0 x5_1; replace p7 := eq_true p7; replace q7 := eq_true q7) | ((with_reducible refine gate_callee (f := 41) rfl ?_); refine goesL_ (some 26) rfl rfl Tryd.func41 (by kernel_rfl) rfl #[.string a0, .int .i64 x5_1] rfl (by (try simp only [List.map_toArray, List.map_cons, List.map_nil]); first | done | rfl | (simp only [List.length_drop, List.length_take]; rfl)) ?_; (with_reducible refine (rundleref03_end.calls k1 a0 x5_1 t240 _ A9.out).mono ?_); rintro e w' ⟨rfl, ⟨nd, rfl⟩⟩; refine ⟨_, rfl, ?_⟩; (try (rw [drewN_self wr]; generalize hq_ : World.drewN wr _ = wr; have n0_ : Aside0 (Kd.R k69 69 wr w.heap.size (fun _ => True) u4 x4_1) := ⟨by rw [← hq_]; exact (by (with_reducible repeat (first | apply Kd.R_alloc | apply Kd.R_drewN | apply Kd.R_drew)); exact HO_4.out)⟩; have n1_ : Aside0 (Below w.heap.size w wr) := ⟨by rw [← hq_]; exact (by repeat (first | (with_reducible first | exact HB.out | apply below_alloc | apply pw_below_drewN | apply below_drew1) | exact HB.out))⟩; clear HO_4 HB hq_; have HO_4 := n0_; have HB := n1_; clear n0_ n1_))) | ((with_reducible refine gate_callee (f := 42) rfl ?_); refine goesL_ (some 32) rfl rfl Tryd.func42 (by kernel_rfl) rfl #[.string (a0.extract (x5_1 : Int).toNat (t240 : Int).toNat)] rfl (by (try simp only [List.map_toArray, List.map_cons, List.map_nil]); first | done | rfl | (simp only [List.length_drop, List.length_take]; rfl)) ?_; (with_reducible refine (rundleref03_word.calls k1 (a0.extract (x5_1 : Int).toNat (t240 : Int).toNat) t241 t242 t243 true _ A13.out).mono ?_); rintro e w25 ⟨rfl, hb⟩; refine ⟨_, rfl, ?_⟩; have n0_ := Aside0.mk (Kd.R_below (by (with_reducible repeat (first | apply Kd.R_alloc | apply Kd.R_drewN | apply Kd.R_drew)); exact HO_4.out) hb); have n1_ := Aside0.mk (below_step (by repeat (first | (with_reducible first | exact HB.out | apply below_alloc | apply pw_below_drewN | apply below_drew1) | exact HB.out)) hb); clear HO_4; clear HB; have HO_4 := n0_; have HB := n1_; clear n0_ n1_; (try clear hb); (try clear hb2); (try clear hk); (try clear hi)) | ((with_reducible refine gate_dst (N := 7) rfl ?_); (try (refine gate_guard (by rfl) ?_; dsimp only)); refine box_event ?hg (N := 7) ?hd (cs := #[.int .i64 0, .int .i64 0, .string (⟨#[]⟩ : ByteArray)]) (t := 69) ?hr ?_; (case hd => rfl); (case hg => rfl); (case hr => first | (go_simp; done) | (go_simp; rfl)); intro gb245 hg w26 hbox hb; have n0_ := Aside0.mk (Kd.R_below (Kd.R_elderB (by (with_reducible repeat (first | apply Kd.R_alloc | apply Kd.R_drewN | apply Kd.R_drew)); exact HO_4.out) gb245 (Nat.le_of_eq hg.symm)) hb); have n1_ := Aside0.mk (below_step (by repeat (first | (with_reducible first | exact HB.out | apply below_alloc | apply pw_below_drewN | apply below_drew1) | exact HB.out)) hb); have n2_ := Aside0.mk (hbox); have n3_ := Aside0.mk ((by rw [hg]; exact (below_size (by repeat (first | (with_reducible first | exact HB.out | apply below_alloc | apply pw_below_drewN | apply below_drew1) | exact HB.out))) : w.heap.size ≤ gb245)); have n4_ := Aside0.mk ((by rw [hg]; exact (below_size (by repeat (first | (with_reducible first | exact HB.out | apply below_alloc | apply pw_below_drewN | apply below_drew1) | exact HB.out))) : w.heap.size ≤ gb245)); clear HO_4; clear HB; have HO_4 := n0_; have HB := n1_; have BK245 := n2_; have GW245 := n3_; have GE245 := n4_; clear n0_ n1_ n2_ n3_ n4_; clear hb hbox hg; have hcz27_0 : w26.cell? ⟨gb245, 0, none⟩ = some (.int .i64 0) := (blk_cell BK245.out 0).trans rfl; have hcz27_1 : w26.cell? ⟨gb245, 1, none⟩ = some (.int .i64 0) := (blk_cell BK245.out 1).trans rfl; have hcz27_2 : w26.cell? ⟨gb245, 2, none⟩ = some (.string (⟨#[]⟩ : ByteArray)) := (blk_cell BK245.out 2).trans rfl; have hfz27_0 := blk_frozen BK245.out 0; have hfz27_1 := blk_frozen BK245.out 1; have hfz27_2 := blk_frozen BK245.out 2; have p17 : 0 ≤ (t240 : Int) := of_decide_eq_true (by first | (with_reducible assumption) | assumption); have q17 : t240 < (a0.size : Int) := of_decide_eq_true (by first | (with_reducible assumption) | assumption); have hx17 := bt_at a0 t240; replace p17 := eq_true p17; replace q17 := eq_true q17) | (go_at_call 40; (with_reducible refine (rundleref03_blank.calls (bt a0 t240) false _ A18.out).mono ?_); rintro e w' ⟨rfl, ⟨nd, rfl⟩⟩))
                          go_ret2
                          exact ⟨_, by first | rfl | (simp [errW_none, errW_some] <;> rfl) | (simp [*, errW_none, errW_some] <;> rfl), by first | exact Kd.R_nil _ _ _ _ _ | exact Kd.N_nil _ _ _ _ _ | exact Kd.V_nil _ _ _ _ _ | exact Kd.Q_nil _ _ _ _ _ | exact Kd.S_nil _ _ _ _ _, by repeat (first | (with_reducible first | exact HB.out | apply below_alloc | apply pw_below_drewN | apply below_drew1 | refine below_set ?_ GE245.out) | exact HB.out)⟩
                      · rw [if_neg c16] at H
                        exact absurd H (by simp)
                    · rw [if_neg c15] at H
                      have c15b0 : decide (t240 < (a0.size : Int)) = false := decide_eq_false c15
                      clear c15
                      by_cases c28 : x4_1.length < 4398046511104
                      · rw [if_pos c28] at H
                        have LMc28 := Aside0.mk c28
                        clear c28
                        obtain ⟨y250, hy250⟩ : ∃ y_ : List (S69), y_ = (x4_1 ++ [(⟨t241, t242, t243⟩ : S69)]) := ⟨_, rfl⟩
                        replace H : (rundleref03_words.l0 k1 a0 y250 t240) = some (r1, r2) := by first | (rw [hy250]; with_reducible exact H) | (have H2_ := (Option.bind_some _ _).symm.trans H; rw [hy250]; with_reducible exact H2_) | (have H2_ := (Option.bind_some _ _).symm.trans H; with_reducible exact H2_) | with_reducible exact H | (rw [hy250]; exact H) | exact H
                        have Ny250 := Aside0.mk hy250
                        clear hy250
                        have H' := Aside0.mk H
                        clear H
                        have p4 : 0 ≤ (x5_1 : Int) := of_decide_eq_true (by first | (with_reducible assumption) | assumption)
                        have q4 : x5_1 < (a0.size : Int) := of_decide_eq_true (by first | (with_reducible assumption) | assumption)
                        have hx4 := bt_at a0 x5_1
                        replace p4 := eq_true p4
                        replace q4 := eq_true q4
                        go_wp2_with (first | ((with_reducible refine gate_callee (f := 40) rfl ?_); refine goesL_ (some 16) rfl rfl Tryd.func40 (by kernel_rfl) rfl #[.int .u8 (bt a0 x5_1)] rfl (by (try simp only [List.map_toArray, List.map_cons, List.map_nil]); first | done | rfl | (simp only [List.length_drop, List.length_take]; rfl)) ?_; (with_reducible refine (rundleref03_blank.calls (bt a0 x5_1) false _ A5.out).mono ?_); rintro e w' ⟨rfl, ⟨nd, rfl⟩⟩; refine ⟨_, rfl, ?_⟩; (try (rw [drewN_self wr]; generalize hq_ : World.drewN wr _ = wr; have n0_ : Aside0 (Kd.R k69 69 wr w.heap.size (fun _ => True) u4 x4_1) := ⟨by rw [← hq_]; exact (by (with_reducible repeat (first | apply Kd.R_alloc | apply Kd.R_drewN | apply Kd.R_drew)); exact HO_4.out)⟩; have n1_ : Aside0 (Below w.heap.size w wr) := ⟨by rw [← hq_]; exact (by repeat (first | (with_reducible first | exact HB.out | apply below_alloc | apply pw_below_drewN | apply below_drew1) | exact HB.out))⟩; clear HO_4 HB hq_; have HO_4 := n0_; have HB := n1_; clear n0_ n1_)); have p7 : 0 ≤ (x5_1 : Int) := of_decide_eq_true (by first | (with_reducible assumption) | assumption); have q7 : x5_1 < (a0.size : Int) := of_decide_eq_true (by first | (with_reducible assumption) | assumption); have hx7 := bt_at a0 x5_1; replace p7 := eq_true p7; replace q7 := eq_true q7) | ((with_reducible refine gate_callee (f := 41) rfl ?_); refine goesL_ (some 26) rfl rfl Tryd.func41 (by kernel_rfl) rfl #[.string a0, .int .i64 x5_1] rfl (by (try simp only [List.map_toArray, List.map_cons, List.map_nil]); first | done | rfl | (simp only [List.length_drop, List.length_take]; rfl)) ?_; (with_reducible refine (rundleref03_end.calls k1 a0 x5_1 t240 _ A9.out).mono ?_); rintro e w' ⟨rfl, ⟨nd, rfl⟩⟩; refine ⟨_, rfl, ?_⟩; (try (rw [drewN_self wr]; generalize hq_ : World.drewN wr _ = wr; have n0_ : Aside0 (Kd.R k69 69 wr w.heap.size (fun _ => True) u4 x4_1) := ⟨by rw [← hq_]; exact (by (with_reducible repeat (first | apply Kd.R_alloc | apply Kd.R_drewN | apply Kd.R_drew)); exact HO_4.out)⟩; have n1_ : Aside0 (Below w.heap.size w wr) := ⟨by rw [← hq_]; exact (by repeat (first | (with_reducible first | exact HB.out | apply below_alloc | apply pw_below_drewN | apply below_drew1) | exact HB.out))⟩; clear HO_4 HB hq_; have HO_4 := n0_; have HB := n1_; clear n0_ n1_))) | ((with_reducible refine gate_callee (f := 42) rfl ?_); refine goesL_ (some 32) rfl rfl Tryd.func42 (by kernel_rfl) rfl #[.string (a0.extract (x5_1 : Int).toNat (t240 : Int).toNat)] rfl (by (try simp only [List.map_toArray, List.map_cons, List.map_nil]); first | done | rfl | (simp only [List.length_drop, List.length_take]; rfl)) ?_; (with_reducible refine (rundleref03_word.calls k1 (a0.extract (x5_1 : Int).toNat (t240 : Int).toNat) t241 t242 t243 true _ A13.out).mono ?_); rintro e w29 ⟨rfl, hb⟩; refine ⟨_, rfl, ?_⟩; have n0_ := Aside0.mk (Kd.R_below (by (with_reducible repeat (first | apply Kd.R_alloc | apply Kd.R_drewN | apply Kd.R_drew)); exact HO_4.out) hb); have n1_ := Aside0.mk (below_step (by repeat (first | (with_reducible first | exact HB.out | apply below_alloc | apply pw_below_drewN | apply below_drew1) | exact HB.out)) hb); clear HO_4; clear HB; have HO_4 := n0_; have HB := n1_; clear n0_ n1_; (try clear hb); (try clear hb2); (try clear hk); (try clear hi)) | ((with_reducible refine gate_dst (N := 7) rfl ?_); (try (refine gate_guard (by rfl) ?_; dsimp only)); refine box_event ?hg (N := 7) ?hd (cs := #[.int .i64 0, .int .i64 0, .string (⟨#[]⟩ : ByteArray)]) (t := 69) ?hr ?_; (case hd => rfl); (case hg => rfl); (case hr => first | (go_simp; done) | (go_simp; rfl)); intro gb245 hg w30 hbox hb; have n0_ := Aside0.mk (Kd.R_below (Kd.R_elderB (by (with_reducible repeat (first | apply Kd.R_alloc | apply Kd.R_drewN | apply Kd.R_drew)); exact HO_4.out) gb245 (Nat.le_of_eq hg.symm)) hb); have n1_ := Aside0.mk (below_step (by repeat (first | (with_reducible first | exact HB.out | apply below_alloc | apply pw_below_drewN | apply below_drew1) | exact HB.out)) hb); have n2_ := Aside0.mk (hbox); have n3_ := Aside0.mk ((by rw [hg]; exact (below_size (by repeat (first | (with_reducible first | exact HB.out | apply below_alloc | apply pw_below_drewN | apply below_drew1) | exact HB.out))) : w.heap.size ≤ gb245)); have n4_ := Aside0.mk ((by rw [hg]; exact (below_size (by repeat (first | (with_reducible first | exact HB.out | apply below_alloc | apply pw_below_drewN | apply below_drew1) | exact HB.out))) : w.heap.size ≤ gb245)); clear HO_4; clear HB; have HO_4 := n0_; have HB := n1_; have BK245 := n2_; have GW245 := n3_; have GE245 := n4_; clear n0_ n1_ n2_ n3_ n4_; clear hb hbox hg; have hcz31_0 : w30.cell? ⟨gb245, 0, none⟩ = some (.int .i64 0) := (blk_cell BK245.out 0).trans rfl; have hcz31_1 : w30.cell? ⟨gb245, 1, none⟩ = some (.int .i64 0) := (blk_cell BK245.out 1).trans rfl; have hcz31_2 : w30.cell? ⟨gb245, 2, none⟩ = some (.string (⟨#[]⟩ : ByteArray)) := (blk_cell BK245.out 2).trans rfl; have hfz31_0 := blk_frozen BK245.out 0; have hfz31_1 := blk_frozen BK245.out 1; have hfz31_2 := blk_frozen BK245.out 2) | ((with_reducible refine gate_builtin (b := .append) (xs := #[.tmp 50, .tmp 52]) rfl ?_); (try (refine gate_guard (by rfl) ?_; dsimp only)); at_builtin; refine Kd.R_append k69 (w0 := w) w.heap.size rfl (.tmp 50) (.tmp 52) 36 69 (.agg #[(.int .i64 0), (.int .i64 0), (.string ⟨#[]⟩)]) 32 rfl Tryd.underlying36 info69 rfl (by decide) (by omega) u4 x4_1 (⟨t241, t242, t243⟩ : S69) [.int .i64 t241, .int .i64 t242, .string t243] (fun k_ => k_ ≠ gb245) (fun _ => False) rfl (by first | (go_simp; done) | (go_simp; rfl)) ?aP (fun _ hk => hk.elim) ?aF ?aO ?aB ?aS ?aL ?_; (case aP => exact k69_mkM _ _ _ (⟨t241, t242, t243⟩ : S69)); (case aB => exact (by repeat (first | (with_reducible first | exact HB.out | apply below_alloc | apply pw_below_drewN | apply below_drew1 | refine below_set ?_ GE245.out) | exact HB.out))); (case aF => exact (fun k_ hk => Kd.freshB (g := gb245) (o := .cells #[.int .i64 t241, .int .i64 t242, .string t243] 69 (0, 0)) (by (with_reducible repeat (first | refine blk_drewN ?_ _ | refine blk_drew ?_ | refine blk_alloc ?_ _)); refine blk_put (cs := #[.int .i64 t241, .int .i64 t242, .string (⟨#[]⟩ : ByteArray)]) ?_ 2 _ rfl; (with_reducible repeat (first | refine blk_drewN ?_ _ | refine blk_drew ?_ | refine blk_alloc ?_ _)); refine blk_put (cs := #[.int .i64 t241, .int .i64 0, .string (⟨#[]⟩ : ByteArray)]) ?_ 1 _ rfl; (with_reducible repeat (first | refine blk_drewN ?_ _ | refine blk_drew ?_ | refine blk_alloc ?_ _)); refine blk_put (cs := #[.int .i64 0, .int .i64 0, .string (⟨#[]⟩ : ByteArray)]) ?_ 0 _ rfl; (with_reducible repeat (first | refine blk_drewN ?_ _ | refine blk_drew ?_ | refine blk_alloc ?_ _)); exact BK245.out) k_ hk)); (case aO => exact (by (with_reducible repeat (first | apply Kd.R_alloc | apply Kd.R_drewN | apply Kd.R_drew)); exact Kd.R_mono (Kd.R_far (p := ⟨gb245, 2, none⟩) (Kd.R_far (p := ⟨gb245, 1, none⟩) (Kd.R_far (p := ⟨gb245, 0, none⟩) (Kd.R_mono HO_4.out (fun k_ hk => (⟨hk, hk.2⟩ : _ ∧ k_ ≠ gb245))) (fun _ hk => hk.2) (.int .i64 t241)) (fun _ hk => hk.2) (.int .i64 t242)) (fun _ hk => hk.2) (.string t243)) (fun _ hk => hk.1.2))); (case aS => exact (below_size (by repeat (first | (with_reducible first | exact HB.out | apply below_alloc | apply pw_below_drewN | apply below_drew1 | refine below_set ?_ GE245.out) | exact HB.out)))); (case aL => have := LMc28.out; omega); intro v251 w32 ho hb hg hat; rw [← Ny250.out] at ho; have n0_ := Aside0.mk (blk_grown (g := gb245) (o := .cells #[.int .i64 t241, .int .i64 t242, .string t243] 69 (0, 0)) (by (with_reducible repeat (first | refine blk_drewN ?_ _ | refine blk_drew ?_ | refine blk_alloc ?_ _)); refine blk_put (cs := #[.int .i64 t241, .int .i64 t242, .string (⟨#[]⟩ : ByteArray)]) ?_ 2 _ rfl; (with_reducible repeat (first | refine blk_drewN ?_ _ | refine blk_drew ?_ | refine blk_alloc ?_ _)); refine blk_put (cs := #[.int .i64 t241, .int .i64 0, .string (⟨#[]⟩ : ByteArray)]) ?_ 1 _ rfl; (with_reducible repeat (first | refine blk_drewN ?_ _ | refine blk_drew ?_ | refine blk_alloc ?_ _)); refine blk_put (cs := #[.int .i64 0, .int .i64 0, .string (⟨#[]⟩ : ByteArray)]) ?_ 0 _ rfl; (with_reducible repeat (first | refine blk_drewN ?_ _ | refine blk_drew ?_ | refine blk_alloc ?_ _)); exact BK245.out) hg (Kd.R_away HO_4.out (fun _ hk => hk.2))); have n1_ := Aside0.mk (hb); have n2_ := Aside0.mk (ho); clear BK245; clear HB; clear HO_4; have BK245 := n0_; have HB := n1_; have HO252 := n2_; clear n0_ n1_ n2_; clear ho hb hg hat))
                        go_roundg k1
                        case measure => have := HK1.out; omega
                        case rel => exact ⟨(y250), (t240), (by first | rfl | (simp; done) | (simp [*]; done)), H', ⟨by have := HK1.out; omega⟩, ⟨by (with_reducible repeat (first | apply Kd.R_alloc | apply Kd.R_drewN | apply Kd.R_drew)); exact Kd.R_mono HO252.out (fun _ hk => trivial)⟩, ⟨by repeat (first | (with_reducible first | exact HB.out | apply below_alloc | apply pw_below_drewN | apply below_drew1 | refine below_set ?_ GE245.out) | exact HB.out)⟩⟩
                      · rw [if_neg c28] at H
                        exact absurd H (by simp)
                  · replace c14 := Bool.eq_false_iff.mpr c14
                    subst c14
                    have H1 : (some (([] : List (S69)), false)) = some (r1, r2) := by rw [if_neg (show ¬ (false = true) by decide)] at H; exact H
                    clear H
                    have H := H1
                    clear H1
                    simp only [Option.some.injEq, Prod.mk.injEq] at H
                    obtain ⟨rfl, rfl⟩ := H
                    have p4 : 0 ≤ (x5_1 : Int) := of_decide_eq_true (by first | (with_reducible assumption) | assumption)
                    have q4 : x5_1 < (a0.size : Int) := of_decide_eq_true (by first | (with_reducible assumption) | assumption)
                    have hx4 := bt_at a0 x5_1
                    replace p4 := eq_true p4
                    replace q4 := eq_true q4
                    go_wp2_with (first | ((with_reducible refine gate_callee (f := 40) rfl ?_); refine goesL_ (some 16) rfl rfl Tryd.func40 (by kernel_rfl) rfl #[.int .u8 (bt a0 x5_1)] rfl (by (try simp only [List.map_toArray, List.map_cons, List.map_nil]); first | done | rfl | (simp only [List.length_drop, List.length_take]; rfl)) ?_; (with_reducible refine (rundleref03_blank.calls (bt a0 x5_1) false _ A5.out).mono ?_); rintro e w' ⟨rfl, ⟨nd, rfl⟩⟩; refine ⟨_, rfl, ?_⟩; (try (rw [drewN_self wr]; generalize hq_ : World.drewN wr _ = wr; have n0_ : Aside0 (Kd.R k69 69 wr w.heap.size (fun _ => True) u4 x4_1) := ⟨by rw [← hq_]; exact (by (with_reducible repeat (first | apply Kd.R_alloc | apply Kd.R_drewN | apply Kd.R_drew)); exact HO_4.out)⟩; have n1_ : Aside0 (Below w.heap.size w wr) := ⟨by rw [← hq_]; exact (by repeat (first | (with_reducible first | exact HB.out | apply below_alloc | apply pw_below_drewN | apply below_drew1) | exact HB.out))⟩; clear HO_4 HB hq_; have HO_4 := n0_; have HB := n1_; clear n0_ n1_)); have p7 : 0 ≤ (x5_1 : Int) := of_decide_eq_true (by first | (with_reducible assumption) | assumption); have q7 : x5_1 < (a0.size : Int) := of_decide_eq_true (by first | (with_reducible assumption) | assumption); have hx7 := bt_at a0 x5_1; replace p7 := eq_true p7; replace q7 := eq_true q7) | ((with_reducible refine gate_callee (f := 41) rfl ?_); refine goesL_ (some 26) rfl rfl Tryd.func41 (by kernel_rfl) rfl #[.string a0, .int .i64 x5_1] rfl (by (try simp only [List.map_toArray, List.map_cons, List.map_nil]); first | done | rfl | (simp only [List.length_drop, List.length_take]; rfl)) ?_; (with_reducible refine (rundleref03_end.calls k1 a0 x5_1 t240 _ A9.out).mono ?_); rintro e w' ⟨rfl, ⟨nd, rfl⟩⟩; refine ⟨_, rfl, ?_⟩; (try (rw [drewN_self wr]; generalize hq_ : World.drewN wr _ = wr; have n0_ : Aside0 (Kd.R k69 69 wr w.heap.size (fun _ => True) u4 x4_1) := ⟨by rw [← hq_]; exact (by (with_reducible repeat (first | apply Kd.R_alloc | apply Kd.R_drewN | apply Kd.R_drew)); exact HO_4.out)⟩; have n1_ : Aside0 (Below w.heap.size w wr) := ⟨by rw [← hq_]; exact (by repeat (first | (with_reducible first | exact HB.out | apply below_alloc | apply pw_below_drewN | apply below_drew1) | exact HB.out))⟩; clear HO_4 HB hq_; have HO_4 := n0_; have HB := n1_; clear n0_ n1_))) | ((with_reducible refine gate_callee (f := 42) rfl ?_); refine goesL_ (some 32) rfl rfl Tryd.func42 (by kernel_rfl) rfl #[.string (a0.extract (x5_1 : Int).toNat (t240 : Int).toNat)] rfl (by (try simp only [List.map_toArray, List.map_cons, List.map_nil]); first | done | rfl | (simp only [List.length_drop, List.length_take]; rfl)) ?_; (with_reducible refine (rundleref03_word.calls k1 (a0.extract (x5_1 : Int).toNat (t240 : Int).toNat) t241 t242 t243 false _ A13.out).mono ?_); rintro e w33 ⟨rfl, hb⟩; refine ⟨_, rfl, ?_⟩; have n0_ := Aside0.mk (Kd.R_below (by (with_reducible repeat (first | apply Kd.R_alloc | apply Kd.R_drewN | apply Kd.R_drew)); exact HO_4.out) hb); have n1_ := Aside0.mk (below_step (by repeat (first | (with_reducible first | exact HB.out | apply below_alloc | apply pw_below_drewN | apply below_drew1) | exact HB.out)) hb); clear HO_4; clear HB; have HO_4 := n0_; have HB := n1_; clear n0_ n1_; (try clear hb); (try clear hb2); (try clear hk); (try clear hi)) | ((with_reducible refine gate_dst (N := 7) rfl ?_); (try (refine gate_guard (by rfl) ?_; dsimp only)); refine box_event ?hg (N := 7) ?hd (cs := #[.int .i64 0, .int .i64 0, .string (⟨#[]⟩ : ByteArray)]) (t := 69) ?hr ?_; (case hd => rfl); (case hg => rfl); (case hr => first | (go_simp; done) | (go_simp; rfl)); intro gb245 hg w34 hbox hb; have n0_ := Aside0.mk (Kd.R_below (Kd.R_elderB (by (with_reducible repeat (first | apply Kd.R_alloc | apply Kd.R_drewN | apply Kd.R_drew)); exact HO_4.out) gb245 (Nat.le_of_eq hg.symm)) hb); have n1_ := Aside0.mk (below_step (by repeat (first | (with_reducible first | exact HB.out | apply below_alloc | apply pw_below_drewN | apply below_drew1) | exact HB.out)) hb); have n2_ := Aside0.mk (hbox); have n3_ := Aside0.mk ((by rw [hg]; exact (below_size (by repeat (first | (with_reducible first | exact HB.out | apply below_alloc | apply pw_below_drewN | apply below_drew1) | exact HB.out))) : w.heap.size ≤ gb245)); have n4_ := Aside0.mk ((by rw [hg]; exact (below_size (by repeat (first | (with_reducible first | exact HB.out | apply below_alloc | apply pw_below_drewN | apply below_drew1) | exact HB.out))) : w.heap.size ≤ gb245)); clear HO_4; clear HB; have HO_4 := n0_; have HB := n1_; have BK245 := n2_; have GW245 := n3_; have GE245 := n4_; clear n0_ n1_ n2_ n3_ n4_; clear hb hbox hg; have hcz35_0 : w34.cell? ⟨gb245, 0, none⟩ = some (.int .i64 0) := (blk_cell BK245.out 0).trans rfl; have hcz35_1 : w34.cell? ⟨gb245, 1, none⟩ = some (.int .i64 0) := (blk_cell BK245.out 1).trans rfl; have hcz35_2 : w34.cell? ⟨gb245, 2, none⟩ = some (.string (⟨#[]⟩ : ByteArray)) := (blk_cell BK245.out 2).trans rfl; have hfz35_0 := blk_frozen BK245.out 0; have hfz35_1 := blk_frozen BK245.out 1; have hfz35_2 := blk_frozen BK245.out 2))
                    go_ret2
                    exact ⟨_, by first | rfl | (simp [errW_none, errW_some] <;> rfl) | (simp [*, errW_none, errW_some] <;> rfl), by first | exact Kd.R_nil _ _ _ _ _ | exact Kd.N_nil _ _ _ _ _ | exact Kd.V_nil _ _ _ _ _ | exact Kd.Q_nil _ _ _ _ _ | exact Kd.S_nil _ _ _ _ _, by repeat (first | (with_reducible first | exact HB.out | apply below_alloc | apply pw_below_drewN | apply below_drew1 | refine below_set ?_ GE245.out) | exact HB.out)⟩
                · rw [if_neg c12] at H
                  exact absurd H (by simp)
              · rw [if_neg c11] at H
                exact absurd H (by simp)
        · rw [if_neg c3] at H
          exact absurd H (by simp)
      · rw [if_neg c2] at H
        have c2b0 : decide (x5_1 < (a0.size : Int)) = false := decide_eq_false c2
        clear c2
        simp only [Option.some.injEq, Prod.mk.injEq] at H
        obtain ⟨rfl, rfl⟩ := H
        go_wp2
        go_ret2
        exact ⟨_, by first | rfl | (simp [errW_none, errW_some] <;> rfl) | (simp [*, errW_none, errW_some] <;> rfl), by (with_reducible repeat (first | apply Kd.R_alloc | apply Kd.R_drewN | apply Kd.R_drew)); exact HO_4.out, by repeat (first | (with_reducible first | exact HB.out | apply below_alloc | apply pw_below_drewN | apply below_drew1) | exact HB.out)⟩

/-! ### rundleref03_Lines: function 13 -/
mutual
def rundleref03_Lines.l0 : Nat → ByteArray → List (S38) → Int → Int → Int → Option ((List (S38)) × Int × Int)
  | 0, _, _, _, _, _ => none
  | k + 1, x0, x5, x6, x7, x8 => if x8 ≤ (x0.size : Int) then (if x8 < (x0.size : Int) then (if 0 ≤ x8 then (rundleref03_Lines.j1 k x0 x5 x6 x7 x8 ((bt x0 x8) != 10)) else (none)) else (rundleref03_Lines.j1 k x0 x5 x6 x7 x8 false)) else (some (x5, 0, 0))
def rundleref03_Lines.j1 : Nat → ByteArray → List (S38) → Int → Int → Int → Bool → Option ((List (S38)) × Int × Int)
  | 0, _, _, _, _, _, _ => none
  | k + 1, x0, x5, x6, x7, x8, x29 => if x29 = true then (rundleref03_Lines.l0 k x0 x5 x6 x7 (wrap64 (x8 + 1))) else (if 0 ≤ x6 then (if x6 ≤ x8 then (if x8 ≤ (x0.size : Int) then ((rundleref03_words.f k (x0.extract (x6 : Int).toNat (x8 : Int).toNat)).bind fun bt253 => (if bt253.2 = true then (if (bt253.1.length : Int) > 0 then (if x5.length < 4398046511104 then (rundleref03_Lines.l0 k x0 (x5 ++ [(⟨x7, bt253.1⟩ : S38)]) (wrap64 (x8 + 1)) (wrap64 (x7 + 1)) (wrap64 (x8 + 1))) else (none)) else (rundleref03_Lines.l0 k x0 x5 (wrap64 (x8 + 1)) (wrap64 (x7 + 1)) (wrap64 (x8 + 1)))) else (some (([] : List (S38)), x7, 7)))) else (none)) else (none)) else (none))
end
def rundleref03_Lines.f (k : Nat) (a0 : ByteArray) : Option ((List (S38)) × Int × Int) := if (a0.size : Int) > 20000 then (some (([] : List (S38)), 0, 1)) else (rundleref03_Lines.l0 k a0 ([] : List (S38)) 0 1 0)
theorem rundleref03_Lines.mono_l : ∀ k, (∀ y0 y1 y2 y3 y4, LeO (rundleref03_Lines.l0 k y0 y1 y2 y3 y4) (rundleref03_Lines.l0 (k + 1) y0 y1 y2 y3 y4)) ∧ (∀ y0 y1 y2 y3 y4 y5, LeO (rundleref03_Lines.j1 k y0 y1 y2 y3 y4 y5) (rundleref03_Lines.j1 (k + 1) y0 y1 y2 y3 y4 y5))
  | 0 => ⟨fun _ _ _ _ _ r h => by simp [rundleref03_Lines.l0] at h, fun _ _ _ _ _ _ r h => by simp [rundleref03_Lines.j1] at h⟩
  | k + 1 => by
    obtain ⟨ih0, ih1⟩ := rundleref03_Lines.mono_l k
    refine ⟨?_, ?_⟩
    · intro y0 y1 y2 y3 y4
      unfold rundleref03_Lines.l0
      repeat' first
      | (with_reducible exact ih0 _ _ _ _ _)
      | (with_reducible exact ih1 _ _ _ _ _ _)
      | (with_reducible exact rundleref03_words.mono _ _)
      | (with_reducible exact LeO.refl _)
      | (with_reducible exact LeO.none _)
      | (with_reducible refine LeO.ite ?_ ?_)
      | (with_reducible refine LeO.bind ?_ (fun _ => ?_))
      | exact ih0 _ _ _ _ _
      | exact ih1 _ _ _ _ _ _
      | exact rundleref03_words.mono _ _
      | exact LeO.none _
      | refine LeO.ite ?_ ?_
      | refine LeO.bind ?_ (fun _ => ?_)
    · intro y0 y1 y2 y3 y4 y5
      unfold rundleref03_Lines.j1
      repeat' first
      | (with_reducible exact ih0 _ _ _ _ _)
      | (with_reducible exact ih1 _ _ _ _ _ _)
      | (with_reducible exact rundleref03_words.mono _ _)
      | (with_reducible exact LeO.refl _)
      | (with_reducible exact LeO.none _)
      | (with_reducible refine LeO.ite ?_ ?_)
      | (with_reducible refine LeO.bind ?_ (fun _ => ?_))
      | exact ih0 _ _ _ _ _
      | exact ih1 _ _ _ _ _ _
      | exact rundleref03_words.mono _ _
      | exact LeO.none _
      | refine LeO.ite ?_ ?_
      | refine LeO.bind ?_ (fun _ => ?_)
theorem rundleref03_Lines.mono : ∀ a0 k, LeO (rundleref03_Lines.f k a0) (rundleref03_Lines.f (k + 1) a0) := by
  intro a0 k
  obtain ⟨ih0, ih1⟩ := rundleref03_Lines.mono_l k
  unfold rundleref03_Lines.f
  repeat' first
      | (with_reducible exact ih0 _ _ _ _ _)
      | (with_reducible exact ih1 _ _ _ _ _ _)
      | (with_reducible exact rundleref03_words.mono _ _)
      | (with_reducible exact LeO.refl _)
      | (with_reducible exact LeO.none _)
      | (with_reducible refine LeO.ite ?_ ?_)
      | (with_reducible refine LeO.bind ?_ (fun _ => ?_))
      | exact ih0 _ _ _ _ _
      | exact ih1 _ _ _ _ _ _
      | exact rundleref03_words.mono _ _
      | exact LeO.none _
      | refine LeO.ite ?_ ?_
      | refine LeO.bind ?_ (fun _ => ?_)
set_option maxHeartbeats 8000000 in
set_option maxRecDepth 100000 in
theorem rundleref03_Lines.calls (k : Nat) (a0 : ByteArray) (r1 : List (S38)) (r2 : Int) (r3 : Int) (w : World) (h : rundleref03_Lines.f k a0 = some (r1, r2, r3)) :
    Calls Tryd.prog 13 #[.string a0] w fun e w' => ∃ v0_ : Value, e = .returned (.tuple #[v0_, .int .i64 r2, .int .i64 r3]) ∧ Kd.S k38 38 w' w.heap.size (fun _ => True) v0_ r1 ∧ Below w.heap.size w w' := by
  have hu38 := Tryd.underlying38
  have HB := Aside0.mk (Below.refl w.heap.size w)
  have H : (if (a0.size : Int) > 20000 then (some (([] : List (S38)), 0, 1)) else (rundleref03_Lines.l0 k a0 ([] : List (S38)) 0 1 0)) = some (r1, r2, r3) := h
  clear h
  by_cases c2 : (a0.size : Int) > 20000
  · rw [if_pos c2] at H
    have c2b0 : decide (20000 < (a0.size : Int)) = true := decide_eq_true c2
    have c2b1 : decide (20000 < a0.size) = true := decide_eq_true (by omega)
    clear c2
    simp only [Option.some.injEq, Prod.mk.injEq] at H
    obtain ⟨rfl, rfl, rfl⟩ := H
    go_enter Tryd.func13, Tryd.ntmps13
    go_wp2
    go_ret3
    exact ⟨_, by first | rfl | (simp [errW_none, errW_some] <;> rfl) | (simp [*, errW_none, errW_some] <;> rfl), by first | exact Kd.S_nil _ _ _ _ _ | exact Kd.N_nil _ _ _ _ _ | exact Kd.V_nil _ _ _ _ _ | exact Kd.Q_nil _ _ _ _ _ | exact Kd.R_nil _ _ _ _ _, by repeat (first | (with_reducible first | exact HB.out | apply below_alloc | apply pw_below_drewN | apply below_drew1) | exact HB.out)⟩
  · rw [if_neg c2] at H
    have c2b0 : decide (20000 < (a0.size : Int)) = false := decide_eq_false c2
    have c2b1 : decide (20000 < a0.size) = false := decide_eq_false (by omega)
    clear c2
    have H' := Aside0.mk H
    clear H
    go_enter Tryd.func13, Tryd.ntmps13
    go_wp2
    go_loopg [5, 6, 7, 8] k (fun kq v5 v6 v7 v8 w' => ∃ (x5_1 : List (S38)) (x6_1 : Int) (x7_1 : Int) (x8_1 : Int), v6 = .int .i64 x6_1 ∧ v7 = .int .i64 x7_1 ∧ v8 = .int .i64 x8_1 ∧ Aside0 (rundleref03_Lines.l0 kq a0 x5_1 x6_1 x7_1 x8_1 = some (r1, r2, r3)) ∧ Aside0 (kq ≤ k) ∧ Aside0 (Kd.S k38 38 w' w.heap.size (fun _ => True) v5 x5_1) ∧ Aside0 (Below w.heap.size w w'))
    case atStart => exact ⟨(([] : List (S38))), (0), (1), (0), (by first | rfl | (simp; done) | (simp [*]; done)), (by first | rfl | (simp; done) | (simp [*]; done)), (by first | rfl | (simp; done) | (simp [*]; done)), H', ⟨Nat.le_refl _⟩, ⟨by first | exact Kd.S_nil _ _ _ _ _ | exact Kd.N_nil _ _ _ _ _ | exact Kd.V_nil _ _ _ _ _ | exact Kd.Q_nil _ _ _ _ _ | exact Kd.R_nil _ _ _ _ _⟩, ⟨by repeat (first | (with_reducible first | exact HB.out | apply below_alloc | apply pw_below_drewN | apply below_drew1) | exact HB.out)⟩⟩
    case round =>
      clear H'
      try clear c1
      try clear c2
      try clear c2b0
      try clear c2b1
      try clear p2
      obtain ⟨x5_1, x6_1, x7_1, x8_1, rfl, rfl, rfl, HA, HK1, HO_5, HB⟩ := hrel
      cases gk with
      | zero => exact absurd HA.out (by simp [rundleref03_Lines.l0])
      | succ k1 =>
        have H := HA.out
        clear HA
        simp only [rundleref03_Lines.l0] at H
        by_cases c3 : x8_1 ≤ (a0.size : Int)
        · rw [if_pos c3] at H
          have c3b0 : decide (x8_1 ≤ (a0.size : Int)) = true := decide_eq_true c3
          clear c3
          have HC4 := Aside0.mk H
          clear H
          go_upto_region 8 with (fail)
          go_cut [29] (fun v29 wc => ∃ (kq : Nat) (x29_3 : Bool), v29 = .bool x29_3 ∧ Aside0 (rundleref03_Lines.j1 kq a0 x5_1 x6_1 x7_1 x8_1 x29_3 = some (r1, r2, r3)) ∧ Aside0 (kq ≤ k1) ∧ Aside0 (Kd.S k38 38 wc w.heap.size (fun _ => True) u5 x5_1) ∧ Aside0 (Below w.heap.size w wc))
          case first =>
            have H := HC4.out
            clear HC4
            by_cases c5 : x8_1 < (a0.size : Int)
            · rw [if_pos c5] at H
              have c5b0 : decide (x8_1 < (a0.size : Int)) = true := decide_eq_true c5
              clear c5
              (first | rw [c5b0] | (simp only [i64_w, i32_w]; rw [c5b0]) | skip)
              by_cases c6 : 0 ≤ x8_1
              · rw [if_pos c6] at H
                have c6b0 : decide (0 ≤ x8_1) = true := decide_eq_true c6
                clear c6
                have H' := Aside0.mk H
                clear H
                have p7 : 0 ≤ (x8_1 : Int) := of_decide_eq_true (by first | (with_reducible assumption) | assumption)
                have q7 : x8_1 < (a0.size : Int) := of_decide_eq_true (by first | (with_reducible assumption) | assumption)
                have hx7 := bt_at a0 x8_1
                replace p7 := eq_true p7
                replace q7 := eq_true q7
                go_wp2
                go_meet
                case rel => exact ⟨_, (((bt a0 x8_1) != 10)), (by first | rfl | (simp; done) | (simp [*]; done)), H', ⟨by have := HK1.out; first | omega | exact Nat.le_refl _⟩, ⟨by (with_reducible repeat (first | apply Kd.S_alloc | apply Kd.S_drewN | apply Kd.S_drew)); exact HO_5.out⟩, ⟨by repeat (first | (with_reducible first | exact HB.out | apply below_alloc | apply pw_below_drewN | apply below_drew1) | exact HB.out)⟩⟩
              · rw [if_neg c6] at H
                exact absurd H (by simp)
            · rw [if_neg c5] at H
              have c5b0 : decide (x8_1 < (a0.size : Int)) = false := decide_eq_false c5
              clear c5
              (first | rw [c5b0] | (simp only [i64_w, i32_w]; rw [c5b0]) | skip)
              have H' := Aside0.mk H
              clear H
              go_wp2
              go_meet
              case rel => exact ⟨_, (false), (by first | rfl | (simp; done) | (simp [*]; done)), H', ⟨by have := HK1.out; first | omega | exact Nat.le_refl _⟩, ⟨by (with_reducible repeat (first | apply Kd.S_alloc | apply Kd.S_drewN | apply Kd.S_drew)); exact HO_5.out⟩, ⟨by repeat (first | (with_reducible first | exact HB.out | apply below_alloc | apply pw_below_drewN | apply below_drew1) | exact HB.out)⟩⟩
          case rest =>
            clear HC4
            try clear c1
            try clear c2
            try clear c2b0
            try clear c2b1
            try clear p2
            try clear c3
            try clear c3b0
            try clear c5
            try clear c5b0
            try clear c6
            try clear c6b0
            try clear p7
            try clear q7
            try clear hx7
            try clear p2
            try clear p7
            try clear q7
            obtain ⟨kq, x29_3, rfl, HA, HJ3, HO_5, HB⟩ := hcut
            cases kq with
            | zero => exact absurd HA.out (by simp [rundleref03_Lines.j1])
            | succ kj3 =>
              have H := HA.out
              clear HA
              simp only [rundleref03_Lines.j1] at H
              by_cases c8 : x29_3 = true
              · subst c8
                have H1 : (rundleref03_Lines.l0 kj3 a0 x5_1 x6_1 x7_1 (wrap64 (x8_1 + 1))) = some (r1, r2, r3) := by rw [if_pos rfl] at H; exact H
                clear H
                have H := H1
                clear H1
                have H' := Aside0.mk H
                clear H
                go_wp2
                go_roundg kj3
                case measure => have := HK1.out; have := HJ3.out; omega
                case rel => exact ⟨(x5_1), (x6_1), (x7_1), (wrap64 (x8_1 + 1)), (by first | rfl | (simp; done) | (simp [*]; done)), (by first | rfl | (simp; done) | (simp [*]; done)), (by first | rfl | (simp; done) | (simp [*]; done)), H', ⟨by have := HK1.out; have := HJ3.out; omega⟩, ⟨by (with_reducible repeat (first | apply Kd.S_alloc | apply Kd.S_drewN | apply Kd.S_drew)); exact HO_5.out⟩, ⟨by repeat (first | (with_reducible first | exact HB.out | apply below_alloc | apply pw_below_drewN | apply below_drew1) | exact HB.out)⟩⟩
              · replace c8 := Bool.eq_false_iff.mpr c8
                subst c8
                have H1 : (if 0 ≤ x6_1 then (if x6_1 ≤ x8_1 then (if x8_1 ≤ (a0.size : Int) then ((rundleref03_words.f kj3 (a0.extract (x6_1 : Int).toNat (x8_1 : Int).toNat)).bind fun bt253 => (if bt253.2 = true then (if (bt253.1.length : Int) > 0 then (if x5_1.length < 4398046511104 then (rundleref03_Lines.l0 kj3 a0 (x5_1 ++ [(⟨x7_1, bt253.1⟩ : S38)]) (wrap64 (x8_1 + 1)) (wrap64 (x7_1 + 1)) (wrap64 (x8_1 + 1))) else (none)) else (rundleref03_Lines.l0 kj3 a0 x5_1 (wrap64 (x8_1 + 1)) (wrap64 (x7_1 + 1)) (wrap64 (x8_1 + 1)))) else (some (([] : List (S38)), x7_1, 7)))) else (none)) else (none)) else (none)) = some (r1, r2, r3) := by rw [if_neg (show ¬ (false = true) by decide)] at H; exact H
                clear H
                have H := H1
                clear H1
                by_cases c9 : 0 ≤ x6_1
                · rw [if_pos c9] at H
                  have c9b0 := eq_true c9
                  have c9b1 : decide (0 ≤ x6_1) = true := decide_eq_true c9
                  clear c9
                  by_cases c10 : x6_1 ≤ x8_1
                  · rw [if_pos c10] at H
                    have c10b0 := eq_true c10
                    have c10b1 : decide (x6_1 ≤ x8_1) = true := decide_eq_true c10
                    clear c10
                    by_cases c11 : x8_1 ≤ (a0.size : Int)
                    · rw [if_pos c11] at H
                      have c11b0 := eq_true c11
                      have c11b1 : decide (x8_1 ≤ (a0.size : Int)) = true := decide_eq_true c11
                      clear c11
                      replace H := Option.bind_eq_some_iff.mp H
                      obtain ⟨⟨t253, t254⟩, A120, H⟩ := H
                      replace H : (if t254 = true then (if (t253.length : Int) > 0 then (if x5_1.length < 4398046511104 then (rundleref03_Lines.l0 kj3 a0 (x5_1 ++ [(⟨x7_1, t253⟩ : S38)]) (wrap64 (x8_1 + 1)) (wrap64 (x7_1 + 1)) (wrap64 (x8_1 + 1))) else (none)) else (rundleref03_Lines.l0 kj3 a0 x5_1 (wrap64 (x8_1 + 1)) (wrap64 (x7_1 + 1)) (wrap64 (x8_1 + 1)))) else (some (([] : List (S38)), x7_1, 7))) = some (r1, r2, r3) := H
                      have A12 := Aside0.mk A120
                      clear A120
                      by_cases c13 : t254 = true
                      · subst c13
                        have H1 : (if (t253.length : Int) > 0 then (if x5_1.length < 4398046511104 then (rundleref03_Lines.l0 kj3 a0 (x5_1 ++ [(⟨x7_1, t253⟩ : S38)]) (wrap64 (x8_1 + 1)) (wrap64 (x7_1 + 1)) (wrap64 (x8_1 + 1))) else (none)) else (rundleref03_Lines.l0 kj3 a0 x5_1 (wrap64 (x8_1 + 1)) (wrap64 (x7_1 + 1)) (wrap64 (x8_1 + 1)))) = some (r1, r2, r3) := by rw [if_pos rfl] at H; exact H
                        clear H
                        have H := H1
                        clear H1
                        by_cases c14 : (t253.length : Int) > 0
                        · rw [if_pos c14] at H
                          have c14b0 : decide (0 < (t253.length : Int)) = true := decide_eq_true c14
                          have c14b1 : decide (0 < t253.length) = true := decide_eq_true (by omega)
                          clear c14
                          by_cases c15 : x5_1.length < 4398046511104
                          · rw [if_pos c15] at H
                            have LMc15 := Aside0.mk c15
                            clear c15
                            obtain ⟨y257, hy257⟩ : ∃ y_ : List (S38), y_ = (x5_1 ++ [(⟨x7_1, t253⟩ : S38)]) := ⟨_, rfl⟩
                            replace H : (rundleref03_Lines.l0 kj3 a0 y257 (wrap64 (x8_1 + 1)) (wrap64 (x7_1 + 1)) (wrap64 (x8_1 + 1))) = some (r1, r2, r3) := by first | (rw [hy257]; with_reducible exact H) | (have H2_ := (Option.bind_some _ _).symm.trans H; rw [hy257]; with_reducible exact H2_) | (have H2_ := (Option.bind_some _ _).symm.trans H; with_reducible exact H2_) | with_reducible exact H | (rw [hy257]; exact H) | exact H
                            have Ny257 := Aside0.mk hy257
                            clear hy257
                            have H' := Aside0.mk H
                            clear H
                            go_wp2_with (first | ((with_reducible refine gate_callee (f := 25) rfl ?_); refine goesL_ (some 35) rfl rfl Tryd.func25 (by kernel_rfl) rfl #[.string (a0.extract (x6_1 : Int).toNat (x8_1 : Int).toNat)] rfl (by (try simp only [List.map_toArray, List.map_cons, List.map_nil]); first | done | rfl | (simp only [List.length_drop, List.length_take]; rfl)) ?_; (with_reducible refine (rundleref03_words.calls kj3 (a0.extract (x6_1 : Int).toNat (x8_1 : Int).toNat) t253 true _ A12.out).mono ?_); rintro e w16 ⟨v255, rfl, ho0, hb⟩; refine ⟨_, rfl, ?_⟩; have n0_ := Aside0.mk (Kd.S_elder' (by (with_reducible repeat (first | apply Kd.S_alloc | apply Kd.S_drewN | apply Kd.S_drew)); exact HO_5.out) (Kd.R_base ho0) hb); have n1_ := Aside0.mk (Kd.R_lower ho0 (below_size (by repeat (first | (with_reducible first | exact HB.out | apply below_alloc | apply pw_below_drewN | apply below_drew1) | exact HB.out)))); have n2_ := Aside0.mk (below_step (by repeat (first | (with_reducible first | exact HB.out | apply below_alloc | apply pw_below_drewN | apply below_drew1) | exact HB.out)) hb); clear HO_5; clear HB; have HO_5 := n0_; have HO256 := n1_; have HB := n2_; clear n0_ n1_ n2_; (try clear hb); (try clear hb2); (try clear hk); (try clear hi); (try clear ho0); obtain ⟨Ao17, co17, eo17⟩ := Kd.R_slice HO256.out; subst eo17) | ((with_reducible refine gate_builtin (b := .append) (xs := #[.tmp 44, .tmp 48]) rfl ?_); at_builtin; refine Kd.S_append k38 (w0 := w) w.heap.size rfl (.tmp 44) (.tmp 48) 30 38 (.agg #[(.int .i64 0), (.slice none 0 0)]) 32 rfl Tryd.underlying30 info38 rfl (by decide) (by omega) u5 x5_1 (⟨x7_1, t253⟩ : S38) [.int .i64 x7_1, .slice Ao17 t253.length co17] (fun _ => True) (fun k_ => some k_ = (.slice Ao17 t253.length co17 : Value).ownBlock) rfl rfl ?aP (fun k_ hk_ => ((Kd.R_mono (ok' := fun k_ => ((fun _ => True)) k_ ∧ some k_ ≠ (u5 : Value).ownBlock) (Kd.R_apart' (HO256.out) (Kd.S_typed HO_5.out) (by decide)) (fun k_ hk => ⟨trivial, hk.2⟩))).1 k_ hk_.symm) ?aF ?aO ?aB ?aS ?aL ?_; (case aP => exact k38_mkM _ _ _ (⟨x7_1, t253⟩ : S38) (Kd.R_mono (Kd.R_tight rfl (Kd.R_mono (ok' := fun k_ => ((fun _ => True)) k_ ∧ some k_ ≠ (u5 : Value).ownBlock) (Kd.R_apart' (HO256.out) (Kd.S_typed HO_5.out) (by decide)) (fun k_ hk => ⟨trivial, hk.2⟩))) (fun _ h_ => h_))); (case aB => exact (by repeat (first | (with_reducible first | exact HB.out | apply below_alloc | apply pw_below_drewN | apply below_drew1) | exact HB.out))); (case aF => exact (fun _ _ => trivial)); (case aO => exact (by (with_reducible repeat (first | apply Kd.S_alloc | apply Kd.S_drewN | apply Kd.S_drew)); exact Kd.S_mono HO_5.out (fun k_ hk => ⟨trivial, fun e_ => hk.2 e_⟩))); (case aS => exact (below_size (by repeat (first | (with_reducible first | exact HB.out | apply below_alloc | apply pw_below_drewN | apply below_drew1) | exact HB.out)))); (case aL => have := LMc15.out; omega); intro v258 w18 ho hb hg hat; rw [← Ny257.out] at ho; have n0_ := Aside0.mk (hb); have n1_ := Aside0.mk (ho); clear HB; clear HO_5; clear HO256; have HB := n0_; have HO259 := n1_; clear n0_ n1_; clear ho hb hg hat))
                            go_roundg kj3
                            case measure => have := HK1.out; have := HJ3.out; omega
                            case rel => exact ⟨(y257), (wrap64 (x8_1 + 1)), (wrap64 (x7_1 + 1)), (wrap64 (x8_1 + 1)), (by first | rfl | (simp; done) | (simp [*]; done)), (by first | rfl | (simp; done) | (simp [*]; done)), (by first | rfl | (simp; done) | (simp [*]; done)), H', ⟨by have := HK1.out; have := HJ3.out; omega⟩, ⟨by (with_reducible repeat (first | apply Kd.S_alloc | apply Kd.S_drewN | apply Kd.S_drew)); exact HO259.out⟩, ⟨by repeat (first | (with_reducible first | exact HB.out | apply below_alloc | apply pw_below_drewN | apply below_drew1) | exact HB.out)⟩⟩
                          · rw [if_neg c15] at H
                            exact absurd H (by simp)
                        · rw [if_neg c14] at H
                          have c14b0 : decide (0 < (t253.length : Int)) = false := decide_eq_false c14
                          have c14b1 : decide (0 < t253.length) = false := decide_eq_false (by omega)
                          clear c14
                          have H' := Aside0.mk H
                          clear H
                          go_wp2_with (first | ((with_reducible refine gate_callee (f := 25) rfl ?_); refine goesL_ (some 35) rfl rfl Tryd.func25 (by kernel_rfl) rfl #[.string (a0.extract (x6_1 : Int).toNat (x8_1 : Int).toNat)] rfl (by (try simp only [List.map_toArray, List.map_cons, List.map_nil]); first | done | rfl | (simp only [List.length_drop, List.length_take]; rfl)) ?_; (with_reducible refine (rundleref03_words.calls kj3 (a0.extract (x6_1 : Int).toNat (x8_1 : Int).toNat) t253 true _ A12.out).mono ?_); rintro e w19 ⟨v255, rfl, ho0, hb⟩; refine ⟨_, rfl, ?_⟩; have n0_ := Aside0.mk (Kd.S_elder' (by (with_reducible repeat (first | apply Kd.S_alloc | apply Kd.S_drewN | apply Kd.S_drew)); exact HO_5.out) (Kd.R_base ho0) hb); have n1_ := Aside0.mk (Kd.R_lower ho0 (below_size (by repeat (first | (with_reducible first | exact HB.out | apply below_alloc | apply pw_below_drewN | apply below_drew1) | exact HB.out)))); have n2_ := Aside0.mk (below_step (by repeat (first | (with_reducible first | exact HB.out | apply below_alloc | apply pw_below_drewN | apply below_drew1) | exact HB.out)) hb); clear HO_5; clear HB; have HO_5 := n0_; have HO256 := n1_; have HB := n2_; clear n0_ n1_ n2_; (try clear hb); (try clear hb2); (try clear hk); (try clear hi); (try clear ho0); obtain ⟨Ao20, co20, eo20⟩ := Kd.R_slice HO256.out; subst eo20))
                          go_roundg kj3
                          case measure => have := HK1.out; have := HJ3.out; omega
                          case rel => exact ⟨(x5_1), (wrap64 (x8_1 + 1)), (wrap64 (x7_1 + 1)), (wrap64 (x8_1 + 1)), (by first | rfl | (simp; done) | (simp [*]; done)), (by first | rfl | (simp; done) | (simp [*]; done)), (by first | rfl | (simp; done) | (simp [*]; done)), H', ⟨by have := HK1.out; have := HJ3.out; omega⟩, ⟨by (with_reducible repeat (first | apply Kd.S_alloc | apply Kd.S_drewN | apply Kd.S_drew)); exact Kd.S_mono HO_5.out (fun _ hk => trivial)⟩, ⟨by repeat (first | (with_reducible first | exact HB.out | apply below_alloc | apply pw_below_drewN | apply below_drew1) | exact HB.out)⟩⟩
                      · replace c13 := Bool.eq_false_iff.mpr c13
                        subst c13
                        have H1 : (some (([] : List (S38)), x7_1, 7)) = some (r1, r2, r3) := by rw [if_neg (show ¬ (false = true) by decide)] at H; exact H
                        clear H
                        have H := H1
                        clear H1
                        simp only [Option.some.injEq, Prod.mk.injEq] at H
                        obtain ⟨rfl, rfl, rfl⟩ := H
                        go_wp2_with (first | ((with_reducible refine gate_callee (f := 25) rfl ?_); refine goesL_ (some 35) rfl rfl Tryd.func25 (by kernel_rfl) rfl #[.string (a0.extract (x6_1 : Int).toNat (x8_1 : Int).toNat)] rfl (by (try simp only [List.map_toArray, List.map_cons, List.map_nil]); first | done | rfl | (simp only [List.length_drop, List.length_take]; rfl)) ?_; (with_reducible refine (rundleref03_words.calls kj3 (a0.extract (x6_1 : Int).toNat (x8_1 : Int).toNat) t253 false _ A12.out).mono ?_); rintro e w21 ⟨v255, rfl, ho0, hb⟩; refine ⟨_, rfl, ?_⟩; have n0_ := Aside0.mk (Kd.S_elder' (by (with_reducible repeat (first | apply Kd.S_alloc | apply Kd.S_drewN | apply Kd.S_drew)); exact HO_5.out) (Kd.R_base ho0) hb); have n1_ := Aside0.mk (Kd.R_lower ho0 (below_size (by repeat (first | (with_reducible first | exact HB.out | apply below_alloc | apply pw_below_drewN | apply below_drew1) | exact HB.out)))); have n2_ := Aside0.mk (below_step (by repeat (first | (with_reducible first | exact HB.out | apply below_alloc | apply pw_below_drewN | apply below_drew1) | exact HB.out)) hb); clear HO_5; clear HB; have HO_5 := n0_; have HO256 := n1_; have HB := n2_; clear n0_ n1_ n2_; (try clear hb); (try clear hb2); (try clear hk); (try clear hi); (try clear ho0)))
                        go_ret3
                        exact ⟨_, by first | rfl | (simp [errW_none, errW_some] <;> rfl) | (simp [*, errW_none, errW_some] <;> rfl), by first | exact Kd.S_nil _ _ _ _ _ | exact Kd.N_nil _ _ _ _ _ | exact Kd.V_nil _ _ _ _ _ | exact Kd.Q_nil _ _ _ _ _ | exact Kd.R_nil _ _ _ _ _, by repeat (first | (with_reducible first | exact HB.out | apply below_alloc | apply pw_below_drewN | apply below_drew1) | exact HB.out)⟩
                    · rw [if_neg c11] at H
                      exact absurd H (by simp)
                  · rw [if_neg c10] at H
                    exact absurd H (by simp)
                · rw [if_neg c9] at H
                  exact absurd H (by simp)
        · rw [if_neg c3] at H
          have c3b0 : decide (x8_1 ≤ (a0.size : Int)) = false := decide_eq_false c3
          clear c3
          simp only [Option.some.injEq, Prod.mk.injEq] at H
          obtain ⟨rfl, rfl, rfl⟩ := H
          go_wp2
          go_ret3
          exact ⟨_, by first | rfl | (simp [errW_none, errW_some] <;> rfl) | (simp [*, errW_none, errW_some] <;> rfl), by (with_reducible repeat (first | apply Kd.S_alloc | apply Kd.S_drewN | apply Kd.S_drew)); exact HO_5.out, by repeat (first | (with_reducible first | exact HB.out | apply below_alloc | apply pw_below_drewN | apply below_drew1) | exact HB.out)⟩

/-! ### rundlelaw02_Plain: function 26 -/
def rundlelaw02_Plain.f (a0_0 : Wd) : Option (Int × Int × ByteArray) := (box_AsNumber.f a0_0).bind fun bt262 => ((box_AsName.f a0_0).bind fun bt264 => (if bt264.2 = true then ((box_Kind.f a0_0).bind fun t266 => (some (t266, bt262.1, bt264.1))) else ((box_AsText.f a0_0).bind fun bt267 => ((box_Kind.f a0_0).bind fun t269 => (some (t269, bt262.1, bt267.1))))))
set_option maxHeartbeats 8000000 in
set_option maxRecDepth 100000 in
theorem rundlelaw02_Plain.calls (a0_0 : Wd) (r1 : Int) (r2 : Int) (r3 : ByteArray) (w : World) (h : rundlelaw02_Plain.f a0_0 = some (r1, r2, r3)) :
    Calls Tryd.prog 26 #[.agg #[Wd.v a0_0]] w fun e w' => e = .returned (.agg #[.int .i64 r1, .int .i64 r2, .string r3]) ∧ Below w.heap.size w w' := by
  have hu42 := Tryd.underlying42
  have hu69 := Tryd.underlying69
  have HB := Aside0.mk (Below.refl w.heap.size w)
  have H : ((box_AsNumber.f a0_0).bind fun bt262 => ((box_AsName.f a0_0).bind fun bt264 => (if bt264.2 = true then ((box_Kind.f a0_0).bind fun t266 => (some (t266, bt262.1, bt264.1))) else ((box_AsText.f a0_0).bind fun bt267 => ((box_Kind.f a0_0).bind fun t269 => (some (t269, bt262.1, bt267.1))))))) = some (r1, r2, r3) := h
  clear h
  replace H := Option.bind_eq_some_iff.mp H
  obtain ⟨⟨t262, t263⟩, A20, H⟩ := H
  replace H : ((box_AsName.f a0_0).bind fun bt264 => (if bt264.2 = true then ((box_Kind.f a0_0).bind fun t266 => (some (t266, t262, bt264.1))) else ((box_AsText.f a0_0).bind fun bt267 => ((box_Kind.f a0_0).bind fun t269 => (some (t269, t262, bt267.1)))))) = some (r1, r2, r3) := H
  have A2 := Aside0.mk A20
  clear A20
  replace H := Option.bind_eq_some_iff.mp H
  obtain ⟨⟨t264, t265⟩, A30, H⟩ := H
  replace H : (if t265 = true then ((box_Kind.f a0_0).bind fun t266 => (some (t266, t262, t264))) else ((box_AsText.f a0_0).bind fun bt267 => ((box_Kind.f a0_0).bind fun t269 => (some (t269, t262, bt267.1))))) = some (r1, r2, r3) := H
  have A3 := Aside0.mk A30
  clear A30
  by_cases c4 : t265 = true
  · subst c4
    have H1 : ((box_Kind.f a0_0).bind fun t266 => (some (t266, t262, t264))) = some (r1, r2, r3) := by rw [if_pos rfl] at H; exact H
    clear H
    have H := H1
    clear H1
    replace H := Option.bind_eq_some_iff.mp H
    obtain ⟨t266, A50, H⟩ := H
    replace H : (some (t266, t262, t264)) = some (r1, r2, r3) := H
    have A5 := Aside0.mk A50
    clear A50
    simp only [Option.some.injEq, Prod.mk.injEq] at H
    obtain ⟨rfl, rfl, rfl⟩ := H
    go_enter Tryd.func26, Tryd.ntmps26
    go_wp2_with (first | ((with_reducible refine gate_dst (N := 1) rfl ?_); refine box_event ?hg (N := 1) ?hd (cs := #[Wd.v a0_0]) (t := 42) ?hr ?_; (case hd => rfl); (case hg => rfl); (case hr => first | (go_simp; done) | (go_simp; rfl)); intro gb260 hg w6 hbox hb; have n0_ := Aside0.mk (below_step (by repeat (first | (with_reducible first | exact HB.out | apply below_alloc | apply pw_below_drewN | apply below_drew1) | exact HB.out)) hb); have n1_ := Aside0.mk (hbox); have n2_ := Aside0.mk ((by rw [hg]; exact (below_size (by repeat (first | (with_reducible first | exact HB.out | apply below_alloc | apply pw_below_drewN | apply below_drew1) | exact HB.out))) : w.heap.size ≤ gb260)); have n3_ := Aside0.mk ((by rw [hg]; exact (below_size (by repeat (first | (with_reducible first | exact HB.out | apply below_alloc | apply pw_below_drewN | apply below_drew1) | exact HB.out))) : w.heap.size ≤ gb260)); clear HB; have HB := n0_; have BK260 := n1_; have GW260 := n2_; have GE260 := n3_; clear n0_ n1_ n2_ n3_; clear hb hbox hg) | ((with_reducible refine gate_dst (N := 2) rfl ?_); refine box_event ?hg (N := 2) ?hd (cs := #[.int .i64 0, .int .i64 0, .string (⟨#[]⟩ : ByteArray)]) (t := 69) ?hr ?_; (case hd => rfl); (case hg => rfl); (case hr => first | (go_simp; done) | (go_simp; rfl)); intro gb261 hg w7 hbox hb; have n0_ := Aside0.mk (blk_below (g := gb260) (o := .cells #[Wd.v a0_0] 42 (0, 0)) (by (with_reducible repeat (first | refine blk_drewN ?_ _ | refine blk_drew ?_ | refine blk_alloc ?_ _)); exact BK260.out) hb); have n1_ := Aside0.mk (below_step (by repeat (first | (with_reducible first | exact HB.out | apply below_alloc | apply pw_below_drewN | apply below_drew1 | refine below_set ?_ GE260.out) | exact HB.out)) hb); have n2_ := Aside0.mk (hbox); have n3_ := Aside0.mk ((by rw [hg]; exact (below_size (by repeat (first | (with_reducible first | exact HB.out | apply below_alloc | apply pw_below_drewN | apply below_drew1 | refine below_set ?_ GE260.out) | exact HB.out))) : w.heap.size ≤ gb261)); have n4_ := Aside0.mk ((by rw [hg]; exact (below_size (by repeat (first | (with_reducible first | exact HB.out | apply below_alloc | apply pw_below_drewN | apply below_drew1 | refine below_set ?_ GE260.out) | exact HB.out))) : w.heap.size ≤ gb261)); have n5_ := Aside0.mk ((by rw [hg]; exact Nat.ne_of_lt (blk_lt (g := gb260) (o := .cells #[Wd.v a0_0] 42 (0, 0)) (by (with_reducible repeat (first | refine blk_drewN ?_ _ | refine blk_drew ?_ | refine blk_alloc ?_ _)); exact BK260.out)) : gb260 ≠ gb261)); have n6_ := Aside0.mk ((by rw [hg]; exact Nat.ne_of_gt (blk_lt (g := gb260) (o := .cells #[Wd.v a0_0] 42 (0, 0)) (by (with_reducible repeat (first | refine blk_drewN ?_ _ | refine blk_drew ?_ | refine blk_alloc ?_ _)); exact BK260.out)) : gb261 ≠ gb260)); clear BK260; clear HB; have BK260 := n0_; have HB := n1_; have BK261 := n2_; have GW261 := n3_; have GE261 := n4_; have NB260_261 := n5_; have NB261_260 := n6_; clear n0_ n1_ n2_ n3_ n4_ n5_ n6_; clear hb hbox hg; have hnb8 := NB260_261.out; have hnc8 := NB261_260.out; have hcz9_0 : w7.cell? ⟨gb260, 0, none⟩ = some (Wd.v a0_0) := (blk_cell BK260.out 0).trans rfl; have hfz9_0 := blk_frozen BK260.out 0) | ((with_reducible refine gate_callee (f := 43) rfl ?_); refine goesL_ (some 9) rfl rfl Tryd.func43 (by kernel_rfl) rfl #[.agg #[Wd.v a0_0]] rfl (by (try simp only [List.map_toArray, List.map_cons, List.map_nil]); first | done | rfl | (simp only [List.length_drop, List.length_take]; rfl)) ?_; (with_reducible refine (box_AsNumber.calls a0_0 t262 t263 _ A2.out).mono ?_); rintro e w10 ⟨rfl, hb⟩; refine ⟨_, rfl, ?_⟩; have n0_ := Aside0.mk (blk_below (g := gb260) (o := .cells #[Wd.v a0_0] 42 (0, 0)) (by (with_reducible repeat (first | refine blk_drewN ?_ _ | refine blk_drew ?_ | refine blk_alloc ?_ _)); exact BK260.out) hb); have n1_ := Aside0.mk (blk_below (g := gb261) (o := .cells #[.int .i64 0, .int .i64 0, .string (⟨#[]⟩ : ByteArray)] 69 (0, 0)) (by (with_reducible repeat (first | refine blk_drewN ?_ _ | refine blk_drew ?_ | refine blk_alloc ?_ _)); exact BK261.out) hb); have n2_ := Aside0.mk (below_step (by repeat (first | (with_reducible first | exact HB.out | apply below_alloc | apply pw_below_drewN | apply below_drew1 | refine below_set ?_ GE260.out | refine below_set ?_ GE261.out) | exact HB.out)) hb); clear BK260; clear BK261; clear HB; have BK260 := n0_; have BK261 := n1_; have HB := n2_; clear n0_ n1_ n2_; (try clear hb); (try clear hb2); (try clear hk); (try clear hi); have hcz11_0 : w10.cell? ⟨gb260, 0, none⟩ = some (Wd.v a0_0) := (blk_cell BK260.out 0).trans rfl; have hfz11_0 := blk_frozen BK260.out 0) | ((with_reducible refine gate_callee (f := 44) rfl ?_); refine goesL_ (some 14) rfl rfl Tryd.func44 (by kernel_rfl) rfl #[.agg #[Wd.v a0_0]] rfl (by (try simp only [List.map_toArray, List.map_cons, List.map_nil]); first | done | rfl | (simp only [List.length_drop, List.length_take]; rfl)) ?_; (with_reducible refine (box_AsName.calls a0_0 t264 true _ A3.out).mono ?_); rintro e w12 ⟨rfl, hb⟩; refine ⟨_, rfl, ?_⟩; have n0_ := Aside0.mk (blk_below (g := gb260) (o := .cells #[Wd.v a0_0] 42 (0, 0)) (by (with_reducible repeat (first | refine blk_drewN ?_ _ | refine blk_drew ?_ | refine blk_alloc ?_ _)); exact BK260.out) hb); have n1_ := Aside0.mk (blk_below (g := gb261) (o := .cells #[.int .i64 0, .int .i64 0, .string (⟨#[]⟩ : ByteArray)] 69 (0, 0)) (by (with_reducible repeat (first | refine blk_drewN ?_ _ | refine blk_drew ?_ | refine blk_alloc ?_ _)); exact BK261.out) hb); have n2_ := Aside0.mk (below_step (by repeat (first | (with_reducible first | exact HB.out | apply below_alloc | apply pw_below_drewN | apply below_drew1 | refine below_set ?_ GE260.out | refine below_set ?_ GE261.out) | exact HB.out)) hb); clear BK260; clear BK261; clear HB; have BK260 := n0_; have BK261 := n1_; have HB := n2_; clear n0_ n1_ n2_; (try clear hb); (try clear hb2); (try clear hk); (try clear hi); have hcz13_0 : w12.cell? ⟨gb260, 0, none⟩ = some (Wd.v a0_0) := (blk_cell BK260.out 0).trans rfl; have hfz13_0 := blk_frozen BK260.out 0) | ((with_reducible refine gate_callee (f := 19) rfl ?_); refine goesL_ (some 25) rfl rfl Tryd.func19 (by kernel_rfl) rfl #[.agg #[Wd.v a0_0]] rfl (by (try simp only [List.map_toArray, List.map_cons, List.map_nil]); first | done | rfl | (simp only [List.length_drop, List.length_take]; rfl)) ?_; (with_reducible refine (box_Kind.calls a0_0 t266 _ A5.out).mono ?_); rintro e w14 ⟨rfl, hb⟩; refine ⟨_, rfl, ?_⟩; have n0_ := Aside0.mk (blk_below (g := gb260) (o := .cells #[Wd.v a0_0] 42 (0, 0)) (by (with_reducible repeat (first | refine blk_drewN ?_ _ | refine blk_drew ?_ | refine blk_alloc ?_ _)); exact BK260.out) hb); have n1_ := Aside0.mk (blk_below (g := gb261) (o := .cells #[.int .i64 0, .int .i64 0, .string (⟨#[]⟩ : ByteArray)] 69 (0, 0)) (by (with_reducible repeat (first | refine blk_drewN ?_ _ | refine blk_drew ?_ | refine blk_alloc ?_ _)); exact BK261.out) hb); have n2_ := Aside0.mk (below_step (by repeat (first | (with_reducible first | exact HB.out | apply below_alloc | apply pw_below_drewN | apply below_drew1 | refine below_set ?_ GE260.out | refine below_set ?_ GE261.out) | exact HB.out)) hb); clear BK260; clear BK261; clear HB; have BK260 := n0_; have BK261 := n1_; have HB := n2_; clear n0_ n1_ n2_; (try clear hb); (try clear hb2); (try clear hk); (try clear hi); have hcz15_0 : w14.cell? ⟨gb261, 0, none⟩ = some (.int .i64 0) := (blk_cell BK261.out 0).trans rfl; have hcz15_1 : w14.cell? ⟨gb261, 1, none⟩ = some (.int .i64 0) := (blk_cell BK261.out 1).trans rfl; have hcz15_2 : w14.cell? ⟨gb261, 2, none⟩ = some (.string (⟨#[]⟩ : ByteArray)) := (blk_cell BK261.out 2).trans rfl; have hfz15_0 := blk_frozen BK261.out 0; have hfz15_1 := blk_frozen BK261.out 1; have hfz15_2 := blk_frozen BK261.out 2))
    refine bodyPost_ret (results_cell_row rfl _ _ gb261 69 #[.int .i64 t266, .int .i64 t262, .string t264] (0, 0) _ rfl (by (with_reducible repeat (first | refine blk_drewN ?_ _ | refine blk_drew ?_ | refine blk_alloc ?_ _)); refine blk_put (cs := #[.int .i64 t266, .int .i64 t262, .string (⟨#[]⟩ : ByteArray)]) ?_ 2 _ rfl; (with_reducible repeat (first | refine blk_drewN ?_ _ | refine blk_drew ?_ | refine blk_alloc ?_ _)); refine blk_put (cs := #[.int .i64 t266, .int .i64 0, .string (⟨#[]⟩ : ByteArray)]) ?_ 1 _ rfl; (with_reducible repeat (first | refine blk_drewN ?_ _ | refine blk_drew ?_ | refine blk_alloc ?_ _)); refine blk_put (cs := #[.int .i64 0, .int .i64 0, .string (⟨#[]⟩ : ByteArray)]) ?_ 0 _ rfl; (with_reducible repeat (first | refine blk_drewN ?_ _ | refine blk_drew ?_ | refine blk_alloc ?_ _)); exact BK261.out) Tryd.underlying69 rfl (by kernel_rfl)) rfl ?_
    exact ⟨by first | rfl | (simp [errW_none, errW_some] <;> rfl) | (simp [*, errW_none, errW_some] <;> rfl), by repeat (first | (with_reducible first | exact HB.out | apply below_alloc | apply pw_below_drewN | apply below_drew1 | refine below_set ?_ GE260.out | refine below_set ?_ GE261.out) | exact HB.out)⟩
  · replace c4 := Bool.eq_false_iff.mpr c4
    subst c4
    have H1 : ((box_AsText.f a0_0).bind fun bt267 => ((box_Kind.f a0_0).bind fun t269 => (some (t269, t262, bt267.1)))) = some (r1, r2, r3) := by rw [if_neg (show ¬ (false = true) by decide)] at H; exact H
    clear H
    have H := H1
    clear H1
    replace H := Option.bind_eq_some_iff.mp H
    obtain ⟨⟨t267, t268⟩, A160, H⟩ := H
    replace H : ((box_Kind.f a0_0).bind fun t269 => (some (t269, t262, t267))) = some (r1, r2, r3) := H
    have A16 := Aside0.mk A160
    clear A160
    replace H := Option.bind_eq_some_iff.mp H
    obtain ⟨t269, A170, H⟩ := H
    replace H : (some (t269, t262, t267)) = some (r1, r2, r3) := H
    have A17 := Aside0.mk A170
    clear A170
    simp only [Option.some.injEq, Prod.mk.injEq] at H
    obtain ⟨rfl, rfl, rfl⟩ := H
    go_enter Tryd.func26, Tryd.ntmps26
    go_wp2_with (first | ((with_reducible refine gate_dst (N := 1) rfl ?_); refine box_event ?hg (N := 1) ?hd (cs := #[Wd.v a0_0]) (t := 42) ?hr ?_; (case hd => rfl); (case hg => rfl); (case hr => first | (go_simp; done) | (go_simp; rfl)); intro gb260 hg w18 hbox hb; have n0_ := Aside0.mk (below_step (by repeat (first | (with_reducible first | exact HB.out | apply below_alloc | apply pw_below_drewN | apply below_drew1) | exact HB.out)) hb); have n1_ := Aside0.mk (hbox); have n2_ := Aside0.mk ((by rw [hg]; exact (below_size (by repeat (first | (with_reducible first | exact HB.out | apply below_alloc | apply pw_below_drewN | apply below_drew1) | exact HB.out))) : w.heap.size ≤ gb260)); have n3_ := Aside0.mk ((by rw [hg]; exact (below_size (by repeat (first | (with_reducible first | exact HB.out | apply below_alloc | apply pw_below_drewN | apply below_drew1) | exact HB.out))) : w.heap.size ≤ gb260)); clear HB; have HB := n0_; have BK260 := n1_; have GW260 := n2_; have GE260 := n3_; clear n0_ n1_ n2_ n3_; clear hb hbox hg) | ((with_reducible refine gate_dst (N := 2) rfl ?_); refine box_event ?hg (N := 2) ?hd (cs := #[.int .i64 0, .int .i64 0, .string (⟨#[]⟩ : ByteArray)]) (t := 69) ?hr ?_; (case hd => rfl); (case hg => rfl); (case hr => first | (go_simp; done) | (go_simp; rfl)); intro gb261 hg w19 hbox hb; have n0_ := Aside0.mk (blk_below (g := gb260) (o := .cells #[Wd.v a0_0] 42 (0, 0)) (by (with_reducible repeat (first | refine blk_drewN ?_ _ | refine blk_drew ?_ | refine blk_alloc ?_ _)); exact BK260.out) hb); have n1_ := Aside0.mk (below_step (by repeat (first | (with_reducible first | exact HB.out | apply below_alloc | apply pw_below_drewN | apply below_drew1 | refine below_set ?_ GE260.out) | exact HB.out)) hb); have n2_ := Aside0.mk (hbox); have n3_ := Aside0.mk ((by rw [hg]; exact (below_size (by repeat (first | (with_reducible first | exact HB.out | apply below_alloc | apply pw_below_drewN | apply below_drew1 | refine below_set ?_ GE260.out) | exact HB.out))) : w.heap.size ≤ gb261)); have n4_ := Aside0.mk ((by rw [hg]; exact (below_size (by repeat (first | (with_reducible first | exact HB.out | apply below_alloc | apply pw_below_drewN | apply below_drew1 | refine below_set ?_ GE260.out) | exact HB.out))) : w.heap.size ≤ gb261)); have n5_ := Aside0.mk ((by rw [hg]; exact Nat.ne_of_lt (blk_lt (g := gb260) (o := .cells #[Wd.v a0_0] 42 (0, 0)) (by (with_reducible repeat (first | refine blk_drewN ?_ _ | refine blk_drew ?_ | refine blk_alloc ?_ _)); exact BK260.out)) : gb260 ≠ gb261)); have n6_ := Aside0.mk ((by rw [hg]; exact Nat.ne_of_gt (blk_lt (g := gb260) (o := .cells #[Wd.v a0_0] 42 (0, 0)) (by (with_reducible repeat (first | refine blk_drewN ?_ _ | refine blk_drew ?_ | refine blk_alloc ?_ _)); exact BK260.out)) : gb261 ≠ gb260)); clear BK260; clear HB; have BK260 := n0_; have HB := n1_; have BK261 := n2_; have GW261 := n3_; have GE261 := n4_; have NB260_261 := n5_; have NB261_260 := n6_; clear n0_ n1_ n2_ n3_ n4_ n5_ n6_; clear hb hbox hg; have hnb20 := NB260_261.out; have hnc20 := NB261_260.out; have hcz21_0 : w19.cell? ⟨gb260, 0, none⟩ = some (Wd.v a0_0) := (blk_cell BK260.out 0).trans rfl; have hfz21_0 := blk_frozen BK260.out 0) | ((with_reducible refine gate_callee (f := 43) rfl ?_); refine goesL_ (some 9) rfl rfl Tryd.func43 (by kernel_rfl) rfl #[.agg #[Wd.v a0_0]] rfl (by (try simp only [List.map_toArray, List.map_cons, List.map_nil]); first | done | rfl | (simp only [List.length_drop, List.length_take]; rfl)) ?_; (with_reducible refine (box_AsNumber.calls a0_0 t262 t263 _ A2.out).mono ?_); rintro e w22 ⟨rfl, hb⟩; refine ⟨_, rfl, ?_⟩; have n0_ := Aside0.mk (blk_below (g := gb260) (o := .cells #[Wd.v a0_0] 42 (0, 0)) (by (with_reducible repeat (first | refine blk_drewN ?_ _ | refine blk_drew ?_ | refine blk_alloc ?_ _)); exact BK260.out) hb); have n1_ := Aside0.mk (blk_below (g := gb261) (o := .cells #[.int .i64 0, .int .i64 0, .string (⟨#[]⟩ : ByteArray)] 69 (0, 0)) (by (with_reducible repeat (first | refine blk_drewN ?_ _ | refine blk_drew ?_ | refine blk_alloc ?_ _)); exact BK261.out) hb); have n2_ := Aside0.mk (below_step (by repeat (first | (with_reducible first | exact HB.out | apply below_alloc | apply pw_below_drewN | apply below_drew1 | refine below_set ?_ GE260.out | refine below_set ?_ GE261.out) | exact HB.out)) hb); clear BK260; clear BK261; clear HB; have BK260 := n0_; have BK261 := n1_; have HB := n2_; clear n0_ n1_ n2_; (try clear hb); (try clear hb2); (try clear hk); (try clear hi); have hcz23_0 : w22.cell? ⟨gb260, 0, none⟩ = some (Wd.v a0_0) := (blk_cell BK260.out 0).trans rfl; have hfz23_0 := blk_frozen BK260.out 0) | ((with_reducible refine gate_callee (f := 44) rfl ?_); refine goesL_ (some 14) rfl rfl Tryd.func44 (by kernel_rfl) rfl #[.agg #[Wd.v a0_0]] rfl (by (try simp only [List.map_toArray, List.map_cons, List.map_nil]); first | done | rfl | (simp only [List.length_drop, List.length_take]; rfl)) ?_; (with_reducible refine (box_AsName.calls a0_0 t264 false _ A3.out).mono ?_); rintro e w24 ⟨rfl, hb⟩; refine ⟨_, rfl, ?_⟩; have n0_ := Aside0.mk (blk_below (g := gb260) (o := .cells #[Wd.v a0_0] 42 (0, 0)) (by (with_reducible repeat (first | refine blk_drewN ?_ _ | refine blk_drew ?_ | refine blk_alloc ?_ _)); exact BK260.out) hb); have n1_ := Aside0.mk (blk_below (g := gb261) (o := .cells #[.int .i64 0, .int .i64 0, .string (⟨#[]⟩ : ByteArray)] 69 (0, 0)) (by (with_reducible repeat (first | refine blk_drewN ?_ _ | refine blk_drew ?_ | refine blk_alloc ?_ _)); exact BK261.out) hb); have n2_ := Aside0.mk (below_step (by repeat (first | (with_reducible first | exact HB.out | apply below_alloc | apply pw_below_drewN | apply below_drew1 | refine below_set ?_ GE260.out | refine below_set ?_ GE261.out) | exact HB.out)) hb); clear BK260; clear BK261; clear HB; have BK260 := n0_; have BK261 := n1_; have HB := n2_; clear n0_ n1_ n2_; (try clear hb); (try clear hb2); (try clear hk); (try clear hi); have hcz25_0 : w24.cell? ⟨gb260, 0, none⟩ = some (Wd.v a0_0) := (blk_cell BK260.out 0).trans rfl; have hfz25_0 := blk_frozen BK260.out 0) | ((with_reducible refine gate_callee (f := 45) rfl ?_); refine goesL_ (some 21) rfl rfl Tryd.func45 (by kernel_rfl) rfl #[.agg #[Wd.v a0_0]] rfl (by (try simp only [List.map_toArray, List.map_cons, List.map_nil]); first | done | rfl | (simp only [List.length_drop, List.length_take]; rfl)) ?_; (with_reducible refine (box_AsText.calls a0_0 t267 t268 _ A16.out).mono ?_); rintro e w26 ⟨rfl, hb⟩; refine ⟨_, rfl, ?_⟩; have n0_ := Aside0.mk (blk_below (g := gb260) (o := .cells #[Wd.v a0_0] 42 (0, 0)) (by (with_reducible repeat (first | refine blk_drewN ?_ _ | refine blk_drew ?_ | refine blk_alloc ?_ _)); exact BK260.out) hb); have n1_ := Aside0.mk (blk_below (g := gb261) (o := .cells #[.int .i64 0, .int .i64 0, .string (⟨#[]⟩ : ByteArray)] 69 (0, 0)) (by (with_reducible repeat (first | refine blk_drewN ?_ _ | refine blk_drew ?_ | refine blk_alloc ?_ _)); exact BK261.out) hb); have n2_ := Aside0.mk (below_step (by repeat (first | (with_reducible first | exact HB.out | apply below_alloc | apply pw_below_drewN | apply below_drew1 | refine below_set ?_ GE260.out | refine below_set ?_ GE261.out) | exact HB.out)) hb); clear BK260; clear BK261; clear HB; have BK260 := n0_; have BK261 := n1_; have HB := n2_; clear n0_ n1_ n2_; (try clear hb); (try clear hb2); (try clear hk); (try clear hi); have hcz27_0 : w26.cell? ⟨gb260, 0, none⟩ = some (Wd.v a0_0) := (blk_cell BK260.out 0).trans rfl; have hfz27_0 := blk_frozen BK260.out 0) | ((with_reducible refine gate_callee (f := 19) rfl ?_); refine goesL_ (some 25) rfl rfl Tryd.func19 (by kernel_rfl) rfl #[.agg #[Wd.v a0_0]] rfl (by (try simp only [List.map_toArray, List.map_cons, List.map_nil]); first | done | rfl | (simp only [List.length_drop, List.length_take]; rfl)) ?_; (with_reducible refine (box_Kind.calls a0_0 t269 _ A17.out).mono ?_); rintro e w28 ⟨rfl, hb⟩; refine ⟨_, rfl, ?_⟩; have n0_ := Aside0.mk (blk_below (g := gb260) (o := .cells #[Wd.v a0_0] 42 (0, 0)) (by (with_reducible repeat (first | refine blk_drewN ?_ _ | refine blk_drew ?_ | refine blk_alloc ?_ _)); exact BK260.out) hb); have n1_ := Aside0.mk (blk_below (g := gb261) (o := .cells #[.int .i64 0, .int .i64 0, .string (⟨#[]⟩ : ByteArray)] 69 (0, 0)) (by (with_reducible repeat (first | refine blk_drewN ?_ _ | refine blk_drew ?_ | refine blk_alloc ?_ _)); exact BK261.out) hb); have n2_ := Aside0.mk (below_step (by repeat (first | (with_reducible first | exact HB.out | apply below_alloc | apply pw_below_drewN | apply below_drew1 | refine below_set ?_ GE260.out | refine below_set ?_ GE261.out) | exact HB.out)) hb); clear BK260; clear BK261; clear HB; have BK260 := n0_; have BK261 := n1_; have HB := n2_; clear n0_ n1_ n2_; (try clear hb); (try clear hb2); (try clear hk); (try clear hi); have hcz29_0 : w28.cell? ⟨gb261, 0, none⟩ = some (.int .i64 0) := (blk_cell BK261.out 0).trans rfl; have hcz29_1 : w28.cell? ⟨gb261, 1, none⟩ = some (.int .i64 0) := (blk_cell BK261.out 1).trans rfl; have hcz29_2 : w28.cell? ⟨gb261, 2, none⟩ = some (.string (⟨#[]⟩ : ByteArray)) := (blk_cell BK261.out 2).trans rfl; have hfz29_0 := blk_frozen BK261.out 0; have hfz29_1 := blk_frozen BK261.out 1; have hfz29_2 := blk_frozen BK261.out 2))
    refine bodyPost_ret (results_cell_row rfl _ _ gb261 69 #[.int .i64 t269, .int .i64 t262, .string t267] (0, 0) _ rfl (by (with_reducible repeat (first | refine blk_drewN ?_ _ | refine blk_drew ?_ | refine blk_alloc ?_ _)); refine blk_put (cs := #[.int .i64 t269, .int .i64 t262, .string (⟨#[]⟩ : ByteArray)]) ?_ 2 _ rfl; (with_reducible repeat (first | refine blk_drewN ?_ _ | refine blk_drew ?_ | refine blk_alloc ?_ _)); refine blk_put (cs := #[.int .i64 t269, .int .i64 0, .string (⟨#[]⟩ : ByteArray)]) ?_ 1 _ rfl; (with_reducible repeat (first | refine blk_drewN ?_ _ | refine blk_drew ?_ | refine blk_alloc ?_ _)); refine blk_put (cs := #[.int .i64 0, .int .i64 0, .string (⟨#[]⟩ : ByteArray)]) ?_ 0 _ rfl; (with_reducible repeat (first | refine blk_drewN ?_ _ | refine blk_drew ?_ | refine blk_alloc ?_ _)); exact BK261.out) Tryd.underlying69 rfl (by kernel_rfl)) rfl ?_
    exact ⟨by first | rfl | (simp [errW_none, errW_some] <;> rfl) | (simp [*, errW_none, errW_some] <;> rfl), by repeat (first | (with_reducible first | exact HB.out | apply below_alloc | apply pw_below_drewN | apply below_drew1 | refine below_set ?_ GE260.out | refine below_set ?_ GE261.out) | exact HB.out)⟩

end Go.Proofs.YthfcgcbolbmdcaaDoor.PR
