/- box.Compare: a box against one that holds the same is 0. -/
import Derived.Test.YtlkbeddlmbghkaaDoorBox
import Derived.Test.YtlkbeddlmbghkaaDoorShelf
import Derived.Deep.RegionHeld3
import Derived.Deep.QuietTactic
import Derived.BigQuiet
namespace Go.Proofs.YtlkbeddlmbghkaaDoor.PR
open Go Go.Proofs Go.RowKit Go.Proofs.YtlkbeddlmbghkaaDoorW.PrintWords Go.Proofs.YtlkbeddlmbghkaaDoorW.PrintLast Go.Proofs.YtlkbeddlmbghkaaDoorW.PrintMore
attribute [local go_sem] Wd.one Wd.run_store
set_option linter.unusedVariables false
set_option linter.unusedSimpArgs false
set_option maxRecDepth 100000

theorem must_3 (v : Value) (w : World) : (Instr.typeAssert (.iface 3 v) 20 3 false).run Tryd.prog w = .ok v w := by
  have hu := Tryd.underlying3
  simp [Instr.typeAssert, Sem.run_bind, underlying, Sem.run, hu, Result.andThen]
theorem must_w (v : Value) (w : World) : (Instr.typeAssert (.iface 77 v) 20 77 false).run Tryd.prog w = .ok v w := by
  have hu := Tryd.underlying77
  simp [Instr.typeAssert, Sem.run_bind, underlying, Sem.run, hu, Result.andThen]
theorem must_t (v : Value) (w : World) : (Instr.typeAssert (.iface 78 v) 20 78 false).run Tryd.prog w = .ok v w := by
  have hu := Tryd.underlying78
  simp [Instr.typeAssert, Sem.run_bind, underlying, Sem.run, hu, Result.andThen]
attribute [local go_sem] must_3 must_w must_t

theorem mustNumber_calls (n : Int) (w : World) : Calls Tryd.prog 28 #[.agg #[.iface 3 (.int .i64 n)]] w fun e w' => e = .returned (.int .i64 n) ∧ Below w.heap.size w w' := by
  have hu := Tryd.underlying42
  have hu20 := Tryd.underlying20
  go_enter Tryd.func28, Tryd.ntmps28
  go_wp2
  go_ret
  exact ⟨rfl, (Below.refl _ _).alloc (Nat.le_refl _) _⟩
theorem mustName_calls (s : ByteArray) (w : World) : Calls Tryd.prog 30 #[.agg #[.iface 77 (.string s)]] w fun e w' => e = .returned (.string s) ∧ Below w.heap.size w w' := by
  have hu := Tryd.underlying42
  have hu20 := Tryd.underlying20
  have hu77 := Tryd.underlying77
  go_enter Tryd.func30, Tryd.ntmps30
  go_wp2
  go_ret
  exact ⟨rfl, (Below.refl _ _).alloc (Nat.le_refl _) _⟩
theorem mustText_calls (s : ByteArray) (w : World) : Calls Tryd.prog 31 #[.agg #[.iface 78 (.string s)]] w fun e w' => e = .returned (.string s) ∧ Below w.heap.size w w' := by
  have hu := Tryd.underlying42
  have hu20 := Tryd.underlying20
  have hu77 := Tryd.underlying78
  go_enter Tryd.func31, Tryd.ntmps31
  go_wp2
  go_ret
  exact ⟨rfl, (Below.refl _ _).alloc (Nat.le_refl _) _⟩

theorem compare_same (n : Int) (w : World) : Calls Tryd.prog 27 #[.int .i64 n, .int .i64 n] w fun e w' => e = .returned (.int .i64 0) ∧ w' = w := by
  have d1 : decide (n < n) = false := by simp
  go_enter Tryd.func27, Tryd.ntmps27
  go_wp2
  go_ret
  exact ⟨rfl, rfl⟩

theorem cmpBytes_same : ∀ l : List UInt8, Lib.compareBytes l l = 0
  | [] => rfl
  | c :: t => by unfold Lib.compareBytes; simp [cmpBytes_same t]

-- MARK
set_option maxHeartbeats 4000000 in
theorem cmp_nil  (w : World) : Calls Tryd.prog 15 #[.agg #[.nilIface], .agg #[.nilIface]] w fun e w' => e = .returned (.int .i64 0) ∧ Below w.heap.size w w' := by
  have hu := Tryd.underlying42
  have hu20 := Tryd.underlying20
  have hK : ∀ W : World, Calls Tryd.prog 19 #[.agg #[.nilIface]] W fun e w' => e = .returned (.int .i64 0) ∧ Below W.heap.size W w' := fun W => box_Kind.calls (Wd.nil) 0 W rfl
  have HK := Aside0.mk hK
  clear hK
  go_enter Tryd.func15, Tryd.ntmps15
  go_wp2_with (fail)
  refine (HK.out _).mono ?_
  rintro e w1 ⟨rfl, hb1⟩
  have HB0 := Aside0.mk ((((Below.refl w.heap.size w).alloc (Nat.le_refl _) (.cells #[.nilIface] 42)).alloc (by simp [World.size_alloc]) (.cells #[.nilIface] 42)).trans (hb1.mono (by simp [World.size_alloc]; omega)))
  have B1 := Aside0.mk (blk_below (blk_alloc (blk_new w (.cells #[.nilIface] 42)) (.cells #[.nilIface] 42)) hb1)
  have B2 := Aside0.mk (blk_below (blk_new (w.alloc (.cells #[.nilIface] 42)) (.cells #[.nilIface] 42)) hb1)
  have k0 : w1.cell? ⟨w.heap.size, 0, none⟩ = some .nilIface := (blk_cell B1.out 0).trans rfl
  have k1 : w1.cell? ⟨w.heap.size + 1, 0, none⟩ = some .nilIface := by have := (blk_cell B2.out 0).trans rfl; simpa [World.size_alloc] using this
  clear hb1
  go_wp2_with (fail)
  refine (HK.out _).mono ?_
  rintro e w2 ⟨rfl, hb2⟩
  have hs0 := HB0.out.size
  have HB2 := Aside0.mk (HB0.out.trans (hb2.mono hs0))
  have l1 := blk_lt B1.out
  have l2 := blk_lt B2.out
  rw [World.size_alloc] at l2
  have k0 : w2.cell? ⟨w.heap.size, 0, none⟩ = some .nilIface := (hb2.cell (p := ⟨w.heap.size, 0, none⟩) (by show w.heap.size < _; omega)).trans k0
  have k1 : w2.cell? ⟨w.heap.size + 1, 0, none⟩ = some .nilIface := (hb2.cell (p := ⟨w.heap.size + 1, 0, none⟩) (by show w.heap.size + 1 < _; omega)).trans k1
  have hs2 := hb2.size
  clear hb2 HB0 B1 B2 hs0
  go_wp2_with (go_at_call 27; with_reducible refine (compare_same _ _).mono ?_; rintro e w' ⟨rfl, hw⟩; rw [hw]; clear hw)
  go_ret
  exact ⟨rfl, HB2.out⟩

set_option maxHeartbeats 4000000 in
theorem cmp_num (n : Int) (w : World) : Calls Tryd.prog 15 #[.agg #[.iface 3 (.int .i64 n)], .agg #[.iface 3 (.int .i64 n)]] w fun e w' => e = .returned (.int .i64 0) ∧ Below w.heap.size w w' := by
  have hu := Tryd.underlying42
  have hu20 := Tryd.underlying20
  have hK : ∀ W : World, Calls Tryd.prog 19 #[.agg #[.iface 3 (.int .i64 n)]] W fun e w' => e = .returned (.int .i64 1) ∧ Below W.heap.size W w' := fun W => box_Kind.calls (Wd.num n) 1 W rfl
  have HK := Aside0.mk hK
  clear hK
  go_enter Tryd.func15, Tryd.ntmps15
  go_wp2_with (fail)
  refine (HK.out _).mono ?_
  rintro e w1 ⟨rfl, hb1⟩
  have HB0 := Aside0.mk ((((Below.refl w.heap.size w).alloc (Nat.le_refl _) (.cells #[.iface 3 (.int .i64 n)] 42)).alloc (by simp [World.size_alloc]) (.cells #[.iface 3 (.int .i64 n)] 42)).trans (hb1.mono (by simp [World.size_alloc]; omega)))
  have B1 := Aside0.mk (blk_below (blk_alloc (blk_new w (.cells #[.iface 3 (.int .i64 n)] 42)) (.cells #[.iface 3 (.int .i64 n)] 42)) hb1)
  have B2 := Aside0.mk (blk_below (blk_new (w.alloc (.cells #[.iface 3 (.int .i64 n)] 42)) (.cells #[.iface 3 (.int .i64 n)] 42)) hb1)
  have k0 : w1.cell? ⟨w.heap.size, 0, none⟩ = some (.iface 3 (.int .i64 n)) := (blk_cell B1.out 0).trans rfl
  have k1 : w1.cell? ⟨w.heap.size + 1, 0, none⟩ = some (.iface 3 (.int .i64 n)) := by have := (blk_cell B2.out 0).trans rfl; simpa [World.size_alloc] using this
  clear hb1
  go_wp2_with (fail)
  refine (HK.out _).mono ?_
  rintro e w2 ⟨rfl, hb2⟩
  have hs0 := HB0.out.size
  have HB2 := Aside0.mk (HB0.out.trans (hb2.mono hs0))
  have l1 := blk_lt B1.out
  have l2 := blk_lt B2.out
  rw [World.size_alloc] at l2
  have k0 : w2.cell? ⟨w.heap.size, 0, none⟩ = some (.iface 3 (.int .i64 n)) := (hb2.cell (p := ⟨w.heap.size, 0, none⟩) (by show w.heap.size < _; omega)).trans k0
  have k1 : w2.cell? ⟨w.heap.size + 1, 0, none⟩ = some (.iface 3 (.int .i64 n)) := (hb2.cell (p := ⟨w.heap.size + 1, 0, none⟩) (by show w.heap.size + 1 < _; omega)).trans k1
  have hs2 := hb2.size
  clear hb2 HB0 B1 B2 hs0
  go_upto_region 7 with (go_at_call 27; with_reducible refine (compare_same _ _).mono ?_; rintro e w' ⟨rfl, hw⟩; rw [hw]; clear hw)
  have HBt := Aside0.mk (Below.refl w2.heap.size w2)
  have K0 := Aside0.mk k0
  have K1 := Aside0.mk k1
  go_region_held3 (fun w' => w'.cell? ⟨w.heap.size, 0, none⟩ = some (.iface 3 (.int .i64 n)) ∧ w'.cell? ⟨w.heap.size + 1, 0, none⟩ = some (.iface 3 (.int .i64 n))) (go_keep) ((first
    | (go_at_call 28; with_reducible refine (mustNumber_calls n _).mono ?_; rintro e w3 ⟨rfl, hb⟩; have HBn := Aside0.mk (below_step (by first | exact HBt.out | exact below_drew1 HBt.out) hb); clear HBt hb; rename Aside0 (Below w2.heap.size w2 w3) => HBt; have k0 : w3.cell? ⟨w.heap.size, 0, none⟩ = some (.iface 3 (.int .i64 n)) := (HBt.out.cell (p := ⟨w.heap.size, 0, none⟩) (by show w.heap.size < _; omega)).trans K0.out; have k1 : w3.cell? ⟨w.heap.size + 1, 0, none⟩ = some (.iface 3 (.int .i64 n)) := (HBt.out.cell (p := ⟨w.heap.size + 1, 0, none⟩) (by show w.heap.size + 1 < _; omega)).trans K1.out)
    | (go_at_call 27; with_reducible refine (compare_same _ _).mono ?_; rintro e w' ⟨rfl, hw⟩; rw [hw]; clear hw)))
  all_goals go_wp2
  all_goals go_ret
  all_goals exact ⟨rfl, HB2.out.trans ((by first | exact HBt.out | exact below_drew1 HBt.out : Below w2.heap.size w2 _).mono (by omega))⟩

set_option maxHeartbeats 4000000 in
theorem cmp_name (s : ByteArray) (w : World) : Calls Tryd.prog 15 #[.agg #[.iface 77 (.string s)], .agg #[.iface 77 (.string s)]] w fun e w' => e = .returned (.int .i64 0) ∧ Below w.heap.size w w' := by
  have hu := Tryd.underlying42
  have hu20 := Tryd.underlying20
  have hK : ∀ W : World, Calls Tryd.prog 19 #[.agg #[.iface 77 (.string s)]] W fun e w' => e = .returned (.int .i64 2) ∧ Below W.heap.size W w' := fun W => box_Kind.calls (Wd.name s) 2 W rfl
  have HK := Aside0.mk hK
  clear hK
  go_enter Tryd.func15, Tryd.ntmps15
  go_wp2_with (fail)
  refine (HK.out _).mono ?_
  rintro e w1 ⟨rfl, hb1⟩
  have HB0 := Aside0.mk ((((Below.refl w.heap.size w).alloc (Nat.le_refl _) (.cells #[.iface 77 (.string s)] 42)).alloc (by simp [World.size_alloc]) (.cells #[.iface 77 (.string s)] 42)).trans (hb1.mono (by simp [World.size_alloc]; omega)))
  have B1 := Aside0.mk (blk_below (blk_alloc (blk_new w (.cells #[.iface 77 (.string s)] 42)) (.cells #[.iface 77 (.string s)] 42)) hb1)
  have B2 := Aside0.mk (blk_below (blk_new (w.alloc (.cells #[.iface 77 (.string s)] 42)) (.cells #[.iface 77 (.string s)] 42)) hb1)
  have k0 : w1.cell? ⟨w.heap.size, 0, none⟩ = some (.iface 77 (.string s)) := (blk_cell B1.out 0).trans rfl
  have k1 : w1.cell? ⟨w.heap.size + 1, 0, none⟩ = some (.iface 77 (.string s)) := by have := (blk_cell B2.out 0).trans rfl; simpa [World.size_alloc] using this
  clear hb1
  go_wp2_with (fail)
  refine (HK.out _).mono ?_
  rintro e w2 ⟨rfl, hb2⟩
  have hs0 := HB0.out.size
  have HB2 := Aside0.mk (HB0.out.trans (hb2.mono hs0))
  have l1 := blk_lt B1.out
  have l2 := blk_lt B2.out
  rw [World.size_alloc] at l2
  have k0 : w2.cell? ⟨w.heap.size, 0, none⟩ = some (.iface 77 (.string s)) := (hb2.cell (p := ⟨w.heap.size, 0, none⟩) (by show w.heap.size < _; omega)).trans k0
  have k1 : w2.cell? ⟨w.heap.size + 1, 0, none⟩ = some (.iface 77 (.string s)) := (hb2.cell (p := ⟨w.heap.size + 1, 0, none⟩) (by show w.heap.size + 1 < _; omega)).trans k1
  have hs2 := hb2.size
  clear hb2 HB0 B1 B2 hs0
  go_upto_region 9 with (go_at_call 27; with_reducible refine (compare_same _ _).mono ?_; rintro e w' ⟨rfl, hw⟩; rw [hw]; clear hw)
  have HBt := Aside0.mk (Below.refl w2.heap.size w2)
  have K0 := Aside0.mk k0
  have K1 := Aside0.mk k1
  go_region_held3 (fun w' => w'.cell? ⟨w.heap.size, 0, none⟩ = some (.iface 77 (.string s)) ∧ w'.cell? ⟨w.heap.size + 1, 0, none⟩ = some (.iface 77 (.string s))) (go_keep) ((first
    | (go_at_call 30; with_reducible refine (mustName_calls s _).mono ?_; rintro e w3 ⟨rfl, hb⟩; have HBn := Aside0.mk (below_step (by first | exact HBt.out | exact below_drew1 HBt.out) hb); clear HBt hb; rename Aside0 (Below w2.heap.size w2 w3) => HBt; have k0 : w3.cell? ⟨w.heap.size, 0, none⟩ = some (.iface 77 (.string s)) := (HBt.out.cell (p := ⟨w.heap.size, 0, none⟩) (by show w.heap.size < _; omega)).trans K0.out; have k1 : w3.cell? ⟨w.heap.size + 1, 0, none⟩ = some (.iface 77 (.string s)) := (HBt.out.cell (p := ⟨w.heap.size + 1, 0, none⟩) (by show w.heap.size + 1 < _; omega)).trans K1.out)
    | (go_at_call 29; with_reducible refine (Tryd.strings_Compare _ _ _).mono ?_; rw [cmpBytes_same]; rintro e w' ⟨rfl, hw⟩; rw [hw]; clear hw)))
  all_goals go_wp2
  all_goals go_ret
  all_goals exact ⟨rfl, HB2.out.trans ((by first | exact HBt.out | exact below_drew1 HBt.out : Below w2.heap.size w2 _).mono (by omega))⟩

set_option maxHeartbeats 4000000 in
theorem cmp_text (s : ByteArray) (w : World) : Calls Tryd.prog 15 #[.agg #[.iface 78 (.string s)], .agg #[.iface 78 (.string s)]] w fun e w' => e = .returned (.int .i64 0) ∧ Below w.heap.size w w' := by
  have hu := Tryd.underlying42
  have hu20 := Tryd.underlying20
  have hK : ∀ W : World, Calls Tryd.prog 19 #[.agg #[.iface 78 (.string s)]] W fun e w' => e = .returned (.int .i64 3) ∧ Below W.heap.size W w' := fun W => box_Kind.calls (Wd.text s) 3 W rfl
  have HK := Aside0.mk hK
  clear hK
  go_enter Tryd.func15, Tryd.ntmps15
  go_wp2_with (fail)
  refine (HK.out _).mono ?_
  rintro e w1 ⟨rfl, hb1⟩
  have HB0 := Aside0.mk ((((Below.refl w.heap.size w).alloc (Nat.le_refl _) (.cells #[.iface 78 (.string s)] 42)).alloc (by simp [World.size_alloc]) (.cells #[.iface 78 (.string s)] 42)).trans (hb1.mono (by simp [World.size_alloc]; omega)))
  have B1 := Aside0.mk (blk_below (blk_alloc (blk_new w (.cells #[.iface 78 (.string s)] 42)) (.cells #[.iface 78 (.string s)] 42)) hb1)
  have B2 := Aside0.mk (blk_below (blk_new (w.alloc (.cells #[.iface 78 (.string s)] 42)) (.cells #[.iface 78 (.string s)] 42)) hb1)
  have k0 : w1.cell? ⟨w.heap.size, 0, none⟩ = some (.iface 78 (.string s)) := (blk_cell B1.out 0).trans rfl
  have k1 : w1.cell? ⟨w.heap.size + 1, 0, none⟩ = some (.iface 78 (.string s)) := by have := (blk_cell B2.out 0).trans rfl; simpa [World.size_alloc] using this
  clear hb1
  go_wp2_with (fail)
  refine (HK.out _).mono ?_
  rintro e w2 ⟨rfl, hb2⟩
  have hs0 := HB0.out.size
  have HB2 := Aside0.mk (HB0.out.trans (hb2.mono hs0))
  have l1 := blk_lt B1.out
  have l2 := blk_lt B2.out
  rw [World.size_alloc] at l2
  have k0 : w2.cell? ⟨w.heap.size, 0, none⟩ = some (.iface 78 (.string s)) := (hb2.cell (p := ⟨w.heap.size, 0, none⟩) (by show w.heap.size < _; omega)).trans k0
  have k1 : w2.cell? ⟨w.heap.size + 1, 0, none⟩ = some (.iface 78 (.string s)) := (hb2.cell (p := ⟨w.heap.size + 1, 0, none⟩) (by show w.heap.size + 1 < _; omega)).trans k1
  have hs2 := hb2.size
  clear hb2 HB0 B1 B2 hs0
  go_upto_region 11 with (go_at_call 27; with_reducible refine (compare_same _ _).mono ?_; rintro e w' ⟨rfl, hw⟩; rw [hw]; clear hw)
  have HBt := Aside0.mk (Below.refl w2.heap.size w2)
  have K0 := Aside0.mk k0
  have K1 := Aside0.mk k1
  go_region_held3 (fun w' => w'.cell? ⟨w.heap.size, 0, none⟩ = some (.iface 78 (.string s)) ∧ w'.cell? ⟨w.heap.size + 1, 0, none⟩ = some (.iface 78 (.string s))) (go_keep) ((first
    | (go_at_call 31; with_reducible refine (mustText_calls s _).mono ?_; rintro e w3 ⟨rfl, hb⟩; have HBn := Aside0.mk (below_step (by first | exact HBt.out | exact below_drew1 HBt.out) hb); clear HBt hb; rename Aside0 (Below w2.heap.size w2 w3) => HBt; have k0 : w3.cell? ⟨w.heap.size, 0, none⟩ = some (.iface 78 (.string s)) := (HBt.out.cell (p := ⟨w.heap.size, 0, none⟩) (by show w.heap.size < _; omega)).trans K0.out; have k1 : w3.cell? ⟨w.heap.size + 1, 0, none⟩ = some (.iface 78 (.string s)) := (HBt.out.cell (p := ⟨w.heap.size + 1, 0, none⟩) (by show w.heap.size + 1 < _; omega)).trans K1.out)
    | (go_at_call 29; with_reducible refine (Tryd.strings_Compare _ _ _).mono ?_; rw [cmpBytes_same]; rintro e w' ⟨rfl, hw⟩; rw [hw]; clear hw)))
  all_goals go_wp2
  all_goals go_ret
  all_goals exact ⟨rfl, HB2.out.trans ((by first | exact HBt.out | exact below_drew1 HBt.out : Below w2.heap.size w2 _).mono (by omega))⟩

theorem box_Compare_same (b : Wd) (w : World) : Calls Tryd.prog 15 #[.agg #[Wd.v b], .agg #[Wd.v b]] w fun e w' => e = .returned (.int .i64 0) ∧ Below w.heap.size w w' := by
  cases b with
  | nil => exact cmp_nil w
  | num n => exact cmp_num n w
  | name s => exact cmp_name s w
  | text s => exact cmp_text s w
end Go.Proofs.YtlkbeddlmbghkaaDoor.PR
