/- script's reader: what next, number, name and text come to; where one can't stand there they panic. -/
import Derived.Test.YtlkbeddlmbghkaaDoorBox
import Derived.Test.YtlkbeddlmbghkaaDoorCmp
import Derived.WalkSmall
namespace Go.Proofs.YtlkbeddlmbghkaaDoor.PR
open Go Go.Proofs Go.RowKit Go.Proofs.YtlkbeddlmbghkaaDoorW.PrintWords Go.Proofs.YtlkbeddlmbghkaaDoorW.PrintLast Go.Proofs.YtlkbeddlmbghkaaDoorW.PrintMore
attribute [local go_sem] Wd.one Wd.run_store must_3 must_w must_t
set_option linter.unusedVariables false
set_option linter.unusedSimpArgs false
set_option maxRecDepth 100000

/-! ### what a reader keeps -/

theorem addr_block (a : Addr) (i : Nat) : (a.add i).block = a.block := by unfold Addr.add; split <;> rfl
theorem heap_old (w : World) (o : Obj) (i : Nat) (h : i < w.heap.size) : (w.alloc o).heap[i]? = w.heap[i]? := ((Below.refl w.heap.size w).alloc (Nat.le_refl _) o).block i h

/-- All blocks but one stand as they stood. -/
def Fr (g : Nat) (w w' : World) : Prop := Below g w w' ∧ ∀ i, i < w.heap.size → i ≠ g → w'.heap[i]? = w.heap[i]?
theorem Fr.refl (g : Nat) (w : World) : Fr g w w := ⟨Below.refl _ _, fun _ _ _ => rfl⟩
theorem Fr.trans {g : Nat} {a b c : World} (h : Fr g a b) (k : Fr g b c) : Fr g a c :=
  ⟨h.1.trans k.1, fun i hi hg => (k.2 i (Nat.lt_of_lt_of_le hi h.1.size) hg).trans (h.2 i hi hg)⟩
theorem Fr.of {g : Nat} {a b : World} (hg : g ≤ a.heap.size) (h : Below a.heap.size a b) : Fr g a b := ⟨h.mono hg, fun i hi _ => h.block i hi⟩
theorem Fr.blk {g k : Nat} {a b : World} {o : Obj} (h : Fr g a b) (hk : k ≠ g) (hb : a.heap[k]? = some o) : b.heap[k]? = some o :=
  (h.2 k (Array.getElem?_eq_some_iff.1 hb).1 hk).trans hb

/-- A panic with a value. -/
def Pan (e : Ending) : Prop := ∃ u pv, e = .panicked [{ v := .iface u pv, recovered := false }]

/-- The reader in block g has these words to read. -/
def RdAt (g : Nat) (w : World) (ws : List Wd) : Prop :=
  ∃ A c, w.heap[g]? = some (.cells #[.slice A ws.length c] 117 (0, 0)) ∧ ws.length ≤ c ∧ ∀ j b, ws[j]? = some b → ∃ a, A = some a ∧ a.block < g ∧ w.cell? (a.add j) = some (Wd.v b)
theorem RdAt.lt {g : Nat} {w : World} {ws : List Wd} (h : RdAt g w ws) : g < w.heap.size := by
  obtain ⟨A, c, hg, _⟩ := h
  exact blk_lt hg
/-- A world in which the reader's block stands, and all below it. -/
theorem RdAt.move {g : Nat} {w w' : World} {ws : List Wd} (h : RdAt g w ws) (hb : Below g w w') (hg : w'.heap[g]? = w.heap[g]?) : RdAt g w' ws := by
  obtain ⟨A, c, h1, h2, h3⟩ := h
  refine ⟨A, c, hg.trans h1, h2, fun j b hj => ?_⟩
  obtain ⟨a, ha, hlt, hc⟩ := h3 j b hj
  exact ⟨a, ha, hlt, (hb.cell (p := a.add j) (by rw [addr_block]; exact hlt)).trans hc⟩

/-! ### assertions that fail -/

theorem rt_ta : Tryd.prog.rt.typeAssertionError = 15 := by kernel_rfl
theorem run_row (t : TypeId) (cs : Array Value) (w : World) : (newRow t cs).run Tryd.prog w = .ok ⟨w.heap.size, 0, none⟩ (w.alloc (.cells cs t)) := by
  first | rfl | (simp [newRow, Sem.run]; done)
theorem nil_3 (w : World) : ∃ o pv, (Instr.typeAssert .nilIface 20 3 false).run Tryd.prog w = .halt (.panic (.iface 15 pv)) (w.alloc o) := by
  have hu := Tryd.underlying3
  have h15 := Tryd.underlying15
  simp [Instr.typeAssert, Sem.run_bind, underlying, Sem.run, hu, Result.andThen, runtimePanic, rt_ta, elemOf, h15, newVar, run_row]
  exact ⟨_, rfl⟩
theorem ne_3 (t : TypeId) (v : Value) (ht : t ≠ 3) (w : World) : ∃ o pv, (Instr.typeAssert (.iface t v) 20 3 false).run Tryd.prog w = .halt (.panic (.iface 15 pv)) (w.alloc o) := by
  have hu := Tryd.underlying3
  have h15 := Tryd.underlying15
  simp [Instr.typeAssert, Sem.run_bind, underlying, Sem.run, hu, ht, Result.andThen, runtimePanic, rt_ta, elemOf, h15, newVar, run_row]
  exact ⟨_, rfl⟩
theorem bad_3 (b : Wd) (hb : ∀ x, b ≠ .num x) (w : World) : ∃ o pv, (Instr.typeAssert (Wd.v b) 20 3 false).run Tryd.prog w = .halt (.panic (.iface 15 pv)) (w.alloc o) := by
  cases b with
  | nil => exact nil_3 w
  | num n => exact absurd rfl (hb n)
  | name s => exact ne_3 _ _ (by decide) w
  | text s => exact ne_3 _ _ (by decide) w
theorem nil_w (w : World) : ∃ o pv, (Instr.typeAssert .nilIface 20 77 false).run Tryd.prog w = .halt (.panic (.iface 15 pv)) (w.alloc o) := by
  have hu := Tryd.underlying77
  have h15 := Tryd.underlying15
  simp [Instr.typeAssert, Sem.run_bind, underlying, Sem.run, hu, Result.andThen, runtimePanic, rt_ta, elemOf, h15, newVar, run_row]
  exact ⟨_, rfl⟩
theorem ne_w (t : TypeId) (v : Value) (ht : t ≠ 77) (w : World) : ∃ o pv, (Instr.typeAssert (.iface t v) 20 77 false).run Tryd.prog w = .halt (.panic (.iface 15 pv)) (w.alloc o) := by
  have hu := Tryd.underlying77
  have h15 := Tryd.underlying15
  simp [Instr.typeAssert, Sem.run_bind, underlying, Sem.run, hu, ht, Result.andThen, runtimePanic, rt_ta, elemOf, h15, newVar, run_row]
  exact ⟨_, rfl⟩
theorem bad_w (b : Wd) (hb : ∀ x, b ≠ .name x) (w : World) : ∃ o pv, (Instr.typeAssert (Wd.v b) 20 77 false).run Tryd.prog w = .halt (.panic (.iface 15 pv)) (w.alloc o) := by
  cases b with
  | nil => exact nil_w w
  | num n => exact ne_w _ _ (by decide) w
  | name s => exact absurd rfl (hb s)
  | text s => exact ne_w _ _ (by decide) w
theorem nil_t (w : World) : ∃ o pv, (Instr.typeAssert .nilIface 20 78 false).run Tryd.prog w = .halt (.panic (.iface 15 pv)) (w.alloc o) := by
  have hu := Tryd.underlying78
  have h15 := Tryd.underlying15
  simp [Instr.typeAssert, Sem.run_bind, underlying, Sem.run, hu, Result.andThen, runtimePanic, rt_ta, elemOf, h15, newVar, run_row]
  exact ⟨_, rfl⟩
theorem ne_t (t : TypeId) (v : Value) (ht : t ≠ 78) (w : World) : ∃ o pv, (Instr.typeAssert (.iface t v) 20 78 false).run Tryd.prog w = .halt (.panic (.iface 15 pv)) (w.alloc o) := by
  have hu := Tryd.underlying78
  have h15 := Tryd.underlying15
  simp [Instr.typeAssert, Sem.run_bind, underlying, Sem.run, hu, ht, Result.andThen, runtimePanic, rt_ta, elemOf, h15, newVar, run_row]
  exact ⟨_, rfl⟩
theorem bad_t (b : Wd) (hb : ∀ x, b ≠ .text x) (w : World) : ∃ o pv, (Instr.typeAssert (Wd.v b) 20 78 false).run Tryd.prog w = .halt (.panic (.iface 15 pv)) (w.alloc o) := by
  cases b with
  | nil => exact nil_t w
  | num n => exact ne_t _ _ (by decide) w
  | name s => exact ne_t _ _ (by decide) w
  | text s => exact absurd rfl (hb s)

/-! ### Must, where there is none -/
theorem MustNumber_bad (b : Wd) (hb : ∀ x, b ≠ .num x) (w : World) : Calls Tryd.prog 28 #[.agg #[Wd.v b]] w fun e w' => Pan e ∧ Below w.heap.size w w' := by
  have hu := Tryd.underlying42
  have hu20 := Tryd.underlying20
  obtain ⟨o, pv, hr⟩ := bad_3 b hb (w.alloc (.cells #[Wd.v b] 42))
  go_enter Tryd.func28, Tryd.ntmps28
  go_wp2
  exact ⟨rfl, ⟨_, _, rfl⟩, ((Below.refl _ _).alloc (Nat.le_refl _) _).alloc (by simp [World.size_alloc]) _⟩
theorem MustName_bad (b : Wd) (hb : ∀ x, b ≠ .name x) (w : World) : Calls Tryd.prog 30 #[.agg #[Wd.v b]] w fun e w' => Pan e ∧ Below w.heap.size w w' := by
  have hu := Tryd.underlying42
  have hu20 := Tryd.underlying20
  obtain ⟨o, pv, hr⟩ := bad_w b hb (w.alloc (.cells #[Wd.v b] 42))
  go_enter Tryd.func30, Tryd.ntmps30
  go_wp2
  exact ⟨rfl, ⟨_, _, rfl⟩, ((Below.refl _ _).alloc (Nat.le_refl _) _).alloc (by simp [World.size_alloc]) _⟩
theorem MustText_bad (b : Wd) (hb : ∀ x, b ≠ .text x) (w : World) : Calls Tryd.prog 31 #[.agg #[Wd.v b]] w fun e w' => Pan e ∧ Below w.heap.size w w' := by
  have hu := Tryd.underlying42
  have hu20 := Tryd.underlying20
  obtain ⟨o, pv, hr⟩ := bad_t b hb (w.alloc (.cells #[Wd.v b] 42))
  go_enter Tryd.func31, Tryd.ntmps31
  go_wp2
  exact ⟨rfl, ⟨_, _, rfl⟩, ((Below.refl _ _).alloc (Nat.le_refl _) _).alloc (by simp [World.size_alloc]) _⟩

/-! ### next -/

theorem next_empty (g : Nat) (w : World) (h : RdAt g w []) :
    Calls Tryd.prog 100 #[.pointer (some ⟨g, 0, none⟩)] w fun e w' => Pan e ∧ Fr g w w' := by
  obtain ⟨A, c, hg, _, _⟩ := h
  have hg : w.heap[g]? = some (.cells #[.slice A 0 c] 117 (0, 0)) := hg
  have hu := Tryd.underlying42
  have hu20 := Tryd.underlying20
  have hu117 := Tryd.underlying117
  have hu136 := Tryd.underlying136
  have hc : ∀ o, (w.alloc o).cell? ⟨g, 0, none⟩ = some (.slice A 0 c) := fun o => (blk_cell (blk_alloc hg o) 0).trans rfl
  have hlt := blk_lt hg
  clear hg
  go_enter Tryd.func100, Tryd.ntmps100
  go_wp2
  exact ⟨rfl, ⟨_, _, rfl⟩, Fr.of (Nat.le_of_lt hlt) ((Below.refl _ _).alloc (Nat.le_refl _) _)⟩

set_option maxHeartbeats 2000000 in
theorem next_cons (g : Nat) (b : Wd) (ws : List Wd) (w : World) (h : RdAt g w (b :: ws)) :
    Calls Tryd.prog 100 #[.pointer (some ⟨g, 0, none⟩)] w fun e w' => e = .returned (.agg #[Wd.v b]) ∧ RdAt g w' ws ∧ Fr g w w' := by
  obtain ⟨A, c, hg, hn, hcells⟩ := h
  obtain ⟨a, rfl, hab, hb⟩ := hcells 0 b rfl
  have hb : w.cell? a = some (Wd.v b) := by rw [Addr.add_zero'] at hb; exact hb
  generalize hlen : ws.length = n
  have hg : w.heap[g]? = some (.cells #[.slice (some a) (n + 1) c] 117 (0, 0)) := by rw [← hlen]; exact hg
  have hn : n + 1 ≤ c := by rw [← hlen]; exact hn
  have hu := Tryd.underlying42
  have hu20 := Tryd.underlying20
  have hu117 := Tryd.underlying117
  have hu33 := Tryd.underlying33
  have hlt := blk_lt hg
  have hc : w.cell? ⟨g, 0, none⟩ = some (.slice (some a) (n + 1) c) := (blk_cell hg 0).trans rfl
  have hc1 : ∀ o, (w.alloc o).cell? ⟨g, 0, none⟩ = some (.slice (some a) (n + 1) c) := fun o => (blk_cell (blk_alloc hg o) 0).trans rfl
  have hla := World.block_lt_of_cell? _ _ hb
  have hf : w.frozen? ⟨g, 0, none⟩ = false := blk_frozen hg 0
  have hb1 : ∀ o, (w.alloc o).cell? a = some (Wd.v b) := fun o => by rw [World.cell?_alloc_old _ _ _ (by omega)]; exact hb
  have HG := Aside0.mk hg
  have HL := Aside0.mk hlen
  have HC := Aside0.mk hcells
  clear hg hlen hcells
  -- what is left behind
  have fin : ∀ (A' : Option Addr) (c' : Nat) (o1 o2 : Obj), n ≤ c' → (1 ≤ n → A' = some (a.add 1)) → RdAt g (((w.setCell ⟨g, 0, none⟩ (.slice A' n c')).alloc o1).alloc o2) ws ∧ Fr g w (((w.setCell ⟨g, 0, none⟩ (.slice A' n c')).alloc o1).alloc o2) := by
    intro A' c' o1 o2 hc' hA'
    have hB : Below g w (((w.setCell ⟨g, 0, none⟩ (.slice A' n c')).alloc o1).alloc o2) :=
      (((Below.refl g w).setCell (Nat.le_refl _) _).alloc (by simp; omega) _).alloc (by simp; omega) _
    refine ⟨⟨A', c', ?_, by rw [HL.out]; exact hc', fun j x hj => ?_⟩, hB, fun i hi hgi => ?_⟩
    · rw [HL.out]
      exact blk_alloc (blk_alloc (blk_put HG.out 0 _ rfl) _) _
    · obtain ⟨a2, e2, h3, h4⟩ := HC.out (j + 1) x (by simpa using hj)
      obtain rfl := Option.some.inj e2
      have hj2 : j < ws.length := (List.getElem?_eq_some_iff.1 hj).1
      refine ⟨a.add 1, hA' (by rw [← HL.out]; omega), by rw [addr_block]; exact h3, ?_⟩
      rw [Addr.add_add, Nat.add_comm 1 j]
      exact (hB.cell (p := a.add (j + 1)) (by rw [addr_block]; exact h3)).trans h4
    · have hs : (w.setCell ⟨g, 0, none⟩ (.slice A' n c')).heap.size = w.heap.size := World.size_setCell _ _ _
      rw [heap_old _ _ _ (by rw [World.size_alloc, hs]; omega), heap_old _ _ _ (by rw [hs]; omega)]
      exact Below.heap_setCell w ⟨g, 0, none⟩ _ i hgi
  have FIN := Aside0.mk fin
  clear fin
  go_enter Tryd.func100, Tryd.ntmps100
  go_wp2
  · refine bodyPost_ret (v := .agg #[Wd.v b]) (by simp [results, Tryd.results100, go_sem]) rfl ⟨rfl, ?_⟩
    exact FIN.out (some a) 0 _ _ (by omega) (fun h => by omega)
  · refine bodyPost_ret (v := .agg #[Wd.v b]) (by simp [results, Tryd.results100, go_sem]) rfl ⟨rfl, ?_⟩
    exact FIN.out (some (a.add 1)) (c - 1) _ _ (by omega) (fun h => rfl)
end Go.Proofs.YtlkbeddlmbghkaaDoor.PR
