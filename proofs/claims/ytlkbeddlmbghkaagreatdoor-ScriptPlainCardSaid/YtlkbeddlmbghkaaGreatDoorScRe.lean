/- script's reader: what next, number, name and text come to; where one can't stand there they panic. -/
import Derived.Test.YtlkbeddlmbghkaaGreatDoorBox1
import Derived.WalkSmall
import Derived.Test.YtlkbeddlmbghkaaGreatDoorPRx0
import Derived.Test.YtlkbeddlmbghkaaGreatDoorPRx1
namespace Go.Proofs.YtlkbeddlmbghkaaGreatDoor.PR
open Go Go.Proofs Go.RowKit Go.Proofs.YtlkbeddlmbghkaaGreatDoorW.PrintWords Go.Proofs.YtlkbeddlmbghkaaGreatDoorW.PrintLast Go.Proofs.YtlkbeddlmbghkaaGreatDoorW.PrintMore
attribute [local go_sem] Wd.one Wd.run_store must_3 must_w must_t
set_option linter.unusedVariables false
set_option linter.unusedSimpArgs false
set_option maxRecDepth 100000

/-! ### what a reader keeps -/

theorem addr_block (a : Addr) (i : Nat) : (a.add i).block = a.block := by unfold Addr.add; split <;> rfl
theorem heap_old (w : World) (o : Obj) (i : Nat) (h : i < w.heap.size) : (w.alloc o).heap[i]? = w.heap[i]? := ((Below.refl w.heap.size w).alloc (Nat.le_refl _) o).block i h

/-- All blocks but one stand as they stood. -/
def Fr (g : Nat) (w w' : World) : Prop := Below g w w' ∧ ∀ i, i < w.heap.size → i ≠ g → w'.heap[i]? = w.heap[i]?
theorem Fr.refl (g : Nat) (w : World) : Fr g w w := ⟨Below.refl _ _, fun _ _ _ => rfl⟩
theorem Fr.trans {g : Nat} {a b c : World} (h : Fr g a b) (k : Fr g b c) : Fr g a c :=
 ⟨h.1.trans k.1, fun i hi hg => (k.2 i (Nat.lt_of_lt_of_le hi h.1.size) hg).trans (h.2 i hi hg)⟩
theorem Fr.of {g : Nat} {a b : World} (hg : g ≤ a.heap.size) (h : Below a.heap.size a b) : Fr g a b := ⟨h.mono hg, fun i hi _ => h.block i hi⟩
theorem Fr.blk {g k : Nat} {a b : World} {o : Obj} (h : Fr g a b) (hk : k ≠ g) (hb : a.heap[k]? = some o) : b.heap[k]? = some o :=
 (h.2 k (Array.getElem?_eq_some_iff.1 hb).1 hk).trans hb

/-- A panic with a value. -/
def Pan (e : Ending) : Prop := ∃ u pv, e = .panicked [{ v := .iface u pv, recovered := false }]

/-- The reader in block g has these words to read. -/
def RdAt (g : Nat) (w : World) (ws : List Wd) : Prop :=
 ∃ A c, w.heap[g]? = some (.cells #[.slice A ws.length c] 121 (0, 0)) ∧ ws.length ≤ c ∧ ∀ j b, ws[j]? = some b → ∃ a, A = some a ∧ a.block < g ∧ w.cell? (a.add j) = some (Wd.v b)
theorem RdAt.lt {g : Nat} {w : World} {ws : List Wd} (h : RdAt g w ws) : g < w.heap.size := by
 obtain ⟨A, c, hg, _⟩ := h
 exact blk_lt hg
/-- A world in which the reader's block stands, and all below it. -/
theorem RdAt.move {g : Nat} {w w' : World} {ws : List Wd} (h : RdAt g w ws) (hb : Below g w w') (hg : w'.heap[g]? = w.heap[g]?) : RdAt g w' ws := by
 obtain ⟨A, c, h1, h2, h3⟩ := h
 refine ⟨A, c, hg.trans h1, h2, fun j b hj => ?_⟩
 obtain ⟨a, ha, hlt, hc⟩ := h3 j b hj
 exact ⟨a, ha, hlt, (hb.cell (p := a.add j) (by rw [addr_block]; exact hlt)).trans hc⟩

/-! ### assertions that fail -/

theorem rt_ta : Tryz.prog.rt.typeAssertionError = 15 := by kernel_rfl
theorem run_row (t : TypeId) (cs : Array Value) (w : World) : (newRow t cs).run Tryz.prog w = .ok ⟨w.heap.size, 0, none⟩ (w.alloc (.cells cs t)) := by
 first | rfl | (simp [newRow, Sem.run]; done)
theorem nil_3 (w : World) : ∃ o pv, (Instr.typeAssert .nilIface 20 3 false).run Tryz.prog w = .halt (.panic (.iface 15 pv)) (w.alloc o) := by
 have hu := Tryz.underlying3
 have h15 := Tryz.underlying15
 simp [Instr.typeAssert, Sem.run_bind, underlying, Sem.run, hu, Result.andThen, runtimePanic, rt_ta, elemOf, h15, newVar, run_row]
 exact ⟨_, rfl⟩
theorem ne_3 (t : TypeId) (v : Value) (ht : t ≠ 3) (w : World) : ∃ o pv, (Instr.typeAssert (.iface t v) 20 3 false).run Tryz.prog w = .halt (.panic (.iface 15 pv)) (w.alloc o) := by
 have hu := Tryz.underlying3
 have h15 := Tryz.underlying15
 simp [Instr.typeAssert, Sem.run_bind, underlying, Sem.run, hu, ht, Result.andThen, runtimePanic, rt_ta, elemOf, h15, newVar, run_row]
 exact ⟨_, rfl⟩
theorem bad_3 (b : Wd) (hb : ∀ x, b ≠ .num x) (w : World) : ∃ o pv, (Instr.typeAssert (Wd.v b) 20 3 false).run Tryz.prog w = .halt (.panic (.iface 15 pv)) (w.alloc o) := by
 cases b with
 | nil => exact nil_3 w
 | num n => exact absurd rfl (hb n)
 | name s => exact ne_3 _ _ (by decide) w
 | text s => exact ne_3 _ _ (by decide) w
theorem nil_w (w : World) : ∃ o pv, (Instr.typeAssert .nilIface 20 90 false).run Tryz.prog w = .halt (.panic (.iface 15 pv)) (w.alloc o) := by
 have hu := Tryz.underlying90
 have h15 := Tryz.underlying15
 simp [Instr.typeAssert, Sem.run_bind, underlying, Sem.run, hu, Result.andThen, runtimePanic, rt_ta, elemOf, h15, newVar, run_row]
 exact ⟨_, rfl⟩
theorem ne_w (t : TypeId) (v : Value) (ht : t ≠ 90) (w : World) : ∃ o pv, (Instr.typeAssert (.iface t v) 20 90 false).run Tryz.prog w = .halt (.panic (.iface 15 pv)) (w.alloc o) := by
 have hu := Tryz.underlying90
 have h15 := Tryz.underlying15
 simp [Instr.typeAssert, Sem.run_bind, underlying, Sem.run, hu, ht, Result.andThen, runtimePanic, rt_ta, elemOf, h15, newVar, run_row]
 exact ⟨_, rfl⟩
theorem bad_w (b : Wd) (hb : ∀ x, b ≠ .name x) (w : World) : ∃ o pv, (Instr.typeAssert (Wd.v b) 20 90 false).run Tryz.prog w = .halt (.panic (.iface 15 pv)) (w.alloc o) := by
 cases b with
 | nil => exact nil_w w
 | num n => exact ne_w _ _ (by decide) w
 | name s => exact absurd rfl (hb s)
 | text s => exact ne_w _ _ (by decide) w
theorem nil_t (w : World) : ∃ o pv, (Instr.typeAssert .nilIface 20 91 false).run Tryz.prog w = .halt (.panic (.iface 15 pv)) (w.alloc o) := by
 have hu := Tryz.underlying91
 have h15 := Tryz.underlying15
 simp [Instr.typeAssert, Sem.run_bind, underlying, Sem.run, hu, Result.andThen, runtimePanic, rt_ta, elemOf, h15, newVar, run_row]
 exact ⟨_, rfl⟩
theorem ne_t (t : TypeId) (v : Value) (ht : t ≠ 91) (w : World) : ∃ o pv, (Instr.typeAssert (.iface t v) 20 91 false).run Tryz.prog w = .halt (.panic (.iface 15 pv)) (w.alloc o) := by
 have hu := Tryz.underlying91
 have h15 := Tryz.underlying15
 simp [Instr.typeAssert, Sem.run_bind, underlying, Sem.run, hu, ht, Result.andThen, runtimePanic, rt_ta, elemOf, h15, newVar, run_row]
 exact ⟨_, rfl⟩
theorem bad_t (b : Wd) (hb : ∀ x, b ≠ .text x) (w : World) : ∃ o pv, (Instr.typeAssert (Wd.v b) 20 91 false).run Tryz.prog w = .halt (.panic (.iface 15 pv)) (w.alloc o) := by
 cases b with
 | nil => exact nil_t w
 | num n => exact ne_t _ _ (by decide) w
 | name s => exact ne_t _ _ (by decide) w
 | text s => exact absurd rfl (hb s)

/-! ### Must, where there is none -/
theorem MustNumber_bad (b : Wd) (hb : ∀ x, b ≠ .num x) (w : World) : Calls Tryz.prog 113 #[.agg #[Wd.v b]] w fun e w' => Pan e ∧ Below w.heap.size w w' := by
 have hu := Tryz.underlying49
 have hu20 := Tryz.underlying20
 obtain ⟨o, pv, hr⟩ := bad_3 b hb (w.alloc (.cells #[Wd.v b] 49))
 go_enter Tryz.func113, Tryz.ntmps113
 go_wp2
 exact ⟨rfl, ⟨_, _, rfl⟩, ((Below.refl _ _).alloc (Nat.le_refl _) _).alloc (by simp [World.size_alloc]) _⟩
theorem MustName_bad (b : Wd) (hb : ∀ x, b ≠ .name x) (w : World) : Calls Tryz.prog 111 #[.agg #[Wd.v b]] w fun e w' => Pan e ∧ Below w.heap.size w w' := by
 have hu := Tryz.underlying49
 have hu20 := Tryz.underlying20
 obtain ⟨o, pv, hr⟩ := bad_w b hb (w.alloc (.cells #[Wd.v b] 49))
 go_enter Tryz.func111, Tryz.ntmps111
 go_wp2
 exact ⟨rfl, ⟨_, _, rfl⟩, ((Below.refl _ _).alloc (Nat.le_refl _) _).alloc (by simp [World.size_alloc]) _⟩
theorem MustText_bad (b : Wd) (hb : ∀ x, b ≠ .text x) (w : World) : Calls Tryz.prog 136 #[.agg #[Wd.v b]] w fun e w' => Pan e ∧ Below w.heap.size w w' := by
 have hu := Tryz.underlying49
 have hu20 := Tryz.underlying20
 obtain ⟨o, pv, hr⟩ := bad_t b hb (w.alloc (.cells #[Wd.v b] 49))
 go_enter Tryz.func136, Tryz.ntmps136
 go_wp2
 exact ⟨rfl, ⟨_, _, rfl⟩, ((Below.refl _ _).alloc (Nat.le_refl _) _).alloc (by simp [World.size_alloc]) _⟩

/-! ### next -/

theorem next_empty (g : Nat) (w : World) (h : RdAt g w []) :
  Calls Tryz.prog 112 #[.pointer (some ⟨g, 0, none⟩)] w fun e w' => Pan e ∧ Fr g w w' := by
 obtain ⟨A, c, hg, _, _⟩ := h
 have hg : w.heap[g]? = some (.cells #[.slice A 0 c] 121 (0, 0)) := hg
 have hu := Tryz.underlying49
 have hu20 := Tryz.underlying20
 have hu117 := Tryz.underlying121
 have hu136 := Tryz.underlying150
 have hc : ∀ o, (w.alloc o).cell? ⟨g, 0, none⟩ = some (.slice A 0 c) := fun o => (blk_cell (blk_alloc hg o) 0).trans rfl
 have hlt := blk_lt hg
 clear hg
 go_enter Tryz.func112, Tryz.ntmps112
 go_wp2
 exact ⟨rfl, ⟨_, _, rfl⟩, Fr.of (Nat.le_of_lt hlt) ((Below.refl _ _).alloc (Nat.le_refl _) _)⟩

set_option maxHeartbeats 2000000 in
theorem next_cons (g : Nat) (b : Wd) (ws : List Wd) (w : World) (h : RdAt g w (b :: ws)) :
  Calls Tryz.prog 112 #[.pointer (some ⟨g, 0, none⟩)] w fun e w' => e = .returned (.agg #[Wd.v b]) ∧ RdAt g w' ws ∧ Fr g w w' := by
 obtain ⟨A, c, hg, hn, hcells⟩ := h
 obtain ⟨a, rfl, hab, hb⟩ := hcells 0 b rfl
 have hb : w.cell? a = some (Wd.v b) := by rw [Addr.add_zero'] at hb; exact hb
 generalize hlen : ws.length = n
 have hg : w.heap[g]? = some (.cells #[.slice (some a) (n + 1) c] 121 (0, 0)) := by rw [← hlen]; exact hg
 have hn : n + 1 ≤ c := by rw [← hlen]; exact hn
 have hu := Tryz.underlying49
 have hu20 := Tryz.underlying20
 have hu117 := Tryz.underlying121
 have hu33 := Tryz.underlying23
 have hlt := blk_lt hg
 have hc : w.cell? ⟨g, 0, none⟩ = some (.slice (some a) (n + 1) c) := (blk_cell hg 0).trans rfl
 have hc1 : ∀ o, (w.alloc o).cell? ⟨g, 0, none⟩ = some (.slice (some a) (n + 1) c) := fun o => (blk_cell (blk_alloc hg o) 0).trans rfl
 have hla := World.block_lt_of_cell? _ _ hb
 have hf : w.frozen? ⟨g, 0, none⟩ = false := blk_frozen hg 0
 have hb1 : ∀ o, (w.alloc o).cell? a = some (Wd.v b) := fun o => by rw [World.cell?_alloc_old _ _ _ (by omega)]; exact hb
 have HG := Aside0.mk hg
 have HL := Aside0.mk hlen
 have HC := Aside0.mk hcells
 clear hg hlen hcells
 -- what is left behind
 have fin : ∀ (A' : Option Addr) (c' : Nat) (o1 o2 : Obj), n ≤ c' → (1 ≤ n → A' = some (a.add 1)) → RdAt g (((w.setCell ⟨g, 0, none⟩ (.slice A' n c')).alloc o1).alloc o2) ws ∧ Fr g w (((w.setCell ⟨g, 0, none⟩ (.slice A' n c')).alloc o1).alloc o2) := by
  intro A' c' o1 o2 hc' hA'
  have hB : Below g w (((w.setCell ⟨g, 0, none⟩ (.slice A' n c')).alloc o1).alloc o2) :=
   (((Below.refl g w).setCell (Nat.le_refl _) _).alloc (by simp; omega) _).alloc (by simp; omega) _
  refine ⟨⟨A', c', ?_, by rw [HL.out]; exact hc', fun j x hj => ?_⟩, hB, fun i hi hgi => ?_⟩
  ·
   rw [HL.out]
   exact blk_alloc (blk_alloc (blk_put HG.out 0 _ rfl) _) _
  ·
   obtain ⟨a2, e2, h3, h4⟩ := HC.out (j + 1) x (by simpa using hj)
   obtain rfl := Option.some.inj e2
   have hj2 : j < ws.length := (List.getElem?_eq_some_iff.1 hj).1
   refine ⟨a.add 1, hA' (by rw [← HL.out]; omega), by rw [addr_block]; exact h3, ?_⟩
   rw [Addr.add_add, Nat.add_comm 1 j]
   exact (hB.cell (p := a.add (j + 1)) (by rw [addr_block]; exact h3)).trans h4
  ·
   have hs : (w.setCell ⟨g, 0, none⟩ (.slice A' n c')).heap.size = w.heap.size := World.size_setCell _ _ _
   rw [heap_old _ _ _ (by rw [World.size_alloc, hs]; omega), heap_old _ _ _ (by rw [hs]; omega)]
   exact Below.heap_setCell w ⟨g, 0, none⟩ _ i hgi
 have FIN := Aside0.mk fin
 clear fin
 go_enter Tryz.func112, Tryz.ntmps112
 go_wp2
 ·
  refine bodyPost_ret (v := .agg #[Wd.v b]) (by simp [results, Tryz.results112, go_sem]) rfl ⟨rfl, ?_⟩
  exact FIN.out (some a) 0 _ _ (by omega) (fun h => by omega)
 ·
  refine bodyPost_ret (v := .agg #[Wd.v b]) (by simp [results, Tryz.results112, go_sem]) rfl ⟨rfl, ?_⟩
  exact FIN.out (some (a.add 1)) (c - 1) _ _ (by omega) (fun h => rfl)
end Go.Proofs.YtlkbeddlmbghkaaGreatDoor.PR

namespace Go.Proofs.YtlkbeddlmbghkaaGreatDoor.PR
open Go Go.Proofs Go.RowKit Go.Proofs.YtlkbeddlmbghkaaGreatDoorW.PrintWords Go.Proofs.YtlkbeddlmbghkaaGreatDoorW.PrintLast Go.Proofs.YtlkbeddlmbghkaaGreatDoorW.PrintMore
attribute [local go_sem] Wd.one Wd.run_store
set_option linter.unusedVariables false
set_option linter.unusedSimpArgs false
set_option maxRecDepth 100000

theorem mustNumber_at (b : Wd) (w : World) : Calls Tryz.prog 113 #[.agg #[Wd.v b]] w fun e w' => Below w.heap.size w w' ∧ ((∃ n, b = .num n ∧ e = .returned (.int .i64 n)) ∨ ((∀ n, b ≠ .num n) ∧ Pan e)) := by
 by_cases h : ∃ n, b = .num n
 ·
  obtain ⟨n, rfl⟩ := h
  exact (mustNumber_calls n w).mono fun e w' ⟨he, hb⟩ => ⟨hb, .inl ⟨n, rfl, he⟩⟩
 ·
  have h2 : ∀ n, b ≠ .num n := fun n e => h ⟨n, e⟩
  exact (MustNumber_bad b h2 w).mono fun e w' ⟨he, hb⟩ => ⟨hb, .inr ⟨h2, he⟩⟩
theorem mustName_at (b : Wd) (w : World) : Calls Tryz.prog 111 #[.agg #[Wd.v b]] w fun e w' => Below w.heap.size w w' ∧ ((∃ s, b = .name s ∧ e = .returned (.string s)) ∨ ((∀ s, b ≠ .name s) ∧ Pan e)) := by
 by_cases h : ∃ n, b = .name n
 ·
  obtain ⟨n, rfl⟩ := h
  exact (mustName_calls n w).mono fun e w' ⟨he, hb⟩ => ⟨hb, .inl ⟨n, rfl, he⟩⟩
 ·
  have h2 : ∀ n, b ≠ .name n := fun n e => h ⟨n, e⟩
  exact (MustName_bad b h2 w).mono fun e w' ⟨he, hb⟩ => ⟨hb, .inr ⟨h2, he⟩⟩
theorem mustText_at (b : Wd) (w : World) : Calls Tryz.prog 136 #[.agg #[Wd.v b]] w fun e w' => Below w.heap.size w w' ∧ ((∃ s, b = .text s ∧ e = .returned (.string s)) ∨ ((∀ s, b ≠ .text s) ∧ Pan e)) := by
 by_cases h : ∃ n, b = .text n
 ·
  obtain ⟨n, rfl⟩ := h
  exact (mustText_calls n w).mono fun e w' ⟨he, hb⟩ => ⟨hb, .inl ⟨n, rfl, he⟩⟩
 ·
  have h2 : ∀ n, b ≠ .text n := fun n e => h ⟨n, e⟩
  exact (MustText_bad b h2 w).mono fun e w' ⟨he, hb⟩ => ⟨hb, .inr ⟨h2, he⟩⟩

theorem next_at (g : Nat) (ws : List Wd) (w : World) (h : RdAt g w ws) :
  Calls Tryz.prog 112 #[.pointer (some ⟨g, 0, none⟩)] w fun e w' => Fr g w w' ∧ ((∃ b r, ws = b :: r ∧ e = .returned (.agg #[Wd.v b]) ∧ RdAt g w' r) ∨ (ws = [] ∧ Pan e)) := by
 cases ws with
 | nil => exact (next_empty g w h).mono fun e w' ⟨he, hf⟩ => ⟨hf, .inr ⟨rfl, he⟩⟩
 | cons b r => exact (next_cons g b r w h).mono fun e w' ⟨he, hr, hf⟩ => ⟨hf, .inl ⟨b, r, rfl, he, hr⟩⟩

theorem number_at (g : Nat) (ws : List Wd) (w : World) (h : RdAt g w ws) :
  Calls Tryz.prog 93 #[.pointer (some ⟨g, 0, none⟩)] w fun e w' => Fr g w w' ∧ ((∃ x r, ws = .num x :: r ∧ e = .returned (.int .i64 x) ∧ RdAt g w' r) ∨ ((∀ x r, ws ≠ .num x :: r) ∧ Pan e)) := by
 have hu := Tryz.underlying49
 have hlt := h.lt
 have H := Aside0.mk h
 clear h
 go_enter Tryz.func93, Tryz.ntmps93
 go_wp2_with (fail)
 refine (next_at g ws w H.out).mono ?_
 rintro e w1 ⟨hf, ⟨b, r, rfl, rfl, hr⟩ | ⟨rfl, u, pv, rfl⟩⟩
 ·
  have HF := Aside0.mk hf
  have HR := Aside0.mk hr
  clear hf hr
  go_wp2_with (fail)
  refine (mustNumber_at b _).mono ?_
  rintro e w2 ⟨hb, ⟨x, rfl, rfl⟩ | ⟨hno, u, pv, rfl⟩⟩
  ·
   have HB := Aside0.mk hb
   clear hb
   go_wp2_with (fail)
   go_ret
   have h1 := HF.out.1.size
   exact ⟨HF.out.trans (Fr.of (Nat.le_of_lt HR.out.lt) HB.out), .inl ⟨x, r, rfl, rfl, HR.out.move (HB.out.mono (Nat.le_of_lt HR.out.lt)) (HB.out.block g HR.out.lt)⟩⟩
  ·
   exact ⟨rfl, HF.out.trans (Fr.of (Nat.le_of_lt HR.out.lt) hb), .inr ⟨fun x r' he => hno x (List.cons.inj he).1, ⟨_, _, rfl⟩⟩⟩
 ·
  exact ⟨rfl, hf, .inr ⟨fun x r' he => (by cases he), ⟨_, _, rfl⟩⟩⟩

theorem name_at (g : Nat) (ws : List Wd) (w : World) (h : RdAt g w ws) :
  Calls Tryz.prog 92 #[.pointer (some ⟨g, 0, none⟩)] w fun e w' => Fr g w w' ∧ ((∃ x r, ws = .name x :: r ∧ e = .returned (.string x) ∧ RdAt g w' r) ∨ ((∀ x r, ws ≠ .name x :: r) ∧ Pan e)) := by
 have hu := Tryz.underlying49
 have hlt := h.lt
 have H := Aside0.mk h
 clear h
 go_enter Tryz.func92, Tryz.ntmps92
 go_wp2_with (fail)
 refine (next_at g ws w H.out).mono ?_
 rintro e w1 ⟨hf, ⟨b, r, rfl, rfl, hr⟩ | ⟨rfl, u, pv, rfl⟩⟩
 ·
  have HF := Aside0.mk hf
  have HR := Aside0.mk hr
  clear hf hr
  go_wp2_with (fail)
  refine (mustName_at b _).mono ?_
  rintro e w2 ⟨hb, ⟨x, rfl, rfl⟩ | ⟨hno, u, pv, rfl⟩⟩
  ·
   have HB := Aside0.mk hb
   clear hb
   go_wp2_with (fail)
   go_ret
   have h1 := HF.out.1.size
   exact ⟨HF.out.trans (Fr.of (Nat.le_of_lt HR.out.lt) HB.out), .inl ⟨x, r, rfl, rfl, HR.out.move (HB.out.mono (Nat.le_of_lt HR.out.lt)) (HB.out.block g HR.out.lt)⟩⟩
  ·
   exact ⟨rfl, HF.out.trans (Fr.of (Nat.le_of_lt HR.out.lt) hb), .inr ⟨fun x r' he => hno x (List.cons.inj he).1, ⟨_, _, rfl⟩⟩⟩
 ·
  exact ⟨rfl, hf, .inr ⟨fun x r' he => (by cases he), ⟨_, _, rfl⟩⟩⟩

theorem text_at (g : Nat) (ws : List Wd) (w : World) (h : RdAt g w ws) :
  Calls Tryz.prog 115 #[.pointer (some ⟨g, 0, none⟩)] w fun e w' => Fr g w w' ∧ ((∃ x r, ws = .text x :: r ∧ e = .returned (.string x) ∧ RdAt g w' r) ∨ ((∀ x r, ws ≠ .text x :: r) ∧ Pan e)) := by
 have hu := Tryz.underlying49
 have hlt := h.lt
 have H := Aside0.mk h
 clear h
 go_enter Tryz.func115, Tryz.ntmps115
 go_wp2_with (fail)
 refine (next_at g ws w H.out).mono ?_
 rintro e w1 ⟨hf, ⟨b, r, rfl, rfl, hr⟩ | ⟨rfl, u, pv, rfl⟩⟩
 ·
  have HF := Aside0.mk hf
  have HR := Aside0.mk hr
  clear hf hr
  go_wp2_with (fail)
  refine (mustText_at b _).mono ?_
  rintro e w2 ⟨hb, ⟨x, rfl, rfl⟩ | ⟨hno, u, pv, rfl⟩⟩
  ·
   have HB := Aside0.mk hb
   clear hb
   go_wp2_with (fail)
   go_ret
   have h1 := HF.out.1.size
   exact ⟨HF.out.trans (Fr.of (Nat.le_of_lt HR.out.lt) HB.out), .inl ⟨x, r, rfl, rfl, HR.out.move (HB.out.mono (Nat.le_of_lt HR.out.lt)) (HB.out.block g HR.out.lt)⟩⟩
  ·
   exact ⟨rfl, HF.out.trans (Fr.of (Nat.le_of_lt HR.out.lt) hb), .inr ⟨fun x r' he => hno x (List.cons.inj he).1, ⟨_, _, rfl⟩⟩⟩
 ·
  exact ⟨rfl, hf, .inr ⟨fun x r' he => (by cases he), ⟨_, _, rfl⟩⟩⟩
end Go.Proofs.YtlkbeddlmbghkaaGreatDoor.PR

namespace Go.Proofs.YtlkbeddlmbghkaaGreatDoor.PR
open Go Go.Proofs Go.RowKit Go.Proofs.YtlkbeddlmbghkaaGreatDoorW.PrintWords Go.Proofs.YtlkbeddlmbghkaaGreatDoorW.PrintLast Go.Proofs.YtlkbeddlmbghkaaGreatDoorW.PrintMore
attribute [local go_sem] Wd.one Wd.run_store
set_option linter.unusedVariables false
set_option linter.unusedSimpArgs false
set_option maxRecDepth 100000

/-- All blocks but two stand as they stood. -/
def Fr2 (g p : Nat) (w w' : World) : Prop := Below g w w' ∧ ∀ i, i < w.heap.size → i ≠ g → i ≠ p → w'.heap[i]? = w.heap[i]?
theorem Fr2.refl (g p : Nat) (w : World) : Fr2 g p w w := ⟨Below.refl _ _, fun _ _ _ _ => rfl⟩
theorem Fr2.trans {g p : Nat} {a b c : World} (h : Fr2 g p a b) (k : Fr2 g p b c) : Fr2 g p a c :=
 ⟨h.1.trans k.1, fun i hi hg hp => (k.2 i (Nat.lt_of_lt_of_le hi h.1.size) hg hp).trans (h.2 i hi hg hp)⟩
theorem Fr.two {g : Nat} {a b : World} (h : Fr g a b) (p : Nat) : Fr2 g p a b := ⟨h.1, fun i hi hg _ => h.2 i hi hg⟩
theorem Fr2.set {g p : Nat} (w : World) (hp : g < p) (i : Nat) (v : Value) : Fr2 g p w (w.setCell ⟨p, i, none⟩ v) :=
 ⟨(Below.refl g w).setCell (Nat.le_of_lt hp) _, fun k _ _ hk => Below.heap_setCell w ⟨p, i, none⟩ _ k hk⟩
theorem RdAt.set {g p : Nat} {w : World} {ws : List Wd} (h : RdAt g w ws) (hp : g < p) (i : Nat) (v : Value) : RdAt g (w.setCell ⟨p, i, none⟩ v) ws :=
 h.move (Fr2.set w hp i v).1 (Below.heap_setCell w ⟨p, i, none⟩ _ g (Nat.ne_of_lt hp))
theorem RdAt.fr {g : Nat} {w w' : World} {ws : List Wd} (h : RdAt g w ws) (hb : Below w.heap.size w w') : RdAt g w' ws :=
 h.move (hb.mono (Nat.le_of_lt h.lt)) (hb.block g h.lt)
theorem Fr.ofB {g : Nat} {a b : World} (hg : g < a.heap.size) (h : Below a.heap.size a b) : Fr g a b := Fr.of (Nat.le_of_lt hg) h

/-- A call that is being read: its eleven cells, its row of entries apart. -/
def callV (x : S52) (v : Value) : Array Value := #[.int .i64 x.f0, .string x.f1, .string x.f2, v, .string x.f4, .string x.f5, .bool x.f6, .int .i64 x.f7, .int .i64 x.f8, .int .i64 x.f9, .int .i64 x.f10]
def CallAt (p : Nat) (w : World) (x : S52) (v : Value) : Prop := w.heap[p]? = some (.cells (callV x v) 52 (0, 0))

/-- Where a span begins, and ends. -/
def spanS (x : S52) : List Wd → Option (S52 × List Wd)
 | .text a :: .text b :: r => some ({ x with f4 := a, f5 := b }, r)
 | .text a :: .name s :: r => if s.toList = [101, 110, 100] then some ({ x with f4 := a, f6 := true }, r) else none
 | _ => none

set_option maxHeartbeats 4000000 in
theorem span_at (g p : Nat) (hp : g < p) (ws : List Wd) (x : S52) (v : Value) (w : World) (h : RdAt g w ws) (hx : CallAt p w x v) :
  Calls Tryz.prog 117 #[.pointer (some ⟨g, 0, none⟩), .pointer (some ⟨p, 0, none⟩)] w fun e w' => Fr2 g p w w' ∧
   ((∃ y r, spanS x ws = some (y, r) ∧ e = .returned (.tuple #[]) ∧ RdAt g w' r ∧ CallAt p w' y v) ∨ (spanS x ws = none ∧ Pan e)) := by
 have hu := Tryz.underlying49
 have hu46 := Tryz.underlying52
 have hu136 := Tryz.underlying150
 have H := Aside0.mk h
 have HX := Aside0.mk hx
 clear h hx
 go_enter Tryz.func117, Tryz.ntmps117
 go_wp2_with (fail)
 refine (text_at g ws w H.out).mono ?_
 rintro e w1 ⟨hf1, ⟨a, r, rfl, rfl, hr1⟩ | ⟨hno, u, pv, rfl⟩⟩
 case inr =>
  refine ⟨rfl, hf1.two p, .inr ⟨?_, ⟨_, _, rfl⟩⟩⟩
  cases ws with
  | nil => rfl
  | cons b r =>
   cases b with
   | text a => exact absurd rfl (hno a r)
   | nil => rfl
   | num n => rfl
   | name s => rfl
 have X1 := Aside0.mk (hf1.blk (Nat.ne_of_gt hp) HX.out)
 have c4 : w1.cell? ⟨p, 4, none⟩ = some (.string x.f4) := (blk_cell X1.out 4).trans rfl
 have f4 : w1.frozen? ⟨p, 4, none⟩ = false := blk_frozen X1.out 4
 have HF1 := Aside0.mk hf1
 have HR1 := Aside0.mk hr1
 clear hf1 hr1
 go_wp2_with (fail)
 clear c4 f4
 refine (next_at g r _ (HR1.out.set hp 4 (.string a))).mono ?_
 rintro e w2 ⟨hf2, ⟨b, r2, rfl, rfl, hr2⟩ | ⟨rfl, u, pv, rfl⟩⟩
 case inr => exact ⟨rfl, ((HF1.out.two p).trans (Fr2.set w1 hp 4 _)).trans (hf2.two p), .inr ⟨rfl, ⟨_, _, rfl⟩⟩⟩
 have X2 : Aside0 (CallAt p w2 { x with f4 := a } v) := ⟨hf2.blk (Nat.ne_of_gt hp) (blk_put X1.out 4 (.string a) rfl)⟩
 have HF2 := Aside0.mk (((HF1.out.two p).trans (Fr2.set w1 hp 4 (.string a))).trans (hf2.two p))
 have HR2 := Aside0.mk hr2
 clear hf2 hr2 X1 HF1 HR1 HX H
 go_wp2_with (fail)
 refine (box_Kind.calls b (kindW b) _ rfl).mono ?_
 rintro e w3 ⟨rfl, hb3⟩
 have HB3 : Aside0 (Below w2.heap.size w2 w3) := ⟨((Below.refl w2.heap.size w2).alloc (Nat.le_refl _) (.cells #[Wd.v b] 49)).trans (hb3.mono (by rw [World.size_alloc]; omega))⟩
 have B4 : Aside0 (w3.heap[w2.heap.size]? = some (.cells #[Wd.v b] 49 (0, 0))) := ⟨blk_below (blk_new w2 (.cells #[Wd.v b] 49)) hb3⟩
 clear hb3
 have k4 : w3.cell? ⟨w2.heap.size, 0, none⟩ = some (Wd.v b) := (blk_cell B4.out 0).trans rfl
 have l2 := HR2.out.lt
 have X3 : Aside0 (CallAt p w3 { x with f4 := a } v) := ⟨(HB3.out.block p (blk_lt X2.out)).trans X2.out⟩
 have R3 : Aside0 (RdAt g w3 r2) := ⟨HR2.out.fr HB3.out⟩
 have F3 : Aside0 (Fr2 g p w w3) := ⟨HF2.out.trans ((Fr.ofB l2 HB3.out).two p)⟩
 clear HB3 B4 X2 HR2 HF2 l2
 cases b with
 | text s =>
  simp only [kindW]
  go_wp2_with (fail)
  refine (mustText_calls s w3).mono ?_
  rintro e w4 ⟨rfl, hb⟩
  have X4 : Aside0 (CallAt p w4 { x with f4 := a } v) := ⟨(hb.block p (blk_lt X3.out)).trans X3.out⟩
  have R4 : Aside0 (RdAt g w4 r2) := ⟨R3.out.fr hb⟩
  have F4 : Aside0 (Fr2 g p w w4) := ⟨F3.out.trans ((Fr.ofB R3.out.lt hb).two p)⟩
  have c5 : w4.cell? ⟨p, 5, none⟩ = some (.string x.f5) := (blk_cell X4.out 5).trans rfl
  have f5 : w4.frozen? ⟨p, 5, none⟩ = false := blk_frozen X4.out 5
  clear hb k4 X3 R3 F3
  go_wp2_with (fail)
  refine bodyPost_ret (results_none rfl _ _ _) rfl ?_
  exact ⟨F4.out.trans (Fr2.set w4 hp 5 _), .inl ⟨{ x with f4 := a, f5 := s }, r2, rfl, rfl, R4.out.set hp 5 _, blk_put X4.out 5 (.string s) rfl⟩⟩
 | name s =>
  simp only [kindW]
  go_wp2_with (fail)
  refine (mustName_calls s w3).mono ?_
  rintro e w4 ⟨rfl, hb⟩
  have X4 : Aside0 (CallAt p w4 { x with f4 := a } v) := ⟨(hb.block p (blk_lt X3.out)).trans X3.out⟩
  have R4 : Aside0 (RdAt g w4 r2) := ⟨R3.out.fr hb⟩
  have F4 : Aside0 (Fr2 g p w w4) := ⟨F3.out.trans ((Fr.ofB R3.out.lt hb).two p)⟩
  have c6 : w4.cell? ⟨p, 6, none⟩ = some (.bool x.f6) := (blk_cell X4.out 6).trans rfl
  have f6 : w4.frozen? ⟨p, 6, none⟩ = false := blk_frozen X4.out 6
  clear hb k4 X3 R3 F3
  by_cases hs : s.toList = [101, 110, 100]
  ·
   have hs1 : (s.toList == [101, 110, 100]) = true := by rw [hs]; rfl
   have hs2 : (s.toList != [101, 110, 100]) = false := by rw [hs]; rfl
   have HS := Aside0.mk hs
   clear hs
   go_wp2_with (fail)
   go_end0
   exact ⟨F4.out.trans (Fr2.set w4 hp 6 _), .inl ⟨{ x with f4 := a, f6 := true }, r2, if_pos HS.out, rfl, R4.out.set hp 6 _, blk_put X4.out 6 (.bool true) rfl⟩⟩
  ·
   have hs1 : (s.toList == [101, 110, 100]) = false := beq_eq_false_iff_ne.2 hs
   have hs2 : (s.toList != [101, 110, 100]) = true := bne_iff_ne.2 hs
   have HS := Aside0.mk hs
   clear hs
   go_wp2_with (fail)
   exact ⟨rfl, F4.out, .inr ⟨if_neg HS.out, ⟨_, _, rfl⟩⟩⟩
 | nil =>
  simp only [kindW, Wd.v]
  go_wp2_with (fail)
  refine (MustName_bad .nil (fun x h => by cases h) w3).mono ?_
  rintro e w4 ⟨⟨u, pv, rfl⟩, hb⟩
  exact ⟨rfl, F3.out.trans ((Fr.ofB R3.out.lt hb).two p), .inr ⟨rfl, ⟨_, _, rfl⟩⟩⟩
 | num n =>
  simp only [kindW, Wd.v]
  go_wp2_with (fail)
  refine (MustName_bad (.num n) (fun x h => by cases h) w3).mono ?_
  rintro e w4 ⟨⟨u, pv, rfl⟩, hb⟩
  exact ⟨rfl, F3.out.trans ((Fr.ofB R3.out.lt hb).two p), .inr ⟨rfl, ⟨_, _, rfl⟩⟩⟩
end Go.Proofs.YtlkbeddlmbghkaaGreatDoor.PR

namespace Go.Proofs.YtlkbeddlmbghkaaGreatDoor.PR
open Go Go.Proofs Go.RowKit Go.Proofs.YtlkbeddlmbghkaaGreatDoorW.PrintWords Go.Proofs.YtlkbeddlmbghkaaGreatDoorW.PrintLast Go.Proofs.YtlkbeddlmbghkaaGreatDoorW.PrintMore
attribute [local go_sem] Wd.one Wd.run_store
set_option linter.unusedVariables false
set_option linter.unusedSimpArgs false
set_option maxRecDepth 100000

/-- What becomes of keys, up to the end. -/
def entsS : List Wd → Option (List S93)
 | [] => some []
 | .text a :: .text b :: r => (entsS r).map fun L => ⟨a, b, false⟩ :: L
 | .name s :: .text a :: r => if s.toList = [103, 111, 110, 101] then (entsS r).map fun L => ⟨a, ⟨#[]⟩, true⟩ :: L else none
 | _ => none

theorem Fr.below {g : Nat} {a b c : World} (h : Fr g a b) (hg : g < a.heap.size) (k : Below a.heap.size b c) : Fr g a c :=
 ⟨h.1.trans (k.mono (Nat.le_of_lt hg)), fun i hi hne => (k.block i hi).trans (h.2 i hi hne)⟩
theorem RdAt.base {g : Nat} {a w w' : World} {ws : List Wd} (h : RdAt g w ws) (hg : g < a.heap.size) (k : Below a.heap.size w w') : RdAt g w' ws :=
 h.move (k.mono (Nat.le_of_lt hg)) (k.block g hg)
theorem R_fr {α : Type} {d : Kd α} {e g base : Nat} {w w' : World} {ok : Nat → Prop} {v : Value} {xs : List α} (h : d.R e w base ok v xs) (hb : g < base) (hf : Fr g w w') : d.R e w' base ok v xs :=
 Kd.R_mono (Kd.R_step (Kd.R_bound h) (fun k hk hlt => hf.2 k hlt (by have := hk.2.1; omega))) (fun _ hk => hk.1)
theorem map_snoc (xs : List S93) (x : S93) (o : Option (List S93)) : ((o.map fun L => x :: L).map fun L => xs ++ L) = o.map fun L => (xs ++ [x]) ++ L := by
 cases o <;> simp

set_option maxHeartbeats 4000000 in
theorem entries_at (g : Nat) (ws : List Wd) (hl : ws.length ≤ 1000000) (w : World) (h : RdAt g w ws) :
  Calls Tryz.prog 116 #[.pointer (some ⟨g, 0, none⟩)] w fun e w' => Fr g w w' ∧
   ((∃ L v, entsS ws = some L ∧ e = .returned v ∧ RdAt g w' [] ∧ k93.R 93 w' w.heap.size (fun _ => True) v L) ∨ (entsS ws = none ∧ Pan e)) := by
 have hu := Tryz.underlying49
 have hu117 := Tryz.underlying121
 have hu33 := Tryz.underlying23
 have hu53 := Tryz.underlying93
 have hu136 := Tryz.underlying150
 have hlt := h.lt
 have HG : Aside0 (g < w.heap.size) := ⟨hlt⟩
 have HL := Aside0.mk hl
 have H := Aside0.mk h
 clear h hl hlt
 go_enter Tryz.func116, Tryz.ntmps116
 go_wp2_with (fail)
 go_loopg [3] (ws.length) (fun kq v3 w' => ∃ (xs : List S93) (rs : List Wd), Aside0 (rs.length = kq) ∧ Aside0 (entsS ws = (entsS rs).map fun L => xs ++ L) ∧ Aside0 (xs.length + rs.length ≤ ws.length) ∧ Aside0 (RdAt g w' rs) ∧ Aside0 (k93.R 93 w' w.heap.size (fun _ => True) v3 xs) ∧ Aside0 (Fr g w w'))
 case atStart =>
  exact ⟨[], ws, ⟨rfl⟩, ⟨by cases entsS ws <;> rfl⟩, ⟨by simp⟩, H, ⟨Kd.R_nil _ _ _ _ _⟩, ⟨Fr.refl _ _⟩⟩
 case round =>
  obtain ⟨xs, rs, HN, HS, HLe, HR, HO, HF⟩ := hrel
  obtain ⟨A, c, hg, hn, hcells⟩ := HR.out
  have hlt := blk_lt hg
  have HLt := Aside0.mk hlt
  clear hlt hcells hn
  cases rs with
  | nil =>
   have hc : wr.cell? ⟨g, 0, none⟩ = some (.slice A 0 c) := (blk_cell hg 0).trans rfl
   clear hg
   go_wp2_with (fail)
   go_ret
   exact ⟨HF.out, .inl ⟨xs, _, by rw [HS.out]; simp [entsS], rfl, HR.out, HO.out⟩⟩
  | cons b r =>
   obtain ⟨n, hlen⟩ : ∃ n, r.length = n := ⟨_, rfl⟩
   have hc : wr.cell? ⟨g, 0, none⟩ = some (.slice A (n + 1) c) := by rw [← hlen]; exact (blk_cell hg 0).trans rfl
   have d1 : (0 < ((n + 1 : Nat) : Int)) = True := eq_true (by omega)
   have d2 : (0 < (n : Int) + 1) = True := eq_true (by omega)
   clear hg
   have HLn := Aside0.mk hlen
   clear hlen
   go_wp2_with (fail)
   refine (next_at g (b :: r) wr HR.out).mono ?_
   rintro e w2 ⟨hf2, ⟨b', r', he, rfl, hr2⟩ | ⟨he, u, pv, rfl⟩⟩
   case inr => cases he
   obtain ⟨rfl, rfl⟩ := List.cons.inj he
   clear he hc
   have HO2 := Aside0.mk (R_fr HO.out HG.out hf2)
   have HF2 := Aside0.mk (HF.out.trans hf2)
   have HR2 := Aside0.mk hr2
   clear hf2 hr2 HO HF HR HLt
   go_wp2_with (fail)
   refine (box_Kind.calls b (kindW b) _ rfl).mono ?_
   rintro e w3 ⟨rfl, hb3⟩
   have HB3 : Aside0 (Below w2.heap.size w2 w3) := ⟨((Below.refl w2.heap.size w2).alloc (Nat.le_refl _) (.cells #[Wd.v b] 49)).trans (hb3.mono (by rw [World.size_alloc]; omega))⟩
   have B4 : Aside0 (w3.heap[w2.heap.size]? = some (.cells #[Wd.v b] 49 (0, 0))) := ⟨blk_below (blk_new w2 (.cells #[Wd.v b] 49)) hb3⟩
   clear hb3
   have k4 : w3.cell? ⟨w2.heap.size, 0, none⟩ = some (Wd.v b) := (blk_cell B4.out 0).trans rfl
   have l2 := HR2.out.lt
   have O3 := Aside0.mk (Kd.R_below HO2.out HB3.out)
   have R3 : Aside0 (RdAt g w3 r) := ⟨HR2.out.fr HB3.out⟩
   have F3 : Aside0 (Fr g w w3) := ⟨HF2.out.trans (Fr.ofB l2 HB3.out)⟩
   clear HB3 B4 HO2 HR2 HF2 l2
   cases b with
   | text s =>
    simp only [kindW]
    go_wp2_with (fail)
    refine (mustText_calls s w3).mono ?_
    rintro e w4 ⟨rfl, hb⟩
    have O4 := Aside0.mk (Kd.R_below O3.out hb)
    have R4 : Aside0 (RdAt g w4 r) := ⟨R3.out.fr hb⟩
    have F4 : Aside0 (Fr g w w4) := ⟨F3.out.trans (Fr.ofB R3.out.lt hb)⟩
    clear hb k4 O3 R3 F3
    go_wp2_with (fail)
    refine (text_at g r w4 R4.out).mono ?_
    rintro e w5 ⟨hf5, ⟨s2, r2, rfl, rfl, hr5⟩ | ⟨hno, u, pv, rfl⟩⟩
    case inr =>
     refine ⟨rfl, F4.out.trans hf5, .inr ⟨?_, ⟨_, _, rfl⟩⟩⟩
     rw [HS.out]
     cases r with
     | nil => rfl
     | cons b r =>
      cases b with
      | text a => exact absurd rfl (hno a r)
      | nil => rfl
      | num n => rfl
      | name s => rfl
    have O5 := Aside0.mk (R_fr O4.out HG.out hf5)
    have F5 := Aside0.mk (F4.out.trans hf5)
    have R5 := Aside0.mk hr5
    clear hf5 hr5 O4 F4 R4
    go_wp2_with ((with_reducible refine gate_builtin (b := .append) (xs := #[.tmp 16, .tmp 22]) rfl ?_); (try (refine gate_guard (by rfl) ?_; dsimp only)); at_builtin; refine Kd.R_append k93 (w0 := w5) w.heap.size rfl (.tmp 16) (.tmp 22) 50 93 (.agg #[(.string ⟨#[]⟩), (.string ⟨#[]⟩), (.bool false)]) 40 rfl Tryz.underlying50 info93 rfl (by decide) (by omega) _ xs (⟨s, s2, false⟩ : S93) [.string s, .string s2, .bool false] (fun _ => True) (fun _ => False) rfl rfl ?aP (fun _ hk => hk.elim) (fun _ _ => trivial) O5.out (Below.refl _ _) (Nat.le_trans (Nat.le_of_lt_succ (Nat.lt_succ_of_le F5.out.1.size)) (Nat.le_refl _)) ?aL ?_; (case aP => exact k93_mkM _ _ _ _); (case aL => have h1 := HLe.out; have h2 := HL.out; simp only [List.length_cons] at h1; omega); intro v6 w6 ho hb hg hat; have O6 := Aside0.mk ho; have B6 := Aside0.mk hb; clear ho hb hg hat O5)
    go_roundg r2.length
    case measure => have h1 := HN.out; simp only [List.length_cons] at h1; omega
    case rel => exact ⟨xs ++ [⟨s, s2, false⟩], r2, ⟨rfl⟩, ⟨by rw [HS.out, ← map_snoc]; rfl⟩, ⟨by have h1 := HLe.out; simp only [List.length_cons, List.length_append, List.length_nil] at h1 ⊢; omega⟩, ⟨R5.out.base HG.out B6.out⟩, O6, ⟨F5.out.below HG.out B6.out⟩⟩
   | name s =>
    simp only [kindW]
    go_wp2_with (fail)
    refine (mustName_calls s w3).mono ?_
    rintro e w4 ⟨rfl, hb⟩
    have O4 := Aside0.mk (Kd.R_below O3.out hb)
    have R4 : Aside0 (RdAt g w4 r) := ⟨R3.out.fr hb⟩
    have F4 : Aside0 (Fr g w w4) := ⟨F3.out.trans (Fr.ofB R3.out.lt hb)⟩
    clear hb k4 O3 R3 F3
    by_cases hs : s.toList = [103, 111, 110, 101]
    ·
     have hs1 : (s.toList == [103, 111, 110, 101]) = true := by rw [hs]; rfl
     have hs2 : (s.toList != [103, 111, 110, 101]) = false := by rw [hs]; rfl
     have HSg := Aside0.mk hs
     clear hs
     go_wp2_with (fail)
     refine (text_at g r w4 R4.out).mono ?_
     rintro e w5 ⟨hf5, ⟨s2, r2, rfl, rfl, hr5⟩ | ⟨hno, u, pv, rfl⟩⟩
     case inr =>
      refine ⟨rfl, F4.out.trans hf5, .inr ⟨?_, ⟨_, _, rfl⟩⟩⟩
      rw [HS.out]
      cases r with
      | nil => rfl
      | cons b r =>
       cases b with
       | text a => exact absurd rfl (hno a r)
       | nil => rfl
       | num n => rfl
       | name s => rfl
     have O5 := Aside0.mk (R_fr O4.out HG.out hf5)
     have F5 := Aside0.mk (F4.out.trans hf5)
     have R5 := Aside0.mk hr5
     clear hf5 hr5 O4 F4 R4
     go_wp2_with ((with_reducible refine gate_builtin (b := .append) (xs := #[.tmp 29, .tmp 33]) rfl ?_); (try (refine gate_guard (by rfl) ?_; dsimp only)); at_builtin; refine Kd.R_append k93 (w0 := w5) w.heap.size rfl (.tmp 29) (.tmp 33) 50 93 (.agg #[(.string ⟨#[]⟩), (.string ⟨#[]⟩), (.bool false)]) 40 rfl Tryz.underlying50 info93 rfl (by decide) (by omega) _ xs (⟨s2, ⟨#[]⟩, true⟩ : S93) [.string s2, .string ⟨#[]⟩, .bool true] (fun _ => True) (fun _ => False) rfl rfl ?aP (fun _ hk => hk.elim) (fun _ _ => trivial) O5.out (Below.refl _ _) (Nat.le_trans (Nat.le_of_lt_succ (Nat.lt_succ_of_le F5.out.1.size)) (Nat.le_refl _)) ?aL ?_; (case aP => exact k93_mkM _ _ _ _); (case aL => have h1 := HLe.out; have h2 := HL.out; simp only [List.length_cons] at h1; omega); intro v6 w6 ho hb hg hat; have O6 := Aside0.mk ho; have B6 := Aside0.mk hb; clear ho hb hg hat O5)
     go_roundg r2.length
     case measure => have h1 := HN.out; simp only [List.length_cons] at h1; omega
     case rel => exact ⟨xs ++ [⟨s2, ⟨#[]⟩, true⟩], r2, ⟨rfl⟩, ⟨by rw [HS.out, ← map_snoc, entsS, if_pos HSg.out]⟩, ⟨by have h1 := HLe.out; simp only [List.length_cons, List.length_append, List.length_nil] at h1 ⊢; omega⟩, ⟨R5.out.base HG.out B6.out⟩, O6, ⟨F5.out.below HG.out B6.out⟩⟩
    ·
     have hs1 : (s.toList == [103, 111, 110, 101]) = false := beq_eq_false_iff_ne.2 hs
     have hs2 : (s.toList != [103, 111, 110, 101]) = true := bne_iff_ne.2 hs
     have HSg := Aside0.mk hs
     clear hs
     go_wp2_with (fail)
     refine ⟨rfl, F4.out, .inr ⟨?_, ⟨_, _, rfl⟩⟩⟩
     rw [HS.out]
     cases r with
     | nil => rfl
     | cons b r =>
      cases b with
      | text a => rw [entsS, if_neg HSg.out]; rfl
      | nil => rfl
      | num n => rfl
      | name s => rfl
   | nil =>
    simp only [kindW, Wd.v]
    go_wp2_with (fail)
    refine (MustName_bad .nil (fun x h => by cases h) w3).mono ?_
    rintro e w4 ⟨⟨u, pv, rfl⟩, hb⟩
    exact ⟨rfl, F3.out.trans (Fr.ofB R3.out.lt hb), .inr ⟨by rw [HS.out]; rfl, ⟨_, _, rfl⟩⟩⟩
   | num n =>
    simp only [kindW, Wd.v]
    go_wp2_with (fail)
    refine (MustName_bad (.num n) (fun x h => by cases h) w3).mono ?_
    rintro e w4 ⟨⟨u, pv, rfl⟩, hb⟩
    exact ⟨rfl, F3.out.trans (Fr.ofB R3.out.lt hb), .inr ⟨by rw [HS.out]; rfl, ⟨_, _, rfl⟩⟩⟩
end Go.Proofs.YtlkbeddlmbghkaaGreatDoor.PR
