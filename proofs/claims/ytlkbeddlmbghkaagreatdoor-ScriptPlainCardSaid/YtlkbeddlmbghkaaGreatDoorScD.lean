/- script.read: the reader is made, the step read; a panic is caught. -/
import Derived.Test.YtlkbeddlmbghkaaGreatDoorScT
import Derived.Defers
import Derived.Recover
namespace Go.Proofs.YtlkbeddlmbghkaaGreatDoor.PR
open Go Go.Proofs Go.RowKit Go.Proofs.YtlkbeddlmbghkaaGreatDoorW.PrintWords Go.Proofs.YtlkbeddlmbghkaaGreatDoorW.PrintLast Go.Proofs.YtlkbeddlmbghkaaGreatDoorW.PrintMore
attribute [local go_sem] Wd.one Wd.run_store
set_option linter.unusedVariables false
set_option linter.unusedSimpArgs false
set_option maxRecDepth 100000

def wiped (q q1 : Nat) (w : World) : World := (((((((((((((((w.setCell ⟨q, 0, none⟩ (.int .i64 0)).setCell ⟨q, 1, none⟩ (.int .i64 0)).setCell ⟨q, 2, none⟩ (.int .i64 0)).setCell ⟨q, 3, none⟩ (.int .i64 0)).setCell ⟨q, 4, none⟩ (.string ⟨#[]⟩)).setCell ⟨q, 5, none⟩ (.string ⟨#[]⟩)).setCell ⟨q, 6, none⟩ (.slice none 0 0)).setCell ⟨q, 7, none⟩ (.string ⟨#[]⟩)).setCell ⟨q, 8, none⟩ (.string ⟨#[]⟩)).setCell ⟨q, 9, none⟩ (.bool false)).setCell ⟨q, 10, none⟩ (.int .i64 0)).setCell ⟨q, 11, none⟩ (.int .i64 0)).setCell ⟨q, 12, none⟩ (.int .i64 0)).setCell ⟨q, 13, none⟩ (.int .i64 0)).setCell ⟨q1, 0, none⟩ (.bool false))

set_option maxHeartbeats 4000000 in
theorem catch_pan (q q1 : Nat) (hne : q ≠ q1) (u : TypeId) (pv : Value) (w : World) (hq : w.heap[q]? = some (.cells #[.int .i64 0, .int .i64 0, .int .i64 0, .int .i64 0, .string ⟨#[]⟩, .string ⟨#[]⟩, .slice none 0 0, .string ⟨#[]⟩, .string ⟨#[]⟩, .bool false, .int .i64 0, .int .i64 0, .int .i64 0, .int .i64 0] 58 (0, 0))) (hq1 : w.heap[q1]? = some (.cells #[.bool false] 4 (0, 0))) :
    CallsD Tryz.prog 67 #[.pointer (some ⟨q, 0, none⟩), .pointer (some ⟨q1, 0, none⟩)] (.panicking [{ v := .iface u pv, recovered := false }]) w fun e u' w' =>
      e = .returned (.tuple #[]) ∧ u' = .panicking [{ v := .iface u pv, recovered := true }] ∧ w' = wiped q q1 w := by
  have hu48 := Tryz.underlying58
  have c0 : w.cell? ⟨q, 0, none⟩ = some (.int .i64 0) := (blk_cell hq 0).trans rfl
  have f0 := blk_frozen hq 0
  have c1 : w.cell? ⟨q, 1, none⟩ = some (.int .i64 0) := (blk_cell hq 1).trans rfl
  have f1 := blk_frozen hq 1
  have c2 : w.cell? ⟨q, 2, none⟩ = some (.int .i64 0) := (blk_cell hq 2).trans rfl
  have f2 := blk_frozen hq 2
  have c3 : w.cell? ⟨q, 3, none⟩ = some (.int .i64 0) := (blk_cell hq 3).trans rfl
  have f3 := blk_frozen hq 3
  have c4 : w.cell? ⟨q, 4, none⟩ = some (.string ⟨#[]⟩) := (blk_cell hq 4).trans rfl
  have f4 := blk_frozen hq 4
  have c5 : w.cell? ⟨q, 5, none⟩ = some (.string ⟨#[]⟩) := (blk_cell hq 5).trans rfl
  have f5 := blk_frozen hq 5
  have c6 : w.cell? ⟨q, 6, none⟩ = some (.slice none 0 0) := (blk_cell hq 6).trans rfl
  have f6 := blk_frozen hq 6
  have c7 : w.cell? ⟨q, 7, none⟩ = some (.string ⟨#[]⟩) := (blk_cell hq 7).trans rfl
  have f7 := blk_frozen hq 7
  have c8 : w.cell? ⟨q, 8, none⟩ = some (.string ⟨#[]⟩) := (blk_cell hq 8).trans rfl
  have f8 := blk_frozen hq 8
  have c9 : w.cell? ⟨q, 9, none⟩ = some (.bool false) := (blk_cell hq 9).trans rfl
  have f9 := blk_frozen hq 9
  have c10 : w.cell? ⟨q, 10, none⟩ = some (.int .i64 0) := (blk_cell hq 10).trans rfl
  have f10 := blk_frozen hq 10
  have c11 : w.cell? ⟨q, 11, none⟩ = some (.int .i64 0) := (blk_cell hq 11).trans rfl
  have f11 := blk_frozen hq 11
  have c12 : w.cell? ⟨q, 12, none⟩ = some (.int .i64 0) := (blk_cell hq 12).trans rfl
  have f12 := blk_frozen hq 12
  have c13 : w.cell? ⟨q, 13, none⟩ = some (.int .i64 0) := (blk_cell hq 13).trans rfl
  have f13 := blk_frozen hq 13
  have b0 : w.cell? ⟨q1, 0, none⟩ = some (.bool false) := (blk_cell hq1 0).trans rfl
  have g0 := blk_frozen hq1 0
  have hne' : ¬ q1 = q := fun h => hne h.symm
  refine callsD_of_wpS Tryz.func67 rfl fun c₀ cs hu => ?_
  apply wpS_seq
  apply wpS_region
  simp [wpOpsS, go_sem, recoverD, hu, Tryz.ntmps67, Exit.thenS]
  refine wpS_cond (t := true) (by simp [Act.eval, Array.replicate]) ?_
  simp only [if_true]
  apply wpS_region
  simp [wpOpsS, go_sem, c0, c1, c2, c3, c4, c5, c6, c7, c8, c9, c10, c11, c12, c13, f0, f1, f2, f3, f4, f5, f6, f7, f8, f9, f10, f11, f12, f13, b0, g0, hne, hne', bodyPostS, results, Tryz.results67, wiped]

theorem catch_idle (q q1 : Nat) (w : World) :
    CallsD Tryz.prog 67 #[.pointer (some ⟨q, 0, none⟩), .pointer (some ⟨q1, 0, none⟩)] .returning w fun e u' w' => e = .returned (.tuple #[]) ∧ u' = .returning ∧ w' = w := by
  refine callsD_of_wpS Tryz.func67 rfl fun c₀ cs hu => ?_
  apply wpS_seq
  apply wpS_region
  simp [wpOpsS, go_sem, recoverD, hu, Tryz.ntmps67, Exit.thenS]
  refine wpS_cond (t := false) (by simp [Act.eval, Array.replicate]) ?_
  simp only [Bool.false_eq_true, if_false]
  refine wpS_of_wp (wp_skip ?_)
  cases c₀
  simp_all [bodyPostS, results, Tryz.results67]

def WI (n q q1 : Nat) (w a : World) : Prop := Below n w a ∧ a.heap[q]? = some (.cells #[.int .i64 0, .int .i64 0, .int .i64 0, .int .i64 0, .string ⟨#[]⟩, .string ⟨#[]⟩, .slice none 0 0, .string ⟨#[]⟩, .string ⟨#[]⟩, .bool false, .int .i64 0, .int .i64 0, .int .i64 0, .int .i64 0] 58 (0, 0)) ∧ a.heap[q1]? = some (.cells #[.bool false] 4 (0, 0))
theorem WI.put {n q q1 : Nat} {w a : World} (h : WI n q q1 w a) (hn : n ≤ q) (hne : q ≠ q1) (i : Nat) (v : Value) (e : (#[.int .i64 0, .int .i64 0, .int .i64 0, .int .i64 0, .string ⟨#[]⟩, .string ⟨#[]⟩, .slice none 0 0, .string ⟨#[]⟩, .string ⟨#[]⟩, .bool false, .int .i64 0, .int .i64 0, .int .i64 0, .int .i64 0] : Array Value).setIfInBounds i v = #[.int .i64 0, .int .i64 0, .int .i64 0, .int .i64 0, .string ⟨#[]⟩, .string ⟨#[]⟩, .slice none 0 0, .string ⟨#[]⟩, .string ⟨#[]⟩, .bool false, .int .i64 0, .int .i64 0, .int .i64 0, .int .i64 0]) : WI n q q1 w (a.setCell ⟨q, i, none⟩ v) :=
  ⟨h.1.trans ((Below.refl n a).setCell hn _), blk_put h.2.1 i v e, (Below.heap_setCell a ⟨q, i, none⟩ v _ (Ne.symm hne)).trans h.2.2⟩
theorem wiped_wi (n q q1 : Nat) (w : World) (hn : n ≤ q) (hn1 : n ≤ q1) (hne : q ≠ q1) (hq : w.heap[q]? = some (.cells #[.int .i64 0, .int .i64 0, .int .i64 0, .int .i64 0, .string ⟨#[]⟩, .string ⟨#[]⟩, .slice none 0 0, .string ⟨#[]⟩, .string ⟨#[]⟩, .bool false, .int .i64 0, .int .i64 0, .int .i64 0, .int .i64 0] 58 (0, 0))) (hq1 : w.heap[q1]? = some (.cells #[.bool false] 4 (0, 0))) : WI n q q1 w (wiped q q1 w) := by
  have h : WI n q q1 w w := ⟨Below.refl _ _, hq, hq1⟩
  have h := h.put hn hne 0 (.int .i64 0) rfl
  have h := h.put hn hne 1 (.int .i64 0) rfl
  have h := h.put hn hne 2 (.int .i64 0) rfl
  have h := h.put hn hne 3 (.int .i64 0) rfl
  have h := h.put hn hne 4 (.string ⟨#[]⟩) rfl
  have h := h.put hn hne 5 (.string ⟨#[]⟩) rfl
  have h := h.put hn hne 6 (.slice none 0 0) rfl
  have h := h.put hn hne 7 (.string ⟨#[]⟩) rfl
  have h := h.put hn hne 8 (.string ⟨#[]⟩) rfl
  have h := h.put hn hne 9 (.bool false) rfl
  have h := h.put hn hne 10 (.int .i64 0) rfl
  have h := h.put hn hne 11 (.int .i64 0) rfl
  have h := h.put hn hne 12 (.int .i64 0) rfl
  have h := h.put hn hne 13 (.int .i64 0) rfl
  exact ⟨h.1.trans ((Below.refl n _).setCell hn1 _), (Below.heap_setCell _ ⟨q1, 0, none⟩ _ _ hne).trans h.2.1, blk_put h.2.2 0 (.bool false) rfl⟩
def WF (n q q1 m : Nat) (L : List S93) (v : Value) (cs bs : Array Value) (w a : World) : Prop := Below n w a ∧ a.heap[q]? = some (.cells cs 58 (0, 0)) ∧ a.heap[q1]? = some (.cells bs 4 (0, 0)) ∧ k93.R 93 a m (fun _ => True) v L
theorem WF.put {n q q1 m : Nat} {L : List S93} {v : Value} {cs bs : Array Value} {w a : World} (h : WF n q q1 m L v cs bs w a) (hm : q < m) (hn : n ≤ q) (hne : q ≠ q1) (i : Nat) (u : Value) (cs' : Array Value) (e : cs.setIfInBounds i u = cs') : WF n q q1 m L v cs' bs w (a.setCell ⟨q, i, none⟩ u) :=
  ⟨h.1.trans ((Below.refl n a).setCell hn _), blk_put h.2.1 i u e, (Below.heap_setCell a ⟨q, i, none⟩ u _ (Ne.symm hne)).trans h.2.2.1, R_put h.2.2.2 hm i u⟩
theorem WF.putB {n q q1 m : Nat} {L : List S93} {v : Value} {cs bs : Array Value} {w a : World} (h : WF n q q1 m L v cs bs w a) (hm : q1 < m) (hn : n ≤ q1) (hne : q ≠ q1) (i : Nat) (u : Value) (bs' : Array Value) (e : bs.setIfInBounds i u = bs') : WF n q q1 m L v cs bs' w (a.setCell ⟨q1, i, none⟩ u) :=
  ⟨h.1.trans ((Below.refl n a).setCell hn _), (Below.heap_setCell a ⟨q1, i, none⟩ u _ hne).trans h.2.1, blk_put h.2.2.1 i u e, R_put h.2.2.2 hm i u⟩
theorem read_below (w : World) (a b c : Obj) : Below w.heap.size w (((w.alloc a).alloc b).alloc c) :=
  (((Below.refl _ w).alloc (Nat.le_refl _) a).alloc (by rw [World.size_alloc]; omega) b).alloc (by rw [World.size_alloc, World.size_alloc]; omega) c
/-- The slice in hand: its words, at this world. -/
def WordsAt (w : World) (A : Option Addr) (ws : List Wd) : Prop := ∀ j b, ws[j]? = some b → ∃ a, A = some a ∧ w.cell? (a.add j) = some (Wd.v b)

set_option maxHeartbeats 4000000 in
theorem read_at (A : Option Addr) (c : Nat) (ws : List Wd) (hl : ws.length ≤ 1000000) (hc : ws.length ≤ c) (w : World) (hw : WordsAt w A ws) (hk : KAt w) (h3 : 0 < w.heap.size) :
    Calls Tryz.prog 42 #[.slice A ws.length c] w fun e w' => Below w.heap.size w w' ∧
      ((∃ x v, stepS ws = some x ∧ e = .returned (.tuple #[.agg (stepV x v), .bool true]) ∧ k93.R 93 w' w.heap.size (fun _ => True) v x.f3.f3) ∨
       (stepS ws = none ∧ e = .returned (.tuple #[.agg (stepV z58 (.slice none 0 0)), .bool false]))) := by
  have hu48 := Tryz.underlying58
  have hu46 := Tryz.underlying52
  have hu117 := Tryz.underlying121
  have hmf : ∀ (fn : Fn) (first cap : Array Value) (w : World), (Instr.makeFunc fn first cap).run Tryz.prog w = .ok (.func fn first cap) w := fun _ _ _ _ => rfl
  have HB : Aside0 (Below w.heap.size w (((w.alloc (.cells #[.int .i64 0, .int .i64 0, .int .i64 0, .int .i64 0, .string ⟨#[]⟩, .string ⟨#[]⟩, .slice none 0 0, .string ⟨#[]⟩, .string ⟨#[]⟩, .bool false, .int .i64 0, .int .i64 0, .int .i64 0, .int .i64 0] 58)).alloc (.cells #[.bool false] 4)).alloc (.cells #[.slice A ws.length c] 121))) := ⟨read_below w _ _ _⟩
  have RD : Aside0 (RdAt (w.heap.size + 2) (((w.alloc (.cells #[.int .i64 0, .int .i64 0, .int .i64 0, .int .i64 0, .string ⟨#[]⟩, .string ⟨#[]⟩, .slice none 0 0, .string ⟨#[]⟩, .string ⟨#[]⟩, .bool false, .int .i64 0, .int .i64 0, .int .i64 0, .int .i64 0] 58)).alloc (.cells #[.bool false] 4)).alloc (.cells #[.slice A ws.length c] 121)) ws) := by
    refine ⟨A, c, ?_, hc, fun j b hj => ?_⟩
    · have h1 := blk_new ((w.alloc (.cells #[.int .i64 0, .int .i64 0, .int .i64 0, .int .i64 0, .string ⟨#[]⟩, .string ⟨#[]⟩, .slice none 0 0, .string ⟨#[]⟩, .string ⟨#[]⟩, .bool false, .int .i64 0, .int .i64 0, .int .i64 0, .int .i64 0] 58)).alloc (.cells #[.bool false] 4)) (.cells #[.slice A ws.length c] 121)
      rw [World.size_alloc, World.size_alloc] at h1
      exact h1
    · obtain ⟨a, ha, hcell⟩ := hw j b hj
      have hlt := World.block_lt_of_cell? _ _ hcell
      rw [addr_block] at hlt
      exact ⟨a, ha, by omega, (HB.out.cell (p := a.add j) (by rw [addr_block]; exact hlt)).trans hcell⟩
  have BQ0 : Aside0 ((((w.alloc (.cells #[.int .i64 0, .int .i64 0, .int .i64 0, .int .i64 0, .string ⟨#[]⟩, .string ⟨#[]⟩, .slice none 0 0, .string ⟨#[]⟩, .string ⟨#[]⟩, .bool false, .int .i64 0, .int .i64 0, .int .i64 0, .int .i64 0] 58)).alloc (.cells #[.bool false] 4)).alloc (.cells #[.slice A ws.length c] 121)).heap[w.heap.size]? = some (.cells #[.int .i64 0, .int .i64 0, .int .i64 0, .int .i64 0, .string ⟨#[]⟩, .string ⟨#[]⟩, .slice none 0 0, .string ⟨#[]⟩, .string ⟨#[]⟩, .bool false, .int .i64 0, .int .i64 0, .int .i64 0, .int .i64 0] 58 (0, 0))) := ⟨blk_alloc (blk_alloc (blk_new _ _) _) _⟩
  have BP0 : Aside0 ((((w.alloc (.cells #[.int .i64 0, .int .i64 0, .int .i64 0, .int .i64 0, .string ⟨#[]⟩, .string ⟨#[]⟩, .slice none 0 0, .string ⟨#[]⟩, .string ⟨#[]⟩, .bool false, .int .i64 0, .int .i64 0, .int .i64 0, .int .i64 0] 58)).alloc (.cells #[.bool false] 4)).alloc (.cells #[.slice A ws.length c] 121)).heap[w.heap.size + 1]? = some (.cells #[.bool false] 4 (0, 0))) := ⟨by have h1 := blk_alloc (blk_new (w.alloc (.cells #[.int .i64 0, .int .i64 0, .int .i64 0, .int .i64 0, .string ⟨#[]⟩, .string ⟨#[]⟩, .slice none 0 0, .string ⟨#[]⟩, .string ⟨#[]⟩, .bool false, .int .i64 0, .int .i64 0, .int .i64 0, .int .i64 0] 58)) (.cells #[.bool false] 4)) (.cells #[.slice A ws.length c] 121); rw [World.size_alloc] at h1; exact h1⟩
  have HK : Aside0 (KAt (((w.alloc (.cells #[.int .i64 0, .int .i64 0, .int .i64 0, .int .i64 0, .string ⟨#[]⟩, .string ⟨#[]⟩, .slice none 0 0, .string ⟨#[]⟩, .string ⟨#[]⟩, .bool false, .int .i64 0, .int .i64 0, .int .i64 0, .int .i64 0] 58)).alloc (.cells #[.bool false] 4)).alloc (.cells #[.slice A ws.length c] 121))) := ⟨hk.mono h3 HB.out⟩
  have HL := Aside0.mk hl
  have H3 := Aside0.mk h3
  clear hw hk hl hc h3
  go_enter_defers Tryz.func42, Tryz.ntmps42
  go_wp2_with (fail)
  refine (step_at (w.heap.size + 2) ws HL.out _ RD.out (by have := H3.out; omega) HK.out).mono ?_
  rintro e w2 ⟨hf, ⟨x, v, hs, rfl, ho⟩ | ⟨hn, u, pv, rfl⟩⟩
  case inr =>
    have BQ : w2.heap[w.heap.size]? = some (.cells #[.int .i64 0, .int .i64 0, .int .i64 0, .int .i64 0, .string ⟨#[]⟩, .string ⟨#[]⟩, .slice none 0 0, .string ⟨#[]⟩, .string ⟨#[]⟩, .bool false, .int .i64 0, .int .i64 0, .int .i64 0, .int .i64 0] 58 (0, 0)) := (hf.2 _ (blk_lt BQ0.out) (by omega)).trans BQ0.out
    have BP : w2.heap[w.heap.size + 1]? = some (.cells #[.bool false] 4 (0, 0)) := (hf.2 _ (blk_lt BP0.out) (by omega)).trans BP0.out
    have hW := wiped_wi w.heap.size w.heap.size (w.heap.size + 1) w2 (Nat.le_refl _) (Nat.le_succ _) (by omega) BQ BP
    have hBe : Below w.heap.size w (wiped w.heap.size (w.heap.size + 1) w2) := (HB.out.trans (hf.1.mono (by omega))).trans hW.1
    have hz0 : (wiped w.heap.size (w.heap.size + 1) w2).cell? ⟨w.heap.size, 0, none⟩ = some (.int .i64 0) := (blk_cell hW.2.1 0).trans rfl
    have hz1 : (wiped w.heap.size (w.heap.size + 1) w2).cell? ⟨w.heap.size, 1, none⟩ = some (.int .i64 0) := (blk_cell hW.2.1 1).trans rfl
    have hz2 : (wiped w.heap.size (w.heap.size + 1) w2).cell? ⟨w.heap.size, 2, none⟩ = some (.int .i64 0) := (blk_cell hW.2.1 2).trans rfl
    have hz3 : (wiped w.heap.size (w.heap.size + 1) w2).cell? ⟨w.heap.size, 3, none⟩ = some (.int .i64 0) := (blk_cell hW.2.1 3).trans rfl
    have hz4 : (wiped w.heap.size (w.heap.size + 1) w2).cell? ⟨w.heap.size, 4, none⟩ = some (.string ⟨#[]⟩) := (blk_cell hW.2.1 4).trans rfl
    have hz5 : (wiped w.heap.size (w.heap.size + 1) w2).cell? ⟨w.heap.size, 5, none⟩ = some (.string ⟨#[]⟩) := (blk_cell hW.2.1 5).trans rfl
    have hz6 : (wiped w.heap.size (w.heap.size + 1) w2).cell? ⟨w.heap.size, 6, none⟩ = some (.slice none 0 0) := (blk_cell hW.2.1 6).trans rfl
    have hz7 : (wiped w.heap.size (w.heap.size + 1) w2).cell? ⟨w.heap.size, 7, none⟩ = some (.string ⟨#[]⟩) := (blk_cell hW.2.1 7).trans rfl
    have hz8 : (wiped w.heap.size (w.heap.size + 1) w2).cell? ⟨w.heap.size, 8, none⟩ = some (.string ⟨#[]⟩) := (blk_cell hW.2.1 8).trans rfl
    have hz9 : (wiped w.heap.size (w.heap.size + 1) w2).cell? ⟨w.heap.size, 9, none⟩ = some (.bool false) := (blk_cell hW.2.1 9).trans rfl
    have hz10 : (wiped w.heap.size (w.heap.size + 1) w2).cell? ⟨w.heap.size, 10, none⟩ = some (.int .i64 0) := (blk_cell hW.2.1 10).trans rfl
    have hz11 : (wiped w.heap.size (w.heap.size + 1) w2).cell? ⟨w.heap.size, 11, none⟩ = some (.int .i64 0) := (blk_cell hW.2.1 11).trans rfl
    have hz12 : (wiped w.heap.size (w.heap.size + 1) w2).cell? ⟨w.heap.size, 12, none⟩ = some (.int .i64 0) := (blk_cell hW.2.1 12).trans rfl
    have hz13 : (wiped w.heap.size (w.heap.size + 1) w2).cell? ⟨w.heap.size, 13, none⟩ = some (.int .i64 0) := (blk_cell hW.2.1 13).trans rfl
    have hc1 : (wiped w.heap.size (w.heap.size + 1) w2).cell? ⟨w.heap.size + 1, 0, none⟩ = some (.bool false) := (blk_cell hW.2.2 0).trans rfl
    refine leaves_cons (f := 67) (args := #[.pointer (some ⟨w.heap.size, 0, none⟩), .pointer (some ⟨w.heap.size + 1, 0, none⟩)]) (by simp) (by simp [go_sem]) ?_
    refine (catch_pan w.heap.size (w.heap.size + 1) (by omega) u pv w2 BQ BP).mono ?_
    rintro e u' w'' ⟨rfl, rfl, rfl⟩
    simp [Leaves, settle, results, Tryz.results42, go_sem, hu48, hz0, hz1, hz2, hz3, hz4, hz5, hz6, hz7, hz8, hz9, hz10, hz11, hz12, hz13, hc1, hBe, hn, stepV, z58, z52]
  · have BQ : w2.heap[w.heap.size]? = some (.cells #[.int .i64 0, .int .i64 0, .int .i64 0, .int .i64 0, .string ⟨#[]⟩, .string ⟨#[]⟩, .slice none 0 0, .string ⟨#[]⟩, .string ⟨#[]⟩, .bool false, .int .i64 0, .int .i64 0, .int .i64 0, .int .i64 0] 58 (0, 0)) := (hf.2 _ (blk_lt BQ0.out) (by omega)).trans BQ0.out
    have BP : w2.heap[w.heap.size + 1]? = some (.cells #[.bool false] 4 (0, 0)) := (hf.2 _ (blk_lt BP0.out) (by omega)).trans BP0.out
    obtain ⟨Ao, co, ev⟩ := Kd.R_slice ho
    subst ev
    have HBe : Aside0 (Below w.heap.size w w2) := ⟨HB.out.trans (hf.1.mono (by omega))⟩
    have HO := Aside0.mk ho
    have HS := Aside0.mk hs
    have HSZ : Aside0 (w.heap.size + 2 < w2.heap.size) := ⟨Nat.lt_of_lt_of_le RD.out.lt hf.1.size⟩
    have c0 : w2.cell? ⟨w.heap.size, 0, none⟩ = some (.int .i64 0) := (blk_cell BQ 0).trans rfl
    have f0 : w2.frozen? ⟨w.heap.size, 0, none⟩ = false := blk_frozen BQ 0
    have c1 : w2.cell? ⟨w.heap.size, 1, none⟩ = some (.int .i64 0) := (blk_cell BQ 1).trans rfl
    have f1 : w2.frozen? ⟨w.heap.size, 1, none⟩ = false := blk_frozen BQ 1
    have c2 : w2.cell? ⟨w.heap.size, 2, none⟩ = some (.int .i64 0) := (blk_cell BQ 2).trans rfl
    have f2 : w2.frozen? ⟨w.heap.size, 2, none⟩ = false := blk_frozen BQ 2
    have c3 : w2.cell? ⟨w.heap.size, 3, none⟩ = some (.int .i64 0) := (blk_cell BQ 3).trans rfl
    have f3 : w2.frozen? ⟨w.heap.size, 3, none⟩ = false := blk_frozen BQ 3
    have c4 : w2.cell? ⟨w.heap.size, 4, none⟩ = some (.string ⟨#[]⟩) := (blk_cell BQ 4).trans rfl
    have f4 : w2.frozen? ⟨w.heap.size, 4, none⟩ = false := blk_frozen BQ 4
    have c5 : w2.cell? ⟨w.heap.size, 5, none⟩ = some (.string ⟨#[]⟩) := (blk_cell BQ 5).trans rfl
    have f5 : w2.frozen? ⟨w.heap.size, 5, none⟩ = false := blk_frozen BQ 5
    have c6 : w2.cell? ⟨w.heap.size, 6, none⟩ = some (.slice none 0 0) := (blk_cell BQ 6).trans rfl
    have f6 : w2.frozen? ⟨w.heap.size, 6, none⟩ = false := blk_frozen BQ 6
    have c7 : w2.cell? ⟨w.heap.size, 7, none⟩ = some (.string ⟨#[]⟩) := (blk_cell BQ 7).trans rfl
    have f7 : w2.frozen? ⟨w.heap.size, 7, none⟩ = false := blk_frozen BQ 7
    have c8 : w2.cell? ⟨w.heap.size, 8, none⟩ = some (.string ⟨#[]⟩) := (blk_cell BQ 8).trans rfl
    have f8 : w2.frozen? ⟨w.heap.size, 8, none⟩ = false := blk_frozen BQ 8
    have c9 : w2.cell? ⟨w.heap.size, 9, none⟩ = some (.bool false) := (blk_cell BQ 9).trans rfl
    have f9 : w2.frozen? ⟨w.heap.size, 9, none⟩ = false := blk_frozen BQ 9
    have c10 : w2.cell? ⟨w.heap.size, 10, none⟩ = some (.int .i64 0) := (blk_cell BQ 10).trans rfl
    have f10 : w2.frozen? ⟨w.heap.size, 10, none⟩ = false := blk_frozen BQ 10
    have c11 : w2.cell? ⟨w.heap.size, 11, none⟩ = some (.int .i64 0) := (blk_cell BQ 11).trans rfl
    have f11 : w2.frozen? ⟨w.heap.size, 11, none⟩ = false := blk_frozen BQ 11
    have c12 : w2.cell? ⟨w.heap.size, 12, none⟩ = some (.int .i64 0) := (blk_cell BQ 12).trans rfl
    have f12 : w2.frozen? ⟨w.heap.size, 12, none⟩ = false := blk_frozen BQ 12
    have c13 : w2.cell? ⟨w.heap.size, 13, none⟩ = some (.int .i64 0) := (blk_cell BQ 13).trans rfl
    have f13 : w2.frozen? ⟨w.heap.size, 13, none⟩ = false := blk_frozen BQ 13
    have b0 : w2.cell? ⟨w.heap.size + 1, 0, none⟩ = some (.bool false) := (blk_cell BP 0).trans rfl
    have g0 : w2.frozen? ⟨w.heap.size + 1, 0, none⟩ = false := blk_frozen BP 0
    have HBQ := Aside0.mk BQ
    have HBP := Aside0.mk BP
    clear hf hs ho BQ BP
    simp only [stepV]
    go_wp2_with (fail)
    have h : WF w.heap.size w.heap.size (w.heap.size + 1) (w.heap.size + 2) x.f3.f3 (.slice Ao x.f3.f3.length co) #[.int .i64 0, .int .i64 0, .int .i64 0, .int .i64 0, .string ⟨#[]⟩, .string ⟨#[]⟩, .slice none 0 0, .string ⟨#[]⟩, .string ⟨#[]⟩, .bool false, .int .i64 0, .int .i64 0, .int .i64 0, .int .i64 0] #[.bool false] w w2 := ⟨HBe.out, HBQ.out, HBP.out, Kd.R_lower HO.out (Nat.le_of_lt RD.out.lt)⟩
    replace h := h.put (by omega) (Nat.le_refl _) (by omega) 0 (.int .i64 x.f0) #[.int .i64 x.f0, .int .i64 0, .int .i64 0, .int .i64 0, .string ⟨#[]⟩, .string ⟨#[]⟩, .slice none 0 0, .string ⟨#[]⟩, .string ⟨#[]⟩, .bool false, .int .i64 0, .int .i64 0, .int .i64 0, .int .i64 0] rfl
    replace h := h.put (by omega) (Nat.le_refl _) (by omega) 1 (.int .i64 x.f1) #[.int .i64 x.f0, .int .i64 x.f1, .int .i64 0, .int .i64 0, .string ⟨#[]⟩, .string ⟨#[]⟩, .slice none 0 0, .string ⟨#[]⟩, .string ⟨#[]⟩, .bool false, .int .i64 0, .int .i64 0, .int .i64 0, .int .i64 0] rfl
    replace h := h.put (by omega) (Nat.le_refl _) (by omega) 2 (.int .i64 x.f2) #[.int .i64 x.f0, .int .i64 x.f1, .int .i64 x.f2, .int .i64 0, .string ⟨#[]⟩, .string ⟨#[]⟩, .slice none 0 0, .string ⟨#[]⟩, .string ⟨#[]⟩, .bool false, .int .i64 0, .int .i64 0, .int .i64 0, .int .i64 0] rfl
    replace h := h.put (by omega) (Nat.le_refl _) (by omega) 3 (.int .i64 x.f3.f0) #[.int .i64 x.f0, .int .i64 x.f1, .int .i64 x.f2, .int .i64 x.f3.f0, .string ⟨#[]⟩, .string ⟨#[]⟩, .slice none 0 0, .string ⟨#[]⟩, .string ⟨#[]⟩, .bool false, .int .i64 0, .int .i64 0, .int .i64 0, .int .i64 0] rfl
    replace h := h.put (by omega) (Nat.le_refl _) (by omega) 4 (.string x.f3.f1) #[.int .i64 x.f0, .int .i64 x.f1, .int .i64 x.f2, .int .i64 x.f3.f0, .string x.f3.f1, .string ⟨#[]⟩, .slice none 0 0, .string ⟨#[]⟩, .string ⟨#[]⟩, .bool false, .int .i64 0, .int .i64 0, .int .i64 0, .int .i64 0] rfl
    replace h := h.put (by omega) (Nat.le_refl _) (by omega) 5 (.string x.f3.f2) #[.int .i64 x.f0, .int .i64 x.f1, .int .i64 x.f2, .int .i64 x.f3.f0, .string x.f3.f1, .string x.f3.f2, .slice none 0 0, .string ⟨#[]⟩, .string ⟨#[]⟩, .bool false, .int .i64 0, .int .i64 0, .int .i64 0, .int .i64 0] rfl
    replace h := h.put (by omega) (Nat.le_refl _) (by omega) 6 (.slice Ao x.f3.f3.length co) #[.int .i64 x.f0, .int .i64 x.f1, .int .i64 x.f2, .int .i64 x.f3.f0, .string x.f3.f1, .string x.f3.f2, .slice Ao x.f3.f3.length co, .string ⟨#[]⟩, .string ⟨#[]⟩, .bool false, .int .i64 0, .int .i64 0, .int .i64 0, .int .i64 0] rfl
    replace h := h.put (by omega) (Nat.le_refl _) (by omega) 7 (.string x.f3.f4) #[.int .i64 x.f0, .int .i64 x.f1, .int .i64 x.f2, .int .i64 x.f3.f0, .string x.f3.f1, .string x.f3.f2, .slice Ao x.f3.f3.length co, .string x.f3.f4, .string ⟨#[]⟩, .bool false, .int .i64 0, .int .i64 0, .int .i64 0, .int .i64 0] rfl
    replace h := h.put (by omega) (Nat.le_refl _) (by omega) 8 (.string x.f3.f5) #[.int .i64 x.f0, .int .i64 x.f1, .int .i64 x.f2, .int .i64 x.f3.f0, .string x.f3.f1, .string x.f3.f2, .slice Ao x.f3.f3.length co, .string x.f3.f4, .string x.f3.f5, .bool false, .int .i64 0, .int .i64 0, .int .i64 0, .int .i64 0] rfl
    replace h := h.put (by omega) (Nat.le_refl _) (by omega) 9 (.bool x.f3.f6) #[.int .i64 x.f0, .int .i64 x.f1, .int .i64 x.f2, .int .i64 x.f3.f0, .string x.f3.f1, .string x.f3.f2, .slice Ao x.f3.f3.length co, .string x.f3.f4, .string x.f3.f5, .bool x.f3.f6, .int .i64 0, .int .i64 0, .int .i64 0, .int .i64 0] rfl
    replace h := h.put (by omega) (Nat.le_refl _) (by omega) 10 (.int .i64 x.f3.f7) #[.int .i64 x.f0, .int .i64 x.f1, .int .i64 x.f2, .int .i64 x.f3.f0, .string x.f3.f1, .string x.f3.f2, .slice Ao x.f3.f3.length co, .string x.f3.f4, .string x.f3.f5, .bool x.f3.f6, .int .i64 x.f3.f7, .int .i64 0, .int .i64 0, .int .i64 0] rfl
    replace h := h.put (by omega) (Nat.le_refl _) (by omega) 11 (.int .i64 x.f3.f8) #[.int .i64 x.f0, .int .i64 x.f1, .int .i64 x.f2, .int .i64 x.f3.f0, .string x.f3.f1, .string x.f3.f2, .slice Ao x.f3.f3.length co, .string x.f3.f4, .string x.f3.f5, .bool x.f3.f6, .int .i64 x.f3.f7, .int .i64 x.f3.f8, .int .i64 0, .int .i64 0] rfl
    replace h := h.put (by omega) (Nat.le_refl _) (by omega) 12 (.int .i64 x.f3.f9) #[.int .i64 x.f0, .int .i64 x.f1, .int .i64 x.f2, .int .i64 x.f3.f0, .string x.f3.f1, .string x.f3.f2, .slice Ao x.f3.f3.length co, .string x.f3.f4, .string x.f3.f5, .bool x.f3.f6, .int .i64 x.f3.f7, .int .i64 x.f3.f8, .int .i64 x.f3.f9, .int .i64 0] rfl
    replace h := h.put (by omega) (Nat.le_refl _) (by omega) 13 (.int .i64 x.f3.f10) #[.int .i64 x.f0, .int .i64 x.f1, .int .i64 x.f2, .int .i64 x.f3.f0, .string x.f3.f1, .string x.f3.f2, .slice Ao x.f3.f3.length co, .string x.f3.f4, .string x.f3.f5, .bool x.f3.f6, .int .i64 x.f3.f7, .int .i64 x.f3.f8, .int .i64 x.f3.f9, .int .i64 x.f3.f10] rfl
    replace h := h.putB (by omega) (Nat.le_succ _) (by omega) 0 (.bool true) #[.bool true] rfl
    generalize World.setCell _ ⟨w.heap.size + 1, 0, none⟩ (.bool true) = wf at h ⊢
    have HF := Aside0.mk h
    have hz0 : wf.cell? ⟨w.heap.size, 0, none⟩ = some (.int .i64 x.f0) := (blk_cell HF.out.2.1 0).trans rfl
    have hz1 : wf.cell? ⟨w.heap.size, 1, none⟩ = some (.int .i64 x.f1) := (blk_cell HF.out.2.1 1).trans rfl
    have hz2 : wf.cell? ⟨w.heap.size, 2, none⟩ = some (.int .i64 x.f2) := (blk_cell HF.out.2.1 2).trans rfl
    have hz3 : wf.cell? ⟨w.heap.size, 3, none⟩ = some (.int .i64 x.f3.f0) := (blk_cell HF.out.2.1 3).trans rfl
    have hz4 : wf.cell? ⟨w.heap.size, 4, none⟩ = some (.string x.f3.f1) := (blk_cell HF.out.2.1 4).trans rfl
    have hz5 : wf.cell? ⟨w.heap.size, 5, none⟩ = some (.string x.f3.f2) := (blk_cell HF.out.2.1 5).trans rfl
    have hz6 : wf.cell? ⟨w.heap.size, 6, none⟩ = some (.slice Ao x.f3.f3.length co) := (blk_cell HF.out.2.1 6).trans rfl
    have hz7 : wf.cell? ⟨w.heap.size, 7, none⟩ = some (.string x.f3.f4) := (blk_cell HF.out.2.1 7).trans rfl
    have hz8 : wf.cell? ⟨w.heap.size, 8, none⟩ = some (.string x.f3.f5) := (blk_cell HF.out.2.1 8).trans rfl
    have hz9 : wf.cell? ⟨w.heap.size, 9, none⟩ = some (.bool x.f3.f6) := (blk_cell HF.out.2.1 9).trans rfl
    have hz10 : wf.cell? ⟨w.heap.size, 10, none⟩ = some (.int .i64 x.f3.f7) := (blk_cell HF.out.2.1 10).trans rfl
    have hz11 : wf.cell? ⟨w.heap.size, 11, none⟩ = some (.int .i64 x.f3.f8) := (blk_cell HF.out.2.1 11).trans rfl
    have hz12 : wf.cell? ⟨w.heap.size, 12, none⟩ = some (.int .i64 x.f3.f9) := (blk_cell HF.out.2.1 12).trans rfl
    have hz13 : wf.cell? ⟨w.heap.size, 13, none⟩ = some (.int .i64 x.f3.f10) := (blk_cell HF.out.2.1 13).trans rfl
    have hc1 : wf.cell? ⟨w.heap.size + 1, 0, none⟩ = some (.bool true) := (blk_cell HF.out.2.2.1 0).trans rfl
    have hR : k93.R 93 wf w.heap.size (fun _ => True) (.slice Ao x.f3.f3.length co) x.f3.f3 := Kd.R_lower HF.out.2.2.2 (by omega)
    have hBw := HF.out.1
    have hS := HS.out
    refine leaves_cons (f := 67) (args := #[.pointer (some ⟨w.heap.size, 0, none⟩), .pointer (some ⟨w.heap.size + 1, 0, none⟩)]) (by simp) (by simp [go_sem]) ?_
    refine (catch_idle w.heap.size (w.heap.size + 1) wf).mono ?_
    rintro e u' w'' ⟨rfl, rfl, rfl⟩
    simp [Leaves, settle, results, Tryz.results42, go_sem, hu48, hz0, hz1, hz2, hz3, hz4, hz5, hz6, hz7, hz8, hz9, hz10, hz11, hz12, hz13, hc1, hBw, hS]
    exact ⟨_, rfl, hR⟩
end Go.Proofs.YtlkbeddlmbghkaaGreatDoor.PR
