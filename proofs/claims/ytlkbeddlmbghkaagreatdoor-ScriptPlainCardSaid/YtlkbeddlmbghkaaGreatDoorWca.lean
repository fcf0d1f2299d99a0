/- script.words' call, all kinds but a batch. -/
import Derived.Test.YtlkbeddlmbghkaaGreatDoorWr
namespace Go.Proofs.YtlkbeddlmbghkaaGreatDoor.PR
open Go Go.Proofs Go.RowKit Go.Proofs.YtlkbeddlmbghkaaGreatDoorW.PrintWords Go.Proofs.YtlkbeddlmbghkaaGreatDoorW.PrintLast Go.Proofs.YtlkbeddlmbghkaaGreatDoorW.PrintMore
attribute [local go_sem] Wd.one Wd.run_store
set_option linter.unusedVariables false
set_option linter.unusedSimpArgs false
set_option maxRecDepth 100000

set_option maxHeartbeats 8000000 in
theorem wcall0_at (g : Nat) (o : Option Nat) (x : CallT) (v : Value) (hv : v = v) (L : List Wd) (hl : L.length ≤ 990000) (w : World) (hKt : KAt w) (h3 : 0 < g) (h : WrAt g o w L) (hk : x.f0 < 1 ∨ 10 < x.f0) :
  Calls Tryz.prog 50 #[.pointer (some ⟨g, 0, none⟩), .agg (callV x v)] w fun e w' => e = .returned (.tuple #[]) ∧ ∃ o', WrAt g o' w' (L ++ callW x) ∧ Fw g o w w' ∧ Gw o o' w := by
 have hu52 := Tryz.underlying52
 have hu95 := Tryz.underlying95
 have H := Aside0.mk h
 have HL := Aside0.mk hl
 have HKt := Aside0.mk hKt
 have HK0 := Aside0.mk hk
 clear hk
 have hgl := h.lt
 have hpo := h.own (Nat.le_refl w.heap.size)
 clear h hl hKt
 go_enter Tryz.func50, Tryz.ntmps50
 go_upto_region 1 with (fail)
 have B1 := Aside0.mk (blk_new w (.cells (callV x v) 52))
 have ab1 : Below w.heap.size w (w.alloc (.cells (callV x v) 52)) := (Below.refl _ _).alloc (Nat.le_refl _) _
 have W1 := Aside0.mk (H.out.below ab1)
 have F1 := Aside0.mk (Fw.below (o := o) (Nat.le_of_lt hgl) ab1)
 change Code.wp _ _ _ _ (w.alloc (.cells (callV x v) 52))
 have HS := Aside0.mk ab1.size
 obtain ⟨p, hp⟩ : ∃ p, p = w.heap.size := ⟨_, rfl⟩
 have hpg : p ≠ g := by omega
 have hpo : some p ≠ o := by rw [hp]; exact hpo
 rw [← hp] at B1 ⊢
 generalize (w.alloc (.cells (callV x v) 52)) = w1 at *
 clear ab1 hp
 have c0 : w1.cell? ⟨p, 0, none⟩ = some (.int .i64 x.f0) := (blk_cell B1.out 0).trans rfl
 go_wp2_with (fail)
 refine (sname_at x.f0 w1 (HKt.out.mono h3 F1.out.1)).mono ?_
 rintro e wn ⟨rfl, hbn⟩
 have Bn := Aside0.mk (blk_below B1.out hbn)
 have Wn := Aside0.mk (W1.out.below hbn)
 have Fn := Aside0.mk (F1.out.trans (Fw.below (o := o) (Nat.le_of_lt W1.out.lt) hbn) (.inl rfl))
 clear c0 hbn
 go_wp2_with (fail)
 refine (wname_at g o (nameL x.f0) L (by have := HL.out; omega) wn Wn.out).mono ?_
 rintro e w2 ⟨rfl, o2, hW2, hF2, hG2⟩
 have B2 := Aside0.mk ((hF2.2 p (blk_lt Bn.out) hpg hpo).trans Bn.out)
 have hpo2 : some p ≠ o2 := by
  rcases hG2 with rfl | ⟨b, rfl, hb⟩
  ·
   exact hpo
  ·
   intro e; injection e with e; have := blk_lt Bn.out; omega
 have W2 := Aside0.mk hW2
 have F2 := Aside0.mk (Fn.out.trans hF2 (.inl rfl))
 have G2 : Aside0 (Gw o o2 w) := ⟨Gw.trans (.inl rfl) hG2 Fn.out.1.size⟩
 clear hW2 hF2 hG2
 have e1 : (x.f0 == 1) = false := beq_eq_false_iff_ne.2 (by have := HK0.out; omega)
 have g1 : (x.f0 = 1) = False := eq_false (by have := HK0.out; omega)
 have e2 : (x.f0 == 2) = false := beq_eq_false_iff_ne.2 (by have := HK0.out; omega)
 have g2 : (x.f0 = 2) = False := eq_false (by have := HK0.out; omega)
 have e3 : (x.f0 == 3) = false := beq_eq_false_iff_ne.2 (by have := HK0.out; omega)
 have g3 : (x.f0 = 3) = False := eq_false (by have := HK0.out; omega)
 have e4 : (x.f0 == 4) = false := beq_eq_false_iff_ne.2 (by have := HK0.out; omega)
 have g4 : (x.f0 = 4) = False := eq_false (by have := HK0.out; omega)
 have e8 : (x.f0 == 8) = false := beq_eq_false_iff_ne.2 (by have := HK0.out; omega)
 have g8 : (x.f0 = 8) = False := eq_false (by have := HK0.out; omega)
 have e5 : (x.f0 == 5) = false := beq_eq_false_iff_ne.2 (by have := HK0.out; omega)
 have g5 : (x.f0 = 5) = False := eq_false (by have := HK0.out; omega)
 have e7 : (x.f0 == 7) = false := beq_eq_false_iff_ne.2 (by have := HK0.out; omega)
 have g7 : (x.f0 = 7) = False := eq_false (by have := HK0.out; omega)
 have e9 : (x.f0 == 9) = false := beq_eq_false_iff_ne.2 (by have := HK0.out; omega)
 have g9 : (x.f0 = 9) = False := eq_false (by have := HK0.out; omega)
 have c0 : w2.cell? ⟨p, 0, none⟩ = some (.int .i64 x.f0) := (blk_cell B2.out 0).trans rfl
 go_wp2_with (fail)
 refine bodyPost_end (results_none rfl _ _ _) rfl ?_
 refine ⟨rfl, o2, ?_, F2.out, G2.out⟩
 have hW := W2.out
 skip
 have ea : argsW x = [] := by unfold argsW; simp [g1, g2, g3, g4, g8, g5, g7, g9]
 unfold callW
 rw [ea]
 exact hW
end Go.Proofs.YtlkbeddlmbghkaaGreatDoor.PR

namespace Go.Proofs.YtlkbeddlmbghkaaGreatDoor.PR
open Go Go.Proofs Go.RowKit Go.Proofs.YtlkbeddlmbghkaaGreatDoorW.PrintWords Go.Proofs.YtlkbeddlmbghkaaGreatDoorW.PrintLast Go.Proofs.YtlkbeddlmbghkaaGreatDoorW.PrintMore
attribute [local go_sem] Wd.one Wd.run_store
set_option linter.unusedVariables false
set_option linter.unusedSimpArgs false
set_option maxRecDepth 100000

set_option maxHeartbeats 8000000 in
theorem wcall1_at (g : Nat) (o : Option Nat) (x : CallT) (v : Value) (hv : v = v) (L : List Wd) (hl : L.length ≤ 990000) (w : World) (hKt : KAt w) (h3 : 0 < g) (h : WrAt g o w L) (hk : x.f0 = 1) :
  Calls Tryz.prog 50 #[.pointer (some ⟨g, 0, none⟩), .agg (callV x v)] w fun e w' => e = .returned (.tuple #[]) ∧ ∃ o', WrAt g o' w' (L ++ callW x) ∧ Fw g o w w' ∧ Gw o o' w := by
 have hu52 := Tryz.underlying52
 have hu95 := Tryz.underlying95
 have H := Aside0.mk h
 have HL := Aside0.mk hl
 have HKt := Aside0.mk hKt
 have HK0 := Aside0.mk hk
 clear hk
 have hgl := h.lt
 have hpo := h.own (Nat.le_refl w.heap.size)
 clear h hl hKt
 go_enter Tryz.func50, Tryz.ntmps50
 go_upto_region 1 with (fail)
 have B1 := Aside0.mk (blk_new w (.cells (callV x v) 52))
 have ab1 : Below w.heap.size w (w.alloc (.cells (callV x v) 52)) := (Below.refl _ _).alloc (Nat.le_refl _) _
 have W1 := Aside0.mk (H.out.below ab1)
 have F1 := Aside0.mk (Fw.below (o := o) (Nat.le_of_lt hgl) ab1)
 change Code.wp _ _ _ _ (w.alloc (.cells (callV x v) 52))
 have HS := Aside0.mk ab1.size
 obtain ⟨p, hp⟩ : ∃ p, p = w.heap.size := ⟨_, rfl⟩
 have hpg : p ≠ g := by omega
 have hpo : some p ≠ o := by rw [hp]; exact hpo
 rw [← hp] at B1 ⊢
 generalize (w.alloc (.cells (callV x v) 52)) = w1 at *
 clear ab1 hp
 have c0 : w1.cell? ⟨p, 0, none⟩ = some (.int .i64 x.f0) := (blk_cell B1.out 0).trans rfl
 go_wp2_with (fail)
 refine (sname_at x.f0 w1 (HKt.out.mono h3 F1.out.1)).mono ?_
 rintro e wn ⟨rfl, hbn⟩
 have Bn := Aside0.mk (blk_below B1.out hbn)
 have Wn := Aside0.mk (W1.out.below hbn)
 have Fn := Aside0.mk (F1.out.trans (Fw.below (o := o) (Nat.le_of_lt W1.out.lt) hbn) (.inl rfl))
 clear c0 hbn
 go_wp2_with (fail)
 refine (wname_at g o (nameL x.f0) L (by have := HL.out; omega) wn Wn.out).mono ?_
 rintro e w2 ⟨rfl, o2, hW2, hF2, hG2⟩
 have B2 := Aside0.mk ((hF2.2 p (blk_lt Bn.out) hpg hpo).trans Bn.out)
 have hpo2 : some p ≠ o2 := by
  rcases hG2 with rfl | ⟨b, rfl, hb⟩
  ·
   exact hpo
  ·
   intro e; injection e with e; have := blk_lt Bn.out; omega
 have W2 := Aside0.mk hW2
 have F2 := Aside0.mk (Fn.out.trans hF2 (.inl rfl))
 have G2 : Aside0 (Gw o o2 w) := ⟨Gw.trans (.inl rfl) hG2 Fn.out.1.size⟩
 clear hW2 hF2 hG2
 have c0 : w2.cell? ⟨p, 0, none⟩ = some (.int .i64 1) := (blk_cell B2.out 0).trans (by rw [← HK0.out]; rfl)
 have d2_1 : w2.cell? ⟨p, 1, none⟩ = some (.string x.f1) := (blk_cell B2.out 1).trans rfl
 go_wp2_with (fail)
 refine (wtext1 g o2 x.f1 (L ++ [.name (nameL x.f0)]) (by have := HL.out; simp only [List.length_append, List.length_cons, List.length_nil]; omega) w2 W2.out).mono ?_
 rintro e w3 ⟨rfl, o3, hW, hF, hG⟩
 have B3 := Aside0.mk ((hF.2 p (blk_lt B2.out) hpg hpo2).trans B2.out)
 have hpo3 : some p ≠ o3 := by
  rcases hG with rfl | ⟨b, rfl, hb⟩
  ·
   exact hpo2
  ·
   intro e; injection e with e; have := blk_lt B2.out; omega
 have W3 := Aside0.mk hW
 have F3 := Aside0.mk (F2.out.trans hF G2.out)
 have G3 := Aside0.mk (G2.out.trans hG F2.out.1.size)
 clear hW hF hG d2_1 c0
 go_wp2_with (fail)
 refine bodyPost_end (results_none rfl _ _ _) rfl ?_
 refine ⟨rfl, o3, ?_, F3.out, G3.out⟩
 have hW := W3.out
 simp only [List.append_assoc, List.cons_append, List.nil_append] at hW
 have ea : argsW x = [.text x.f1] := by unfold argsW; simp [HK0.out]
 unfold callW
 rw [ea]
 exact hW
end Go.Proofs.YtlkbeddlmbghkaaGreatDoor.PR

namespace Go.Proofs.YtlkbeddlmbghkaaGreatDoor.PR
open Go Go.Proofs Go.RowKit Go.Proofs.YtlkbeddlmbghkaaGreatDoorW.PrintWords Go.Proofs.YtlkbeddlmbghkaaGreatDoorW.PrintLast Go.Proofs.YtlkbeddlmbghkaaGreatDoorW.PrintMore
attribute [local go_sem] Wd.one Wd.run_store
set_option linter.unusedVariables false
set_option linter.unusedSimpArgs false
set_option maxRecDepth 100000

set_option maxHeartbeats 8000000 in
theorem wcall2_at (g : Nat) (o : Option Nat) (x : CallT) (v : Value) (hv : v = v) (L : List Wd) (hl : L.length ≤ 990000) (w : World) (hKt : KAt w) (h3 : 0 < g) (h : WrAt g o w L) (hk : x.f0 = 2) :
  Calls Tryz.prog 50 #[.pointer (some ⟨g, 0, none⟩), .agg (callV x v)] w fun e w' => e = .returned (.tuple #[]) ∧ ∃ o', WrAt g o' w' (L ++ callW x) ∧ Fw g o w w' ∧ Gw o o' w := by
 have hu52 := Tryz.underlying52
 have hu95 := Tryz.underlying95
 have H := Aside0.mk h
 have HL := Aside0.mk hl
 have HKt := Aside0.mk hKt
 have HK0 := Aside0.mk hk
 clear hk
 have hgl := h.lt
 have hpo := h.own (Nat.le_refl w.heap.size)
 clear h hl hKt
 go_enter Tryz.func50, Tryz.ntmps50
 go_upto_region 1 with (fail)
 have B1 := Aside0.mk (blk_new w (.cells (callV x v) 52))
 have ab1 : Below w.heap.size w (w.alloc (.cells (callV x v) 52)) := (Below.refl _ _).alloc (Nat.le_refl _) _
 have W1 := Aside0.mk (H.out.below ab1)
 have F1 := Aside0.mk (Fw.below (o := o) (Nat.le_of_lt hgl) ab1)
 change Code.wp _ _ _ _ (w.alloc (.cells (callV x v) 52))
 have HS := Aside0.mk ab1.size
 obtain ⟨p, hp⟩ : ∃ p, p = w.heap.size := ⟨_, rfl⟩
 have hpg : p ≠ g := by omega
 have hpo : some p ≠ o := by rw [hp]; exact hpo
 rw [← hp] at B1 ⊢
 generalize (w.alloc (.cells (callV x v) 52)) = w1 at *
 clear ab1 hp
 have c0 : w1.cell? ⟨p, 0, none⟩ = some (.int .i64 x.f0) := (blk_cell B1.out 0).trans rfl
 go_wp2_with (fail)
 refine (sname_at x.f0 w1 (HKt.out.mono h3 F1.out.1)).mono ?_
 rintro e wn ⟨rfl, hbn⟩
 have Bn := Aside0.mk (blk_below B1.out hbn)
 have Wn := Aside0.mk (W1.out.below hbn)
 have Fn := Aside0.mk (F1.out.trans (Fw.below (o := o) (Nat.le_of_lt W1.out.lt) hbn) (.inl rfl))
 clear c0 hbn
 go_wp2_with (fail)
 refine (wname_at g o (nameL x.f0) L (by have := HL.out; omega) wn Wn.out).mono ?_
 rintro e w2 ⟨rfl, o2, hW2, hF2, hG2⟩
 have B2 := Aside0.mk ((hF2.2 p (blk_lt Bn.out) hpg hpo).trans Bn.out)
 have hpo2 : some p ≠ o2 := by
  rcases hG2 with rfl | ⟨b, rfl, hb⟩
  ·
   exact hpo
  ·
   intro e; injection e with e; have := blk_lt Bn.out; omega
 have W2 := Aside0.mk hW2
 have F2 := Aside0.mk (Fn.out.trans hF2 (.inl rfl))
 have G2 : Aside0 (Gw o o2 w) := ⟨Gw.trans (.inl rfl) hG2 Fn.out.1.size⟩
 clear hW2 hF2 hG2
 have c0 : w2.cell? ⟨p, 0, none⟩ = some (.int .i64 2) := (blk_cell B2.out 0).trans (by rw [← HK0.out]; rfl)
 have d2_1 : w2.cell? ⟨p, 1, none⟩ = some (.string x.f1) := (blk_cell B2.out 1).trans rfl
 have d2_2 : w2.cell? ⟨p, 2, none⟩ = some (.string x.f2) := (blk_cell B2.out 2).trans rfl
 go_wp2_with (fail)
 refine (wtext2 g o2 x.f1 x.f2 (L ++ [.name (nameL x.f0)]) (by have := HL.out; simp only [List.length_append, List.length_cons, List.length_nil]; omega) w2 W2.out).mono ?_
 rintro e w3 ⟨rfl, o3, hW, hF, hG⟩
 have B3 := Aside0.mk ((hF.2 p (blk_lt B2.out) hpg hpo2).trans B2.out)
 have hpo3 : some p ≠ o3 := by
  rcases hG with rfl | ⟨b, rfl, hb⟩
  ·
   exact hpo2
  ·
   intro e; injection e with e; have := blk_lt B2.out; omega
 have W3 := Aside0.mk hW
 have F3 := Aside0.mk (F2.out.trans hF G2.out)
 have G3 := Aside0.mk (G2.out.trans hG F2.out.1.size)
 clear hW hF hG d2_1 d2_2 c0
 have d3_9 : w3.cell? ⟨p, 9, none⟩ = some (.int .i64 x.f9) := (blk_cell B3.out 9).trans rfl
 have d3_10 : w3.cell? ⟨p, 10, none⟩ = some (.int .i64 x.f10) := (blk_cell B3.out 10).trans rfl
 go_wp2_with (fail)
 refine (wnumber2 g o3 x.f9 x.f10 ((L ++ [.name (nameL x.f0)]) ++ [.text x.f1, .text x.f2]) (by have := HL.out; simp only [List.length_append, List.length_cons, List.length_nil]; omega) w3 W3.out).mono ?_
 rintro e w4 ⟨rfl, o4, hW, hF, hG⟩
 have B4 := Aside0.mk ((hF.2 p (blk_lt B3.out) hpg hpo3).trans B3.out)
 have hpo4 : some p ≠ o4 := by
  rcases hG with rfl | ⟨b, rfl, hb⟩
  ·
   exact hpo3
  ·
   intro e; injection e with e; have := blk_lt B3.out; omega
 have W4 := Aside0.mk hW
 have F4 := Aside0.mk (F3.out.trans hF G3.out)
 have G4 := Aside0.mk (G3.out.trans hG F3.out.1.size)
 clear hW hF hG d3_9 d3_10
 go_wp2_with (fail)
 refine bodyPost_end (results_none rfl _ _ _) rfl ?_
 refine ⟨rfl, o4, ?_, F4.out, G4.out⟩
 have hW := W4.out
 simp only [List.append_assoc, List.cons_append, List.nil_append] at hW
 have ea : argsW x = [.text x.f1, .text x.f2] ++ [.num x.f9, .num x.f10] := by unfold argsW; simp [HK0.out]
 unfold callW
 rw [ea]
 exact hW
end Go.Proofs.YtlkbeddlmbghkaaGreatDoor.PR

namespace Go.Proofs.YtlkbeddlmbghkaaGreatDoor.PR
open Go Go.Proofs Go.RowKit Go.Proofs.YtlkbeddlmbghkaaGreatDoorW.PrintWords Go.Proofs.YtlkbeddlmbghkaaGreatDoorW.PrintLast Go.Proofs.YtlkbeddlmbghkaaGreatDoorW.PrintMore
attribute [local go_sem] Wd.one Wd.run_store
set_option linter.unusedVariables false
set_option linter.unusedSimpArgs false
set_option maxRecDepth 100000

set_option maxHeartbeats 8000000 in
theorem wcall3_at (g : Nat) (o : Option Nat) (x : CallT) (v : Value) (hv : v = v) (L : List Wd) (hl : L.length ≤ 990000) (w : World) (hKt : KAt w) (h3 : 0 < g) (h : WrAt g o w L) (hk : x.f0 = 3) :
  Calls Tryz.prog 50 #[.pointer (some ⟨g, 0, none⟩), .agg (callV x v)] w fun e w' => e = .returned (.tuple #[]) ∧ ∃ o', WrAt g o' w' (L ++ callW x) ∧ Fw g o w w' ∧ Gw o o' w := by
 have hu52 := Tryz.underlying52
 have hu95 := Tryz.underlying95
 have H := Aside0.mk h
 have HL := Aside0.mk hl
 have HKt := Aside0.mk hKt
 have HK0 := Aside0.mk hk
 clear hk
 have hgl := h.lt
 have hpo := h.own (Nat.le_refl w.heap.size)
 clear h hl hKt
 go_enter Tryz.func50, Tryz.ntmps50
 go_upto_region 1 with (fail)
 have B1 := Aside0.mk (blk_new w (.cells (callV x v) 52))
 have ab1 : Below w.heap.size w (w.alloc (.cells (callV x v) 52)) := (Below.refl _ _).alloc (Nat.le_refl _) _
 have W1 := Aside0.mk (H.out.below ab1)
 have F1 := Aside0.mk (Fw.below (o := o) (Nat.le_of_lt hgl) ab1)
 change Code.wp _ _ _ _ (w.alloc (.cells (callV x v) 52))
 have HS := Aside0.mk ab1.size
 obtain ⟨p, hp⟩ : ∃ p, p = w.heap.size := ⟨_, rfl⟩
 have hpg : p ≠ g := by omega
 have hpo : some p ≠ o := by rw [hp]; exact hpo
 rw [← hp] at B1 ⊢
 generalize (w.alloc (.cells (callV x v) 52)) = w1 at *
 clear ab1 hp
 have c0 : w1.cell? ⟨p, 0, none⟩ = some (.int .i64 x.f0) := (blk_cell B1.out 0).trans rfl
 go_wp2_with (fail)
 refine (sname_at x.f0 w1 (HKt.out.mono h3 F1.out.1)).mono ?_
 rintro e wn ⟨rfl, hbn⟩
 have Bn := Aside0.mk (blk_below B1.out hbn)
 have Wn := Aside0.mk (W1.out.below hbn)
 have Fn := Aside0.mk (F1.out.trans (Fw.below (o := o) (Nat.le_of_lt W1.out.lt) hbn) (.inl rfl))
 clear c0 hbn
 go_wp2_with (fail)
 refine (wname_at g o (nameL x.f0) L (by have := HL.out; omega) wn Wn.out).mono ?_
 rintro e w2 ⟨rfl, o2, hW2, hF2, hG2⟩
 have B2 := Aside0.mk ((hF2.2 p (blk_lt Bn.out) hpg hpo).trans Bn.out)
 have hpo2 : some p ≠ o2 := by
  rcases hG2 with rfl | ⟨b, rfl, hb⟩
  ·
   exact hpo
  ·
   intro e; injection e with e; have := blk_lt Bn.out; omega
 have W2 := Aside0.mk hW2
 have F2 := Aside0.mk (Fn.out.trans hF2 (.inl rfl))
 have G2 : Aside0 (Gw o o2 w) := ⟨Gw.trans (.inl rfl) hG2 Fn.out.1.size⟩
 clear hW2 hF2 hG2
 have c0 : w2.cell? ⟨p, 0, none⟩ = some (.int .i64 3) := (blk_cell B2.out 0).trans (by rw [← HK0.out]; rfl)
 have d2_1 : w2.cell? ⟨p, 1, none⟩ = some (.string x.f1) := (blk_cell B2.out 1).trans rfl
 go_wp2_with (fail)
 refine (wtext1 g o2 x.f1 (L ++ [.name (nameL x.f0)]) (by have := HL.out; simp only [List.length_append, List.length_cons, List.length_nil]; omega) w2 W2.out).mono ?_
 rintro e w3 ⟨rfl, o3, hW, hF, hG⟩
 have B3 := Aside0.mk ((hF.2 p (blk_lt B2.out) hpg hpo2).trans B2.out)
 have hpo3 : some p ≠ o3 := by
  rcases hG with rfl | ⟨b, rfl, hb⟩
  ·
   exact hpo2
  ·
   intro e; injection e with e; have := blk_lt B2.out; omega
 have W3 := Aside0.mk hW
 have F3 := Aside0.mk (F2.out.trans hF G2.out)
 have G3 := Aside0.mk (G2.out.trans hG F2.out.1.size)
 clear hW hF hG d2_1 c0
 have d3_9 : w3.cell? ⟨p, 9, none⟩ = some (.int .i64 x.f9) := (blk_cell B3.out 9).trans rfl
 have d3_10 : w3.cell? ⟨p, 10, none⟩ = some (.int .i64 x.f10) := (blk_cell B3.out 10).trans rfl
 go_wp2_with (fail)
 refine (wnumber2 g o3 x.f9 x.f10 ((L ++ [.name (nameL x.f0)]) ++ [.text x.f1]) (by have := HL.out; simp only [List.length_append, List.length_cons, List.length_nil]; omega) w3 W3.out).mono ?_
 rintro e w4 ⟨rfl, o4, hW, hF, hG⟩
 have B4 := Aside0.mk ((hF.2 p (blk_lt B3.out) hpg hpo3).trans B3.out)
 have hpo4 : some p ≠ o4 := by
  rcases hG with rfl | ⟨b, rfl, hb⟩
  ·
   exact hpo3
  ·
   intro e; injection e with e; have := blk_lt B3.out; omega
 have W4 := Aside0.mk hW
 have F4 := Aside0.mk (F3.out.trans hF G3.out)
 have G4 := Aside0.mk (G3.out.trans hG F3.out.1.size)
 clear hW hF hG d3_9 d3_10
 go_wp2_with (fail)
 refine bodyPost_end (results_none rfl _ _ _) rfl ?_
 refine ⟨rfl, o4, ?_, F4.out, G4.out⟩
 have hW := W4.out
 simp only [List.append_assoc, List.cons_append, List.nil_append] at hW
 have ea : argsW x = [.text x.f1] ++ [.num x.f9, .num x.f10] := by unfold argsW; simp [HK0.out]
 unfold callW
 rw [ea]
 exact hW
end Go.Proofs.YtlkbeddlmbghkaaGreatDoor.PR

namespace Go.Proofs.YtlkbeddlmbghkaaGreatDoor.PR
open Go Go.Proofs Go.RowKit Go.Proofs.YtlkbeddlmbghkaaGreatDoorW.PrintWords Go.Proofs.YtlkbeddlmbghkaaGreatDoorW.PrintLast Go.Proofs.YtlkbeddlmbghkaaGreatDoorW.PrintMore
attribute [local go_sem] Wd.one Wd.run_store
set_option linter.unusedVariables false
set_option linter.unusedSimpArgs false
set_option maxRecDepth 100000

theorem entW_append : ∀ (a b : List EntT), entW (a ++ b) = entW a ++ entW b
 | [], b => rfl
 | e :: a, b => by
  rw [List.cons_append, entW, entW, entW_append a b]
  split <;> rfl
theorem entW_len : ∀ a : List EntT, (entW a).length ≤ 2 * a.length
 | [] => Nat.le_refl _
 | e :: a => by
  rw [entW]
  have := entW_len a
  split <;> (simp only [List.length_cons]; omega)
set_option maxHeartbeats 8000000 in
theorem wcall4_at (g : Nat) (o : Option Nat) (w : World) (x : CallT) (A : Option Addr) (cE : Nat) (w0 : World) (hB0 : Below w0.heap.size w0 w) (hg0 : w0.heap.size ≤ g) (hC : Kd.C k93 w0 A x.f3.length x.f3) (hn : x.f3.length ≤ 200000) (L : List Wd) (hl : L.length ≤ 500000) (hKt : KAt w) (h3 : 0 < g) (h : WrAt g o w L) (hk : x.f0 = 4) :
  Calls Tryz.prog 50 #[.pointer (some ⟨g, 0, none⟩), .agg (callV x (.slice A x.f3.length cE))] w fun e w' => e = .returned (.tuple #[]) ∧ ∃ o', WrAt g o' w' (L ++ callW x) ∧ Fw g o w w' ∧ Gw o o' w := by
 have hu52 := Tryz.underlying52
 have hu95 := Tryz.underlying95
 have H := Aside0.mk h
 have HB0 := Aside0.mk hB0
 have HC := Aside0.mk hC
 have HN := Aside0.mk hn
 have HG0 := Aside0.mk hg0
 clear hB0 hC hn hg0
 have HL := Aside0.mk hl
 have HKt := Aside0.mk hKt
 have HK0 := Aside0.mk hk
 clear hk
 have hgl := h.lt
 have hpo := h.own (Nat.le_refl w.heap.size)
 clear h hl hKt
 go_enter Tryz.func50, Tryz.ntmps50
 go_upto_region 1 with (fail)
 have B1 := Aside0.mk (blk_new w (.cells (callV x (.slice A x.f3.length cE)) 52))
 have ab1 : Below w.heap.size w (w.alloc (.cells (callV x (.slice A x.f3.length cE)) 52)) := (Below.refl _ _).alloc (Nat.le_refl _) _
 have W1 := Aside0.mk (H.out.below ab1)
 have F1 := Aside0.mk (Fw.below (o := o) (Nat.le_of_lt hgl) ab1)
 change Code.wp _ _ _ _ (w.alloc (.cells (callV x (.slice A x.f3.length cE)) 52))
 have HS := Aside0.mk ab1.size
 obtain ⟨p, hp⟩ : ∃ p, p = w.heap.size := ⟨_, rfl⟩
 have hpg : p ≠ g := by omega
 have hpo : some p ≠ o := by rw [hp]; exact hpo
 rw [← hp] at B1 ⊢
 generalize (w.alloc (.cells (callV x (.slice A x.f3.length cE)) 52)) = w1 at *
 clear ab1 hp
 have c0 : w1.cell? ⟨p, 0, none⟩ = some (.int .i64 x.f0) := (blk_cell B1.out 0).trans rfl
 go_wp2_with (fail)
 refine (sname_at x.f0 w1 (HKt.out.mono h3 F1.out.1)).mono ?_
 rintro e wn ⟨rfl, hbn⟩
 have Bn := Aside0.mk (blk_below B1.out hbn)
 have Wn := Aside0.mk (W1.out.below hbn)
 have Fn := Aside0.mk (F1.out.trans (Fw.below (o := o) (Nat.le_of_lt W1.out.lt) hbn) (.inl rfl))
 clear c0 hbn
 go_wp2_with (fail)
 refine (wname_at g o (nameL x.f0) L (by have := HL.out; omega) wn Wn.out).mono ?_
 rintro e w2 ⟨rfl, o2, hW2, hF2, hG2⟩
 have B2 := Aside0.mk ((hF2.2 p (blk_lt Bn.out) hpg hpo).trans Bn.out)
 have hpo2 : some p ≠ o2 := by
  rcases hG2 with rfl | ⟨b, rfl, hb⟩
  ·
   exact hpo
  ·
   intro e; injection e with e; have := blk_lt Bn.out; omega
 have W2 := Aside0.mk hW2
 have F2 := Aside0.mk (Fn.out.trans hF2 (.inl rfl))
 have G2 : Aside0 (Gw o o2 w) := ⟨Gw.trans (.inl rfl) hG2 Fn.out.1.size⟩
 clear hW2 hF2 hG2
 have c0 : w2.cell? ⟨p, 0, none⟩ = some (.int .i64 4) := (blk_cell B2.out 0).trans (by rw [← HK0.out]; rfl)
 have d2_9 : w2.cell? ⟨p, 9, none⟩ = some (.int .i64 x.f9) := (blk_cell B2.out 9).trans rfl
 have d2_10 : w2.cell? ⟨p, 10, none⟩ = some (.int .i64 x.f10) := (blk_cell B2.out 10).trans rfl
 go_wp2_with (fail)
 refine (wnumber2 g o2 x.f9 x.f10 (L ++ [.name (nameL x.f0)]) (by have := HL.out; simp only [List.length_append, List.length_cons, List.length_nil]; omega) w2 W2.out).mono ?_
 rintro e w3 ⟨rfl, o3, hW, hF, hG⟩
 have B3 := Aside0.mk ((hF.2 p (blk_lt B2.out) hpg hpo2).trans B2.out)
 have hpo3 : some p ≠ o3 := by
  rcases hG with rfl | ⟨b, rfl, hb⟩
  ·
   exact hpo2
  ·
   intro e; injection e with e; have := blk_lt B2.out; omega
 have W3 := Aside0.mk hW
 have F3 := Aside0.mk (F2.out.trans hF G2.out)
 have G3 := Aside0.mk (G2.out.trans hG F2.out.1.size)
 have HB3 := Aside0.mk (HB0.out.trans (F3.out.1.mono HG0.out))
 clear hW hF hG d2_9 d2_10 c0
 have d3_3 : w3.cell? ⟨p, 3, none⟩ = some (.slice A x.f3.length cE) := (blk_cell B3.out 3).trans rfl
 have HACC : Aside0 (((L ++ [Wd.name (nameL x.f0)]) ++ [Wd.num x.f9, Wd.num x.f10]).length ≤ 500010) := ⟨by have := HL.out; simp only [List.length_append, List.length_cons, List.length_nil]; omega⟩
 have HACE : Aside0 (((L ++ [Wd.name (nameL x.f0)]) ++ [Wd.num x.f9, Wd.num x.f10]) ++ entW x.f3 = L ++ callW x) := ⟨by
  have ea : argsW x = .num x.f9 :: .num x.f10 :: entW x.f3 := by unfold argsW; simp [HK0.out]
  unfold callW
  rw [ea]
  simp only [List.append_assoc, List.cons_append, List.nil_append]⟩
 generalize ((L ++ [Wd.name (nameL x.f0)]) ++ [Wd.num x.f9, Wd.num x.f10]) = M at *
 clear B1 Bn Wn Fn W1 W2 F2 G2 B2
 go_upto_region 18 with (fail)
 go_loopg [70] (x.f3.length) (fun kq v70 w' => ∃ (i : Nat) (o1 : Option Nat), v70 = .int .i64 (i : Int) ∧ Aside0 (i + kq = x.f3.length) ∧ Aside0 (WrAt g o1 w' (M ++ entW (x.f3.take i))) ∧ Aside0 (Fw g o w w') ∧ Aside0 (Gw o o1 w))
 case atStart => exact ⟨0, o3, rfl, ⟨Nat.zero_add _⟩, ⟨by rw [List.take_zero, entW, List.append_nil]; exact W3.out⟩, F3, G3⟩
 case round =>
  obtain ⟨i, o1, rfl, HI, HWR, HF, HGW⟩ := hrel
  by_cases hlt0 : i < x.f3.length
  ·
   obtain ⟨k2, rfl⟩ : ∃ k2, gk = k2 + 1 := ⟨gk - 1, by have := HI.out; omega⟩
   have d1 : ((i : Int) < (x.f3.length : Int)) = True := eq_true (by omega)
   have d2 : decide ((i : Int) < (x.f3.length : Int)) = true := decide_eq_true (by omega)
   have d3 : (i < x.f3.length) = True := eq_true hlt0
   obtain ⟨i1, hi1⟩ : ∃ i1, i1 = i + 1 := ⟨_, rfl⟩
   have e10 : IntKind.i64.wrap ((i : Int) + 1) = (i1 : Int) := by have := HN.out; rw [i64_w]; unfold wrap64; omega
   have I1 := Aside0.mk hi1
   clear hi1
   have HBr := Aside0.mk (HB0.out.trans (HF.out.1.mono HG0.out))
   obtain ⟨ad, ead, hx0, hx1, hx2⟩ := at_T93 (Kd.C_below HC.out HBr.out) (i : Int) (by omega) (by omega)
   subst ead
   simp only [Int.toNat_natCast] at hx0 hx1 hx2
   have hr1 : rd_T93 x.f3 (i : Int) = x.f3[i] := by unfold rd_T93; rw [Int.toNat_natCast, List.getD_eq_getElem?_getD, List.getElem?_eq_getElem hlt0]; rfl
   have htk : x.f3.take (i + 1) = x.f3.take i ++ [x.f3[i]] := (List.take_append_getElem hlt0).symm
   rw [← hr1] at htk
   generalize rd_T93 x.f3 (i : Int) = q at hx0 hx1 hx2 hr1 htk
   have HTK := Aside0.mk (show M ++ entW (x.f3.take (i + 1)) = (M ++ entW (x.f3.take i)) ++ entW [q] by rw [htk, entW_append, List.append_assoc])
   have HLM : Aside0 ((M ++ entW (x.f3.take i)).length ≤ 950000) := ⟨by rw [List.length_append]; have h1 := entW_len (x.f3.take i); have h2 := HACC.out; have h3 := HN.out; rw [List.length_take] at h1; omega⟩
   clear hr1 htk hlt0
   generalize (M ++ entW (x.f3.take i)) = L1 at *
   have hgr := HWR.out.lt
   have hqo := HWR.out.own (Nat.le_refl wr.heap.size)
   go_upto_region 20 with (fail)
   have ab4 : Below wr.heap.size wr (wr.alloc (.cells #[.string q.f0, .string q.f1, .bool q.f2] 93)) := (Below.refl _ _).alloc (Nat.le_refl _) _
   have QB := Aside0.mk (blk_new wr (.cells #[.string q.f0, .string q.f1, .bool q.f2] 93))
   have W5 := Aside0.mk (HWR.out.below ab4)
   have F5 := Aside0.mk (HF.out.trans (Fw.below (o := o1) (Nat.le_of_lt hgr) ab4) HGW.out)
   change Code.wp _ _ _ _ (wr.alloc (.cells #[.string q.f0, .string q.f1, .bool q.f2] 93))
   obtain ⟨pq, hpq⟩ : ∃ pq, pq = wr.heap.size := ⟨_, rfl⟩
   have hqg : pq ≠ g := by omega
   rw [← hpq] at QB hqo ⊢
   generalize (wr.alloc (.cells #[.string q.f0, .string q.f1, .bool q.f2] 93)) = w5 at *
   clear ab4 hpq hgr hx0 hx1 hx2
   by_cases hq2 : q.f2 = true
   ·
    have HQ2 := Aside0.mk hq2
    have c2 : w5.cell? ⟨pq, 2, none⟩ = some (.bool true) := (blk_cell QB.out 2).trans (by rw [← hq2]; rfl)
    clear hq2
    go_wp2_with (fail)
    refine (wname_at g o1 ⟨#[103, 111, 110, 101]⟩ L1 (by have := HLM.out; omega) w5 W5.out).mono ?_
    rintro e w6 ⟨rfl, o6, hW, hF, hG⟩
    have QB6 := Aside0.mk ((hF.2 pq (blk_lt QB.out) hqg hqo).trans QB.out)
    have W6 := Aside0.mk hW
    have G6 := Aside0.mk (HGW.out.trans hG F5.out.1.size)
    have F6 := Aside0.mk (F5.out.trans hF HGW.out)
    have c6 : w6.cell? ⟨pq, 0, none⟩ = some (.string q.f0) := (blk_cell QB6.out 0).trans rfl
    clear hW hF hG c2
    go_wp2_with (fail)
    refine (wtext1 g o6 q.f0 (L1 ++ [.name ⟨#[103, 111, 110, 101]⟩]) (by have := HLM.out; simp only [List.length_append, List.length_cons, List.length_nil]; omega) w6 W6.out).mono ?_
    rintro e w7 ⟨rfl, o7, hW, hF, hG⟩
    have W7 := Aside0.mk hW
    have G7 := Aside0.mk (G6.out.trans hG F6.out.1.size)
    have F7 := Aside0.mk (F6.out.trans hF G6.out)
    clear hW hF hG c6
    go_wp2_with (fail)
    go_roundg k2
    case measure => omega
    case rel => exact ⟨i1, o7, rfl, ⟨by have := HI.out; have := I1.out; omega⟩, ⟨by rw [I1.out, HTK.out]; have := W7.out; rw [List.append_assoc] at this; rw [entW, if_pos HQ2.out]; exact this⟩, F7, G7⟩
   ·
    have HQ2 := Aside0.mk hq2
    have hq3 : q.f2 = false := by simpa using hq2
    have c2 : w5.cell? ⟨pq, 2, none⟩ = some (.bool false) := (blk_cell QB.out 2).trans (by rw [← hq3]; rfl)
    have c0' : w5.cell? ⟨pq, 0, none⟩ = some (.string q.f0) := (blk_cell QB.out 0).trans rfl
    have c1' : w5.cell? ⟨pq, 1, none⟩ = some (.string q.f1) := (blk_cell QB.out 1).trans rfl
    clear hq2 hq3
    go_wp2_with (fail)
    refine (wtext2 g o1 q.f0 q.f1 L1 (by have := HLM.out; omega) w5 W5.out).mono ?_
    rintro e w7 ⟨rfl, o7, hW, hF, hG⟩
    have W7 := Aside0.mk hW
    have G7 := Aside0.mk (HGW.out.trans hG F5.out.1.size)
    have F7 := Aside0.mk (F5.out.trans hF HGW.out)
    clear hW hF hG c2 c0' c1'
    go_wp2_with (fail)
    go_roundg k2
    case measure => omega
    case rel => exact ⟨i1, o7, rfl, ⟨by have := HI.out; have := I1.out; omega⟩, ⟨by rw [I1.out, HTK.out]; rw [entW, if_neg HQ2.out]; exact W7.out⟩, F7, G7⟩
  ·
   have hie : i = x.f3.length := by have := HI.out; omega
   subst hie
   have d1 : ((x.f3.length : Int) < (x.f3.length : Int)) = False := eq_false (by omega)
   rw [List.take_length, HACE.out] at HWR
   clear hlt0
   go_wp2_with (fail)
   refine bodyPost_end (results_none rfl _ _ _) rfl ?_
   exact ⟨rfl, _, HWR.out, HF.out, HGW.out⟩
end Go.Proofs.YtlkbeddlmbghkaaGreatDoor.PR

namespace Go.Proofs.YtlkbeddlmbghkaaGreatDoor.PR
open Go Go.Proofs Go.RowKit Go.Proofs.YtlkbeddlmbghkaaGreatDoorW.PrintWords Go.Proofs.YtlkbeddlmbghkaaGreatDoorW.PrintLast Go.Proofs.YtlkbeddlmbghkaaGreatDoorW.PrintMore
attribute [local go_sem] Wd.one Wd.run_store
set_option linter.unusedVariables false
set_option linter.unusedSimpArgs false
set_option maxRecDepth 100000

theorem span_len5 (x : CallT) : (spanW x).length = 2 := by unfold spanW; split <;> rfl
set_option maxHeartbeats 8000000 in
theorem wcall5_at (g : Nat) (o : Option Nat) (x : CallT) (v : Value) (hv : v = v) (L : List Wd) (hl : L.length ≤ 990000) (w : World) (hKt : KAt w) (h3 : 0 < g) (h : WrAt g o w L) (hk : x.f0 = 5) :
  Calls Tryz.prog 50 #[.pointer (some ⟨g, 0, none⟩), .agg (callV x v)] w fun e w' => e = .returned (.tuple #[]) ∧ ∃ o', WrAt g o' w' (L ++ callW x) ∧ Fw g o w w' ∧ Gw o o' w := by
 have hu52 := Tryz.underlying52
 have hu95 := Tryz.underlying95
 have H := Aside0.mk h
 have HL := Aside0.mk hl
 have HKt := Aside0.mk hKt
 have HK0 := Aside0.mk hk
 clear hk
 have hgl := h.lt
 have hpo := h.own (Nat.le_refl w.heap.size)
 clear h hl hKt
 go_enter Tryz.func50, Tryz.ntmps50
 go_upto_region 1 with (fail)
 have B1 := Aside0.mk (blk_new w (.cells (callV x v) 52))
 have ab1 : Below w.heap.size w (w.alloc (.cells (callV x v) 52)) := (Below.refl _ _).alloc (Nat.le_refl _) _
 have W1 := Aside0.mk (H.out.below ab1)
 have F1 := Aside0.mk (Fw.below (o := o) (Nat.le_of_lt hgl) ab1)
 change Code.wp _ _ _ _ (w.alloc (.cells (callV x v) 52))
 have HS := Aside0.mk ab1.size
 obtain ⟨p, hp⟩ : ∃ p, p = w.heap.size := ⟨_, rfl⟩
 have hpg : p ≠ g := by omega
 have hpo : some p ≠ o := by rw [hp]; exact hpo
 rw [← hp] at B1 ⊢
 generalize (w.alloc (.cells (callV x v) 52)) = w1 at *
 clear ab1 hp
 have c0 : w1.cell? ⟨p, 0, none⟩ = some (.int .i64 x.f0) := (blk_cell B1.out 0).trans rfl
 go_wp2_with (fail)
 refine (sname_at x.f0 w1 (HKt.out.mono h3 F1.out.1)).mono ?_
 rintro e wn ⟨rfl, hbn⟩
 have Bn := Aside0.mk (blk_below B1.out hbn)
 have Wn := Aside0.mk (W1.out.below hbn)
 have Fn := Aside0.mk (F1.out.trans (Fw.below (o := o) (Nat.le_of_lt W1.out.lt) hbn) (.inl rfl))
 clear c0 hbn
 go_wp2_with (fail)
 refine (wname_at g o (nameL x.f0) L (by have := HL.out; omega) wn Wn.out).mono ?_
 rintro e w2 ⟨rfl, o2, hW2, hF2, hG2⟩
 have B2 := Aside0.mk ((hF2.2 p (blk_lt Bn.out) hpg hpo).trans Bn.out)
 have hpo2 : some p ≠ o2 := by
  rcases hG2 with rfl | ⟨b, rfl, hb⟩
  ·
   exact hpo
  ·
   intro e; injection e with e; have := blk_lt Bn.out; omega
 have W2 := Aside0.mk hW2
 have F2 := Aside0.mk (Fn.out.trans hF2 (.inl rfl))
 have G2 : Aside0 (Gw o o2 w) := ⟨Gw.trans (.inl rfl) hG2 Fn.out.1.size⟩
 clear hW2 hF2 hG2
 have c0 : w2.cell? ⟨p, 0, none⟩ = some (.int .i64 5) := (blk_cell B2.out 0).trans (by rw [← HK0.out]; rfl)
 go_upto_region 26 with (fail)
 clear c0
 have d2_0 : w2.cell? ⟨p, 0, none⟩ = some (.int .i64 x.f0) := (blk_cell B2.out 0).trans rfl
 have d2_1 : w2.cell? ⟨p, 1, none⟩ = some (.string x.f1) := (blk_cell B2.out 1).trans rfl
 have d2_2 : w2.cell? ⟨p, 2, none⟩ = some (.string x.f2) := (blk_cell B2.out 2).trans rfl
 have d2_3 : w2.cell? ⟨p, 3, none⟩ = some (v) := (blk_cell B2.out 3).trans rfl
 have d2_4 : w2.cell? ⟨p, 4, none⟩ = some (.string x.f4) := (blk_cell B2.out 4).trans rfl
 have d2_5 : w2.cell? ⟨p, 5, none⟩ = some (.string x.f5) := (blk_cell B2.out 5).trans rfl
 have d2_6 : w2.cell? ⟨p, 6, none⟩ = some (.bool x.f6) := (blk_cell B2.out 6).trans rfl
 have d2_7 : w2.cell? ⟨p, 7, none⟩ = some (.int .i64 x.f7) := (blk_cell B2.out 7).trans rfl
 have d2_8 : w2.cell? ⟨p, 8, none⟩ = some (.int .i64 x.f8) := (blk_cell B2.out 8).trans rfl
 have d2_9 : w2.cell? ⟨p, 9, none⟩ = some (.int .i64 x.f9) := (blk_cell B2.out 9).trans rfl
 have d2_10 : w2.cell? ⟨p, 10, none⟩ = some (.int .i64 x.f10) := (blk_cell B2.out 10).trans rfl
 go_wp2_with (fail)
 refine (wspan_at g o2 x v (L ++ [.name (nameL x.f0)]) (by have := HL.out; simp only [List.length_append, List.length_cons, List.length_nil]; omega) w2 W2.out).mono ?_
 rintro e w3 ⟨rfl, o3, hW, hF, hG⟩
 have B3 := Aside0.mk ((hF.2 p (blk_lt B2.out) hpg hpo2).trans B2.out)
 have hpo3 : some p ≠ o3 := by
  rcases hG with rfl | ⟨b, rfl, hb⟩
  ·
   exact hpo2
  ·
   intro e; injection e with e; have := blk_lt B2.out; omega
 have W3 := Aside0.mk hW
 have F3 := Aside0.mk (F2.out.trans hF G2.out)
 have G3 := Aside0.mk (G2.out.trans hG F2.out.1.size)
 clear hW hF hG d2_0 d2_1 d2_2 d2_3 d2_4 d2_5 d2_6 d2_7 d2_8 d2_9 d2_10
 have d3_7 : w3.cell? ⟨p, 7, none⟩ = some (.int .i64 x.f7) := (blk_cell B3.out 7).trans rfl
 go_wp2_with (fail)
 refine (wnumber1 g o3 x.f7 ((L ++ [.name (nameL x.f0)]) ++ spanW x) (by have := HL.out; simp only [List.length_append, List.length_cons, List.length_nil]; have := span_len5 x; omega) w3 W3.out).mono ?_
 rintro e w4 ⟨rfl, o4, hW, hF, hG⟩
 have B4 := Aside0.mk ((hF.2 p (blk_lt B3.out) hpg hpo3).trans B3.out)
 have hpo4 : some p ≠ o4 := by
  rcases hG with rfl | ⟨b, rfl, hb⟩
  ·
   exact hpo3
  ·
   intro e; injection e with e; have := blk_lt B3.out; omega
 have W4 := Aside0.mk hW
 have F4 := Aside0.mk (F3.out.trans hF G3.out)
 have G4 := Aside0.mk (G3.out.trans hG F3.out.1.size)
 clear hW hF hG d3_7
 go_wp2_with (fail)
 refine bodyPost_end (results_none rfl _ _ _) rfl ?_
 refine ⟨rfl, o4, ?_, F4.out, G4.out⟩
 have hW := W4.out
 simp only [List.append_assoc, List.cons_append, List.nil_append] at hW
 have ea : argsW x = spanW x ++ [.num x.f7] := by unfold argsW; simp [HK0.out]
 unfold callW
 rw [ea]
 exact hW
end Go.Proofs.YtlkbeddlmbghkaaGreatDoor.PR

namespace Go.Proofs.YtlkbeddlmbghkaaGreatDoor.PR
open Go Go.Proofs Go.RowKit Go.Proofs.YtlkbeddlmbghkaaGreatDoorW.PrintWords Go.Proofs.YtlkbeddlmbghkaaGreatDoorW.PrintLast Go.Proofs.YtlkbeddlmbghkaaGreatDoorW.PrintMore
attribute [local go_sem] Wd.one Wd.run_store
set_option linter.unusedVariables false
set_option linter.unusedSimpArgs false
set_option maxRecDepth 100000

set_option maxHeartbeats 8000000 in
theorem wcall6_at (g : Nat) (o : Option Nat) (x : CallT) (v : Value) (hv : v = v) (L : List Wd) (hl : L.length ≤ 990000) (w : World) (hKt : KAt w) (h3 : 0 < g) (h : WrAt g o w L) (hk : x.f0 = 6) :
  Calls Tryz.prog 50 #[.pointer (some ⟨g, 0, none⟩), .agg (callV x v)] w fun e w' => e = .returned (.tuple #[]) ∧ ∃ o', WrAt g o' w' (L ++ callW x) ∧ Fw g o w w' ∧ Gw o o' w := by
 have hu52 := Tryz.underlying52
 have hu95 := Tryz.underlying95
 have H := Aside0.mk h
 have HL := Aside0.mk hl
 have HKt := Aside0.mk hKt
 have HK0 := Aside0.mk hk
 clear hk
 have hgl := h.lt
 have hpo := h.own (Nat.le_refl w.heap.size)
 clear h hl hKt
 go_enter Tryz.func50, Tryz.ntmps50
 go_upto_region 1 with (fail)
 have B1 := Aside0.mk (blk_new w (.cells (callV x v) 52))
 have ab1 : Below w.heap.size w (w.alloc (.cells (callV x v) 52)) := (Below.refl _ _).alloc (Nat.le_refl _) _
 have W1 := Aside0.mk (H.out.below ab1)
 have F1 := Aside0.mk (Fw.below (o := o) (Nat.le_of_lt hgl) ab1)
 change Code.wp _ _ _ _ (w.alloc (.cells (callV x v) 52))
 have HS := Aside0.mk ab1.size
 obtain ⟨p, hp⟩ : ∃ p, p = w.heap.size := ⟨_, rfl⟩
 have hpg : p ≠ g := by omega
 have hpo : some p ≠ o := by rw [hp]; exact hpo
 rw [← hp] at B1 ⊢
 generalize (w.alloc (.cells (callV x v) 52)) = w1 at *
 clear ab1 hp
 have c0 : w1.cell? ⟨p, 0, none⟩ = some (.int .i64 x.f0) := (blk_cell B1.out 0).trans rfl
 go_wp2_with (fail)
 refine (sname_at x.f0 w1 (HKt.out.mono h3 F1.out.1)).mono ?_
 rintro e wn ⟨rfl, hbn⟩
 have Bn := Aside0.mk (blk_below B1.out hbn)
 have Wn := Aside0.mk (W1.out.below hbn)
 have Fn := Aside0.mk (F1.out.trans (Fw.below (o := o) (Nat.le_of_lt W1.out.lt) hbn) (.inl rfl))
 clear c0 hbn
 go_wp2_with (fail)
 refine (wname_at g o (nameL x.f0) L (by have := HL.out; omega) wn Wn.out).mono ?_
 rintro e w2 ⟨rfl, o2, hW2, hF2, hG2⟩
 have B2 := Aside0.mk ((hF2.2 p (blk_lt Bn.out) hpg hpo).trans Bn.out)
 have hpo2 : some p ≠ o2 := by
  rcases hG2 with rfl | ⟨b, rfl, hb⟩
  ·
   exact hpo
  ·
   intro e; injection e with e; have := blk_lt Bn.out; omega
 have W2 := Aside0.mk hW2
 have F2 := Aside0.mk (Fn.out.trans hF2 (.inl rfl))
 have G2 : Aside0 (Gw o o2 w) := ⟨Gw.trans (.inl rfl) hG2 Fn.out.1.size⟩
 clear hW2 hF2 hG2
 have c0 : w2.cell? ⟨p, 0, none⟩ = some (.int .i64 6) := (blk_cell B2.out 0).trans (by rw [← HK0.out]; rfl)
 go_wp2_with (fail)
 refine bodyPost_end (results_none rfl _ _ _) rfl ?_
 refine ⟨rfl, o2, ?_, F2.out, G2.out⟩
 have hW := W2.out
 skip
 have ea : argsW x = [] := by unfold argsW; simp [HK0.out]
 unfold callW
 rw [ea]
 exact hW
end Go.Proofs.YtlkbeddlmbghkaaGreatDoor.PR

namespace Go.Proofs.YtlkbeddlmbghkaaGreatDoor.PR
open Go Go.Proofs Go.RowKit Go.Proofs.YtlkbeddlmbghkaaGreatDoorW.PrintWords Go.Proofs.YtlkbeddlmbghkaaGreatDoorW.PrintLast Go.Proofs.YtlkbeddlmbghkaaGreatDoorW.PrintMore
attribute [local go_sem] Wd.one Wd.run_store
set_option linter.unusedVariables false
set_option linter.unusedSimpArgs false
set_option maxRecDepth 100000

set_option maxHeartbeats 8000000 in
theorem wcall7_at (g : Nat) (o : Option Nat) (x : CallT) (v : Value) (hv : v = v) (L : List Wd) (hl : L.length ≤ 990000) (w : World) (hKt : KAt w) (h3 : 0 < g) (h : WrAt g o w L) (hk : x.f0 = 7) :
  Calls Tryz.prog 50 #[.pointer (some ⟨g, 0, none⟩), .agg (callV x v)] w fun e w' => e = .returned (.tuple #[]) ∧ ∃ o', WrAt g o' w' (L ++ callW x) ∧ Fw g o w w' ∧ Gw o o' w := by
 have hu52 := Tryz.underlying52
 have hu95 := Tryz.underlying95
 have H := Aside0.mk h
 have HL := Aside0.mk hl
 have HKt := Aside0.mk hKt
 have HK0 := Aside0.mk hk
 clear hk
 have hgl := h.lt
 have hpo := h.own (Nat.le_refl w.heap.size)
 clear h hl hKt
 go_enter Tryz.func50, Tryz.ntmps50
 go_upto_region 1 with (fail)
 have B1 := Aside0.mk (blk_new w (.cells (callV x v) 52))
 have ab1 : Below w.heap.size w (w.alloc (.cells (callV x v) 52)) := (Below.refl _ _).alloc (Nat.le_refl _) _
 have W1 := Aside0.mk (H.out.below ab1)
 have F1 := Aside0.mk (Fw.below (o := o) (Nat.le_of_lt hgl) ab1)
 change Code.wp _ _ _ _ (w.alloc (.cells (callV x v) 52))
 have HS := Aside0.mk ab1.size
 obtain ⟨p, hp⟩ : ∃ p, p = w.heap.size := ⟨_, rfl⟩
 have hpg : p ≠ g := by omega
 have hpo : some p ≠ o := by rw [hp]; exact hpo
 rw [← hp] at B1 ⊢
 generalize (w.alloc (.cells (callV x v) 52)) = w1 at *
 clear ab1 hp
 have c0 : w1.cell? ⟨p, 0, none⟩ = some (.int .i64 x.f0) := (blk_cell B1.out 0).trans rfl
 go_wp2_with (fail)
 refine (sname_at x.f0 w1 (HKt.out.mono h3 F1.out.1)).mono ?_
 rintro e wn ⟨rfl, hbn⟩
 have Bn := Aside0.mk (blk_below B1.out hbn)
 have Wn := Aside0.mk (W1.out.below hbn)
 have Fn := Aside0.mk (F1.out.trans (Fw.below (o := o) (Nat.le_of_lt W1.out.lt) hbn) (.inl rfl))
 clear c0 hbn
 go_wp2_with (fail)
 refine (wname_at g o (nameL x.f0) L (by have := HL.out; omega) wn Wn.out).mono ?_
 rintro e w2 ⟨rfl, o2, hW2, hF2, hG2⟩
 have B2 := Aside0.mk ((hF2.2 p (blk_lt Bn.out) hpg hpo).trans Bn.out)
 have hpo2 : some p ≠ o2 := by
  rcases hG2 with rfl | ⟨b, rfl, hb⟩
  ·
   exact hpo
  ·
   intro e; injection e with e; have := blk_lt Bn.out; omega
 have W2 := Aside0.mk hW2
 have F2 := Aside0.mk (Fn.out.trans hF2 (.inl rfl))
 have G2 : Aside0 (Gw o o2 w) := ⟨Gw.trans (.inl rfl) hG2 Fn.out.1.size⟩
 clear hW2 hF2 hG2
 have c0 : w2.cell? ⟨p, 0, none⟩ = some (.int .i64 7) := (blk_cell B2.out 0).trans (by rw [← HK0.out]; rfl)
 have d2_8 : w2.cell? ⟨p, 8, none⟩ = some (.int .i64 x.f8) := (blk_cell B2.out 8).trans rfl
 go_wp2_with (fail)
 refine (wnumber1 g o2 x.f8 (L ++ [.name (nameL x.f0)]) (by have := HL.out; simp only [List.length_append, List.length_cons, List.length_nil]; omega) w2 W2.out).mono ?_
 rintro e w3 ⟨rfl, o3, hW, hF, hG⟩
 have B3 := Aside0.mk ((hF.2 p (blk_lt B2.out) hpg hpo2).trans B2.out)
 have hpo3 : some p ≠ o3 := by
  rcases hG with rfl | ⟨b, rfl, hb⟩
  ·
   exact hpo2
  ·
   intro e; injection e with e; have := blk_lt B2.out; omega
 have W3 := Aside0.mk hW
 have F3 := Aside0.mk (F2.out.trans hF G2.out)
 have G3 := Aside0.mk (G2.out.trans hG F2.out.1.size)
 clear hW hF hG d2_8 c0
 have d3_1 : w3.cell? ⟨p, 1, none⟩ = some (.string x.f1) := (blk_cell B3.out 1).trans rfl
 go_wp2_with (fail)
 refine (wtext1 g o3 x.f1 ((L ++ [.name (nameL x.f0)]) ++ [.num x.f8]) (by have := HL.out; simp only [List.length_append, List.length_cons, List.length_nil]; omega) w3 W3.out).mono ?_
 rintro e w4 ⟨rfl, o4, hW, hF, hG⟩
 have B4 := Aside0.mk ((hF.2 p (blk_lt B3.out) hpg hpo3).trans B3.out)
 have hpo4 : some p ≠ o4 := by
  rcases hG with rfl | ⟨b, rfl, hb⟩
  ·
   exact hpo3
  ·
   intro e; injection e with e; have := blk_lt B3.out; omega
 have W4 := Aside0.mk hW
 have F4 := Aside0.mk (F3.out.trans hF G3.out)
 have G4 := Aside0.mk (G3.out.trans hG F3.out.1.size)
 clear hW hF hG d3_1
 go_wp2_with (fail)
 refine bodyPost_end (results_none rfl _ _ _) rfl ?_
 refine ⟨rfl, o4, ?_, F4.out, G4.out⟩
 have hW := W4.out
 simp only [List.append_assoc, List.cons_append, List.nil_append] at hW
 have ea : argsW x = [.num x.f8] ++ [.text x.f1] := by unfold argsW; simp [HK0.out]
 unfold callW
 rw [ea]
 exact hW
end Go.Proofs.YtlkbeddlmbghkaaGreatDoor.PR

namespace Go.Proofs.YtlkbeddlmbghkaaGreatDoor.PR
open Go Go.Proofs Go.RowKit Go.Proofs.YtlkbeddlmbghkaaGreatDoorW.PrintWords Go.Proofs.YtlkbeddlmbghkaaGreatDoorW.PrintLast Go.Proofs.YtlkbeddlmbghkaaGreatDoorW.PrintMore
attribute [local go_sem] Wd.one Wd.run_store
set_option linter.unusedVariables false
set_option linter.unusedSimpArgs false
set_option maxRecDepth 100000

theorem span_len8 (x : CallT) : (spanW x).length = 2 := by unfold spanW; split <;> rfl
set_option maxHeartbeats 8000000 in
theorem wcall8_at (g : Nat) (o : Option Nat) (x : CallT) (v : Value) (hv : v = v) (L : List Wd) (hl : L.length ≤ 990000) (w : World) (hKt : KAt w) (h3 : 0 < g) (h : WrAt g o w L) (hk : x.f0 = 8) :
  Calls Tryz.prog 50 #[.pointer (some ⟨g, 0, none⟩), .agg (callV x v)] w fun e w' => e = .returned (.tuple #[]) ∧ ∃ o', WrAt g o' w' (L ++ callW x) ∧ Fw g o w w' ∧ Gw o o' w := by
 have hu52 := Tryz.underlying52
 have hu95 := Tryz.underlying95
 have H := Aside0.mk h
 have HL := Aside0.mk hl
 have HKt := Aside0.mk hKt
 have HK0 := Aside0.mk hk
 clear hk
 have hgl := h.lt
 have hpo := h.own (Nat.le_refl w.heap.size)
 clear h hl hKt
 go_enter Tryz.func50, Tryz.ntmps50
 go_upto_region 1 with (fail)
 have B1 := Aside0.mk (blk_new w (.cells (callV x v) 52))
 have ab1 : Below w.heap.size w (w.alloc (.cells (callV x v) 52)) := (Below.refl _ _).alloc (Nat.le_refl _) _
 have W1 := Aside0.mk (H.out.below ab1)
 have F1 := Aside0.mk (Fw.below (o := o) (Nat.le_of_lt hgl) ab1)
 change Code.wp _ _ _ _ (w.alloc (.cells (callV x v) 52))
 have HS := Aside0.mk ab1.size
 obtain ⟨p, hp⟩ : ∃ p, p = w.heap.size := ⟨_, rfl⟩
 have hpg : p ≠ g := by omega
 have hpo : some p ≠ o := by rw [hp]; exact hpo
 rw [← hp] at B1 ⊢
 generalize (w.alloc (.cells (callV x v) 52)) = w1 at *
 clear ab1 hp
 have c0 : w1.cell? ⟨p, 0, none⟩ = some (.int .i64 x.f0) := (blk_cell B1.out 0).trans rfl
 go_wp2_with (fail)
 refine (sname_at x.f0 w1 (HKt.out.mono h3 F1.out.1)).mono ?_
 rintro e wn ⟨rfl, hbn⟩
 have Bn := Aside0.mk (blk_below B1.out hbn)
 have Wn := Aside0.mk (W1.out.below hbn)
 have Fn := Aside0.mk (F1.out.trans (Fw.below (o := o) (Nat.le_of_lt W1.out.lt) hbn) (.inl rfl))
 clear c0 hbn
 go_wp2_with (fail)
 refine (wname_at g o (nameL x.f0) L (by have := HL.out; omega) wn Wn.out).mono ?_
 rintro e w2 ⟨rfl, o2, hW2, hF2, hG2⟩
 have B2 := Aside0.mk ((hF2.2 p (blk_lt Bn.out) hpg hpo).trans Bn.out)
 have hpo2 : some p ≠ o2 := by
  rcases hG2 with rfl | ⟨b, rfl, hb⟩
  ·
   exact hpo
  ·
   intro e; injection e with e; have := blk_lt Bn.out; omega
 have W2 := Aside0.mk hW2
 have F2 := Aside0.mk (Fn.out.trans hF2 (.inl rfl))
 have G2 : Aside0 (Gw o o2 w) := ⟨Gw.trans (.inl rfl) hG2 Fn.out.1.size⟩
 clear hW2 hF2 hG2
 have c0 : w2.cell? ⟨p, 0, none⟩ = some (.int .i64 8) := (blk_cell B2.out 0).trans (by rw [← HK0.out]; rfl)
 have d2_8 : w2.cell? ⟨p, 8, none⟩ = some (.int .i64 x.f8) := (blk_cell B2.out 8).trans rfl
 go_wp2_with (fail)
 refine (wnumber1 g o2 x.f8 (L ++ [.name (nameL x.f0)]) (by have := HL.out; simp only [List.length_append, List.length_cons, List.length_nil]; omega) w2 W2.out).mono ?_
 rintro e w3 ⟨rfl, o3, hW, hF, hG⟩
 have B3 := Aside0.mk ((hF.2 p (blk_lt B2.out) hpg hpo2).trans B2.out)
 have hpo3 : some p ≠ o3 := by
  rcases hG with rfl | ⟨b, rfl, hb⟩
  ·
   exact hpo2
  ·
   intro e; injection e with e; have := blk_lt B2.out; omega
 have W3 := Aside0.mk hW
 have F3 := Aside0.mk (F2.out.trans hF G2.out)
 have G3 := Aside0.mk (G2.out.trans hG F2.out.1.size)
 clear hW hF hG d2_8 c0
 have d3_0 : w3.cell? ⟨p, 0, none⟩ = some (.int .i64 x.f0) := (blk_cell B3.out 0).trans rfl
 have d3_1 : w3.cell? ⟨p, 1, none⟩ = some (.string x.f1) := (blk_cell B3.out 1).trans rfl
 have d3_2 : w3.cell? ⟨p, 2, none⟩ = some (.string x.f2) := (blk_cell B3.out 2).trans rfl
 have d3_3 : w3.cell? ⟨p, 3, none⟩ = some (v) := (blk_cell B3.out 3).trans rfl
 have d3_4 : w3.cell? ⟨p, 4, none⟩ = some (.string x.f4) := (blk_cell B3.out 4).trans rfl
 have d3_5 : w3.cell? ⟨p, 5, none⟩ = some (.string x.f5) := (blk_cell B3.out 5).trans rfl
 have d3_6 : w3.cell? ⟨p, 6, none⟩ = some (.bool x.f6) := (blk_cell B3.out 6).trans rfl
 have d3_7 : w3.cell? ⟨p, 7, none⟩ = some (.int .i64 x.f7) := (blk_cell B3.out 7).trans rfl
 have d3_8 : w3.cell? ⟨p, 8, none⟩ = some (.int .i64 x.f8) := (blk_cell B3.out 8).trans rfl
 have d3_9 : w3.cell? ⟨p, 9, none⟩ = some (.int .i64 x.f9) := (blk_cell B3.out 9).trans rfl
 have d3_10 : w3.cell? ⟨p, 10, none⟩ = some (.int .i64 x.f10) := (blk_cell B3.out 10).trans rfl
 go_wp2_with (fail)
 refine (wspan_at g o3 x v ((L ++ [.name (nameL x.f0)]) ++ [.num x.f8]) (by have := HL.out; simp only [List.length_append, List.length_cons, List.length_nil]; omega) w3 W3.out).mono ?_
 rintro e w4 ⟨rfl, o4, hW, hF, hG⟩
 have B4 := Aside0.mk ((hF.2 p (blk_lt B3.out) hpg hpo3).trans B3.out)
 have hpo4 : some p ≠ o4 := by
  rcases hG with rfl | ⟨b, rfl, hb⟩
  ·
   exact hpo3
  ·
   intro e; injection e with e; have := blk_lt B3.out; omega
 have W4 := Aside0.mk hW
 have F4 := Aside0.mk (F3.out.trans hF G3.out)
 have G4 := Aside0.mk (G3.out.trans hG F3.out.1.size)
 clear hW hF hG d3_0 d3_1 d3_2 d3_3 d3_4 d3_5 d3_6 d3_7 d3_8 d3_9 d3_10
 have d4_7 : w4.cell? ⟨p, 7, none⟩ = some (.int .i64 x.f7) := (blk_cell B4.out 7).trans rfl
 go_wp2_with (fail)
 refine (wnumber1 g o4 x.f7 (((L ++ [.name (nameL x.f0)]) ++ [.num x.f8]) ++ spanW x) (by have := HL.out; simp only [List.length_append, List.length_cons, List.length_nil]; have := span_len8 x; omega) w4 W4.out).mono ?_
 rintro e w5 ⟨rfl, o5, hW, hF, hG⟩
 have B5 := Aside0.mk ((hF.2 p (blk_lt B4.out) hpg hpo4).trans B4.out)
 have hpo5 : some p ≠ o5 := by
  rcases hG with rfl | ⟨b, rfl, hb⟩
  ·
   exact hpo4
  ·
   intro e; injection e with e; have := blk_lt B4.out; omega
 have W5 := Aside0.mk hW
 have F5 := Aside0.mk (F4.out.trans hF G4.out)
 have G5 := Aside0.mk (G4.out.trans hG F4.out.1.size)
 clear hW hF hG d4_7
 go_wp2_with (fail)
 refine bodyPost_end (results_none rfl _ _ _) rfl ?_
 refine ⟨rfl, o5, ?_, F5.out, G5.out⟩
 have hW := W5.out
 simp only [List.append_assoc, List.cons_append, List.nil_append] at hW
 have ea : argsW x = [.num x.f8] ++ spanW x ++ [.num x.f7] := by unfold argsW; simp [HK0.out]
 unfold callW
 rw [ea]
 exact hW
end Go.Proofs.YtlkbeddlmbghkaaGreatDoor.PR

namespace Go.Proofs.YtlkbeddlmbghkaaGreatDoor.PR
open Go Go.Proofs Go.RowKit Go.Proofs.YtlkbeddlmbghkaaGreatDoorW.PrintWords Go.Proofs.YtlkbeddlmbghkaaGreatDoorW.PrintLast Go.Proofs.YtlkbeddlmbghkaaGreatDoorW.PrintMore
attribute [local go_sem] Wd.one Wd.run_store
set_option linter.unusedVariables false
set_option linter.unusedSimpArgs false
set_option maxRecDepth 100000

set_option maxHeartbeats 8000000 in
theorem wcall9_at (g : Nat) (o : Option Nat) (x : CallT) (v : Value) (hv : v = v) (L : List Wd) (hl : L.length ≤ 990000) (w : World) (hKt : KAt w) (h3 : 0 < g) (h : WrAt g o w L) (hk : x.f0 = 9) :
  Calls Tryz.prog 50 #[.pointer (some ⟨g, 0, none⟩), .agg (callV x v)] w fun e w' => e = .returned (.tuple #[]) ∧ ∃ o', WrAt g o' w' (L ++ callW x) ∧ Fw g o w w' ∧ Gw o o' w := by
 have hu52 := Tryz.underlying52
 have hu95 := Tryz.underlying95
 have H := Aside0.mk h
 have HL := Aside0.mk hl
 have HKt := Aside0.mk hKt
 have HK0 := Aside0.mk hk
 clear hk
 have hgl := h.lt
 have hpo := h.own (Nat.le_refl w.heap.size)
 clear h hl hKt
 go_enter Tryz.func50, Tryz.ntmps50
 go_upto_region 1 with (fail)
 have B1 := Aside0.mk (blk_new w (.cells (callV x v) 52))
 have ab1 : Below w.heap.size w (w.alloc (.cells (callV x v) 52)) := (Below.refl _ _).alloc (Nat.le_refl _) _
 have W1 := Aside0.mk (H.out.below ab1)
 have F1 := Aside0.mk (Fw.below (o := o) (Nat.le_of_lt hgl) ab1)
 change Code.wp _ _ _ _ (w.alloc (.cells (callV x v) 52))
 have HS := Aside0.mk ab1.size
 obtain ⟨p, hp⟩ : ∃ p, p = w.heap.size := ⟨_, rfl⟩
 have hpg : p ≠ g := by omega
 have hpo : some p ≠ o := by rw [hp]; exact hpo
 rw [← hp] at B1 ⊢
 generalize (w.alloc (.cells (callV x v) 52)) = w1 at *
 clear ab1 hp
 have c0 : w1.cell? ⟨p, 0, none⟩ = some (.int .i64 x.f0) := (blk_cell B1.out 0).trans rfl
 go_wp2_with (fail)
 refine (sname_at x.f0 w1 (HKt.out.mono h3 F1.out.1)).mono ?_
 rintro e wn ⟨rfl, hbn⟩
 have Bn := Aside0.mk (blk_below B1.out hbn)
 have Wn := Aside0.mk (W1.out.below hbn)
 have Fn := Aside0.mk (F1.out.trans (Fw.below (o := o) (Nat.le_of_lt W1.out.lt) hbn) (.inl rfl))
 clear c0 hbn
 go_wp2_with (fail)
 refine (wname_at g o (nameL x.f0) L (by have := HL.out; omega) wn Wn.out).mono ?_
 rintro e w2 ⟨rfl, o2, hW2, hF2, hG2⟩
 have B2 := Aside0.mk ((hF2.2 p (blk_lt Bn.out) hpg hpo).trans Bn.out)
 have hpo2 : some p ≠ o2 := by
  rcases hG2 with rfl | ⟨b, rfl, hb⟩
  ·
   exact hpo
  ·
   intro e; injection e with e; have := blk_lt Bn.out; omega
 have W2 := Aside0.mk hW2
 have F2 := Aside0.mk (Fn.out.trans hF2 (.inl rfl))
 have G2 : Aside0 (Gw o o2 w) := ⟨Gw.trans (.inl rfl) hG2 Fn.out.1.size⟩
 clear hW2 hF2 hG2
 have c0 : w2.cell? ⟨p, 0, none⟩ = some (.int .i64 9) := (blk_cell B2.out 0).trans (by rw [← HK0.out]; rfl)
 have d2_8 : w2.cell? ⟨p, 8, none⟩ = some (.int .i64 x.f8) := (blk_cell B2.out 8).trans rfl
 go_wp2_with (fail)
 refine (wnumber1 g o2 x.f8 (L ++ [.name (nameL x.f0)]) (by have := HL.out; simp only [List.length_append, List.length_cons, List.length_nil]; omega) w2 W2.out).mono ?_
 rintro e w3 ⟨rfl, o3, hW, hF, hG⟩
 have B3 := Aside0.mk ((hF.2 p (blk_lt B2.out) hpg hpo2).trans B2.out)
 have hpo3 : some p ≠ o3 := by
  rcases hG with rfl | ⟨b, rfl, hb⟩
  ·
   exact hpo2
  ·
   intro e; injection e with e; have := blk_lt B2.out; omega
 have W3 := Aside0.mk hW
 have F3 := Aside0.mk (F2.out.trans hF G2.out)
 have G3 := Aside0.mk (G2.out.trans hG F2.out.1.size)
 clear hW hF hG d2_8 c0
 go_wp2_with (fail)
 refine bodyPost_end (results_none rfl _ _ _) rfl ?_
 refine ⟨rfl, o3, ?_, F3.out, G3.out⟩
 have hW := W3.out
 simp only [List.append_assoc, List.cons_append, List.nil_append] at hW
 have ea : argsW x = [.num x.f8] := by unfold argsW; simp [HK0.out]
 unfold callW
 rw [ea]
 exact hW
end Go.Proofs.YtlkbeddlmbghkaaGreatDoor.PR

namespace Go.Proofs.YtlkbeddlmbghkaaGreatDoor.PR
open Go Go.Proofs Go.RowKit Go.Proofs.YtlkbeddlmbghkaaGreatDoorW.PrintWords Go.Proofs.YtlkbeddlmbghkaaGreatDoorW.PrintLast Go.Proofs.YtlkbeddlmbghkaaGreatDoorW.PrintMore
attribute [local go_sem] Wd.one Wd.run_store
set_option linter.unusedVariables false
set_option linter.unusedSimpArgs false
set_option maxRecDepth 100000

set_option maxHeartbeats 8000000 in
theorem wcall10_at (g : Nat) (o : Option Nat) (x : CallT) (v : Value) (hv : v = v) (L : List Wd) (hl : L.length ≤ 990000) (w : World) (hKt : KAt w) (h3 : 0 < g) (h : WrAt g o w L) (hk : x.f0 = 10) :
  Calls Tryz.prog 50 #[.pointer (some ⟨g, 0, none⟩), .agg (callV x v)] w fun e w' => e = .returned (.tuple #[]) ∧ ∃ o', WrAt g o' w' (L ++ callW x) ∧ Fw g o w w' ∧ Gw o o' w := by
 have hu52 := Tryz.underlying52
 have hu95 := Tryz.underlying95
 have H := Aside0.mk h
 have HL := Aside0.mk hl
 have HKt := Aside0.mk hKt
 have HK0 := Aside0.mk hk
 clear hk
 have hgl := h.lt
 have hpo := h.own (Nat.le_refl w.heap.size)
 clear h hl hKt
 go_enter Tryz.func50, Tryz.ntmps50
 go_upto_region 1 with (fail)
 have B1 := Aside0.mk (blk_new w (.cells (callV x v) 52))
 have ab1 : Below w.heap.size w (w.alloc (.cells (callV x v) 52)) := (Below.refl _ _).alloc (Nat.le_refl _) _
 have W1 := Aside0.mk (H.out.below ab1)
 have F1 := Aside0.mk (Fw.below (o := o) (Nat.le_of_lt hgl) ab1)
 change Code.wp _ _ _ _ (w.alloc (.cells (callV x v) 52))
 have HS := Aside0.mk ab1.size
 obtain ⟨p, hp⟩ : ∃ p, p = w.heap.size := ⟨_, rfl⟩
 have hpg : p ≠ g := by omega
 have hpo : some p ≠ o := by rw [hp]; exact hpo
 rw [← hp] at B1 ⊢
 generalize (w.alloc (.cells (callV x v) 52)) = w1 at *
 clear ab1 hp
 have c0 : w1.cell? ⟨p, 0, none⟩ = some (.int .i64 x.f0) := (blk_cell B1.out 0).trans rfl
 go_wp2_with (fail)
 refine (sname_at x.f0 w1 (HKt.out.mono h3 F1.out.1)).mono ?_
 rintro e wn ⟨rfl, hbn⟩
 have Bn := Aside0.mk (blk_below B1.out hbn)
 have Wn := Aside0.mk (W1.out.below hbn)
 have Fn := Aside0.mk (F1.out.trans (Fw.below (o := o) (Nat.le_of_lt W1.out.lt) hbn) (.inl rfl))
 clear c0 hbn
 go_wp2_with (fail)
 refine (wname_at g o (nameL x.f0) L (by have := HL.out; omega) wn Wn.out).mono ?_
 rintro e w2 ⟨rfl, o2, hW2, hF2, hG2⟩
 have B2 := Aside0.mk ((hF2.2 p (blk_lt Bn.out) hpg hpo).trans Bn.out)
 have hpo2 : some p ≠ o2 := by
  rcases hG2 with rfl | ⟨b, rfl, hb⟩
  ·
   exact hpo
  ·
   intro e; injection e with e; have := blk_lt Bn.out; omega
 have W2 := Aside0.mk hW2
 have F2 := Aside0.mk (Fn.out.trans hF2 (.inl rfl))
 have G2 : Aside0 (Gw o o2 w) := ⟨Gw.trans (.inl rfl) hG2 Fn.out.1.size⟩
 clear hW2 hF2 hG2
 have c0 : w2.cell? ⟨p, 0, none⟩ = some (.int .i64 10) := (blk_cell B2.out 0).trans (by rw [← HK0.out]; rfl)
 go_wp2_with (fail)
 refine bodyPost_end (results_none rfl _ _ _) rfl ?_
 refine ⟨rfl, o2, ?_, F2.out, G2.out⟩
 have hW := W2.out
 skip
 have ea : argsW x = [] := by unfold argsW; simp [HK0.out]
 unfold callW
 rw [ea]
 exact hW
end Go.Proofs.YtlkbeddlmbghkaaGreatDoor.PR

namespace Go.Proofs.YtlkbeddlmbghkaaGreatDoor.PR
open Go Go.Proofs Go.RowKit Go.Proofs.YtlkbeddlmbghkaaGreatDoorW.PrintWords Go.Proofs.YtlkbeddlmbghkaaGreatDoorW.PrintLast Go.Proofs.YtlkbeddlmbghkaaGreatDoorW.PrintMore
attribute [local go_sem] Wd.one Wd.run_store
set_option linter.unusedVariables false
set_option linter.unusedSimpArgs false
set_option maxRecDepth 100000

theorem wcall_at (g : Nat) (o : Option Nat) (x : CallT) (A : Option Addr) (cE : Nat) (w0 : World) {w : World} (hB0 : Below w0.heap.size w0 w) (hg0 : w0.heap.size ≤ g) (hC : Kd.C k93 w0 A x.f3.length x.f3) (hn : x.f3.length ≤ 200000) (L : List Wd) (hl : L.length ≤ 500000) (hKt : KAt w) (h3 : 0 < g) (h : WrAt g o w L) :
  Calls Tryz.prog 50 #[.pointer (some ⟨g, 0, none⟩), .agg (callV x (.slice A x.f3.length cE))] w fun e w' => e = .returned (.tuple #[]) ∧ ∃ o', WrAt g o' w' (L ++ callW x) ∧ Fw g o w w' ∧ Gw o o' w := by
 by_cases h0 : x.f0 < 1 ∨ 10 < x.f0
 ·
  exact wcall0_at g o x _ rfl L (by omega) w hKt h3 h h0
 rcases (by omega : x.f0 = 1 ∨ x.f0 = 2 ∨ x.f0 = 3 ∨ x.f0 = 4 ∨ x.f0 = 5 ∨ x.f0 = 6 ∨ x.f0 = 7 ∨ x.f0 = 8 ∨ x.f0 = 9 ∨ x.f0 = 10) with e | e | e | e | e | e | e | e | e | e
 ·
  exact wcall1_at g o x _ rfl L (by omega) w hKt h3 h e
 ·
  exact wcall2_at g o x _ rfl L (by omega) w hKt h3 h e
 ·
  exact wcall3_at g o x _ rfl L (by omega) w hKt h3 h e
 ·
  exact wcall4_at g o w x A cE w0 hB0 hg0 hC hn L hl hKt h3 h e
 ·
  exact wcall5_at g o x _ rfl L (by omega) w hKt h3 h e
 ·
  exact wcall6_at g o x _ rfl L (by omega) w hKt h3 h e
 ·
  exact wcall7_at g o x _ rfl L (by omega) w hKt h3 h e
 ·
  exact wcall8_at g o x _ rfl L (by omega) w hKt h3 h e
 ·
  exact wcall9_at g o x _ rfl L (by omega) w hKt h3 h e
 ·
  exact wcall10_at g o x _ rfl L (by omega) w hKt h3 h e
end Go.Proofs.YtlkbeddlmbghkaaGreatDoor.PR
