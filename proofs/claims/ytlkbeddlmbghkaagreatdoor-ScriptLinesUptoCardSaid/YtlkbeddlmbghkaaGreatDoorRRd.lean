/- rundleref26.Read: the step of a line's words. -/
import Derived.Test.YtlkbeddlmbghkaaGreatDoorRCh
namespace Go.Proofs.YtlkbeddlmbghkaaGreatDoor.PR
open Go Go.Proofs Go.RowKit Go.Proofs.YtlkbeddlmbghkaaGreatDoorW.PrintWords Go.Proofs.YtlkbeddlmbghkaaGreatDoorW.PrintLast Go.Proofs.YtlkbeddlmbghkaaGreatDoorW.PrintMore
set_option linter.unusedVariables false
set_option linter.unusedSimpArgs false
set_option maxRecDepth 100000

def zS : S58 := ⟨0, 0, 0, zC⟩
def stepW (y : S58) (v : Value) : Array Value := #[(.int .i64 y.f0), (.int .i64 y.f1), (.int .i64 y.f2), (.int .i64 y.f3.f0), (.string y.f3.f1), (.string y.f3.f2), v, (.string y.f3.f4), (.string y.f3.f5), (.bool y.f3.f6), (.int .i64 y.f3.f7), (.int .i64 y.f3.f8), (.int .i64 y.f3.f9), (.int .i64 y.f3.f10)]
theorem fillS (w W : World) (y : S58) (v : Value) (g : W.heap[w.heap.size]? = some (.cells #[.int .i64 0, .int .i64 0, .int .i64 0, .int .i64 0, .string ⟨#[]⟩, .string ⟨#[]⟩, .slice none 0 0, .string ⟨#[]⟩, .string ⟨#[]⟩, .bool false, .int .i64 0, .int .i64 0, .int .i64 0, .int .i64 0] 54 (0, 0))) (b : Below w.heap.size w W) (r : k93.R 93 W (w.heap.size + 1) (fun _ => True) v y.f3.f3) :
  (World.setCell (World.setCell (World.setCell (World.setCell (World.setCell (World.setCell (World.setCell (World.setCell (World.setCell (World.setCell (World.setCell (World.setCell (World.setCell (World.setCell W ⟨w.heap.size, 0, none⟩ (.int .i64 y.f0)) ⟨w.heap.size, 1, none⟩ (.int .i64 y.f1)) ⟨w.heap.size, 2, none⟩ (.int .i64 y.f2)) ⟨w.heap.size, 3, none⟩ (.int .i64 y.f3.f0)) ⟨w.heap.size, 4, none⟩ (.string y.f3.f1)) ⟨w.heap.size, 5, none⟩ (.string y.f3.f2)) ⟨w.heap.size, 6, none⟩ (v)) ⟨w.heap.size, 7, none⟩ (.string y.f3.f4)) ⟨w.heap.size, 8, none⟩ (.string y.f3.f5)) ⟨w.heap.size, 9, none⟩ (.bool y.f3.f6)) ⟨w.heap.size, 10, none⟩ (.int .i64 y.f3.f7)) ⟨w.heap.size, 11, none⟩ (.int .i64 y.f3.f8)) ⟨w.heap.size, 12, none⟩ (.int .i64 y.f3.f9)) ⟨w.heap.size, 13, none⟩ (.int .i64 y.f3.f10)).heap[w.heap.size]? = some (.cells (stepW y v) 54 (0, 0)) ∧ Below w.heap.size w (World.setCell (World.setCell (World.setCell (World.setCell (World.setCell (World.setCell (World.setCell (World.setCell (World.setCell (World.setCell (World.setCell (World.setCell (World.setCell (World.setCell W ⟨w.heap.size, 0, none⟩ (.int .i64 y.f0)) ⟨w.heap.size, 1, none⟩ (.int .i64 y.f1)) ⟨w.heap.size, 2, none⟩ (.int .i64 y.f2)) ⟨w.heap.size, 3, none⟩ (.int .i64 y.f3.f0)) ⟨w.heap.size, 4, none⟩ (.string y.f3.f1)) ⟨w.heap.size, 5, none⟩ (.string y.f3.f2)) ⟨w.heap.size, 6, none⟩ (v)) ⟨w.heap.size, 7, none⟩ (.string y.f3.f4)) ⟨w.heap.size, 8, none⟩ (.string y.f3.f5)) ⟨w.heap.size, 9, none⟩ (.bool y.f3.f6)) ⟨w.heap.size, 10, none⟩ (.int .i64 y.f3.f7)) ⟨w.heap.size, 11, none⟩ (.int .i64 y.f3.f8)) ⟨w.heap.size, 12, none⟩ (.int .i64 y.f3.f9)) ⟨w.heap.size, 13, none⟩ (.int .i64 y.f3.f10)) ∧ k93.R 93 (World.setCell (World.setCell (World.setCell (World.setCell (World.setCell (World.setCell (World.setCell (World.setCell (World.setCell (World.setCell (World.setCell (World.setCell (World.setCell (World.setCell W ⟨w.heap.size, 0, none⟩ (.int .i64 y.f0)) ⟨w.heap.size, 1, none⟩ (.int .i64 y.f1)) ⟨w.heap.size, 2, none⟩ (.int .i64 y.f2)) ⟨w.heap.size, 3, none⟩ (.int .i64 y.f3.f0)) ⟨w.heap.size, 4, none⟩ (.string y.f3.f1)) ⟨w.heap.size, 5, none⟩ (.string y.f3.f2)) ⟨w.heap.size, 6, none⟩ (v)) ⟨w.heap.size, 7, none⟩ (.string y.f3.f4)) ⟨w.heap.size, 8, none⟩ (.string y.f3.f5)) ⟨w.heap.size, 9, none⟩ (.bool y.f3.f6)) ⟨w.heap.size, 10, none⟩ (.int .i64 y.f3.f7)) ⟨w.heap.size, 11, none⟩ (.int .i64 y.f3.f8)) ⟨w.heap.size, 12, none⟩ (.int .i64 y.f3.f9)) ⟨w.heap.size, 13, none⟩ (.int .i64 y.f3.f10)) w.heap.size (fun _ => True) v y.f3.f3 := by
 have g := blk_put g 0 (.int .i64 y.f0) (cs' := #[(.int .i64 y.f0), .int .i64 0, .int .i64 0, .int .i64 0, .string ⟨#[]⟩, .string ⟨#[]⟩, .slice none 0 0, .string ⟨#[]⟩, .string ⟨#[]⟩, .bool false, .int .i64 0, .int .i64 0, .int .i64 0, .int .i64 0]) rfl
 have b := b.setCell (p := ⟨w.heap.size, 0, none⟩) (Nat.le_refl _) (.int .i64 y.f0)
 have r := Kd.R_mono (Kd.R_far (p := ⟨w.heap.size, 0, none⟩) (Kd.R_bound r) (fun k hk => by have := hk.2.1; show k ≠ w.heap.size; omega) (.int .i64 y.f0)) (ok' := fun _ => True) (fun _ _ => trivial)
 have g := blk_put g 1 (.int .i64 y.f1) (cs' := #[(.int .i64 y.f0), (.int .i64 y.f1), .int .i64 0, .int .i64 0, .string ⟨#[]⟩, .string ⟨#[]⟩, .slice none 0 0, .string ⟨#[]⟩, .string ⟨#[]⟩, .bool false, .int .i64 0, .int .i64 0, .int .i64 0, .int .i64 0]) rfl
 have b := b.setCell (p := ⟨w.heap.size, 1, none⟩) (Nat.le_refl _) (.int .i64 y.f1)
 have r := Kd.R_mono (Kd.R_far (p := ⟨w.heap.size, 1, none⟩) (Kd.R_bound r) (fun k hk => by have := hk.2.1; show k ≠ w.heap.size; omega) (.int .i64 y.f1)) (ok' := fun _ => True) (fun _ _ => trivial)
 have g := blk_put g 2 (.int .i64 y.f2) (cs' := #[(.int .i64 y.f0), (.int .i64 y.f1), (.int .i64 y.f2), .int .i64 0, .string ⟨#[]⟩, .string ⟨#[]⟩, .slice none 0 0, .string ⟨#[]⟩, .string ⟨#[]⟩, .bool false, .int .i64 0, .int .i64 0, .int .i64 0, .int .i64 0]) rfl
 have b := b.setCell (p := ⟨w.heap.size, 2, none⟩) (Nat.le_refl _) (.int .i64 y.f2)
 have r := Kd.R_mono (Kd.R_far (p := ⟨w.heap.size, 2, none⟩) (Kd.R_bound r) (fun k hk => by have := hk.2.1; show k ≠ w.heap.size; omega) (.int .i64 y.f2)) (ok' := fun _ => True) (fun _ _ => trivial)
 have g := blk_put g 3 (.int .i64 y.f3.f0) (cs' := #[(.int .i64 y.f0), (.int .i64 y.f1), (.int .i64 y.f2), (.int .i64 y.f3.f0), .string ⟨#[]⟩, .string ⟨#[]⟩, .slice none 0 0, .string ⟨#[]⟩, .string ⟨#[]⟩, .bool false, .int .i64 0, .int .i64 0, .int .i64 0, .int .i64 0]) rfl
 have b := b.setCell (p := ⟨w.heap.size, 3, none⟩) (Nat.le_refl _) (.int .i64 y.f3.f0)
 have r := Kd.R_mono (Kd.R_far (p := ⟨w.heap.size, 3, none⟩) (Kd.R_bound r) (fun k hk => by have := hk.2.1; show k ≠ w.heap.size; omega) (.int .i64 y.f3.f0)) (ok' := fun _ => True) (fun _ _ => trivial)
 have g := blk_put g 4 (.string y.f3.f1) (cs' := #[(.int .i64 y.f0), (.int .i64 y.f1), (.int .i64 y.f2), (.int .i64 y.f3.f0), (.string y.f3.f1), .string ⟨#[]⟩, .slice none 0 0, .string ⟨#[]⟩, .string ⟨#[]⟩, .bool false, .int .i64 0, .int .i64 0, .int .i64 0, .int .i64 0]) rfl
 have b := b.setCell (p := ⟨w.heap.size, 4, none⟩) (Nat.le_refl _) (.string y.f3.f1)
 have r := Kd.R_mono (Kd.R_far (p := ⟨w.heap.size, 4, none⟩) (Kd.R_bound r) (fun k hk => by have := hk.2.1; show k ≠ w.heap.size; omega) (.string y.f3.f1)) (ok' := fun _ => True) (fun _ _ => trivial)
 have g := blk_put g 5 (.string y.f3.f2) (cs' := #[(.int .i64 y.f0), (.int .i64 y.f1), (.int .i64 y.f2), (.int .i64 y.f3.f0), (.string y.f3.f1), (.string y.f3.f2), .slice none 0 0, .string ⟨#[]⟩, .string ⟨#[]⟩, .bool false, .int .i64 0, .int .i64 0, .int .i64 0, .int .i64 0]) rfl
 have b := b.setCell (p := ⟨w.heap.size, 5, none⟩) (Nat.le_refl _) (.string y.f3.f2)
 have r := Kd.R_mono (Kd.R_far (p := ⟨w.heap.size, 5, none⟩) (Kd.R_bound r) (fun k hk => by have := hk.2.1; show k ≠ w.heap.size; omega) (.string y.f3.f2)) (ok' := fun _ => True) (fun _ _ => trivial)
 have g := blk_put g 6 (v) (cs' := #[(.int .i64 y.f0), (.int .i64 y.f1), (.int .i64 y.f2), (.int .i64 y.f3.f0), (.string y.f3.f1), (.string y.f3.f2), v, .string ⟨#[]⟩, .string ⟨#[]⟩, .bool false, .int .i64 0, .int .i64 0, .int .i64 0, .int .i64 0]) rfl
 have b := b.setCell (p := ⟨w.heap.size, 6, none⟩) (Nat.le_refl _) (v)
 have r := Kd.R_mono (Kd.R_far (p := ⟨w.heap.size, 6, none⟩) (Kd.R_bound r) (fun k hk => by have := hk.2.1; show k ≠ w.heap.size; omega) (v)) (ok' := fun _ => True) (fun _ _ => trivial)
 have g := blk_put g 7 (.string y.f3.f4) (cs' := #[(.int .i64 y.f0), (.int .i64 y.f1), (.int .i64 y.f2), (.int .i64 y.f3.f0), (.string y.f3.f1), (.string y.f3.f2), v, (.string y.f3.f4), .string ⟨#[]⟩, .bool false, .int .i64 0, .int .i64 0, .int .i64 0, .int .i64 0]) rfl
 have b := b.setCell (p := ⟨w.heap.size, 7, none⟩) (Nat.le_refl _) (.string y.f3.f4)
 have r := Kd.R_mono (Kd.R_far (p := ⟨w.heap.size, 7, none⟩) (Kd.R_bound r) (fun k hk => by have := hk.2.1; show k ≠ w.heap.size; omega) (.string y.f3.f4)) (ok' := fun _ => True) (fun _ _ => trivial)
 have g := blk_put g 8 (.string y.f3.f5) (cs' := #[(.int .i64 y.f0), (.int .i64 y.f1), (.int .i64 y.f2), (.int .i64 y.f3.f0), (.string y.f3.f1), (.string y.f3.f2), v, (.string y.f3.f4), (.string y.f3.f5), .bool false, .int .i64 0, .int .i64 0, .int .i64 0, .int .i64 0]) rfl
 have b := b.setCell (p := ⟨w.heap.size, 8, none⟩) (Nat.le_refl _) (.string y.f3.f5)
 have r := Kd.R_mono (Kd.R_far (p := ⟨w.heap.size, 8, none⟩) (Kd.R_bound r) (fun k hk => by have := hk.2.1; show k ≠ w.heap.size; omega) (.string y.f3.f5)) (ok' := fun _ => True) (fun _ _ => trivial)
 have g := blk_put g 9 (.bool y.f3.f6) (cs' := #[(.int .i64 y.f0), (.int .i64 y.f1), (.int .i64 y.f2), (.int .i64 y.f3.f0), (.string y.f3.f1), (.string y.f3.f2), v, (.string y.f3.f4), (.string y.f3.f5), (.bool y.f3.f6), .int .i64 0, .int .i64 0, .int .i64 0, .int .i64 0]) rfl
 have b := b.setCell (p := ⟨w.heap.size, 9, none⟩) (Nat.le_refl _) (.bool y.f3.f6)
 have r := Kd.R_mono (Kd.R_far (p := ⟨w.heap.size, 9, none⟩) (Kd.R_bound r) (fun k hk => by have := hk.2.1; show k ≠ w.heap.size; omega) (.bool y.f3.f6)) (ok' := fun _ => True) (fun _ _ => trivial)
 have g := blk_put g 10 (.int .i64 y.f3.f7) (cs' := #[(.int .i64 y.f0), (.int .i64 y.f1), (.int .i64 y.f2), (.int .i64 y.f3.f0), (.string y.f3.f1), (.string y.f3.f2), v, (.string y.f3.f4), (.string y.f3.f5), (.bool y.f3.f6), (.int .i64 y.f3.f7), .int .i64 0, .int .i64 0, .int .i64 0]) rfl
 have b := b.setCell (p := ⟨w.heap.size, 10, none⟩) (Nat.le_refl _) (.int .i64 y.f3.f7)
 have r := Kd.R_mono (Kd.R_far (p := ⟨w.heap.size, 10, none⟩) (Kd.R_bound r) (fun k hk => by have := hk.2.1; show k ≠ w.heap.size; omega) (.int .i64 y.f3.f7)) (ok' := fun _ => True) (fun _ _ => trivial)
 have g := blk_put g 11 (.int .i64 y.f3.f8) (cs' := #[(.int .i64 y.f0), (.int .i64 y.f1), (.int .i64 y.f2), (.int .i64 y.f3.f0), (.string y.f3.f1), (.string y.f3.f2), v, (.string y.f3.f4), (.string y.f3.f5), (.bool y.f3.f6), (.int .i64 y.f3.f7), (.int .i64 y.f3.f8), .int .i64 0, .int .i64 0]) rfl
 have b := b.setCell (p := ⟨w.heap.size, 11, none⟩) (Nat.le_refl _) (.int .i64 y.f3.f8)
 have r := Kd.R_mono (Kd.R_far (p := ⟨w.heap.size, 11, none⟩) (Kd.R_bound r) (fun k hk => by have := hk.2.1; show k ≠ w.heap.size; omega) (.int .i64 y.f3.f8)) (ok' := fun _ => True) (fun _ _ => trivial)
 have g := blk_put g 12 (.int .i64 y.f3.f9) (cs' := #[(.int .i64 y.f0), (.int .i64 y.f1), (.int .i64 y.f2), (.int .i64 y.f3.f0), (.string y.f3.f1), (.string y.f3.f2), v, (.string y.f3.f4), (.string y.f3.f5), (.bool y.f3.f6), (.int .i64 y.f3.f7), (.int .i64 y.f3.f8), (.int .i64 y.f3.f9), .int .i64 0]) rfl
 have b := b.setCell (p := ⟨w.heap.size, 12, none⟩) (Nat.le_refl _) (.int .i64 y.f3.f9)
 have r := Kd.R_mono (Kd.R_far (p := ⟨w.heap.size, 12, none⟩) (Kd.R_bound r) (fun k hk => by have := hk.2.1; show k ≠ w.heap.size; omega) (.int .i64 y.f3.f9)) (ok' := fun _ => True) (fun _ _ => trivial)
 have g := blk_put g 13 (.int .i64 y.f3.f10) (cs' := #[(.int .i64 y.f0), (.int .i64 y.f1), (.int .i64 y.f2), (.int .i64 y.f3.f0), (.string y.f3.f1), (.string y.f3.f2), v, (.string y.f3.f4), (.string y.f3.f5), (.bool y.f3.f6), (.int .i64 y.f3.f7), (.int .i64 y.f3.f8), (.int .i64 y.f3.f9), (.int .i64 y.f3.f10)]) rfl
 have b := b.setCell (p := ⟨w.heap.size, 13, none⟩) (Nat.le_refl _) (.int .i64 y.f3.f10)
 have r := Kd.R_mono (Kd.R_far (p := ⟨w.heap.size, 13, none⟩) (Kd.R_bound r) (fun k hk => by have := hk.2.1; show k ≠ w.heap.size; omega) (.int .i64 y.f3.f10)) (ok' := fun _ => True) (fun _ _ => trivial)
 exact ⟨g, b, Kd.R_lower r (by omega)⟩
theorem readR_cons (h : S46) (r : List S46) : readR (h :: r) = (if h.f0 ≠ 2 then none
  else if h.f2.toList = [98, 101, 103, 105, 110] then (match r with | a :: t => if formR [110] r = true then (callR t).map fun x => (⟨1, a.f1, 0, x⟩ : S58) else none | [] => none)
  else if h.f2.toList = [114, 117, 110] then (match r with | a :: t => if formR [110] r = true then (callR t).map fun x => (⟨2, a.f1, 0, x⟩ : S58) else none | [] => none)
  else if h.f2.toList = [115, 116, 101, 112] then (match r with | [a, b] => if formR [110, 110] r = true ∧ 1 ≤ b.f1 ∧ b.f1 ≤ 100000 then some (⟨3, a.f1, b.f1, zC⟩ : S58) else none | _ => none)
  else if h.f2.toList = [97, 108, 108] then (if r = [] then some (⟨4, 0, 0, zC⟩ : S58) else none)
  else none) := rfl
def stepR : List S46 → Option S58
 | [a, b] => if formR [110, 110] [a, b] = true ∧ 1 ≤ b.f1 ∧ b.f1 ≤ 100000 then some ⟨3, a.f1, b.f1, zC⟩ else none
 | _ => none
def begR (d : Int) : List S46 → Option S58
 | a :: t => if formR [110] (a :: t) = true then (callR t).map fun x => ⟨d, a.f1, 0, x⟩ else none
 | [] => none
theorem readR_begin (h : S46) (r : List S46) (hm : h.f0 = 2) (hy : h.f2.toList = [98, 101, 103, 105, 110]) : readR (h :: r) = begR 1 r := by
 rw [readR_cons, if_neg (by simp [hm]), if_pos hy]
 cases r <;> rfl
theorem readR_run (h : S46) (r : List S46) (hm : h.f0 = 2) (hy : h.f2.toList = [114, 117, 110]) : readR (h :: r) = begR 2 r := by
 rw [readR_cons, if_neg (by simp [hm]), if_neg (by rw [hy]; decide), if_pos hy]
 cases r <;> rfl
theorem readR_step (h : S46) (r : List S46) (hm : h.f0 = 2) (hy : h.f2.toList = [115, 116, 101, 112]) : readR (h :: r) = stepR r := by
 rw [readR_cons, if_neg (by simp [hm]), if_neg (by rw [hy]; decide), if_neg (by rw [hy]; decide), if_pos hy]
 match r with
 | [] => rfl
 | [a] => rfl
 | [a, b] => rfl
 | a :: b :: c :: t => rfl
theorem cells14f {W : World} {g : Nat} {t : TypeId} {a0 a1 a2 a3 a4 a5 a6 a7 a8 a9 a10 a11 a12 a13 : Value} (h : W.heap[g]? = some (.cells #[a0, a1, a2, a3, a4, a5, a6, a7, a8, a9, a10, a11, a12, a13] t (0, 0))) : W.cell? ⟨g, 0, none⟩ = some a0 ∧ W.frozen? ⟨g, 0, none⟩ = false ∧ W.cell? ⟨g, 1, none⟩ = some a1 ∧ W.frozen? ⟨g, 1, none⟩ = false ∧ W.cell? ⟨g, 2, none⟩ = some a2 ∧ W.frozen? ⟨g, 2, none⟩ = false ∧ W.cell? ⟨g, 3, none⟩ = some a3 ∧ W.frozen? ⟨g, 3, none⟩ = false ∧ W.cell? ⟨g, 4, none⟩ = some a4 ∧ W.frozen? ⟨g, 4, none⟩ = false ∧ W.cell? ⟨g, 5, none⟩ = some a5 ∧ W.frozen? ⟨g, 5, none⟩ = false ∧ W.cell? ⟨g, 6, none⟩ = some a6 ∧ W.frozen? ⟨g, 6, none⟩ = false ∧ W.cell? ⟨g, 7, none⟩ = some a7 ∧ W.frozen? ⟨g, 7, none⟩ = false ∧ W.cell? ⟨g, 8, none⟩ = some a8 ∧ W.frozen? ⟨g, 8, none⟩ = false ∧ W.cell? ⟨g, 9, none⟩ = some a9 ∧ W.frozen? ⟨g, 9, none⟩ = false ∧ W.cell? ⟨g, 10, none⟩ = some a10 ∧ W.frozen? ⟨g, 10, none⟩ = false ∧ W.cell? ⟨g, 11, none⟩ = some a11 ∧ W.frozen? ⟨g, 11, none⟩ = false ∧ W.cell? ⟨g, 12, none⟩ = some a12 ∧ W.frozen? ⟨g, 12, none⟩ = false ∧ W.cell? ⟨g, 13, none⟩ = some a13 ∧ W.frozen? ⟨g, 13, none⟩ = false :=
 ⟨(blk_cell h 0).trans rfl, blk_frozen h 0, (blk_cell h 1).trans rfl, blk_frozen h 1, (blk_cell h 2).trans rfl, blk_frozen h 2, (blk_cell h 3).trans rfl, blk_frozen h 3, (blk_cell h 4).trans rfl, blk_frozen h 4, (blk_cell h 5).trans rfl, blk_frozen h 5, (blk_cell h 6).trans rfl, blk_frozen h 6, (blk_cell h 7).trans rfl, blk_frozen h 7, (blk_cell h 8).trans rfl, blk_frozen h 8, (blk_cell h 9).trans rfl, blk_frozen h 9, (blk_cell h 10).trans rfl, blk_frozen h 10, (blk_cell h 11).trans rfl, blk_frozen h 11, (blk_cell h 12).trans rfl, blk_frozen h 12, (blk_cell h 13).trans rfl, blk_frozen h 13⟩
theorem cell_eq {w w' : World} {p : Addr} (h : w'.heap[p.block]? = w.heap[p.block]?) : w'.cell? p = w.cell? p := by
 unfold World.cell?
 rw [h]
theorem fr14 (W : World) (g : Nat) (u0 u1 u2 u3 u4 u5 u6 u7 u8 u9 u10 u11 u12 u13 : Value) (k : Nat) (hk : k ≠ g) :
  (World.setCell (World.setCell (World.setCell (World.setCell (World.setCell (World.setCell (World.setCell (World.setCell (World.setCell (World.setCell (World.setCell (World.setCell (World.setCell (World.setCell W ⟨g, 0, none⟩ (u0)) ⟨g, 1, none⟩ (u1)) ⟨g, 2, none⟩ (u2)) ⟨g, 3, none⟩ (u3)) ⟨g, 4, none⟩ (u4)) ⟨g, 5, none⟩ (u5)) ⟨g, 6, none⟩ (u6)) ⟨g, 7, none⟩ (u7)) ⟨g, 8, none⟩ (u8)) ⟨g, 9, none⟩ (u9)) ⟨g, 10, none⟩ (u10)) ⟨g, 11, none⟩ (u11)) ⟨g, 12, none⟩ (u12)) ⟨g, 13, none⟩ (u13)).heap[k]? = W.heap[k]? := by
 rw [Below.heap_setCell _ ⟨g, 13, none⟩ _ k hk, Below.heap_setCell _ ⟨g, 12, none⟩ _ k hk, Below.heap_setCell _ ⟨g, 11, none⟩ _ k hk, Below.heap_setCell _ ⟨g, 10, none⟩ _ k hk, Below.heap_setCell _ ⟨g, 9, none⟩ _ k hk, Below.heap_setCell _ ⟨g, 8, none⟩ _ k hk, Below.heap_setCell _ ⟨g, 7, none⟩ _ k hk, Below.heap_setCell _ ⟨g, 6, none⟩ _ k hk, Below.heap_setCell _ ⟨g, 5, none⟩ _ k hk, Below.heap_setCell _ ⟨g, 4, none⟩ _ k hk, Below.heap_setCell _ ⟨g, 3, none⟩ _ k hk, Below.heap_setCell _ ⟨g, 2, none⟩ _ k hk, Below.heap_setCell _ ⟨g, 1, none⟩ _ k hk, Below.heap_setCell _ ⟨g, 0, none⟩ _ k hk]
/-- What Read comes to. -/
def ReadRPost (w : World) (l : List S46) (e : Ending) (w' : World) : Prop :=
 ∃ (n : Int) (y : S58) (v : Value), e = .returned (.tuple #[.agg (stepW y v), .int .i64 n]) ∧ k93.R 93 w' w.heap.size (fun _ => True) v y.f3.f3 ∧ Below w.heap.size w w' ∧ ((n = 1 ∧ readR l = some y) ∨ (n = 0 ∧ readR l = none))

set_option maxHeartbeats 16000000 in
theorem walkR_nil (A : Option Addr) (c : Nat) (w : World) :
  Calls Tryz.prog 18 #[.slice A 0 c] w fun e w' => ReadRPost w [] e w' := by
 have hu54 := Tryz.underlying54
 have hu52 := Tryz.underlying52
 have hu46 := Tryz.underlying46
 go_enter Tryz.func18, Tryz.ntmps18
 go_upto_region 1 with (fail)
 have Z1 := Aside0.mk (blk_new w (.cells #[.int .i64 0, .int .i64 0, .int .i64 0, .int .i64 0, .string ⟨#[]⟩, .string ⟨#[]⟩, .slice none 0 0, .string ⟨#[]⟩, .string ⟨#[]⟩, .bool false, .int .i64 0, .int .i64 0, .int .i64 0, .int .i64 0] 54))
 have B1 : Aside0 (Below w.heap.size w (w.alloc (.cells #[.int .i64 0, .int .i64 0, .int .i64 0, .int .i64 0, .string ⟨#[]⟩, .string ⟨#[]⟩, .slice none 0 0, .string ⟨#[]⟩, .string ⟨#[]⟩, .bool false, .int .i64 0, .int .i64 0, .int .i64 0, .int .i64 0] 54))) := ⟨(Below.refl _ _).alloc (Nat.le_refl _) _⟩
 change Code.wp _ _ _ _ (w.alloc (.cells #[.int .i64 0, .int .i64 0, .int .i64 0, .int .i64 0, .string ⟨#[]⟩, .string ⟨#[]⟩, .slice none 0 0, .string ⟨#[]⟩, .string ⟨#[]⟩, .bool false, .int .i64 0, .int .i64 0, .int .i64 0, .int .i64 0] 54))
 generalize (w.alloc (.cells #[.int .i64 0, .int .i64 0, .int .i64 0, .int .i64 0, .string ⟨#[]⟩, .string ⟨#[]⟩, .slice none 0 0, .string ⟨#[]⟩, .string ⟨#[]⟩, .bool false, .int .i64 0, .int .i64 0, .int .i64 0, .int .i64 0] 54)) = w1 at *
 obtain ⟨r0, rf0, r1, rf1, r2, rf2, r3, rf3, r4, rf4, r5, rf5, r6, rf6, r7, rf7, r8, rf8, r9, rf9, r10, rf10, r11, rf11, r12, rf12, r13, rf13⟩ := cells14f (show w1.heap[w.heap.size]? = some (.cells #[.int .i64 0, .int .i64 0, .int .i64 0, .int .i64 0, .string ⟨#[]⟩, .string ⟨#[]⟩, .slice none 0 0, .string ⟨#[]⟩, .string ⟨#[]⟩, .bool false, .int .i64 0, .int .i64 0, .int .i64 0, .int .i64 0] 54 (0, 0)) from Z1.out)
 have hno : readR [] = none := by
  rfl
 have HNO := Aside0.mk hno
 clear hno
 go_wp2_with (fail)
 have F := fillS w w1 (zS) (.slice none 0 0) Z1.out B1.out (Kd.R_nil _ _ _ _ _)
 refine bodyPost_ret (results_c2 rfl _ _ w.heap.size 54 (stepW (zS) (.slice none 0 0)) (0, 0) _ rfl F.1 hu54 rfl (by kernel_rfl)) rfl ?_
 exact ⟨0, zS, .slice none 0 0, rfl, F.2.2, F.2.1, .inr ⟨rfl, HNO.out⟩⟩

set_option maxHeartbeats 16000000 in
theorem walkR_kind (A : Option Addr) (c : Nat) (h : S46) (r : List S46) (hl : (h :: r).length ≤ 1000000) (hc : (h :: r).length ≤ c) (w : World) (hC : Kd.C k46 w A (h :: r).length (h :: r)) (hm : ¬ h.f0 = 2) :
  Calls Tryz.prog 18 #[.slice A (h :: r).length c] w fun e w' => ReadRPost w (h :: r) e w' := by
 have hu54 := Tryz.underlying54
 have hu52 := Tryz.underlying52
 have hu46 := Tryz.underlying46
 have HC := Aside0.mk hC
 have HL := Aside0.mk hl
 have HCC := Aside0.mk hc
 clear hC hl hc
 go_enter Tryz.func18, Tryz.ntmps18
 go_upto_region 1 with (fail)
 have Z1 := Aside0.mk (blk_new w (.cells #[.int .i64 0, .int .i64 0, .int .i64 0, .int .i64 0, .string ⟨#[]⟩, .string ⟨#[]⟩, .slice none 0 0, .string ⟨#[]⟩, .string ⟨#[]⟩, .bool false, .int .i64 0, .int .i64 0, .int .i64 0, .int .i64 0] 54))
 have B1 : Aside0 (Below w.heap.size w (w.alloc (.cells #[.int .i64 0, .int .i64 0, .int .i64 0, .int .i64 0, .string ⟨#[]⟩, .string ⟨#[]⟩, .slice none 0 0, .string ⟨#[]⟩, .string ⟨#[]⟩, .bool false, .int .i64 0, .int .i64 0, .int .i64 0, .int .i64 0] 54))) := ⟨(Below.refl _ _).alloc (Nat.le_refl _) _⟩
 change Code.wp _ _ _ _ (w.alloc (.cells #[.int .i64 0, .int .i64 0, .int .i64 0, .int .i64 0, .string ⟨#[]⟩, .string ⟨#[]⟩, .slice none 0 0, .string ⟨#[]⟩, .string ⟨#[]⟩, .bool false, .int .i64 0, .int .i64 0, .int .i64 0, .int .i64 0] 54))
 generalize (w.alloc (.cells #[.int .i64 0, .int .i64 0, .int .i64 0, .int .i64 0, .string ⟨#[]⟩, .string ⟨#[]⟩, .slice none 0 0, .string ⟨#[]⟩, .string ⟨#[]⟩, .bool false, .int .i64 0, .int .i64 0, .int .i64 0, .int .i64 0] 54)) = w1 at *
 obtain ⟨ad, e0, xa0, xa1, xa2⟩ := at_T46 HC.out 0 (by decide) (by simp)
 subst e0
 rw [show rd_T46 (h :: r) 0 = h from rfl, show ((0 : Int).toNat * 3) = 0 from rfl, Addr.add_zero'] at xa0 xa1 xa2
 have hlta := World.block_lt_of_cell? w _ xa0
 have ha0 := (B1.out.cell hlta).trans xa0
 have ha2 := (B1.out.cell (World.block_lt_of_cell? w _ xa2)).trans xa2
 have l0 : (0 < (((h :: r).length : Nat) : Int)) = True := eq_true (by rw [List.length_cons]; omega)
 have l1 : (((h :: r).length : Int) == 0) = false := beq_eq_false_iff_ne.2 (by rw [List.length_cons]; omega)
 have l2 : ((r.length : Int) + 1 == 0) = false := beq_eq_false_iff_ne.2 (by omega)
 have l3 : ((r.length : Int) + 1 = 0) = False := eq_false (by omega)
 have l4 : (0 < (r.length : Int) + 1) = True := eq_true (by omega)
 have l5 : ((1 : Int) ≤ (r.length : Int) + 1) = True := eq_true (by omega)
 have l6 : (r.length + 1 ≤ c) = True := eq_true (by have := HCC.out; rw [List.length_cons] at this; exact this)
 have m1 : (h.f0 == 2) = false := beq_eq_false_iff_ne.2 hm
 have m2 : (h.f0 != 2) = true := bne_iff_ne.2 hm
 have m3 : (h.f0 = 2) = False := eq_false hm
 obtain ⟨r0, rf0, r1, rf1, r2, rf2, r3, rf3, r4, rf4, r5, rf5, r6, rf6, r7, rf7, r8, rf8, r9, rf9, r10, rf10, r11, rf11, r12, rf12, r13, rf13⟩ := cells14f (show w1.heap[w.heap.size]? = some (.cells #[.int .i64 0, .int .i64 0, .int .i64 0, .int .i64 0, .string ⟨#[]⟩, .string ⟨#[]⟩, .slice none 0 0, .string ⟨#[]⟩, .string ⟨#[]⟩, .bool false, .int .i64 0, .int .i64 0, .int .i64 0, .int .i64 0] 54 (0, 0)) from Z1.out)
 have hno : readR (h :: r) = none := by
  rw [readR_cons, if_pos hm]
 have HNO := Aside0.mk hno
 clear hno
 go_wp2_with (fail)
 have F := fillS w w1 (zS) (.slice none 0 0) Z1.out B1.out (Kd.R_nil _ _ _ _ _)
 refine bodyPost_ret (results_c2 rfl _ _ w.heap.size 54 (stepW (zS) (.slice none 0 0)) (0, 0) _ rfl F.1 hu54 rfl (by kernel_rfl)) rfl ?_
 exact ⟨0, zS, .slice none 0 0, rfl, F.2.2, F.2.1, .inr ⟨rfl, HNO.out⟩⟩

set_option maxHeartbeats 16000000 in
theorem walkR_other (A : Option Addr) (c : Nat) (h : S46) (r : List S46) (hl : (h :: r).length ≤ 1000000) (hc : (h :: r).length ≤ c) (w : World) (hC : Kd.C k46 w A (h :: r).length (h :: r)) (hm : h.f0 = 2) (h1 : ¬ h.f2.toList = [98, 101, 103, 105, 110]) (h2 : ¬ h.f2.toList = [114, 117, 110]) (h3 : ¬ h.f2.toList = [115, 116, 101, 112]) (h4 : ¬ h.f2.toList = [97, 108, 108]) :
  Calls Tryz.prog 18 #[.slice A (h :: r).length c] w fun e w' => ReadRPost w (h :: r) e w' := by
 have hu54 := Tryz.underlying54
 have hu52 := Tryz.underlying52
 have hu46 := Tryz.underlying46
 have HC := Aside0.mk hC
 have HL := Aside0.mk hl
 have HCC := Aside0.mk hc
 clear hC hl hc
 go_enter Tryz.func18, Tryz.ntmps18
 go_upto_region 1 with (fail)
 have Z1 := Aside0.mk (blk_new w (.cells #[.int .i64 0, .int .i64 0, .int .i64 0, .int .i64 0, .string ⟨#[]⟩, .string ⟨#[]⟩, .slice none 0 0, .string ⟨#[]⟩, .string ⟨#[]⟩, .bool false, .int .i64 0, .int .i64 0, .int .i64 0, .int .i64 0] 54))
 have B1 : Aside0 (Below w.heap.size w (w.alloc (.cells #[.int .i64 0, .int .i64 0, .int .i64 0, .int .i64 0, .string ⟨#[]⟩, .string ⟨#[]⟩, .slice none 0 0, .string ⟨#[]⟩, .string ⟨#[]⟩, .bool false, .int .i64 0, .int .i64 0, .int .i64 0, .int .i64 0] 54))) := ⟨(Below.refl _ _).alloc (Nat.le_refl _) _⟩
 change Code.wp _ _ _ _ (w.alloc (.cells #[.int .i64 0, .int .i64 0, .int .i64 0, .int .i64 0, .string ⟨#[]⟩, .string ⟨#[]⟩, .slice none 0 0, .string ⟨#[]⟩, .string ⟨#[]⟩, .bool false, .int .i64 0, .int .i64 0, .int .i64 0, .int .i64 0] 54))
 generalize (w.alloc (.cells #[.int .i64 0, .int .i64 0, .int .i64 0, .int .i64 0, .string ⟨#[]⟩, .string ⟨#[]⟩, .slice none 0 0, .string ⟨#[]⟩, .string ⟨#[]⟩, .bool false, .int .i64 0, .int .i64 0, .int .i64 0, .int .i64 0] 54)) = w1 at *
 obtain ⟨ad, e0, xa0, xa1, xa2⟩ := at_T46 HC.out 0 (by decide) (by simp)
 subst e0
 rw [show rd_T46 (h :: r) 0 = h from rfl, show ((0 : Int).toNat * 3) = 0 from rfl, Addr.add_zero'] at xa0 xa1 xa2
 have hlta := World.block_lt_of_cell? w _ xa0
 have ha0 := (B1.out.cell hlta).trans xa0
 have ha2 := (B1.out.cell (World.block_lt_of_cell? w _ xa2)).trans xa2
 have l0 : (0 < (((h :: r).length : Nat) : Int)) = True := eq_true (by rw [List.length_cons]; omega)
 have l1 : (((h :: r).length : Int) == 0) = false := beq_eq_false_iff_ne.2 (by rw [List.length_cons]; omega)
 have l2 : ((r.length : Int) + 1 == 0) = false := beq_eq_false_iff_ne.2 (by omega)
 have l3 : ((r.length : Int) + 1 = 0) = False := eq_false (by omega)
 have l4 : (0 < (r.length : Int) + 1) = True := eq_true (by omega)
 have l5 : ((1 : Int) ≤ (r.length : Int) + 1) = True := eq_true (by omega)
 have l6 : (r.length + 1 ≤ c) = True := eq_true (by have := HCC.out; rw [List.length_cons] at this; exact this)
 have m1 : (h.f0 == 2) = true := beq_iff_eq.2 hm
 have m2 : (h.f0 != 2) = false := bne_eq_false_iff_eq.2 hm
 have m3 : (h.f0 = 2) = True := eq_true hm
 have n0_1 : (h.f2.toList == [98, 101, 103, 105, 110]) = false := beq_eq_false_iff_ne.2 h1
 have n0_2 : (h.f2.toList != [98, 101, 103, 105, 110]) = true := bne_iff_ne.2 h1
 have n0_3 : (h.f2.toList = [98, 101, 103, 105, 110]) = False := eq_false h1
 have n1_1 : (h.f2.toList == [114, 117, 110]) = false := beq_eq_false_iff_ne.2 h2
 have n1_2 : (h.f2.toList != [114, 117, 110]) = true := bne_iff_ne.2 h2
 have n1_3 : (h.f2.toList = [114, 117, 110]) = False := eq_false h2
 have n2_1 : (h.f2.toList == [115, 116, 101, 112]) = false := beq_eq_false_iff_ne.2 h3
 have n2_2 : (h.f2.toList != [115, 116, 101, 112]) = true := bne_iff_ne.2 h3
 have n2_3 : (h.f2.toList = [115, 116, 101, 112]) = False := eq_false h3
 have n3_1 : (h.f2.toList == [97, 108, 108]) = false := beq_eq_false_iff_ne.2 h4
 have n3_2 : (h.f2.toList != [97, 108, 108]) = true := bne_iff_ne.2 h4
 have n3_3 : (h.f2.toList = [97, 108, 108]) = False := eq_false h4
 obtain ⟨r0, rf0, r1, rf1, r2, rf2, r3, rf3, r4, rf4, r5, rf5, r6, rf6, r7, rf7, r8, rf8, r9, rf9, r10, rf10, r11, rf11, r12, rf12, r13, rf13⟩ := cells14f (show w1.heap[w.heap.size]? = some (.cells #[.int .i64 0, .int .i64 0, .int .i64 0, .int .i64 0, .string ⟨#[]⟩, .string ⟨#[]⟩, .slice none 0 0, .string ⟨#[]⟩, .string ⟨#[]⟩, .bool false, .int .i64 0, .int .i64 0, .int .i64 0, .int .i64 0] 54 (0, 0)) from Z1.out)
 have hno : readR (h :: r) = none := by
  rw [readR_cons, if_neg (by simp [hm]), if_neg h1, if_neg h2, if_neg h3, if_neg h4]
 have HNO := Aside0.mk hno
 clear hno
 go_wp2_with (fail)
 have F := fillS w w1 (zS) (.slice none 0 0) Z1.out B1.out (Kd.R_nil _ _ _ _ _)
 refine bodyPost_ret (results_c2 rfl _ _ w.heap.size 54 (stepW (zS) (.slice none 0 0)) (0, 0) _ rfl F.1 hu54 rfl (by kernel_rfl)) rfl ?_
 exact ⟨0, zS, .slice none 0 0, rfl, F.2.2, F.2.1, .inr ⟨rfl, HNO.out⟩⟩

set_option maxHeartbeats 16000000 in
theorem walkR_all (A : Option Addr) (c : Nat) (h : S46) (r : List S46) (hl : (h :: r).length ≤ 1000000) (hc : (h :: r).length ≤ c) (w : World) (hC : Kd.C k46 w A (h :: r).length (h :: r)) (hm : h.f0 = 2) (hy : h.f2.toList = [97, 108, 108]) :
  Calls Tryz.prog 18 #[.slice A (h :: r).length c] w fun e w' => ReadRPost w (h :: r) e w' := by
 have hu54 := Tryz.underlying54
 have hu52 := Tryz.underlying52
 have hu46 := Tryz.underlying46
 have HC := Aside0.mk hC
 have HL := Aside0.mk hl
 have HCC := Aside0.mk hc
 clear hC hl hc
 go_enter Tryz.func18, Tryz.ntmps18
 go_upto_region 1 with (fail)
 have Z1 := Aside0.mk (blk_new w (.cells #[.int .i64 0, .int .i64 0, .int .i64 0, .int .i64 0, .string ⟨#[]⟩, .string ⟨#[]⟩, .slice none 0 0, .string ⟨#[]⟩, .string ⟨#[]⟩, .bool false, .int .i64 0, .int .i64 0, .int .i64 0, .int .i64 0] 54))
 have B1 : Aside0 (Below w.heap.size w (w.alloc (.cells #[.int .i64 0, .int .i64 0, .int .i64 0, .int .i64 0, .string ⟨#[]⟩, .string ⟨#[]⟩, .slice none 0 0, .string ⟨#[]⟩, .string ⟨#[]⟩, .bool false, .int .i64 0, .int .i64 0, .int .i64 0, .int .i64 0] 54))) := ⟨(Below.refl _ _).alloc (Nat.le_refl _) _⟩
 change Code.wp _ _ _ _ (w.alloc (.cells #[.int .i64 0, .int .i64 0, .int .i64 0, .int .i64 0, .string ⟨#[]⟩, .string ⟨#[]⟩, .slice none 0 0, .string ⟨#[]⟩, .string ⟨#[]⟩, .bool false, .int .i64 0, .int .i64 0, .int .i64 0, .int .i64 0] 54))
 generalize (w.alloc (.cells #[.int .i64 0, .int .i64 0, .int .i64 0, .int .i64 0, .string ⟨#[]⟩, .string ⟨#[]⟩, .slice none 0 0, .string ⟨#[]⟩, .string ⟨#[]⟩, .bool false, .int .i64 0, .int .i64 0, .int .i64 0, .int .i64 0] 54)) = w1 at *
 obtain ⟨ad, e0, xa0, xa1, xa2⟩ := at_T46 HC.out 0 (by decide) (by simp)
 subst e0
 rw [show rd_T46 (h :: r) 0 = h from rfl, show ((0 : Int).toNat * 3) = 0 from rfl, Addr.add_zero'] at xa0 xa1 xa2
 have hlta := World.block_lt_of_cell? w _ xa0
 have ha0 := (B1.out.cell hlta).trans xa0
 have ha2 := (B1.out.cell (World.block_lt_of_cell? w _ xa2)).trans xa2
 have l0 : (0 < (((h :: r).length : Nat) : Int)) = True := eq_true (by rw [List.length_cons]; omega)
 have l1 : (((h :: r).length : Int) == 0) = false := beq_eq_false_iff_ne.2 (by rw [List.length_cons]; omega)
 have l2 : ((r.length : Int) + 1 == 0) = false := beq_eq_false_iff_ne.2 (by omega)
 have l3 : ((r.length : Int) + 1 = 0) = False := eq_false (by omega)
 have l4 : (0 < (r.length : Int) + 1) = True := eq_true (by omega)
 have l5 : ((1 : Int) ≤ (r.length : Int) + 1) = True := eq_true (by omega)
 have l6 : (r.length + 1 ≤ c) = True := eq_true (by have := HCC.out; rw [List.length_cons] at this; exact this)
 have m1 : (h.f0 == 2) = true := beq_iff_eq.2 hm
 have m2 : (h.f0 != 2) = false := bne_eq_false_iff_eq.2 hm
 have m3 : (h.f0 = 2) = True := eq_true hm
 have h1 : ¬ h.f2.toList = [98, 101, 103, 105, 110] := by rw [hy]; decide
 have h2 : ¬ h.f2.toList = [114, 117, 110] := by rw [hy]; decide
 have h3 : ¬ h.f2.toList = [115, 116, 101, 112] := by rw [hy]; decide
 have n0_1 : (h.f2.toList == [98, 101, 103, 105, 110]) = false := beq_eq_false_iff_ne.2 h1
 have n0_2 : (h.f2.toList != [98, 101, 103, 105, 110]) = true := bne_iff_ne.2 h1
 have n0_3 : (h.f2.toList = [98, 101, 103, 105, 110]) = False := eq_false h1
 have n1_1 : (h.f2.toList == [114, 117, 110]) = false := beq_eq_false_iff_ne.2 h2
 have n1_2 : (h.f2.toList != [114, 117, 110]) = true := bne_iff_ne.2 h2
 have n1_3 : (h.f2.toList = [114, 117, 110]) = False := eq_false h2
 have n2_1 : (h.f2.toList == [115, 116, 101, 112]) = false := beq_eq_false_iff_ne.2 h3
 have n2_2 : (h.f2.toList != [115, 116, 101, 112]) = true := bne_iff_ne.2 h3
 have n2_3 : (h.f2.toList = [115, 116, 101, 112]) = False := eq_false h3
 have y_1 : (h.f2.toList == [97, 108, 108]) = true := beq_iff_eq.2 hy
 have y_2 : (h.f2.toList != [97, 108, 108]) = false := bne_eq_false_iff_eq.2 hy
 have y_3 : (h.f2.toList = [97, 108, 108]) = True := eq_true hy
 have hrd : readR (h :: r) = (if r = [] then some ⟨4, 0, 0, zC⟩ else none) := by rw [readR_cons, if_neg (by simp [hm]), if_neg h1, if_neg h2, if_neg h3, if_pos hy]
 have HRD := Aside0.mk hrd
 clear hrd
 cases r with
 | nil =>
  obtain ⟨r0, rf0, r1, rf1, r2, rf2, r3, rf3, r4, rf4, r5, rf5, r6, rf6, r7, rf7, r8, rf8, r9, rf9, r10, rf10, r11, rf11, r12, rf12, r13, rf13⟩ := cells14f (show w1.heap[w.heap.size]? = some (.cells #[.int .i64 0, .int .i64 0, .int .i64 0, .int .i64 0, .string ⟨#[]⟩, .string ⟨#[]⟩, .slice none 0 0, .string ⟨#[]⟩, .string ⟨#[]⟩, .bool false, .int .i64 0, .int .i64 0, .int .i64 0, .int .i64 0] 54 (0, 0)) from Z1.out)
  go_wp2_with (fail)
  have F := fillS w w1 (⟨4, 0, 0, zC⟩) (.slice none 0 0) Z1.out B1.out (Kd.R_nil _ _ _ _ _)
  refine bodyPost_ret (results_c2 rfl _ _ w.heap.size 54 (stepW (⟨4, 0, 0, zC⟩) (.slice none 0 0)) (0, 0) _ rfl F.1 hu54 rfl (by kernel_rfl)) rfl ?_
  exact ⟨1, ⟨4, 0, 0, zC⟩, .slice none 0 0, rfl, F.2.2, F.2.1, .inl ⟨rfl, by rw [HRD.out]; rfl⟩⟩
 | cons a t =>
  have g1 : (((t.length : Int) + 1 + 1 == 1)) = false := beq_eq_false_iff_ne.2 (by omega)
  have g2 : ((t.length : Int) + 1 + 1 = 1) = False := eq_false (by omega)
  obtain ⟨r0, rf0, r1, rf1, r2, rf2, r3, rf3, r4, rf4, r5, rf5, r6, rf6, r7, rf7, r8, rf8, r9, rf9, r10, rf10, r11, rf11, r12, rf12, r13, rf13⟩ := cells14f (show w1.heap[w.heap.size]? = some (.cells #[.int .i64 0, .int .i64 0, .int .i64 0, .int .i64 0, .string ⟨#[]⟩, .string ⟨#[]⟩, .slice none 0 0, .string ⟨#[]⟩, .string ⟨#[]⟩, .bool false, .int .i64 0, .int .i64 0, .int .i64 0, .int .i64 0] 54 (0, 0)) from Z1.out)
  have hno : readR (h :: a :: t) = none := by
   rw [HRD.out]; rfl
  have HNO := Aside0.mk hno
  clear hno
  go_wp2_with (fail)
  have F := fillS w w1 (zS) (.slice none 0 0) Z1.out B1.out (Kd.R_nil _ _ _ _ _)
  refine bodyPost_ret (results_c2 rfl _ _ w.heap.size 54 (stepW (zS) (.slice none 0 0)) (0, 0) _ rfl F.1 hu54 rfl (by kernel_rfl)) rfl ?_
  exact ⟨0, zS, .slice none 0 0, rfl, F.2.2, F.2.1, .inr ⟨rfl, HNO.out⟩⟩
end Go.Proofs.YtlkbeddlmbghkaaGreatDoor.PR
