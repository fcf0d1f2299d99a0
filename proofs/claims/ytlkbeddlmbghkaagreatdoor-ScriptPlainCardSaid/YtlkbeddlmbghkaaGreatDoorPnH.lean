/- rundlelaw26.plain's blocks. -/
import Derived.Test.YtlkbeddlmbghkaaGreatDoorPl
import Derived.Test.YtlkbeddlmbghkaaGreatDoorScT
import Derived.Test.YtlkbeddlmbghkaaGreatDoorScM
namespace Go.Proofs.YtlkbeddlmbghkaaGreatDoor.PR
open Go Go.Proofs Go.RowKit Go.Proofs.YtlkbeddlmbghkaaGreatDoorW.PrintWords Go.Proofs.YtlkbeddlmbghkaaGreatDoorW.PrintLast Go.Proofs.YtlkbeddlmbghkaaGreatDoorW.PrintMore Go.Proofs.YtlkbeddlmbghkaaGreatDoor.Lx
set_option linter.unusedVariables false
set_option linter.unusedSimpArgs false
set_option maxRecDepth 100000

theorem cells14 {w : World} {g : Nat} {t : TypeId} {a0 a1 a2 a3 a4 a5 a6 a7 a8 a9 a10 a11 a12 a13 : Value} (h : w.heap[g]? = some (.cells #[a0, a1, a2, a3, a4, a5, a6, a7, a8, a9, a10, a11, a12, a13] t (0, 0))) : w.cell? ⟨g, 0, none⟩ = some a0 ∧ w.cell? ⟨g, 1, none⟩ = some a1 ∧ w.cell? ⟨g, 2, none⟩ = some a2 ∧ w.cell? ⟨g, 3, none⟩ = some a3 ∧ w.cell? ⟨g, 4, none⟩ = some a4 ∧ w.cell? ⟨g, 5, none⟩ = some a5 ∧ w.cell? ⟨g, 6, none⟩ = some a6 ∧ w.cell? ⟨g, 7, none⟩ = some a7 ∧ w.cell? ⟨g, 8, none⟩ = some a8 ∧ w.cell? ⟨g, 9, none⟩ = some a9 ∧ w.cell? ⟨g, 10, none⟩ = some a10 ∧ w.cell? ⟨g, 11, none⟩ = some a11 ∧ w.cell? ⟨g, 12, none⟩ = some a12 ∧ w.cell? ⟨g, 13, none⟩ = some a13 :=
 ⟨(blk_cell h 0).trans rfl, (blk_cell h 1).trans rfl, (blk_cell h 2).trans rfl, (blk_cell h 3).trans rfl, (blk_cell h 4).trans rfl, (blk_cell h 5).trans rfl, (blk_cell h 6).trans rfl, (blk_cell h 7).trans rfl, (blk_cell h 8).trans rfl, (blk_cell h 9).trans rfl, (blk_cell h 10).trans rfl, (blk_cell h 11).trans rfl, (blk_cell h 12).trans rfl, (blk_cell h 13).trans rfl⟩
theorem frz14 {w : World} {g : Nat} {t : TypeId} {cs : Array Value} (h : w.heap[g]? = some (.cells cs t (0, 0))) : w.frozen? ⟨g, 0, none⟩ = false ∧ w.frozen? ⟨g, 1, none⟩ = false ∧ w.frozen? ⟨g, 2, none⟩ = false ∧ w.frozen? ⟨g, 3, none⟩ = false ∧ w.frozen? ⟨g, 4, none⟩ = false ∧ w.frozen? ⟨g, 5, none⟩ = false ∧ w.frozen? ⟨g, 6, none⟩ = false ∧ w.frozen? ⟨g, 7, none⟩ = false ∧ w.frozen? ⟨g, 8, none⟩ = false ∧ w.frozen? ⟨g, 9, none⟩ = false ∧ w.frozen? ⟨g, 10, none⟩ = false ∧ w.frozen? ⟨g, 11, none⟩ = false ∧ w.frozen? ⟨g, 12, none⟩ = false ∧ w.frozen? ⟨g, 13, none⟩ = false :=
 ⟨blk_frozen h 0, blk_frozen h 1, blk_frozen h 2, blk_frozen h 3, blk_frozen h 4, blk_frozen h 5, blk_frozen h 6, blk_frozen h 7, blk_frozen h 8, blk_frozen h 9, blk_frozen h 10, blk_frozen h 11, blk_frozen h 12, blk_frozen h 13⟩
theorem cells11 {w : World} {g : Nat} {t : TypeId} {a0 a1 a2 a3 a4 a5 a6 a7 a8 a9 a10 : Value} (h : w.heap[g]? = some (.cells #[a0, a1, a2, a3, a4, a5, a6, a7, a8, a9, a10] t (0, 0))) : w.cell? ⟨g, 0, none⟩ = some a0 ∧ w.cell? ⟨g, 1, none⟩ = some a1 ∧ w.cell? ⟨g, 2, none⟩ = some a2 ∧ w.cell? ⟨g, 3, none⟩ = some a3 ∧ w.cell? ⟨g, 4, none⟩ = some a4 ∧ w.cell? ⟨g, 5, none⟩ = some a5 ∧ w.cell? ⟨g, 6, none⟩ = some a6 ∧ w.cell? ⟨g, 7, none⟩ = some a7 ∧ w.cell? ⟨g, 8, none⟩ = some a8 ∧ w.cell? ⟨g, 9, none⟩ = some a9 ∧ w.cell? ⟨g, 10, none⟩ = some a10 :=
 ⟨(blk_cell h 0).trans rfl, (blk_cell h 1).trans rfl, (blk_cell h 2).trans rfl, (blk_cell h 3).trans rfl, (blk_cell h 4).trans rfl, (blk_cell h 5).trans rfl, (blk_cell h 6).trans rfl, (blk_cell h 7).trans rfl, (blk_cell h 8).trans rfl, (blk_cell h 9).trans rfl, (blk_cell h 10).trans rfl⟩
theorem far2 {W : World} {p : Addr} {g i : Nat} {u v : Value} (hne : p.block ≠ g) (h : W.cell? p = some v) : (W.setCell ⟨g, i, none⟩ u).cell? p = some v := (cell_far (p := ⟨g, i, none⟩) hne u).trans h
theorem wp_world {P : Program} {c : Code} {Q : Exit → Act → World → Prop} {fr : Act} {a : World} (R : World → Prop) (h : R a) (k : ∀ b, R b → Code.wp P c Q fr b) : Code.wp P c Q fr a := k a h
theorem far11 {W : World} {p : Addr} {g : Nat} {v u0 u1 u2 u3 u4 u5 u6 u7 u8 u9 u10 : Value} (hne : p.block ≠ g) (h : W.cell? p = some v) : (World.setCell (World.setCell (World.setCell (World.setCell (World.setCell (World.setCell (World.setCell (World.setCell (World.setCell (World.setCell (World.setCell W ⟨g, 3, none⟩ u0) ⟨g, 4, none⟩ u1) ⟨g, 5, none⟩ u2) ⟨g, 6, none⟩ u3) ⟨g, 7, none⟩ u4) ⟨g, 8, none⟩ u5) ⟨g, 9, none⟩ u6) ⟨g, 10, none⟩ u7) ⟨g, 11, none⟩ u8) ⟨g, 12, none⟩ u9) ⟨g, 13, none⟩ u10).cell? p = some v :=
 far2 hne (far2 hne (far2 hne (far2 hne (far2 hne (far2 hne (far2 hne (far2 hne (far2 hne (far2 hne (far2 hne h))))))))))
theorem cell_drew (W : World) (p : Addr) : W.drew.cell? p = W.cell? p := rfl
theorem far11d {W : World} {p : Addr} {g : Nat} {v u0 u1 u2 u3 u4 u5 u6 u7 u8 u9 u10 : Value} (hne : p.block ≠ g) (h : W.cell? p = some v) : (World.drew (World.setCell (World.setCell (World.setCell (World.setCell (World.setCell (World.setCell (World.setCell (World.setCell (World.setCell (World.setCell (World.setCell W ⟨g, 3, none⟩ u0) ⟨g, 4, none⟩ u1) ⟨g, 5, none⟩ u2) ⟨g, 6, none⟩ u3) ⟨g, 7, none⟩ u4) ⟨g, 8, none⟩ u5) ⟨g, 9, none⟩ u6) ⟨g, 10, none⟩ u7) ⟨g, 11, none⟩ u8) ⟨g, 12, none⟩ u9) ⟨g, 13, none⟩ u10)).cell? p = some v := (cell_drew _ _).trans (far11 hne h)
/-- The step's block, and the other step's. -/
def PsAt (w0 : World) (p s : Nat) (cp cs : Array Value) (a : World) : Prop := Below w0.heap.size w0 a ∧ a.heap[p]? = some (.cells cp 58 (0, 0)) ∧ a.heap[s]? = some (.cells cs 58 (0, 0))
/-- .. and the call's. -/
def PlAt (w0 : World) (p s c : Nat) (cp cs cc : Array Value) (a : World) : Prop := PsAt w0 p s cp cs a ∧ a.heap[c]? = some (.cells cc 52 (0, 0))
theorem PsAt.putS {w0 : World} {p s : Nat} {cp cs : Array Value} {a : World} (h : PsAt w0 p s cp cs a) (hps : p ≠ s) (hs : w0.heap.size ≤ s) (i : Nat) (u : Value) {cs' : Array Value} (e : cs.setIfInBounds i u = cs') : PsAt w0 p s cp cs' (a.setCell ⟨s, i, none⟩ u) :=
 ⟨h.1.setCell (p := ⟨s, i, none⟩) hs u, (Below.heap_setCell a ⟨s, i, none⟩ u p hps).trans h.2.1, blk_put h.2.2 i u e⟩
theorem PlAt.putS {w0 : World} {p s c : Nat} {cp cs cc : Array Value} {a : World} (h : PlAt w0 p s c cp cs cc a) (hps : p ≠ s) (hcs : c ≠ s) (hs : w0.heap.size ≤ s) (i : Nat) (u : Value) {cs' : Array Value} (e : cs.setIfInBounds i u = cs') : PlAt w0 p s c cp cs' cc (a.setCell ⟨s, i, none⟩ u) :=
 ⟨h.1.putS hps hs i u e, (Below.heap_setCell a ⟨s, i, none⟩ u c hcs).trans h.2⟩
theorem PlAt.putC {w0 : World} {p s c : Nat} {cp cs cc : Array Value} {a : World} (h : PlAt w0 p s c cp cs cc a) (hpc : p ≠ c) (hsc : s ≠ c) (hc : w0.heap.size ≤ c) (i : Nat) (u : Value) {cc' : Array Value} (e : cc.setIfInBounds i u = cc') : PlAt w0 p s c cp cs cc' (a.setCell ⟨c, i, none⟩ u) :=
 ⟨⟨h.1.1.setCell (p := ⟨c, i, none⟩) hc u, (Below.heap_setCell a ⟨c, i, none⟩ u p hpc).trans h.1.2.1, (Below.heap_setCell a ⟨c, i, none⟩ u s hsc).trans h.1.2.2⟩, blk_put h.2 i u e⟩
theorem PsAt.drew {w0 : World} {p s : Nat} {cp cs : Array Value} {a : World} (h : PsAt w0 p s cp cs a) : PsAt w0 p s cp cs a.drew := ⟨h.1.drew, h.2.1, h.2.2⟩
theorem PlAt.drew {w0 : World} {p s c : Nat} {cp cs cc : Array Value} {a : World} (h : PlAt w0 p s c cp cs cc a) : PlAt w0 p s c cp cs cc a.drew := ⟨h.1.drew, h.2⟩
theorem PsAt.below {w0 : World} {p s : Nat} {cp cs : Array Value} {a b : World} (h : PsAt w0 p s cp cs a) (hb : Below a.heap.size a b) : PsAt w0 p s cp cs b := ⟨h.1.trans (hb.mono h.1.size), blk_below h.2.1 hb, blk_below h.2.2 hb⟩
theorem PlAt.below {w0 : World} {p s c : Nat} {cp cs cc : Array Value} {a b : World} (h : PlAt w0 p s c cp cs cc a) (hb : Below a.heap.size a b) : PlAt w0 p s c cp cs cc b := ⟨h.1.below hb, blk_below h.2 hb⟩
theorem PlAt.fill {w0 : World} {p s c : Nat} {cp cc : Array Value} {d n C z0 z1 z2 z3 z4 z5 z6 z7 z8 z9 z10 v0 v1 v2 v3 v4 v5 v6 v7 v8 v9 v10 : Value} {a : World} (h : PlAt w0 p s c cp #[d, C, n, z0, z1, z2, z3, z4, z5, z6, z7, z8, z9, z10] cc a) (hps : p ≠ s) (hcs : c ≠ s) (hs : w0.heap.size ≤ s) :
  PlAt w0 p s c cp #[d, C, n, v0, v1, v2, v3, v4, v5, v6, v7, v8, v9, v10] cc (World.setCell (World.setCell (World.setCell (World.setCell (World.setCell (World.setCell (World.setCell (World.setCell (World.setCell (World.setCell (World.setCell a ⟨s, 3, none⟩ v0) ⟨s, 4, none⟩ v1) ⟨s, 5, none⟩ v2) ⟨s, 6, none⟩ v3) ⟨s, 7, none⟩ v4) ⟨s, 8, none⟩ v5) ⟨s, 9, none⟩ v6) ⟨s, 10, none⟩ v7) ⟨s, 11, none⟩ v8) ⟨s, 12, none⟩ v9) ⟨s, 13, none⟩ v10) := by
 have h := h.putS hps hcs hs 3 v0 (cs' := #[d, C, n, v0, z1, z2, z3, z4, z5, z6, z7, z8, z9, z10]) rfl
 have h := h.putS hps hcs hs 4 v1 (cs' := #[d, C, n, v0, v1, z2, z3, z4, z5, z6, z7, z8, z9, z10]) rfl
 have h := h.putS hps hcs hs 5 v2 (cs' := #[d, C, n, v0, v1, v2, z3, z4, z5, z6, z7, z8, z9, z10]) rfl
 have h := h.putS hps hcs hs 6 v3 (cs' := #[d, C, n, v0, v1, v2, v3, z4, z5, z6, z7, z8, z9, z10]) rfl
 have h := h.putS hps hcs hs 7 v4 (cs' := #[d, C, n, v0, v1, v2, v3, v4, z5, z6, z7, z8, z9, z10]) rfl
 have h := h.putS hps hcs hs 8 v5 (cs' := #[d, C, n, v0, v1, v2, v3, v4, v5, z6, z7, z8, z9, z10]) rfl
 have h := h.putS hps hcs hs 9 v6 (cs' := #[d, C, n, v0, v1, v2, v3, v4, v5, v6, z7, z8, z9, z10]) rfl
 have h := h.putS hps hcs hs 10 v7 (cs' := #[d, C, n, v0, v1, v2, v3, v4, v5, v6, v7, z8, z9, z10]) rfl
 have h := h.putS hps hcs hs 11 v8 (cs' := #[d, C, n, v0, v1, v2, v3, v4, v5, v6, v7, v8, z9, z10]) rfl
 have h := h.putS hps hcs hs 12 v9 (cs' := #[d, C, n, v0, v1, v2, v3, v4, v5, v6, v7, v8, v9, z10]) rfl
 have h := h.putS hps hcs hs 13 v10 (cs' := #[d, C, n, v0, v1, v2, v3, v4, v5, v6, v7, v8, v9, v10]) rfl
 exact h
theorem nil_ne {b : ByteArray} (h : ¬b = ⟨#[]⟩) : ¬b.toList = [] := fun e => h (toList_inj (e.trans (by decide +kernel)))
/-- Entries that are not changed by being read. -/
theorem ents_same : ∀ L : List EntT, L.map entN = L ↔ ∀ e ∈ L, e.f2 = true → e.f1 = ⟨#[]⟩
 | [] => ⟨fun _ e he => (by cases he), fun _ => rfl⟩
 | e :: t => by
  rw [List.map_cons, List.cons.injEq, ents_same t, List.forall_mem_cons]
  have h : entN e = e ↔ (e.f2 = true → e.f1 = ⟨#[]⟩) := by
   unfold entN
   obtain ⟨a, b, c⟩ := e
   cases c
   ·
    simp
   ·
    simp [eq_comm]
  rw [h]
theorem plain_iff {x y : StepT} (hd : digS x) (h : stepN x = some y) : PlainS x ↔ x = y := by
 unfold PlainS
 rw [h]
 exact ⟨fun k => (Option.some.inj k.2).symm, fun k => ⟨hd, by rw [← k]⟩⟩
theorem plain_no {x : StepT} (h : stepN x = none) : ¬PlainS x := fun k => by have := k.2; rw [h] at this; cases this
end Go.Proofs.YtlkbeddlmbghkaaGreatDoor.PR
