/- A call, given by value, opened. -/
import Derived.Test.YtgnnhomipfjanaaMOpen
import Derived.Lib.SmallJoins
namespace Go.Proofs.Ytgnnhomipfjanaa.PM
open Go Go.Proofs Go.RowKit Go.ChangeShapes Go.WideShapes Go.Deep Go.Joins Go.Proofs.YtgnnhomipfjanaaW.PrintWords Go.Proofs.YtgnnhomipfjanaaW.PrintLast Go.Proofs.YtgnnhomipfjanaaW.PrintMore
theorem array11 {α : Type} {cs : Array α} (h : cs.size = 11) : ∃ c0 c1 c2 c3 c4 c5 c6 c7 c8 c9 c10, cs = #[c0, c1, c2, c3, c4, c5, c6, c7, c8, c9, c10] := by
  obtain ⟨l⟩ := cs
  match l, h with
  | [c0, c1, c2, c3, c4, c5, c6, c7, c8, c9, c10], _ => exact ⟨c0, c1, c2, c3, c4, c5, c6, c7, c8, c9, c10, rfl⟩
theorem list11 {α : Type} {cs : List α} (h : cs.length = 11) : ∃ c0 c1 c2 c3 c4 c5 c6 c7 c8 c9 c10, cs = [c0, c1, c2, c3, c4, c5, c6, c7, c8, c9, c10] := by
  match cs, h with
  | [c0, c1, c2, c3, c4, c5, c6, c7, c8, c9, c10], _ => exact ⟨c0, c1, c2, c3, c4, c5, c6, c7, c8, c9, c10, rfl⟩
section
variable {H : Type} {enc : TypeId × Value → H} {P : Program} {w : World} {base : Nat} {spare : Nat → Bool} {held : Bool}
theorem open_agg11 {r : Reach} {b0 : Nat} {t : TypeId} {f0 f1 f2 f3 f4 f5 f6 f7 f8 f9 f10 : Field} {v : Value} {d : DataW H} {p : List MemPlace} (hs : P.underlying t = some (.struct #[f0, f1, f2, f3, f4, f5, f6, f7, f8, f9, f10])) (hone : oneCellFields P #[f0, f1, f2, f3, f4, f5, f6, f7, f8, f9, f10] = true) (hC : P.cellsOf t = 11)
    (hv : Value.okWide P w r b0 t v) (h : DataW.Trod enc P w base spare held t v d p) :
    ∃ (v0 v1 v2 v3 v4 v5 v6 v7 v8 v9 v10 : Value) (y0 y1 y2 y3 y4 y5 y6 y7 y8 y9 y10 : DataW H × List MemPlace) (n : Nat), v = .agg #[v0, v1, v2, v3, v4, v5, v6, v7, v8, v9, v10] ∧
      DataW.trod enc P w base spare held n f0.type [v0] = some y0 ∧ DataW.trod enc P w base spare held n f1.type [v1] = some y1 ∧ DataW.trod enc P w base spare held n f2.type [v2] = some y2 ∧ DataW.trod enc P w base spare held n f3.type [v3] = some y3 ∧ DataW.trod enc P w base spare held n f4.type [v4] = some y4 ∧ DataW.trod enc P w base spare held n f5.type [v5] = some y5 ∧ DataW.trod enc P w base spare held n f6.type [v6] = some y6 ∧ DataW.trod enc P w base spare held n f7.type [v7] = some y7 ∧ DataW.trod enc P w base spare held n f8.type [v8] = some y8 ∧ DataW.trod enc P w base spare held n f9.type [v9] = some y9 ∧ DataW.trod enc P w base spare held n f10.type [v10] = some y10 := by
  obtain ⟨cs, rfl, hsz⟩ := okWide_struct hs hv
  obtain ⟨c0, c1, c2, c3, c4, c5, c6, c7, c8, c9, c10, rfl⟩ := array11 (hsz.trans hC)
  obtain ⟨fuel, hf⟩ := h
  obtain ⟨xs, n, _, _, hl, hlen, hg⟩ := DataW.trod_struct hs hf
  obtain ⟨y0, y1, y2, y3, y4, y5, y6, y7, y8, y9, y10, rfl⟩ := list11 hlen
  obtain ⟨o0, k0⟩ := hone_of hone 0 f0 rfl
  obtain ⟨o1, k1⟩ := hone_of hone 1 f1 rfl
  obtain ⟨o2, k2⟩ := hone_of hone 2 f2 rfl
  obtain ⟨o3, k3⟩ := hone_of hone 3 f3 rfl
  obtain ⟨o4, k4⟩ := hone_of hone 4 f4 rfl
  obtain ⟨o5, k5⟩ := hone_of hone 5 f5 rfl
  obtain ⟨o6, k6⟩ := hone_of hone 6 f6 rfl
  obtain ⟨o7, k7⟩ := hone_of hone 7 f7 rfl
  obtain ⟨o8, k8⟩ := hone_of hone 8 f8 rfl
  obtain ⟨o9, k9⟩ := hone_of hone 9 f9 rfl
  obtain ⟨o10, k10⟩ := hone_of hone 10 f10 rfl
  exact ⟨c0, c1, c2, c3, c4, c5, c6, c7, c8, c9, c10, y0, y1, y2, y3, y4, y5, y6, y7, y8, y9, y10, n, rfl, by simpa [Value.cells, o0, k0] using hg 0 f0 rfl, by simpa [Value.cells, o1, k1] using hg 1 f1 rfl, by simpa [Value.cells, o2, k2] using hg 2 f2 rfl, by simpa [Value.cells, o3, k3] using hg 3 f3 rfl, by simpa [Value.cells, o4, k4] using hg 4 f4 rfl, by simpa [Value.cells, o5, k5] using hg 5 f5 rfl, by simpa [Value.cells, o6, k6] using hg 6 f6 rfl, by simpa [Value.cells, o7, k7] using hg 7 f7 rfl, by simpa [Value.cells, o8, k8] using hg 8 f8 rfl, by simpa [Value.cells, o9, k9] using hg 9 f9 rfl, by simpa [Value.cells, o10, k10] using hg 10 f10 rfl⟩
end
set_option maxRecDepth 100000 in
theorem open_call {H : Type} {enc : TypeId × Value → H} {W : World} {base b0 : Nat} {spare : Nat → Bool} {held : Bool} {v : Value} {d : DataW H} {p : List MemPlace} (hv : Value.okWide Try.prog W .any b0 87 v) (h : DataW.Trod enc Try.prog W base spare held 87 v d p) :
    ∃ (x0 : Int) (x1 x2 : ByteArray) (A3 : Option Addr) (c3 : Nat) (l3 : List S37) (x4 x5 : ByteArray) (x6 : Bool) (x7 x8 x9 x10 : Int), v = .agg #[.int .i64 x0, .string x1, .string x2, .slice A3 l3.length c3, .string x4, .string x5, .bool x6, .int .i64 x7, .int .i64 x8, .int .i64 x9, .int .i64 x10] ∧ l3.length ≤ c3 ∧ Kd.C k37 W A3 l3.length l3 := by
  obtain ⟨v0, v1, v2, v3, v4, v5, v6, v7, v8, v9, v10, y0, y1, y2, y3, y4, y5, y6, y7, y8, y9, y10, n, rfl, t0, t1, t2, t3, t4, t5, t6, t7, t8, t9, t10⟩ := open_agg11 Try.underlying87 (by kernel_rfl) (by kernel_rfl) hv h
  obtain ⟨x0, g0, _⟩ := DataW.trod_int Try.underlying3 t0
  obtain ⟨x1, g1, _⟩ := DataW.trod_string Try.underlying9 t1
  obtain ⟨x2, g2, _⟩ := DataW.trod_string Try.underlying9 t2
  obtain ⟨l3, A3, c3, g3, q3, z3⟩ := open_recsL k37 Try.underlying25 (by kernel_rfl) el37 t3
  obtain ⟨x4, g4, _⟩ := DataW.trod_string Try.underlying9 t4
  obtain ⟨x5, g5, _⟩ := DataW.trod_string Try.underlying9 t5
  obtain ⟨x6, g6, _⟩ := DataW.trod_bool Try.underlying4 t6
  obtain ⟨x7, g7, _⟩ := DataW.trod_int Try.underlying3 t7
  obtain ⟨x8, g8, _⟩ := DataW.trod_int Try.underlying3 t8
  obtain ⟨x9, g9, _⟩ := DataW.trod_int Try.underlying3 t9
  obtain ⟨x10, g10, _⟩ := DataW.trod_int Try.underlying3 t10
  obtain rfl := List.singleton_inj.1 g0
  obtain rfl := List.singleton_inj.1 g1
  obtain rfl := List.singleton_inj.1 g2
  obtain rfl := List.singleton_inj.1 g3
  obtain rfl := List.singleton_inj.1 g4
  obtain rfl := List.singleton_inj.1 g5
  obtain rfl := List.singleton_inj.1 g6
  obtain rfl := List.singleton_inj.1 g7
  obtain rfl := List.singleton_inj.1 g8
  obtain rfl := List.singleton_inj.1 g9
  obtain rfl := List.singleton_inj.1 g10
  exact ⟨x0, x1, x2, A3, c3, l3, x4, x5, x6, x7, x8, x9, x10, rfl, q3, z3⟩
end Go.Proofs.Ytgnnhomipfjanaa.PM
