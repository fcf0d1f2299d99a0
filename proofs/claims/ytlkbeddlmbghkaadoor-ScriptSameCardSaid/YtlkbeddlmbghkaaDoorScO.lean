/- A step, given by value, opened: its cells, its row of entries; and the table of the calls' names, as it is laid. -/
import Derived.Test.YtlkbeddlmbghkaaDoorScC
import Derived.Test.YtlkbeddlmbghkaaDoorRows
import Derived.SizedLaws
import Derived.ChangeSlices
import Derived.Deep.Slices
import Derived.Deep.Fields
import Derived.ChangeSame
import Derived.Lib.SmallJoins
import Derived.OpenShut
import Derived.LaidMore
import Derived.LaidSub
import Derived.FnData
namespace Go.Proofs.YtlkbeddlmbghkaaDoor.PR
open Go Go.Proofs Go.RowKit Go.ChangeShapes Go.WideShapes Go.Deep Go.Joins Go.Proofs.YtlkbeddlmbghkaaDoorW.PrintWords Go.Proofs.YtlkbeddlmbghkaaDoorW.PrintLast Go.Proofs.YtlkbeddlmbghkaaDoorW.PrintMore
set_option linter.unusedVariables false
set_option linter.unusedSimpArgs false

section
variable {H : Type} {enc : TypeId × Value → H} {P : Program} {W : World} {base : Nat} {spare : Nat → Bool} {held : Bool}

/-- A row of elements that one by one are read. -/
theorem open_recs {α : Type} [Inhabited α] (d : Kd α) {t e : TypeId} {a : Option Addr} {len cap : Nat} {dt : DataW H} {ps : List MemPlace}
    (hu : P.underlying t = some (.slice e)) (hC : P.cellsOf e = d.sz)
    (hel : ∀ (n : Nat) (cs : List Value) y, DataW.trod enc P W base spare held n e cs = some y → ∃ x, d.K W x cs)
    (h : DataW.Trod enc P W base spare held t (.slice a len cap) dt ps) :
    ∃ xs : List α, xs.length = len ∧ len ≤ cap ∧ cap ≤ maxLen ∧ d.C W a len xs ∧
      (dt = .nil ∧ len = 0 ∨ ∃ el sp, dt = .slice el sp ∧ el.length = len) := by
  obtain ⟨fuel, hf⟩ := h
  rcases open_slice hu hf with ⟨hcs, hx⟩ | ⟨x, l, c, m, n, D, Pl, hcs, hb, hl, hm, hmm, hx, hi⟩
  · simp [Value.cells] at hcs
    obtain ⟨rfl, rfl, rfl⟩ := hcs
    exact ⟨[], rfl, Nat.le_refl _, by decide, ⟨rfl, by omega, fun h => absurd h (by omega)⟩, .inl ⟨(Prod.mk.inj hx).1, rfl⟩⟩
  · simp [Value.cells] at hcs
    obtain ⟨rfl, rfl, rfl⟩ := hcs
    obtain ⟨hx, _⟩ := Prod.mk.inj hx
    have hlm : len ≤ m := by rw [hmm]; split <;> omega
    have hall : ∀ i, i < len → ∃ y : α, ∃ cs, cs.length = d.sz ∧ d.K W y cs ∧ ∀ j u, cs[j]? = some u → W.cell? (x.add (i * d.sz + j)) = some u := by
      intro i hil
      obtain ⟨cs', hc, ht'⟩ := hi i (by omega)
      rw [hC] at hc
      obtain ⟨_, hcl, hat⟩ := World.cells?_some hc
      obtain ⟨y, hy⟩ := hel n cs' _ ht'
      refine ⟨y, cs', hcl, hy, fun j u hj => ?_⟩
      have hjl : j < d.sz := by rw [← hcl]; exact (List.getElem?_eq_some_iff.1 hj).1
      rw [← Go.Deep.add_add, hat j hjl, hj]
    obtain ⟨f, hf⟩ := choose_lt hall
    refine ⟨(List.range len).map f, by simp, hl, hm, ⟨by simp, by have : maxLen = 9223372036854775807 := rfl; omega, fun _ => ⟨x, rfl, fun j p hj => ?_⟩⟩, .inr ⟨_, _, hx, by simp⟩⟩
    have hjl : j < len := by have := (List.getElem?_eq_some_iff.1 hj).1; simpa using this
    have : p = f j := by simp [hjl] at hj; exact hj.symm
    subst this
    obtain ⟨cs, h1, h2, h3⟩ := hf j hjl
    exact ⟨cs, h1, h2, h3⟩

/-- .. inside an element: the slice's own cell. -/
theorem open_recsL {α : Type} [Inhabited α] (d : Kd α) {t e : TypeId} {fuel : Nat} {cs : List Value} {z : DataW H × List MemPlace}
    (hu : P.underlying t = some (.slice e)) (hC : P.cellsOf e = d.sz)
    (hel : ∀ (n : Nat) (cs : List Value) y, DataW.trod enc P W base spare held n e cs = some y → ∃ x, d.K W x cs)
    (h : DataW.trod enc P W base spare held fuel t cs = some z) :
    ∃ (xs : List α) (a : Option Addr) (cap : Nat), cs = [.slice a xs.length cap] ∧ xs.length ≤ cap ∧ d.C W a xs.length xs := by
  rcases open_slice hu h with ⟨hcs, hx⟩ | ⟨x, l, c, m, n, D, Pl, hcs, hb, hl, hm, hmm, hx, hi⟩
  · exact ⟨[], none, 0, hcs, Nat.le_refl _, ⟨rfl, by simp, fun h => absurd h (by simp)⟩⟩
  · subst hcs
    obtain ⟨xs, h1, h2, _, h4, _⟩ := open_recs d hu hC hel (a := some x) (len := l) (cap := c) (dt := z.1) (ps := z.2) ⟨fuel, h⟩
    subst h1
    exact ⟨xs, some x, c, rfl, h2, h4⟩

/-- Its length, by its weight. -/
theorem recs_len {ts : List TypeId} {ds : List (DataW H)} {j : Nat} {t e : TypeId} {dt : DataW H} {len B : Nat}
    (hsz : (DataW.weightsEach P ts ds).all (· ≤ reachBytes) = true) (ht : ts[j]? = some t) (hd : ds[j]? = some dt) (hu : P.underlying t = some (.slice e)) (hB : P.bytesOf e = B)
    (h : dt = .nil ∧ len = 0 ∨ ∃ el sp, dt = .slice el sp ∧ el.length = len) : len * B ≤ 140737488351232 := by
  rcases h with ⟨_, rfl⟩ | ⟨el, sp, rfl, rfl⟩
  · omega
  · have z := sized_slice hsz ht hd hu
    rw [hB] at z
    exact Nat.le_trans (Nat.mul_le_mul_right _ (Nat.le_add_right _ _)) z

/-- A struct of fields of one cell each, field by field. -/
theorem open_rec {t : TypeId} {fs : Array Field} {n : Nat} {cs : List Value} {y : DataW H × List MemPlace} (hs : P.underlying t = some (.struct fs)) (hone : oneCellFields P fs = true) (hC : P.cellsOf t = fs.size)
    (h : DataW.trod enc P W base spare held n t cs = some y) : cs.length = fs.size ∧
      ∀ (j : Nat) (f : Field), fs[j]? = some f → ∃ (v : Value) (m : Nat) (z : DataW H × List MemPlace), cs[j]? = some v ∧ DataW.trod enc P W base spare held m f.type [v] = some z := by
  obtain ⟨ys, n', hn', hy, hlen, hyl, hf⟩ := DataW.trod_struct hs h
  rw [hC] at hlen
  refine ⟨hlen, fun j f hj => ?_⟩
  obtain ⟨ho, hk⟩ := hone_of hone j f hj
  have hjl : j < fs.size := (Array.getElem?_eq_some_iff.1 hj).1
  have hv : cs[j]? = some (cs[j]'(by omega)) := List.getElem?_eq_getElem (by omega)
  have h1 := hf j f hj
  rw [ho, hk] at h1
  have hone' : (cs.drop j).take 1 = [cs[j]'(by omega)] := by
    rw [List.drop_eq_getElem_cons (by omega)]
    rfl
  rw [hone'] at h1
  have hys : ys[j]? = some (ys[j]'(by omega)) := List.getElem?_eq_getElem (by omega)
  exact ⟨_, n', _, hv, h1.trans hys⟩
end

/-- An entry of the argument's. -/
theorem open_entry {H : Type} {enc : TypeId × Value → H} {P : Program} {W : World} {base : Nat} {spare : Nat → Bool} {held : Bool} {t : TypeId} {f0 f1 f2 : Field}
    (hs : P.underlying t = some (.struct #[f0, f1, f2])) (hone : oneCellFields P #[f0, f1, f2] = true) (hC : P.cellsOf t = 3)
    (h0 : P.underlying f0.type = some .string) (h1 : P.underlying f1.type = some .string) (h2 : P.underlying f2.type = some .bool)
    (n : Nat) (cs : List Value) (y : DataW H × List MemPlace) (h : DataW.trod enc P W base spare held n t cs = some y) :
    ∃ (a b : ByteArray) (c : Bool), cs = [.string a, .string b, .bool c] := by
  obtain ⟨hl, hf⟩ := open_rec hs hone hC h
  match cs, hl with
  | [c0, c1, c2], _ =>
    obtain ⟨v0, m0, z0, e0, t0⟩ := hf 0 f0 rfl
    obtain ⟨v1, m1, z1, e1, t1⟩ := hf 1 f1 rfl
    obtain ⟨v2, m2, z2, e2, t2⟩ := hf 2 f2 rfl
    obtain ⟨s0, q0, _⟩ := DataW.trod_string h0 t0
    obtain ⟨s1, q1, _⟩ := DataW.trod_string h1 t1
    obtain ⟨s2, q2, _⟩ := DataW.trod_bool h2 t2
    simp at e0 e1 e2 q0 q1 q2
    subst e0; subst e1; subst e2; subst q0; subst q1; subst q2
    exact ⟨_, _, _, rfl⟩
instance : Inhabited S53 := ⟨z53⟩
theorem elE {H : Type} {enc : TypeId × Value → H} {W : World} {base : Nat} {spare : Nat → Bool} {held : Bool} (n : Nat) (cs : List Value) (y : DataW H × List MemPlace) (h : DataW.trod enc Tryd.prog W base spare held n 53 cs = some y) :
    ∃ x, k53.K W x cs := by
  obtain ⟨a, b, c, rfl⟩ := open_entry Tryd.underlying53 (by kernel_rfl) (by kernel_rfl) Tryd.underlying9 Tryd.underlying9 Tryd.underlying4 n cs y h
  exact ⟨⟨a, b, c⟩, k53_mk _ _⟩
theorem list14 {α : Type} {cs : List α} (h : cs.length = 14) : ∃ c0 c1 c2 c3 c4 c5 c6 c7 c8 c9 c10 c11 c12 c13, cs = [c0, c1, c2, c3, c4, c5, c6, c7, c8, c9, c10, c11, c12, c13] := by
  match cs, h with
  | [c0, c1, c2, c3, c4, c5, c6, c7, c8, c9, c10, c11, c12, c13], _ => exact ⟨c0, c1, c2, c3, c4, c5, c6, c7, c8, c9, c10, c11, c12, c13, rfl⟩
set_option maxRecDepth 100000 in
theorem open_step {H : Type} {enc : TypeId × Value → H} {W : World} {base b0 : Nat} {spare : Nat → Bool} {held : Bool} {v : Value} {d : DataW H} {p : List MemPlace} (hv : Value.okWide Tryd.prog W .any b0 48 v) (h : DataW.Trod enc Tryd.prog W base spare held 48 v d p) :
    ∃ (x : S48) (A : Option Addr) (c : Nat), v = .agg #[.int .i64 x.f0, .int .i64 x.f1, .int .i64 x.f2, .int .i64 x.f3.f0, .string x.f3.f1, .string x.f3.f2, .slice A x.f3.f3.length c, .string x.f3.f4, .string x.f3.f5, .bool x.f3.f6, .int .i64 x.f3.f7, .int .i64 x.f3.f8, .int .i64 x.f3.f9, .int .i64 x.f3.f10] ∧ x.f3.f3.length ≤ c ∧ Kd.C k53 W A x.f3.f3.length x.f3.f3 := by
  obtain ⟨cs, rfl, hsz⟩ := okWide_struct Tryd.underlying48 hv
  obtain ⟨l⟩ := cs
  have hl : l.length = 14 := hsz.trans (show Tryd.prog.cellsOf 48 = 14 by kernel_rfl)
  obtain ⟨c0, c1, c2, c3, c4, c5, c6, c7, c8, c9, c10, c11, c12, c13, rfl⟩ := list14 hl
  obtain ⟨fuel, hf⟩ := h
  obtain ⟨xs, n, _, _, _, hlen, hg⟩ := DataW.trod_struct Tryd.underlying48 hf
  have C3 : Tryd.prog.cellsOf 3 = 1 := by kernel_rfl
  have C46 : Tryd.prog.cellsOf 46 = 11 := by kernel_rfl
  obtain ⟨y0, y1, y2, y3, rfl⟩ : ∃ y0 y1 y2 y3, xs = [y0, y1, y2, y3] := by
    match xs, hlen with
    | [a, b, c, d], _ => exact ⟨a, b, c, d, rfl⟩
  have t0 : DataW.trod enc Tryd.prog W base spare held n 3 [c0] = some y0 := by
    simpa [C3, Value.cells] using hg 0 _ rfl
  have t1 : DataW.trod enc Tryd.prog W base spare held n 3 [c1] = some y1 := by
    simpa [C3, Value.cells] using hg 1 _ rfl
  have t2 : DataW.trod enc Tryd.prog W base spare held n 3 [c2] = some y2 := by
    simpa [C3, Value.cells] using hg 2 _ rfl
  have t3' : DataW.trod enc Tryd.prog W base spare held n 46 [c3, c4, c5, c6, c7, c8, c9, c10, c11, c12, c13] = some y3 := by
    simpa [C46, Value.cells] using hg 3 _ rfl
  obtain ⟨x0, g0, _⟩ := DataW.trod_int Tryd.underlying3 t0
  obtain ⟨x1, g1, _⟩ := DataW.trod_int Tryd.underlying3 t1
  obtain ⟨x2, g2, _⟩ := DataW.trod_int Tryd.underlying3 t2
  obtain rfl := List.singleton_inj.1 g0
  obtain rfl := List.singleton_inj.1 g1
  obtain rfl := List.singleton_inj.1 g2
  obtain ⟨_, hh⟩ := open_rec Tryd.underlying46 (by kernel_rfl) (by kernel_rfl) t3'
  obtain ⟨w0, m0, z0, e0, u0⟩ := hh 0 _ rfl
  obtain ⟨w1, m1, z1, e1, u1⟩ := hh 1 _ rfl
  obtain ⟨w2, m2, z2, e2, u2⟩ := hh 2 _ rfl
  obtain ⟨w3, m3, z3, e3, u3⟩ := hh 3 _ rfl
  obtain ⟨w4, m4, z4, e4, u4⟩ := hh 4 _ rfl
  obtain ⟨w5, m5, z5, e5, u5⟩ := hh 5 _ rfl
  obtain ⟨w6, m6, z6, e6, u6⟩ := hh 6 _ rfl
  obtain ⟨w7, m7, z7, e7, u7⟩ := hh 7 _ rfl
  obtain ⟨w8, m8, z8, e8, u8⟩ := hh 8 _ rfl
  obtain ⟨w9, m9, z9, e9, u9⟩ := hh 9 _ rfl
  obtain ⟨w10, m10, z10, e10, u10⟩ := hh 10 _ rfl
  obtain ⟨v0, q0, _⟩ := DataW.trod_int Tryd.underlying3 u0
  obtain ⟨v1, q1, _⟩ := DataW.trod_string Tryd.underlying9 u1
  obtain ⟨v2, q2, _⟩ := DataW.trod_string Tryd.underlying9 u2
  obtain ⟨l, A, c, q3, lc, hC⟩ := open_recsL k53 Tryd.underlying44 (by kernel_rfl) elE u3
  obtain ⟨v4, q4, _⟩ := DataW.trod_string Tryd.underlying9 u4
  obtain ⟨v5, q5, _⟩ := DataW.trod_string Tryd.underlying9 u5
  obtain ⟨v6, q6, _⟩ := DataW.trod_bool Tryd.underlying4 u6
  obtain ⟨v7, q7, _⟩ := DataW.trod_int Tryd.underlying3 u7
  obtain ⟨v8, q8, _⟩ := DataW.trod_int Tryd.underlying3 u8
  obtain ⟨v9, q9, _⟩ := DataW.trod_int Tryd.underlying3 u9
  obtain ⟨v10, q10, _⟩ := DataW.trod_int Tryd.underlying3 u10
  simp at e0 q0 e1 q1 e2 q2 e3 q3 e4 q4 e5 q5 e6 q6 e7 q7 e8 q8 e9 q9 e10 q10
  subst e0 q0
  subst e1 q1
  subst e2 q2
  subst e3 q3
  subst e4 q4
  subst e5 q5
  subst e6 q6
  subst e7 q7
  subst e8 q8
  subst e9 q9
  subst e10 q10
  exact ⟨⟨x0, x1, x2, ⟨v0, v1, v2, l, v4, v5, v6, v7, v8, v9, v10⟩⟩, A, c, rfl, lc, hC⟩

/-- The table of the calls' names lies as the program lays it. -/
def kindsB : List (List UInt8) := kindsL.map (·.data.toList)
theorem kat_of {W : World} (h : laidMetH Tryd.prog Rows.scriptSameRow.laid W) : KAt W ∧ 3 < W.heap.size := by
  rw [MakeChecks.laidMetH_plain _ _ _ (by kernel_rfl)] at h
  have h := h.filter (fun x => x.1 == "rundle/script.kinds")
  rw [show (Rows.scriptSameRow.laid.filter fun x => x.1 == "rundle/script.kinds") = [("rundle/script.kinds", Rows.laid_rundle_script_kinds)] by kernel_rfl] at h
  obtain ⟨ps, ⟨g, t, cs, fuel, p, q, hg, ht, hv, hd, _, _⟩, _, _⟩ := h
  obtain rfl := Option.some.inj ((show Tryd.prog.globalNamed "rundle/script.kinds" = some 3 by kernel_rfl).symm.trans hg)
  obtain rfl := Option.some.inj ((show (Tryd.prog.globals[3]?).map (·.type) = some 146 by kernel_rfl).symm.trans ht)
  obtain ⟨xs, m, _, ex, _, hl, hel⟩ := DataW.trod_array Tryd.underlying146 hd
  have c9 : Tryd.prog.cellsOf 9 = 1 := by kernel_rfl
  have e3 : (xs.map (·.1)) = kindsB.map fun s => .lit (.string s) := (DataW.agg.inj (Prod.mk.inj ex).1).symm.trans (by kernel_rfl)
  have hK : KAt W := by
    intro r s hs
    have hr : r < 11 := (List.getElem?_eq_some_iff.1 hs).1
    have hE := hel r hr
    rw [c9, Nat.mul_one, List.getElem?_eq_getElem (by omega)] at hE
    obtain ⟨z, e1, e2, _⟩ := DataW.trod_string Tryd.underlying9 hE
    have e4 : (xs.map (·.1))[r]? = (kindsB.map fun s => (DataW.lit (.string s) : DataW Unit))[r]? := by rw [e3]
    rw [List.getElem?_map, List.getElem?_map, List.getElem?_eq_getElem (by omega : r < xs.length), e2, kindsB, List.getElem?_map, hs] at e4
    have hz : z = s := by
      simp only [Option.map_some, Option.some.injEq, DataW.lit.injEq, Lit.string.injEq] at e4
      cases z with
      | mk z =>
        cases s with
        | mk s => exact congrArg ByteArray.mk (Array.toList_inj.1 e4)
    rw [World.var?_cell hg hv r, ← hz]
    have : cs.toList[r]? = some (.string z) := by
      have h0 : ((cs.toList.drop r).take 1)[0]? = some (.string z) := by rw [e1]; rfl
      simpa using h0
    simpa using this
  exact ⟨hK, World.block_lt_of_cell? W ⟨3, 0, none⟩ (hK 0 _ rfl)⟩
end Go.Proofs.YtlkbeddlmbghkaaDoor.PR
