/- A row's slice of structs, opened: its elements as they are read, and its length by its weight; changes, entries. -/
import Derived.Test.YtgnnhomipfjanaaMSorted
import Derived.SizedLaws
import Derived.ChangeSlices
import Derived.Deep.Slices
import Derived.Deep.Fields
import Derived.ChangeSame
namespace Go.Proofs.Ytgnnhomipfjanaa.PM
open Go Go.Proofs Go.RowKit Go.ChangeShapes Go.WideShapes Go.Deep Go.Proofs.YtgnnhomipfjanaaW.PrintWords Go.Proofs.YtgnnhomipfjanaaW.PrintLast Go.Proofs.YtgnnhomipfjanaaW.PrintMore

section
variable {H : Type} {enc : TypeId × Value → H} {P : Program} {W : World} {base : Nat} {spare : Nat → Bool} {held : Bool}

/-- A row of elements that one by one are read. -/
theorem open_recs {α : Type} [Inhabited α] (d : Kd α) {t e : TypeId} {a : Option Addr} {len cap : Nat} {dt : DataW H} {ps : List MemPlace}
    (hu : P.underlying t = some (.slice e)) (hC : P.cellsOf e = d.sz)
    (hel : ∀ (n : Nat) (cs : List Value) y, DataW.trod enc P W base spare held n e cs = some y → ∃ x, d.K W x cs)
    (h : DataW.Trod enc P W base spare held t (.slice a len cap) dt ps) :
    ∃ xs : List α, xs.length = len ∧ len ≤ cap ∧ cap ≤ maxLen ∧ d.C W a len xs ∧
      (dt = .nil ∧ len = 0 ∨ ∃ el sp, dt = .slice el sp ∧ el.length = len) := by
  obtain ⟨fuel, hf⟩ := h
  rcases open_slice hu hf with ⟨hcs, hx⟩ | ⟨x, l, c, m, n, D, Pl, hcs, hb, hl, hm, hmm, hx, hi⟩
  · simp [Value.cells] at hcs
    obtain ⟨rfl, rfl, rfl⟩ := hcs
    exact ⟨[], rfl, Nat.le_refl _, by decide, ⟨rfl, by omega, fun h => absurd h (by omega)⟩, .inl ⟨(Prod.mk.inj hx).1, rfl⟩⟩
  · simp [Value.cells] at hcs
    obtain ⟨rfl, rfl, rfl⟩ := hcs
    obtain ⟨hx, _⟩ := Prod.mk.inj hx
    have hlm : len ≤ m := by rw [hmm]; split <;> omega
    have hall : ∀ i, i < len → ∃ y : α, ∃ cs, cs.length = d.sz ∧ d.K W y cs ∧ ∀ j u, cs[j]? = some u → W.cell? (x.add (i * d.sz + j)) = some u := by
      intro i hil
      obtain ⟨cs', hc, ht'⟩ := hi i (by omega)
      rw [hC] at hc
      obtain ⟨_, hcl, hat⟩ := World.cells?_some hc
      obtain ⟨y, hy⟩ := hel n cs' _ ht'
      refine ⟨y, cs', hcl, hy, fun j u hj => ?_⟩
      have hjl : j < d.sz := by rw [← hcl]; exact (List.getElem?_eq_some_iff.1 hj).1
      rw [← Go.Deep.add_add, hat j hjl, hj]
    obtain ⟨f, hf⟩ := choose_lt hall
    refine ⟨(List.range len).map f, by simp, hl, hm, ⟨by simp, by have : maxLen = 9223372036854775807 := rfl; omega, fun _ => ⟨x, rfl, fun j p hj => ?_⟩⟩, .inr ⟨_, _, hx, by simp⟩⟩
    have hjl : j < len := by have := (List.getElem?_eq_some_iff.1 hj).1; simpa using this
    have : p = f j := by simp [hjl] at hj; exact hj.symm
    subst this
    obtain ⟨cs, h1, h2, h3⟩ := hf j hjl
    exact ⟨cs, h1, h2, h3⟩

/-- .. inside an element: the slice's own cell. -/
theorem open_recsL {α : Type} [Inhabited α] (d : Kd α) {t e : TypeId} {fuel : Nat} {cs : List Value} {z : DataW H × List MemPlace}
    (hu : P.underlying t = some (.slice e)) (hC : P.cellsOf e = d.sz)
    (hel : ∀ (n : Nat) (cs : List Value) y, DataW.trod enc P W base spare held n e cs = some y → ∃ x, d.K W x cs)
    (h : DataW.trod enc P W base spare held fuel t cs = some z) :
    ∃ (xs : List α) (a : Option Addr) (cap : Nat), cs = [.slice a xs.length cap] ∧ xs.length ≤ cap ∧ d.C W a xs.length xs := by
  rcases open_slice hu h with ⟨hcs, hx⟩ | ⟨x, l, c, m, n, D, Pl, hcs, hb, hl, hm, hmm, hx, hi⟩
  · exact ⟨[], none, 0, hcs, Nat.le_refl _, ⟨rfl, by simp, fun h => absurd h (by simp)⟩⟩
  · subst hcs
    obtain ⟨xs, h1, h2, _, h4, _⟩ := open_recs d hu hC hel (a := some x) (len := l) (cap := c) (dt := z.1) (ps := z.2) ⟨fuel, h⟩
    subst h1
    exact ⟨xs, some x, c, rfl, h2, h4⟩

/-- Its length, by its weight. -/
theorem recs_len {ts : List TypeId} {ds : List (DataW H)} {j : Nat} {t e : TypeId} {dt : DataW H} {len B : Nat}
    (hsz : (DataW.weightsEach P ts ds).all (· ≤ reachBytes) = true) (ht : ts[j]? = some t) (hd : ds[j]? = some dt) (hu : P.underlying t = some (.slice e)) (hB : P.bytesOf e = B)
    (h : dt = .nil ∧ len = 0 ∨ ∃ el sp, dt = .slice el sp ∧ el.length = len) : len * B ≤ 140737488351232 := by
  rcases h with ⟨_, rfl⟩ | ⟨el, sp, rfl, rfl⟩
  · omega
  · have z := sized_slice hsz ht hd hu
    rw [hB] at z
    exact Nat.le_trans (Nat.mul_le_mul_right _ (Nat.le_add_right _ _)) z

/-- A struct of fields of one cell each, field by field. -/
theorem open_rec {t : TypeId} {fs : Array Field} {n : Nat} {cs : List Value} {y : DataW H × List MemPlace} (hs : P.underlying t = some (.struct fs)) (hone : oneCellFields P fs = true) (hC : P.cellsOf t = fs.size)
    (h : DataW.trod enc P W base spare held n t cs = some y) : cs.length = fs.size ∧
      ∀ (j : Nat) (f : Field), fs[j]? = some f → ∃ (v : Value) (m : Nat) (z : DataW H × List MemPlace), cs[j]? = some v ∧ DataW.trod enc P W base spare held m f.type [v] = some z := by
  obtain ⟨ys, n', hn', hy, hlen, hyl, hf⟩ := DataW.trod_struct hs h
  rw [hC] at hlen
  refine ⟨hlen, fun j f hj => ?_⟩
  obtain ⟨ho, hk⟩ := hone_of hone j f hj
  have hjl : j < fs.size := (Array.getElem?_eq_some_iff.1 hj).1
  have hv : cs[j]? = some (cs[j]'(by omega)) := List.getElem?_eq_getElem (by omega)
  have h1 := hf j f hj
  rw [ho, hk] at h1
  have hone' : (cs.drop j).take 1 = [cs[j]'(by omega)] := by
    rw [List.drop_eq_getElem_cons (by omega)]
    rfl
  rw [hone'] at h1
  have hys : ys[j]? = some (ys[j]'(by omega)) := List.getElem?_eq_getElem (by omega)
  exact ⟨_, n', _, hv, h1.trans hys⟩
end

/-- An entry of the argument's. -/
theorem open_entry {H : Type} {enc : TypeId × Value → H} {P : Program} {W : World} {base : Nat} {spare : Nat → Bool} {held : Bool} {t : TypeId} {f0 f1 f2 : Field}
    (hs : P.underlying t = some (.struct #[f0, f1, f2])) (hone : oneCellFields P #[f0, f1, f2] = true) (hC : P.cellsOf t = 3)
    (h0 : P.underlying f0.type = some .string) (h1 : P.underlying f1.type = some .string) (h2 : P.underlying f2.type = some .bool)
    (n : Nat) (cs : List Value) (y : DataW H × List MemPlace) (h : DataW.trod enc P W base spare held n t cs = some y) :
    ∃ (a b : ByteArray) (c : Bool), cs = [.string a, .string b, .bool c] := by
  obtain ⟨hl, hf⟩ := open_rec hs hone hC h
  match cs, hl with
  | [c0, c1, c2], _ =>
    obtain ⟨v0, m0, z0, e0, t0⟩ := hf 0 f0 rfl
    obtain ⟨v1, m1, z1, e1, t1⟩ := hf 1 f1 rfl
    obtain ⟨v2, m2, z2, e2, t2⟩ := hf 2 f2 rfl
    obtain ⟨s0, q0, _⟩ := DataW.trod_string h0 t0
    obtain ⟨s1, q1, _⟩ := DataW.trod_string h1 t1
    obtain ⟨s2, q2, _⟩ := DataW.trod_bool h2 t2
    simp at e0 e1 e2 q0 q1 q2
    subst e0; subst e1; subst e2; subst q0; subst q1; subst q2
    exact ⟨_, _, _, rfl⟩
theorem el37 {H : Type} {enc : TypeId × Value → H} {W : World} {base : Nat} {spare : Nat → Bool} {held : Bool} (n : Nat) (cs : List Value) (y : DataW H × List MemPlace) (h : DataW.trod enc Try.prog W base spare held n 37 cs = some y) :
    ∃ x, k37.K W x cs := by
  obtain ⟨a, b, c, rfl⟩ := open_entry Try.underlying37 (by kernel_rfl) (by kernel_rfl) Try.underlying9 Try.underlying9 Try.underlying4 n cs y h
  exact ⟨⟨a, b, c⟩, k37_mk _ _⟩
instance : Inhabited S78 := ⟨z78⟩
theorem el78 {H : Type} {enc : TypeId × Value → H} {W : World} {base : Nat} {spare : Nat → Bool} {held : Bool} (n : Nat) (cs : List Value) (y : DataW H × List MemPlace) (h : DataW.trod enc Try.prog W base spare held n 78 cs = some y) :
    ∃ x, k78.K W x cs := by
  obtain ⟨hl, hf⟩ := open_rec Try.underlying78 (by kernel_rfl) (by kernel_rfl) h
  match cs, hl with
  | [c0, c1], _ =>
    obtain ⟨v0, m0, z0, e0, t0⟩ := hf 0 _ rfl
    obtain ⟨v1, m1, z1, e1, t1⟩ := hf 1 _ rfl
    obtain ⟨s0, q0, _⟩ := DataW.trod_int Try.underlying3 t0
    obtain ⟨xs, A1, cp, q1, l1, g1⟩ := open_recsL k37 Try.underlying25 (by kernel_rfl) el37 t1
    simp at e0 e1 q0 q1
    subst e0; subst e1; subst q0; subst q1
    exact ⟨⟨s0, xs⟩, k78_mk W ⟨s0, xs⟩ l1 g1⟩
/-- A row of entries that came in, with the blocks it lies in. -/
theorem came37 {W : World} {A : Option Addr} {c : Nat} {xs : List S37} (hl : xs.length ≤ c) (h : Kd.C k37 W A xs.length xs) : Kd.V k37 37 W W.heap.size (fun k => k < W.heap.size) (.slice A xs.length c) xs := by
  refine ⟨A, c, rfl, hl, fun W' hW => ⟨h.1, h.2.1, fun hn => ?_⟩⟩
  obtain ⟨ad, e, hc⟩ := h.2.2 hn
  refine ⟨ad, e, fun j p hj => ?_⟩
  obtain ⟨cs, h1, h2, h3⟩ := hc j p hj
  refine ⟨cs, h1, by rw [k37_open h2]; exact k37_mk W' p, fun i u hu => ?_⟩
  have h4 := h3 i u hu
  have h5 := World.block_lt_of_cell? W _ h4
  have h6 := hW _ h5 h5
  rw [← h4]
  simp only [World.cell?, h6]
end Go.Proofs.Ytgnnhomipfjanaa.PM
