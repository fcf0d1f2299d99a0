/- script's reader: span. -/
import Derived.Test.YtlkbeddlmbghkaaDoorScN
import Derived.Test.YtlkbeddlmbghkaaDoorPRx0
namespace Go.Proofs.YtlkbeddlmbghkaaDoor.PR
open Go Go.Proofs Go.RowKit Go.Proofs.YtlkbeddlmbghkaaDoorW.PrintWords Go.Proofs.YtlkbeddlmbghkaaDoorW.PrintLast Go.Proofs.YtlkbeddlmbghkaaDoorW.PrintMore
attribute [local go_sem] Wd.one Wd.run_store
set_option linter.unusedVariables false
set_option linter.unusedSimpArgs false
set_option maxRecDepth 100000

/-- All blocks but two stand as they stood. -/
def Fr2 (g p : Nat) (w w' : World) : Prop := Below g w w' ∧ ∀ i, i < w.heap.size → i ≠ g → i ≠ p → w'.heap[i]? = w.heap[i]?
theorem Fr2.refl (g p : Nat) (w : World) : Fr2 g p w w := ⟨Below.refl _ _, fun _ _ _ _ => rfl⟩
theorem Fr2.trans {g p : Nat} {a b c : World} (h : Fr2 g p a b) (k : Fr2 g p b c) : Fr2 g p a c :=
  ⟨h.1.trans k.1, fun i hi hg hp => (k.2 i (Nat.lt_of_lt_of_le hi h.1.size) hg hp).trans (h.2 i hi hg hp)⟩
theorem Fr.two {g : Nat} {a b : World} (h : Fr g a b) (p : Nat) : Fr2 g p a b := ⟨h.1, fun i hi hg _ => h.2 i hi hg⟩
theorem Fr2.set {g p : Nat} (w : World) (hp : g < p) (i : Nat) (v : Value) : Fr2 g p w (w.setCell ⟨p, i, none⟩ v) :=
  ⟨(Below.refl g w).setCell (Nat.le_of_lt hp) _, fun k _ _ hk => Below.heap_setCell w ⟨p, i, none⟩ _ k hk⟩
theorem RdAt.set {g p : Nat} {w : World} {ws : List Wd} (h : RdAt g w ws) (hp : g < p) (i : Nat) (v : Value) : RdAt g (w.setCell ⟨p, i, none⟩ v) ws :=
  h.move (Fr2.set w hp i v).1 (Below.heap_setCell w ⟨p, i, none⟩ _ g (Nat.ne_of_lt hp))
theorem RdAt.fr {g : Nat} {w w' : World} {ws : List Wd} (h : RdAt g w ws) (hb : Below w.heap.size w w') : RdAt g w' ws :=
  h.move (hb.mono (Nat.le_of_lt h.lt)) (hb.block g h.lt)
theorem Fr.ofB {g : Nat} {a b : World} (hg : g < a.heap.size) (h : Below a.heap.size a b) : Fr g a b := Fr.of (Nat.le_of_lt hg) h

/-- A call that is being read: its eleven cells, its row of entries apart. -/
def callV (x : S46) (v : Value) : Array Value := #[.int .i64 x.f0, .string x.f1, .string x.f2, v, .string x.f4, .string x.f5, .bool x.f6, .int .i64 x.f7, .int .i64 x.f8, .int .i64 x.f9, .int .i64 x.f10]
def CallAt (p : Nat) (w : World) (x : S46) (v : Value) : Prop := w.heap[p]? = some (.cells (callV x v) 46 (0, 0))

/-- Where a span begins, and ends. -/
def spanS (x : S46) : List Wd → Option (S46 × List Wd)
  | .text a :: .text b :: r => some ({ x with f4 := a, f5 := b }, r)
  | .text a :: .name s :: r => if s.toList = [101, 110, 100] then some ({ x with f4 := a, f6 := true }, r) else none
  | _ => none

set_option maxHeartbeats 4000000 in
theorem span_at (g p : Nat) (hp : g < p) (ws : List Wd) (x : S46) (v : Value) (w : World) (h : RdAt g w ws) (hx : CallAt p w x v) :
    Calls Tryd.prog 104 #[.pointer (some ⟨g, 0, none⟩), .pointer (some ⟨p, 0, none⟩)] w fun e w' => Fr2 g p w w' ∧
      ((∃ y r, spanS x ws = some (y, r) ∧ e = .returned (.tuple #[]) ∧ RdAt g w' r ∧ CallAt p w' y v) ∨ (spanS x ws = none ∧ Pan e)) := by
  have hu := Tryd.underlying42
  have hu46 := Tryd.underlying46
  have hu136 := Tryd.underlying136
  have H := Aside0.mk h
  have HX := Aside0.mk hx
  clear h hx
  go_enter Tryd.func104, Tryd.ntmps104
  go_wp2_with (fail)
  refine (text_at g ws w H.out).mono ?_
  rintro e w1 ⟨hf1, ⟨a, r, rfl, rfl, hr1⟩ | ⟨hno, u, pv, rfl⟩⟩
  case inr =>
    refine ⟨rfl, hf1.two p, .inr ⟨?_, ⟨_, _, rfl⟩⟩⟩
    cases ws with
    | nil => rfl
    | cons b r =>
      cases b with
      | text a => exact absurd rfl (hno a r)
      | nil => rfl
      | num n => rfl
      | name s => rfl
  have X1 := Aside0.mk (hf1.blk (Nat.ne_of_gt hp) HX.out)
  have c4 : w1.cell? ⟨p, 4, none⟩ = some (.string x.f4) := (blk_cell X1.out 4).trans rfl
  have f4 : w1.frozen? ⟨p, 4, none⟩ = false := blk_frozen X1.out 4
  have HF1 := Aside0.mk hf1
  have HR1 := Aside0.mk hr1
  clear hf1 hr1
  go_wp2_with (fail)
  clear c4 f4
  refine (next_at g r _ (HR1.out.set hp 4 (.string a))).mono ?_
  rintro e w2 ⟨hf2, ⟨b, r2, rfl, rfl, hr2⟩ | ⟨rfl, u, pv, rfl⟩⟩
  case inr => exact ⟨rfl, ((HF1.out.two p).trans (Fr2.set w1 hp 4 _)).trans (hf2.two p), .inr ⟨rfl, ⟨_, _, rfl⟩⟩⟩
  have X2 : Aside0 (CallAt p w2 { x with f4 := a } v) := ⟨hf2.blk (Nat.ne_of_gt hp) (blk_put X1.out 4 (.string a) rfl)⟩
  have HF2 := Aside0.mk (((HF1.out.two p).trans (Fr2.set w1 hp 4 (.string a))).trans (hf2.two p))
  have HR2 := Aside0.mk hr2
  clear hf2 hr2 X1 HF1 HR1 HX H
  go_wp2_with (fail)
  refine (box_Kind.calls b (kindW b) _ rfl).mono ?_
  rintro e w3 ⟨rfl, hb3⟩
  have HB3 : Aside0 (Below w2.heap.size w2 w3) := ⟨((Below.refl w2.heap.size w2).alloc (Nat.le_refl _) (.cells #[Wd.v b] 42)).trans (hb3.mono (by rw [World.size_alloc]; omega))⟩
  have B4 : Aside0 (w3.heap[w2.heap.size]? = some (.cells #[Wd.v b] 42 (0, 0))) := ⟨blk_below (blk_new w2 (.cells #[Wd.v b] 42)) hb3⟩
  clear hb3
  have k4 : w3.cell? ⟨w2.heap.size, 0, none⟩ = some (Wd.v b) := (blk_cell B4.out 0).trans rfl
  have l2 := HR2.out.lt
  have X3 : Aside0 (CallAt p w3 { x with f4 := a } v) := ⟨(HB3.out.block p (blk_lt X2.out)).trans X2.out⟩
  have R3 : Aside0 (RdAt g w3 r2) := ⟨HR2.out.fr HB3.out⟩
  have F3 : Aside0 (Fr2 g p w w3) := ⟨HF2.out.trans ((Fr.ofB l2 HB3.out).two p)⟩
  clear HB3 B4 X2 HR2 HF2 l2
  cases b with
  | text s =>
    simp only [kindW]
    go_wp2_with (fail)
    refine (mustText_calls s w3).mono ?_
    rintro e w4 ⟨rfl, hb⟩
    have X4 : Aside0 (CallAt p w4 { x with f4 := a } v) := ⟨(hb.block p (blk_lt X3.out)).trans X3.out⟩
    have R4 : Aside0 (RdAt g w4 r2) := ⟨R3.out.fr hb⟩
    have F4 : Aside0 (Fr2 g p w w4) := ⟨F3.out.trans ((Fr.ofB R3.out.lt hb).two p)⟩
    have c5 : w4.cell? ⟨p, 5, none⟩ = some (.string x.f5) := (blk_cell X4.out 5).trans rfl
    have f5 : w4.frozen? ⟨p, 5, none⟩ = false := blk_frozen X4.out 5
    clear hb k4 X3 R3 F3
    go_wp2_with (fail)
    refine bodyPost_ret (results_none rfl _ _ _) rfl ?_
    exact ⟨F4.out.trans (Fr2.set w4 hp 5 _), .inl ⟨{ x with f4 := a, f5 := s }, r2, rfl, rfl, R4.out.set hp 5 _, blk_put X4.out 5 (.string s) rfl⟩⟩
  | name s =>
    simp only [kindW]
    go_wp2_with (fail)
    refine (mustName_calls s w3).mono ?_
    rintro e w4 ⟨rfl, hb⟩
    have X4 : Aside0 (CallAt p w4 { x with f4 := a } v) := ⟨(hb.block p (blk_lt X3.out)).trans X3.out⟩
    have R4 : Aside0 (RdAt g w4 r2) := ⟨R3.out.fr hb⟩
    have F4 : Aside0 (Fr2 g p w w4) := ⟨F3.out.trans ((Fr.ofB R3.out.lt hb).two p)⟩
    have c6 : w4.cell? ⟨p, 6, none⟩ = some (.bool x.f6) := (blk_cell X4.out 6).trans rfl
    have f6 : w4.frozen? ⟨p, 6, none⟩ = false := blk_frozen X4.out 6
    clear hb k4 X3 R3 F3
    by_cases hs : s.toList = [101, 110, 100]
    · have hs1 : (s.toList == [101, 110, 100]) = true := by rw [hs]; rfl
      have hs2 : (s.toList != [101, 110, 100]) = false := by rw [hs]; rfl
      have HS := Aside0.mk hs
      clear hs
      go_wp2_with (fail)
      go_end0
      exact ⟨F4.out.trans (Fr2.set w4 hp 6 _), .inl ⟨{ x with f4 := a, f6 := true }, r2, if_pos HS.out, rfl, R4.out.set hp 6 _, blk_put X4.out 6 (.bool true) rfl⟩⟩
    · have hs1 : (s.toList == [101, 110, 100]) = false := beq_eq_false_iff_ne.2 hs
      have hs2 : (s.toList != [101, 110, 100]) = true := bne_iff_ne.2 hs
      have HS := Aside0.mk hs
      clear hs
      go_wp2_with (fail)
      exact ⟨rfl, F4.out, .inr ⟨if_neg HS.out, ⟨_, _, rfl⟩⟩⟩
  | nil =>
    simp only [kindW, Wd.v]
    go_wp2_with (fail)
    refine (MustName_bad .nil (fun x h => by cases h) w3).mono ?_
    rintro e w4 ⟨⟨u, pv, rfl⟩, hb⟩
    exact ⟨rfl, F3.out.trans ((Fr.ofB R3.out.lt hb).two p), .inr ⟨rfl, ⟨_, _, rfl⟩⟩⟩
  | num n =>
    simp only [kindW, Wd.v]
    go_wp2_with (fail)
    refine (MustName_bad (.num n) (fun x h => by cases h) w3).mono ?_
    rintro e w4 ⟨⟨u, pv, rfl⟩, hb⟩
    exact ⟨rfl, F3.out.trans ((Fr.ofB R3.out.lt hb).two p), .inr ⟨rfl, ⟨_, _, rfl⟩⟩⟩
end Go.Proofs.YtlkbeddlmbghkaaDoor.PR
