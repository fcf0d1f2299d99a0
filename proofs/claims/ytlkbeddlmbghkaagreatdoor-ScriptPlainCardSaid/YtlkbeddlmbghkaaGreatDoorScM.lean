/- script.Same. -/
import Derived.Test.YtlkbeddlmbghkaaGreatDoorScRe
import Derived.Test.YtlkbeddlmbghkaaGreatDoorPRx8
import Derived.Laws.Strings
namespace Go.Proofs.YtlkbeddlmbghkaaGreatDoor.PR
open Go Go.Proofs Go.RowKit Go.Proofs.YtlkbeddlmbghkaaGreatDoorW.PrintWords Go.Proofs.YtlkbeddlmbghkaaGreatDoorW.PrintLast Go.Proofs.YtlkbeddlmbghkaaGreatDoorW.PrintMore
attribute [local go_sem] Wd.one Wd.run_store
set_option linter.unusedVariables false
set_option linter.unusedSimpArgs false
set_option maxRecDepth 100000
/-! ### the rest of a chain of guarded operations, where the guard says no -/
/-- What guarded operations that are passed over, moves and picks come to. -/
def tail (ops : Array Oper) : List Oper → Act → Option Act
  | [], a => some a
  | o :: r, a => if Region.wanted o (yielded ops a.tmps) then
      (match o.op with
       | .move x => tail ops r (a.put o.dst (a.eval x))
       | .assign x => tail ops r (a.put o.dst (a.eval x))
       | .pick c x y => (match a.eval c with
          | .bool b => tail ops r (a.put o.dst (if b then a.eval x else a.eval y))
          | _ => none)
       | _ => none)
    else tail ops r (a.put o.dst undef)
theorem tail_ok {P : Program} {ops : Array Oper} {Q : Exit → Act → World → Prop} {w : World} : ∀ (l : List Oper) (a : Act), (tail ops l a).isSome = true → Q .normal ((tail ops l a).getD a) w → wpList P ops Q l a w
  | [], a, _, h => h
  | o :: r, a, hs, h => by
    unfold wpList
    unfold tail at hs h
    by_cases hw : Region.wanted o (yielded ops a.tmps) = true
    · rw [if_pos hw] at hs h
      rw [if_pos hw]
      refine .inl ?_
      unfold Oper.wp
      split at hs
      · rename_i x hx
        have e : (execOp a.eval o).run P w = .ok (.value (a.eval x)) w := by unfold execOp; rw [hx]; rfl
        rw [e, Oper.upon_value]
        rw [hx] at h
        refine tail_ok r _ hs ?_
        obtain ⟨z, hz⟩ := Option.isSome_iff_exists.1 hs
        simp only [hz, Option.getD_some] at h ⊢
        exact h
      · rename_i x hx
        have e : (execOp a.eval o).run P w = .ok (.value (a.eval x)) w := by unfold execOp; rw [hx]; rfl
        rw [e, Oper.upon_value]
        rw [hx] at h
        refine tail_ok r _ hs ?_
        obtain ⟨z, hz⟩ := Option.isSome_iff_exists.1 hs
        simp only [hz, Option.getD_some] at h ⊢
        exact h
      · rename_i c x y hx
        split at hs
        · rename_i b hb
          have e : (execOp a.eval o).run P w = .ok (.value (if b then a.eval x else a.eval y)) w := by unfold execOp; rw [hx]; simp only [hb]; cases b <;> rfl
          rw [e, Oper.upon_value]
          rw [hx] at h
          simp only [hb] at h
          refine tail_ok r _ hs ?_
          obtain ⟨z, hz⟩ := Option.isSome_iff_exists.1 hs
          simp only [hz, Option.getD_some] at h ⊢
          exact h
        · cases hs
      · cases hs
    · rw [if_neg hw] at hs h
      rw [if_neg hw]
      refine tail_ok r _ hs ?_
      obtain ⟨z, hz⟩ := Option.isSome_iff_exists.1 hs
      simp only [hz, Option.getD_some] at h ⊢
      exact h

/-! ### slices.Equal over entries -/
theorem toList_inj {a b : ByteArray} (h : a.toList = b.toList) : a = b := by
  rw [ByteArray.toList_eq, ByteArray.toList_eq] at h
  cases a with
  | mk a =>
    cases b with
    | mk b => exact congrArg ByteArray.mk (Array.toList_inj.1 h)
theorem s53_eq {x y : S93} (h : (x.f0.toList == y.f0.toList) = true) (h1 : (x.f1.toList == y.f1.toList) = true) (h2 : (x.f2 == y.f2) = true) : x = y := by
  cases x with
  | mk a b c =>
    cases y with
    | mk a' b' c' =>
      have e0 : a = a' := by
        have := beq_iff_eq.1 h
        exact toList_inj this
      have e1 : b = b' := by
        have := beq_iff_eq.1 h1
        exact toList_inj this
      have e2 : c = c' := beq_iff_eq.1 h2
      rw [e0, e1, e2]
theorem rd53 (l : List S93) (i : Nat) (h : i < l.length) : rd_T93 l (i : Int) = l[i] := by
  unfold rd_T93
  rw [Int.toNat_natCast, List.getD_eq_getElem?_getD, List.getElem?_eq_getElem h]
  rfl
theorem eqL0 (l0 l1 : List S93) (hl : l0.length ≤ 1000000) (he : l0.length = l1.length) : ∀ (m i : Nat), i + m = l0.length → ∃ b, api_Entry.l0 (m + 1) l0 l1 (l0.length : Int) (i : Int) = some b ∧ (b = true ↔ l0.drop i = l1.drop i)
  | 0, i, hi => by
    refine ⟨true, ?_, by rw [List.drop_eq_nil_of_le (by omega), List.drop_eq_nil_of_le (by omega)]; exact ⟨fun _ => rfl, fun _ => rfl⟩⟩
    unfold api_Entry.l0
    rw [if_neg (by omega)]
  | m + 1, i, hi => by
    have h0 : i < l0.length := by omega
    have h1 : i < l1.length := by omega
    unfold api_Entry.l0
    rw [if_pos (by omega), if_pos (by omega), if_pos (by omega), if_pos (by omega), rd53 l0 i h0, rd53 l1 i h1]
    rw [List.drop_eq_getElem_cons h0, List.drop_eq_getElem_cons h1]
    by_cases hc : (!((l0[i].f0.toList) == (l1[i].f0.toList)) || (!((l0[i].f1.toList) == (l1[i].f1.toList)) || (!(l0[i].f2 == l1[i].f2)))) = true
    · rw [if_pos hc]
      refine ⟨false, rfl, ⟨fun h => (by cases h), fun h => ?_⟩⟩
      have := (List.cons.inj h).1
      rw [this] at hc
      simp at hc
    · rw [if_neg hc]
      have hw : wrap64 ((i : Int) + 1) = ((i + 1 : Nat) : Int) := by unfold wrap64; omega
      rw [hw]
      obtain ⟨b, hb, hi2⟩ := eqL0 l0 l1 hl he m (i + 1) (by omega)
      refine ⟨b, hb, hi2.trans ⟨fun h => ?_, fun h => (List.cons.inj h).2⟩⟩
      have hc' : ((l0[i].f0.toList == l1[i].f0.toList) = true) ∧ ((l0[i].f1.toList == l1[i].f1.toList) = true) ∧ ((l0[i].f2 == l1[i].f2) = true) := by
        cases ha : (l0[i].f0.toList == l1[i].f0.toList) <;> cases hb : (l0[i].f1.toList == l1[i].f1.toList) <;> cases hd : (l0[i].f2 == l1[i].f2) <;> simp [ha, hb, hd] at hc ⊢
      rw [s53_eq hc'.1 hc'.2.1 hc'.2.2, h]
theorem eqE (l0 l1 : List S93) (hl : l0.length ≤ 1000000) : ∃ k b, api_Entry.f k l0 l1 = some b ∧ (b = true ↔ l0 = l1) := by
  by_cases he : l0.length = l1.length
  · obtain ⟨b, hb, hi⟩ := eqL0 l0 l1 hl he l0.length 0 (by omega)
    refine ⟨l0.length + 1, b, ?_, by simpa using hi⟩
    unfold api_Entry.f
    rw [if_pos (by omega)]
    exact hb
  · refine ⟨0, false, ?_, ⟨fun h => (by cases h), fun h => absurd (by rw [h]) he⟩⟩
    unfold api_Entry.f
    rw [if_neg (by omega)]
theorem eqE_at (A B : Option Addr) (c d : Nat) (l0 l1 : List S93) (w : World) (hA : Kd.C k93 w A l0.length l0) (hB : Kd.C k93 w B l1.length l1) (hc : l0.length ≤ c) (hd : l1.length ≤ d) (hl : l0.length ≤ 1000000) :
    Calls Tryz.prog 56 #[.slice A l0.length c, .slice B l1.length d] w fun e w' => ∃ b, e = .returned (.bool b) ∧ (b = true ↔ l0 = l1) ∧ Drawn0 w w' := by
  obtain ⟨k, b, hb, hi⟩ := eqE l0 l1 hl
  exact (api_Entry.calls k A c l0 B d l1 b w hA hc hB hd hb).mono (fun e w' h => ⟨b, h.1, hi, h.2⟩)
theorem s48_eq {x y : S58} (h0 : x.f0 = y.f0) (h1 : x.f1 = y.f1) (h2 : x.f2 = y.f2) (k0 : x.f3.f0 = y.f3.f0) (k1 : x.f3.f1 = y.f3.f1) (k2 : x.f3.f2 = y.f3.f2) (k3 : x.f3.f3 = y.f3.f3) (k4 : x.f3.f4 = y.f3.f4) (k5 : x.f3.f5 = y.f3.f5) (k6 : x.f3.f6 = y.f3.f6) (k7 : x.f3.f7 = y.f3.f7) (k8 : x.f3.f8 = y.f3.f8) (k9 : x.f3.f9 = y.f3.f9) (k10 : x.f3.f10 = y.f3.f10) : x = y := by
  cases x with
  | mk a b c d =>
    cases y with
    | mk a' b' c' d' =>
      cases d
      cases d'
      simp only [S58.mk.injEq, S52.mk.injEq] at *
      exact ⟨h0, h1, h2, k0, k1, k2, k3, k4, k5, k6, k7, k8, k9, k10⟩

set_option maxHeartbeats 8000000 in
theorem same_at (x y : S58) (A B : Option Addr) (c d : Nat) (w : World) (hA : Kd.C k93 w A x.f3.f3.length x.f3.f3) (hB : Kd.C k93 w B y.f3.f3.length y.f3.f3) (hc : x.f3.f3.length ≤ c) (hd : y.f3.f3.length ≤ d) (hlx : x.f3.f3.length ≤ 1000000) : Calls Tryz.prog 30 #[.agg #[.int .i64 x.f0, .int .i64 x.f1, .int .i64 x.f2, .int .i64 x.f3.f0, .string x.f3.f1, .string x.f3.f2, .slice A x.f3.f3.length c, .string x.f3.f4, .string x.f3.f5, .bool x.f3.f6, .int .i64 x.f3.f7, .int .i64 x.f3.f8, .int .i64 x.f3.f9, .int .i64 x.f3.f10], .agg #[.int .i64 y.f0, .int .i64 y.f1, .int .i64 y.f2, .int .i64 y.f3.f0, .string y.f3.f1, .string y.f3.f2, .slice B y.f3.f3.length d, .string y.f3.f4, .string y.f3.f5, .bool y.f3.f6, .int .i64 y.f3.f7, .int .i64 y.f3.f8, .int .i64 y.f3.f9, .int .i64 y.f3.f10]] w fun e w' => ∃ b, e = .returned (.bool b) ∧ (b = true ↔ x = y) ∧ Below w.heap.size w w' := by
  have HA := Aside0.mk hA
  have HB_ := Aside0.mk hB
  have HC := Aside0.mk hc
  have HD := Aside0.mk hd
  have HL := Aside0.mk hlx
  clear hA hB hc hd hlx
  have hu48 := Tryz.underlying58
  have hu46 := Tryz.underlying52
  go_enter Tryz.func30, Tryz.ntmps30
  go_upto_region 1 with (fail)
  have PA := blk_alloc (blk_new w (.cells #[.int .i64 x.f0, .int .i64 x.f1, .int .i64 x.f2, .int .i64 x.f3.f0, .string x.f3.f1, .string x.f3.f2, .slice A x.f3.f3.length c, .string x.f3.f4, .string x.f3.f5, .bool x.f3.f6, .int .i64 x.f3.f7, .int .i64 x.f3.f8, .int .i64 x.f3.f9, .int .i64 x.f3.f10] 58)) (.cells #[.int .i64 y.f0, .int .i64 y.f1, .int .i64 y.f2, .int .i64 y.f3.f0, .string y.f3.f1, .string y.f3.f2, .slice B y.f3.f3.length d, .string y.f3.f4, .string y.f3.f5, .bool y.f3.f6, .int .i64 y.f3.f7, .int .i64 y.f3.f8, .int .i64 y.f3.f9, .int .i64 y.f3.f10] 58)
  have PB := blk_new (w.alloc (.cells #[.int .i64 x.f0, .int .i64 x.f1, .int .i64 x.f2, .int .i64 x.f3.f0, .string x.f3.f1, .string x.f3.f2, .slice A x.f3.f3.length c, .string x.f3.f4, .string x.f3.f5, .bool x.f3.f6, .int .i64 x.f3.f7, .int .i64 x.f3.f8, .int .i64 x.f3.f9, .int .i64 x.f3.f10] 58)) (.cells #[.int .i64 y.f0, .int .i64 y.f1, .int .i64 y.f2, .int .i64 y.f3.f0, .string y.f3.f1, .string y.f3.f2, .slice B y.f3.f3.length d, .string y.f3.f4, .string y.f3.f5, .bool y.f3.f6, .int .i64 y.f3.f7, .int .i64 y.f3.f8, .int .i64 y.f3.f9, .int .i64 y.f3.f10] 58)
  rw [World.size_alloc] at PB
  have HBe : Below w.heap.size w ((w.alloc (.cells #[.int .i64 x.f0, .int .i64 x.f1, .int .i64 x.f2, .int .i64 x.f3.f0, .string x.f3.f1, .string x.f3.f2, .slice A x.f3.f3.length c, .string x.f3.f4, .string x.f3.f5, .bool x.f3.f6, .int .i64 x.f3.f7, .int .i64 x.f3.f8, .int .i64 x.f3.f9, .int .i64 x.f3.f10] 58)).alloc (.cells #[.int .i64 y.f0, .int .i64 y.f1, .int .i64 y.f2, .int .i64 y.f3.f0, .string y.f3.f1, .string y.f3.f2, .slice B y.f3.f3.length d, .string y.f3.f4, .string y.f3.f5, .bool y.f3.f6, .int .i64 y.f3.f7, .int .i64 y.f3.f8, .int .i64 y.f3.f9, .int .i64 y.f3.f10] 58)) := ((Below.refl _ _).alloc (Nat.le_refl _) _).alloc (by rw [World.size_alloc]; omega) _
  have hsz : ((w.alloc (.cells #[.int .i64 x.f0, .int .i64 x.f1, .int .i64 x.f2, .int .i64 x.f3.f0, .string x.f3.f1, .string x.f3.f2, .slice A x.f3.f3.length c, .string x.f3.f4, .string x.f3.f5, .bool x.f3.f6, .int .i64 x.f3.f7, .int .i64 x.f3.f8, .int .i64 x.f3.f9, .int .i64 x.f3.f10] 58)).alloc (.cells #[.int .i64 y.f0, .int .i64 y.f1, .int .i64 y.f2, .int .i64 y.f3.f0, .string y.f3.f1, .string y.f3.f2, .slice B y.f3.f3.length d, .string y.f3.f4, .string y.f3.f5, .bool y.f3.f6, .int .i64 y.f3.f7, .int .i64 y.f3.f8, .int .i64 y.f3.f9, .int .i64 y.f3.f10] 58)).heap.size = w.heap.size + 2 := by rw [World.size_alloc, World.size_alloc]
  change Code.wp _ _ _ _ ((w.alloc (.cells #[.int .i64 x.f0, .int .i64 x.f1, .int .i64 x.f2, .int .i64 x.f3.f0, .string x.f3.f1, .string x.f3.f2, .slice A x.f3.f3.length c, .string x.f3.f4, .string x.f3.f5, .bool x.f3.f6, .int .i64 x.f3.f7, .int .i64 x.f3.f8, .int .i64 x.f3.f9, .int .i64 x.f3.f10] 58)).alloc (.cells #[.int .i64 y.f0, .int .i64 y.f1, .int .i64 y.f2, .int .i64 y.f3.f0, .string y.f3.f1, .string y.f3.f2, .slice B y.f3.f3.length d, .string y.f3.f4, .string y.f3.f5, .bool y.f3.f6, .int .i64 y.f3.f7, .int .i64 y.f3.f8, .int .i64 y.f3.f9, .int .i64 y.f3.f10] 58))
  generalize ((w.alloc (.cells #[.int .i64 x.f0, .int .i64 x.f1, .int .i64 x.f2, .int .i64 x.f3.f0, .string x.f3.f1, .string x.f3.f2, .slice A x.f3.f3.length c, .string x.f3.f4, .string x.f3.f5, .bool x.f3.f6, .int .i64 x.f3.f7, .int .i64 x.f3.f8, .int .i64 x.f3.f9, .int .i64 x.f3.f10] 58)).alloc (.cells #[.int .i64 y.f0, .int .i64 y.f1, .int .i64 y.f2, .int .i64 y.f3.f0, .string y.f3.f1, .string y.f3.f2, .slice B y.f3.f3.length d, .string y.f3.f4, .string y.f3.f5, .bool y.f3.f6, .int .i64 y.f3.f7, .int .i64 y.f3.f8, .int .i64 y.f3.f9, .int .i64 y.f3.f10] 58)) = w2 at *
  have c0 : w2.cell? ⟨w.heap.size, 0, none⟩ = some (.int .i64 x.f0) := (blk_cell PA 0).trans rfl
  have c1 : w2.cell? ⟨w.heap.size, 1, none⟩ = some (.int .i64 x.f1) := (blk_cell PA 1).trans rfl
  have c2 : w2.cell? ⟨w.heap.size, 2, none⟩ = some (.int .i64 x.f2) := (blk_cell PA 2).trans rfl
  have c3 : w2.cell? ⟨w.heap.size, 3, none⟩ = some (.int .i64 x.f3.f0) := (blk_cell PA 3).trans rfl
  have c4 : w2.cell? ⟨w.heap.size, 4, none⟩ = some (.string x.f3.f1) := (blk_cell PA 4).trans rfl
  have c5 : w2.cell? ⟨w.heap.size, 5, none⟩ = some (.string x.f3.f2) := (blk_cell PA 5).trans rfl
  have c6 : w2.cell? ⟨w.heap.size, 6, none⟩ = some (.slice A x.f3.f3.length c) := (blk_cell PA 6).trans rfl
  have c7 : w2.cell? ⟨w.heap.size, 7, none⟩ = some (.string x.f3.f4) := (blk_cell PA 7).trans rfl
  have c8 : w2.cell? ⟨w.heap.size, 8, none⟩ = some (.string x.f3.f5) := (blk_cell PA 8).trans rfl
  have c9 : w2.cell? ⟨w.heap.size, 9, none⟩ = some (.bool x.f3.f6) := (blk_cell PA 9).trans rfl
  have c10 : w2.cell? ⟨w.heap.size, 10, none⟩ = some (.int .i64 x.f3.f7) := (blk_cell PA 10).trans rfl
  have c11 : w2.cell? ⟨w.heap.size, 11, none⟩ = some (.int .i64 x.f3.f8) := (blk_cell PA 11).trans rfl
  have c12 : w2.cell? ⟨w.heap.size, 12, none⟩ = some (.int .i64 x.f3.f9) := (blk_cell PA 12).trans rfl
  have c13 : w2.cell? ⟨w.heap.size, 13, none⟩ = some (.int .i64 x.f3.f10) := (blk_cell PA 13).trans rfl
  have d0 : w2.cell? ⟨w.heap.size + 1, 0, none⟩ = some (.int .i64 y.f0) := (blk_cell PB 0).trans rfl
  have d1 : w2.cell? ⟨w.heap.size + 1, 1, none⟩ = some (.int .i64 y.f1) := (blk_cell PB 1).trans rfl
  have d2 : w2.cell? ⟨w.heap.size + 1, 2, none⟩ = some (.int .i64 y.f2) := (blk_cell PB 2).trans rfl
  have d3 : w2.cell? ⟨w.heap.size + 1, 3, none⟩ = some (.int .i64 y.f3.f0) := (blk_cell PB 3).trans rfl
  have d4 : w2.cell? ⟨w.heap.size + 1, 4, none⟩ = some (.string y.f3.f1) := (blk_cell PB 4).trans rfl
  have d5 : w2.cell? ⟨w.heap.size + 1, 5, none⟩ = some (.string y.f3.f2) := (blk_cell PB 5).trans rfl
  have d6 : w2.cell? ⟨w.heap.size + 1, 6, none⟩ = some (.slice B y.f3.f3.length d) := (blk_cell PB 6).trans rfl
  have d7 : w2.cell? ⟨w.heap.size + 1, 7, none⟩ = some (.string y.f3.f4) := (blk_cell PB 7).trans rfl
  have d8 : w2.cell? ⟨w.heap.size + 1, 8, none⟩ = some (.string y.f3.f5) := (blk_cell PB 8).trans rfl
  have d9 : w2.cell? ⟨w.heap.size + 1, 9, none⟩ = some (.bool y.f3.f6) := (blk_cell PB 9).trans rfl
  have d10 : w2.cell? ⟨w.heap.size + 1, 10, none⟩ = some (.int .i64 y.f3.f7) := (blk_cell PB 10).trans rfl
  have d11 : w2.cell? ⟨w.heap.size + 1, 11, none⟩ = some (.int .i64 y.f3.f8) := (blk_cell PB 11).trans rfl
  have d12 : w2.cell? ⟨w.heap.size + 1, 12, none⟩ = some (.int .i64 y.f3.f9) := (blk_cell PB 12).trans rfl
  have d13 : w2.cell? ⟨w.heap.size + 1, 13, none⟩ = some (.int .i64 y.f3.f10) := (blk_cell PB 13).trans rfl
  have lt0 : w.heap.size < w2.heap.size := by omega
  have lt1 : w.heap.size + 1 < w2.heap.size := by omega
  clear PA PB hsz
  have HBe' := Aside0.mk HBe
  clear HBe
  go_cut [5, 6] (fun v5 v6 wx => ∃ p q, v5 = .pointer (some ⟨p, 0, none⟩) ∧ v6 = .pointer (some ⟨q, 0, none⟩) ∧ CallAt p wx x.f3 (.slice A x.f3.f3.length c) ∧ CallAt q wx y.f3 (.slice B y.f3.f3.length d) ∧ Below w2.heap.size w2 wx)
  case first =>
    go_region
    all_goals go_wp2_with (fail)
    all_goals go_meet
    all_goals first
      | exact ⟨w2.heap.size + 1, w2.heap.size, rfl, rfl, by have h1 := blk_new (w2.alloc (.cells (callV y.f3 (.slice B y.f3.f3.length d)) 52)) (.cells (callV x.f3 (.slice A x.f3.f3.length c)) 52); rw [World.size_alloc] at h1; exact h1, blk_alloc (blk_new _ _) _, (((Below.refl _ _).drew).alloc (Nat.le_refl _) _).alloc (by rw [World.size_alloc]; exact Nat.le_succ _) _⟩
      | exact ⟨w2.heap.size, w2.heap.size + 1, rfl, rfl, blk_alloc (blk_new _ _) _, by have h1 := blk_new (w2.alloc (.cells (callV x.f3 (.slice A x.f3.f3.length c)) 52)) (.cells (callV y.f3 (.slice B y.f3.f3.length d)) 52); rw [World.size_alloc] at h1; exact h1, (((Below.refl _ _).drew).alloc (Nat.le_refl _) _).alloc (by rw [World.size_alloc]; exact Nat.le_succ _) _⟩
      | trace_state
  case rest =>
    rename_i hKK
    obtain ⟨p, q, rfl, rfl, hp, hq, hb⟩ := hcut
    have c0 := (hb.cell (p := ⟨w.heap.size, 0, none⟩) lt0).trans c0
    have d0 := (hb.cell (p := ⟨w.heap.size + 1, 0, none⟩) lt1).trans d0
    have c1 := (hb.cell (p := ⟨w.heap.size, 1, none⟩) lt0).trans c1
    have d1 := (hb.cell (p := ⟨w.heap.size + 1, 1, none⟩) lt1).trans d1
    have c2 := (hb.cell (p := ⟨w.heap.size, 2, none⟩) lt0).trans c2
    have d2 := (hb.cell (p := ⟨w.heap.size + 1, 2, none⟩) lt1).trans d2
    clear c3 d3 c4 d4 c5 d5 c6 d6 c7 d7 c8 d8 c9 d9 c10 d10 c11 d11 c12 d12 c13 d13
    have e0 : wc.cell? ⟨p, 0, none⟩ = some (.int .i64 x.f3.f0) := (blk_cell hp 0).trans rfl
    have g0 : wc.cell? ⟨q, 0, none⟩ = some (.int .i64 y.f3.f0) := (blk_cell hq 0).trans rfl
    have e1 : wc.cell? ⟨p, 1, none⟩ = some (.string x.f3.f1) := (blk_cell hp 1).trans rfl
    have g1 : wc.cell? ⟨q, 1, none⟩ = some (.string y.f3.f1) := (blk_cell hq 1).trans rfl
    have e2 : wc.cell? ⟨p, 2, none⟩ = some (.string x.f3.f2) := (blk_cell hp 2).trans rfl
    have g2 : wc.cell? ⟨q, 2, none⟩ = some (.string y.f3.f2) := (blk_cell hq 2).trans rfl
    have e3 : wc.cell? ⟨p, 3, none⟩ = some (.slice A x.f3.f3.length c) := (blk_cell hp 3).trans rfl
    have g3 : wc.cell? ⟨q, 3, none⟩ = some (.slice B y.f3.f3.length d) := (blk_cell hq 3).trans rfl
    have e4 : wc.cell? ⟨p, 4, none⟩ = some (.string x.f3.f4) := (blk_cell hp 4).trans rfl
    have g4 : wc.cell? ⟨q, 4, none⟩ = some (.string y.f3.f4) := (blk_cell hq 4).trans rfl
    have e5 : wc.cell? ⟨p, 5, none⟩ = some (.string x.f3.f5) := (blk_cell hp 5).trans rfl
    have g5 : wc.cell? ⟨q, 5, none⟩ = some (.string y.f3.f5) := (blk_cell hq 5).trans rfl
    have e6 : wc.cell? ⟨p, 6, none⟩ = some (.bool x.f3.f6) := (blk_cell hp 6).trans rfl
    have g6 : wc.cell? ⟨q, 6, none⟩ = some (.bool y.f3.f6) := (blk_cell hq 6).trans rfl
    have e7 : wc.cell? ⟨p, 7, none⟩ = some (.int .i64 x.f3.f7) := (blk_cell hp 7).trans rfl
    have g7 : wc.cell? ⟨q, 7, none⟩ = some (.int .i64 y.f3.f7) := (blk_cell hq 7).trans rfl
    have e8 : wc.cell? ⟨p, 8, none⟩ = some (.int .i64 x.f3.f8) := (blk_cell hp 8).trans rfl
    have g8 : wc.cell? ⟨q, 8, none⟩ = some (.int .i64 y.f3.f8) := (blk_cell hq 8).trans rfl
    have e9 : wc.cell? ⟨p, 9, none⟩ = some (.int .i64 x.f3.f9) := (blk_cell hp 9).trans rfl
    have g9 : wc.cell? ⟨q, 9, none⟩ = some (.int .i64 y.f3.f9) := (blk_cell hq 9).trans rfl
    have e10 : wc.cell? ⟨p, 10, none⟩ = some (.int .i64 x.f3.f10) := (blk_cell hp 10).trans rfl
    have g10 : wc.cell? ⟨q, 10, none⟩ = some (.int .i64 y.f3.f10) := (blk_cell hq 10).trans rfl
    have HB := Aside0.mk hb
    clear hb hp hq
    refine hKK _ _ ?_
    clear hKK
    refine wp_seq_k (fun K2 hK2 => ?_)
    by_cases h0 : x.f0 = y.f0
    rotate_left
    · have N0 := Aside0.mk h0
      have q0 : (x.f0 == y.f0) = false := beq_eq_false_iff_ne.2 h0
      have r0 : (x.f0 = y.f0) = False := eq_false h0
      clear h0
      iterate 13 (first | go_values | go_skip | go_guarded | go_step | go_upon)
      first | refine tail_ok _ _ (by kernel_rfl) ?_ | ((first | go_values | go_skip | go_guarded | go_step | go_upon); refine tail_ok _ _ (by kernel_rfl) ?_) | ((first | go_values | go_skip | go_guarded | go_step | go_upon); (first | go_values | go_skip | go_guarded | go_step | go_upon); refine tail_ok _ _ (by kernel_rfl) ?_) | ((first | go_values | go_skip | go_guarded | go_step | go_upon); (first | go_values | go_skip | go_guarded | go_step | go_upon); (first | go_values | go_skip | go_guarded | go_step | go_upon); refine tail_ok _ _ (by kernel_rfl) ?_)
      refine hK2 _ _ ?_
      refine wp_ret ?_
      refine bodyPost_ret (v := .bool false) (by kernel_rfl) (by kernel_rfl) ?_
      exact ⟨false, rfl, ⟨fun h => (by cases h), fun h => absurd (by rw [h]) N0.out⟩, HBe'.out.trans (HB.out.mono HBe'.out.size)⟩
    have H0 := Aside0.mk h0
    have q0 : (x.f0 == y.f0) = true := beq_iff_eq.2 h0
    have r0 : (x.f0 = y.f0) = True := eq_true h0
    clear h0
    iterate 13 (first | go_values | go_skip | go_guarded | go_step | go_upon)
    clear q0 r0
    by_cases h1 : x.f1 = y.f1
    rotate_left
    · have N1 := Aside0.mk h1
      have q1 : (x.f1 == y.f1) = false := beq_eq_false_iff_ne.2 h1
      have r1 : (x.f1 = y.f1) = False := eq_false h1
      clear h1
      iterate 12 (first | go_values | go_skip | go_guarded | go_step | go_upon)
      first | refine tail_ok _ _ (by kernel_rfl) ?_ | ((first | go_values | go_skip | go_guarded | go_step | go_upon); refine tail_ok _ _ (by kernel_rfl) ?_) | ((first | go_values | go_skip | go_guarded | go_step | go_upon); (first | go_values | go_skip | go_guarded | go_step | go_upon); refine tail_ok _ _ (by kernel_rfl) ?_) | ((first | go_values | go_skip | go_guarded | go_step | go_upon); (first | go_values | go_skip | go_guarded | go_step | go_upon); (first | go_values | go_skip | go_guarded | go_step | go_upon); refine tail_ok _ _ (by kernel_rfl) ?_)
      refine hK2 _ _ ?_
      refine wp_ret ?_
      refine bodyPost_ret (v := .bool false) (by kernel_rfl) (by kernel_rfl) ?_
      exact ⟨false, rfl, ⟨fun h => (by cases h), fun h => absurd (by rw [h]) N1.out⟩, HBe'.out.trans (HB.out.mono HBe'.out.size)⟩
    have H1 := Aside0.mk h1
    have q1 : (x.f1 == y.f1) = true := beq_iff_eq.2 h1
    have r1 : (x.f1 = y.f1) = True := eq_true h1
    clear h1
    iterate 14 (first | go_values | go_skip | go_guarded | go_step | go_upon)
    clear q1 r1
    by_cases h2 : x.f2 = y.f2
    rotate_left
    · have N2 := Aside0.mk h2
      have q2 : (x.f2 == y.f2) = false := beq_eq_false_iff_ne.2 h2
      have r2 : (x.f2 = y.f2) = False := eq_false h2
      clear h2
      iterate 12 (first | go_values | go_skip | go_guarded | go_step | go_upon)
      first | refine tail_ok _ _ (by kernel_rfl) ?_ | ((first | go_values | go_skip | go_guarded | go_step | go_upon); refine tail_ok _ _ (by kernel_rfl) ?_) | ((first | go_values | go_skip | go_guarded | go_step | go_upon); (first | go_values | go_skip | go_guarded | go_step | go_upon); refine tail_ok _ _ (by kernel_rfl) ?_) | ((first | go_values | go_skip | go_guarded | go_step | go_upon); (first | go_values | go_skip | go_guarded | go_step | go_upon); (first | go_values | go_skip | go_guarded | go_step | go_upon); refine tail_ok _ _ (by kernel_rfl) ?_)
      refine hK2 _ _ ?_
      refine wp_ret ?_
      refine bodyPost_ret (v := .bool false) (by kernel_rfl) (by kernel_rfl) ?_
      exact ⟨false, rfl, ⟨fun h => (by cases h), fun h => absurd (by rw [h]) N2.out⟩, HBe'.out.trans (HB.out.mono HBe'.out.size)⟩
    have H2 := Aside0.mk h2
    have q2 : (x.f2 == y.f2) = true := beq_iff_eq.2 h2
    have r2 : (x.f2 = y.f2) = True := eq_true h2
    clear h2
    iterate 14 (first | go_values | go_skip | go_guarded | go_step | go_upon)
    clear q2 r2
    by_cases h3 : x.f3.f0 = y.f3.f0
    rotate_left
    · have N3 := Aside0.mk h3
      have q3 : (x.f3.f0 == y.f3.f0) = false := beq_eq_false_iff_ne.2 h3
      have r3 : (x.f3.f0 = y.f3.f0) = False := eq_false h3
      clear h3
      iterate 12 (first | go_values | go_skip | go_guarded | go_step | go_upon)
      first | refine tail_ok _ _ (by kernel_rfl) ?_ | ((first | go_values | go_skip | go_guarded | go_step | go_upon); refine tail_ok _ _ (by kernel_rfl) ?_) | ((first | go_values | go_skip | go_guarded | go_step | go_upon); (first | go_values | go_skip | go_guarded | go_step | go_upon); refine tail_ok _ _ (by kernel_rfl) ?_) | ((first | go_values | go_skip | go_guarded | go_step | go_upon); (first | go_values | go_skip | go_guarded | go_step | go_upon); (first | go_values | go_skip | go_guarded | go_step | go_upon); refine tail_ok _ _ (by kernel_rfl) ?_)
      refine hK2 _ _ ?_
      refine wp_ret ?_
      refine bodyPost_ret (v := .bool false) (by kernel_rfl) (by kernel_rfl) ?_
      exact ⟨false, rfl, ⟨fun h => (by cases h), fun h => absurd (by rw [h]) N3.out⟩, HBe'.out.trans (HB.out.mono HBe'.out.size)⟩
    have H3 := Aside0.mk h3
    have q3 : (x.f3.f0 == y.f3.f0) = true := beq_iff_eq.2 h3
    have r3 : (x.f3.f0 = y.f3.f0) = True := eq_true h3
    clear h3
    iterate 14 (first | go_values | go_skip | go_guarded | go_step | go_upon)
    clear q3 r3
    by_cases h4 : x.f3.f1 = y.f3.f1
    rotate_left
    · have N4 := Aside0.mk h4
      have q4 : (x.f3.f1.toList == y.f3.f1.toList) = false := beq_eq_false_iff_ne.2 (fun h => h4 (toList_inj h))
      have r4 : (x.f3.f1.toList = y.f3.f1.toList) = False := eq_false (fun h => h4 (toList_inj h))
      clear h4
      iterate 12 (first | go_values | go_skip | go_guarded | go_step | go_upon)
      first | refine tail_ok _ _ (by kernel_rfl) ?_ | ((first | go_values | go_skip | go_guarded | go_step | go_upon); refine tail_ok _ _ (by kernel_rfl) ?_) | ((first | go_values | go_skip | go_guarded | go_step | go_upon); (first | go_values | go_skip | go_guarded | go_step | go_upon); refine tail_ok _ _ (by kernel_rfl) ?_) | ((first | go_values | go_skip | go_guarded | go_step | go_upon); (first | go_values | go_skip | go_guarded | go_step | go_upon); (first | go_values | go_skip | go_guarded | go_step | go_upon); refine tail_ok _ _ (by kernel_rfl) ?_)
      refine hK2 _ _ ?_
      refine wp_ret ?_
      refine bodyPost_ret (v := .bool false) (by kernel_rfl) (by kernel_rfl) ?_
      exact ⟨false, rfl, ⟨fun h => (by cases h), fun h => absurd (by rw [h]) N4.out⟩, HBe'.out.trans (HB.out.mono HBe'.out.size)⟩
    have H4 := Aside0.mk h4
    have q4 : (x.f3.f1.toList == y.f3.f1.toList) = true := beq_iff_eq.2 (by rw [h4])
    have r4 : (x.f3.f1.toList = y.f3.f1.toList) = True := eq_true (by rw [h4])
    clear h4
    iterate 14 (first | go_values | go_skip | go_guarded | go_step | go_upon)
    clear q4 r4
    by_cases h5 : x.f3.f2 = y.f3.f2
    rotate_left
    · have N5 := Aside0.mk h5
      have q5 : (x.f3.f2.toList == y.f3.f2.toList) = false := beq_eq_false_iff_ne.2 (fun h => h5 (toList_inj h))
      have r5 : (x.f3.f2.toList = y.f3.f2.toList) = False := eq_false (fun h => h5 (toList_inj h))
      clear h5
      iterate 12 (first | go_values | go_skip | go_guarded | go_step | go_upon)
      first | refine tail_ok _ _ (by kernel_rfl) ?_ | ((first | go_values | go_skip | go_guarded | go_step | go_upon); refine tail_ok _ _ (by kernel_rfl) ?_) | ((first | go_values | go_skip | go_guarded | go_step | go_upon); (first | go_values | go_skip | go_guarded | go_step | go_upon); refine tail_ok _ _ (by kernel_rfl) ?_) | ((first | go_values | go_skip | go_guarded | go_step | go_upon); (first | go_values | go_skip | go_guarded | go_step | go_upon); (first | go_values | go_skip | go_guarded | go_step | go_upon); refine tail_ok _ _ (by kernel_rfl) ?_)
      refine hK2 _ _ ?_
      refine wp_ret ?_
      refine bodyPost_ret (v := .bool false) (by kernel_rfl) (by kernel_rfl) ?_
      exact ⟨false, rfl, ⟨fun h => (by cases h), fun h => absurd (by rw [h]) N5.out⟩, HBe'.out.trans (HB.out.mono HBe'.out.size)⟩
    have H5 := Aside0.mk h5
    have q5 : (x.f3.f2.toList == y.f3.f2.toList) = true := beq_iff_eq.2 (by rw [h5])
    have r5 : (x.f3.f2.toList = y.f3.f2.toList) = True := eq_true (by rw [h5])
    clear h5
    iterate 14 (first | go_values | go_skip | go_guarded | go_step | go_upon)
    clear q5 r5
    have CA := Kd.C_below HA.out (HBe'.out.trans (HB.out.mono HBe'.out.size))
    have CB := Kd.C_below HB_.out (HBe'.out.trans (HB.out.mono HBe'.out.size))
    have CA' := Aside0.mk CA
    have CB' := Aside0.mk CB
    clear CA CB
    iterate 9 (first | go_values | go_skip | go_guarded | go_step | go_upon)
    refine (eqE_at A B c d _ _ wc CA'.out CB'.out HC.out HD.out HL.out).mono ?_
    rintro e w4 ⟨b, rfl, hbe, m, rfl⟩
    have HB := Aside0.mk (HB.out.trans (pw_below_drewN (Below.refl w2.heap.size wc) m))
    have e4 : (wc.drewN m).cell? ⟨p, 4, none⟩ = some (.string x.f3.f4) := e4
    have g4 : (wc.drewN m).cell? ⟨q, 4, none⟩ = some (.string y.f3.f4) := g4
    have e5 : (wc.drewN m).cell? ⟨p, 5, none⟩ = some (.string x.f3.f5) := e5
    have g5 : (wc.drewN m).cell? ⟨q, 5, none⟩ = some (.string y.f3.f5) := g5
    have e6 : (wc.drewN m).cell? ⟨p, 6, none⟩ = some (.bool x.f3.f6) := e6
    have g6 : (wc.drewN m).cell? ⟨q, 6, none⟩ = some (.bool y.f3.f6) := g6
    have e7 : (wc.drewN m).cell? ⟨p, 7, none⟩ = some (.int .i64 x.f3.f7) := e7
    have g7 : (wc.drewN m).cell? ⟨q, 7, none⟩ = some (.int .i64 y.f3.f7) := g7
    have e8 : (wc.drewN m).cell? ⟨p, 8, none⟩ = some (.int .i64 x.f3.f8) := e8
    have g8 : (wc.drewN m).cell? ⟨q, 8, none⟩ = some (.int .i64 y.f3.f8) := g8
    have e9 : (wc.drewN m).cell? ⟨p, 9, none⟩ = some (.int .i64 x.f3.f9) := e9
    have g9 : (wc.drewN m).cell? ⟨q, 9, none⟩ = some (.int .i64 y.f3.f9) := g9
    have e10 : (wc.drewN m).cell? ⟨p, 10, none⟩ = some (.int .i64 x.f3.f10) := e10
    have g10 : (wc.drewN m).cell? ⟨q, 10, none⟩ = some (.int .i64 y.f3.f10) := g10
    clear CA' CB'
    generalize wc.drewN m = wd at *
    dsimp only
    (first | go_values | go_skip | go_guarded | go_step | go_upon)
    cases b with
    | false =>
      have hne : ¬ x.f3.f3 = y.f3.f3 := fun h => absurd (hbe.2 h) (by decide)
      clear hbe
      first | refine tail_ok _ _ (by kernel_rfl) ?_ | ((first | go_values | go_skip | go_guarded | go_step | go_upon); refine tail_ok _ _ (by kernel_rfl) ?_) | ((first | go_values | go_skip | go_guarded | go_step | go_upon); (first | go_values | go_skip | go_guarded | go_step | go_upon); refine tail_ok _ _ (by kernel_rfl) ?_) | ((first | go_values | go_skip | go_guarded | go_step | go_upon); (first | go_values | go_skip | go_guarded | go_step | go_upon); (first | go_values | go_skip | go_guarded | go_step | go_upon); refine tail_ok _ _ (by kernel_rfl) ?_)
      refine hK2 _ _ ?_
      refine wp_ret ?_
      refine bodyPost_ret (v := .bool false) (by kernel_rfl) (by kernel_rfl) ?_
      exact ⟨false, rfl, ⟨fun h => (by cases h), fun h => absurd (by rw [h]) hne⟩, HBe'.out.trans (HB.out.mono HBe'.out.size)⟩
    | true =>
      have h6 := hbe.1 rfl
      have H6 := Aside0.mk h6
      clear h6 hbe
      iterate 4 (first | go_values | go_skip | go_guarded | go_step | go_upon)
      by_cases h7 : x.f3.f4 = y.f3.f4
      rotate_left
      · have N7 := Aside0.mk h7
        have q7 : (x.f3.f4.toList == y.f3.f4.toList) = false := beq_eq_false_iff_ne.2 (fun h => h7 (toList_inj h))
        have r7 : (x.f3.f4.toList = y.f3.f4.toList) = False := eq_false (fun h => h7 (toList_inj h))
        clear h7
        iterate 12 (first | go_values | go_skip | go_guarded | go_step | go_upon)
        first | refine tail_ok _ _ (by kernel_rfl) ?_ | ((first | go_values | go_skip | go_guarded | go_step | go_upon); refine tail_ok _ _ (by kernel_rfl) ?_) | ((first | go_values | go_skip | go_guarded | go_step | go_upon); (first | go_values | go_skip | go_guarded | go_step | go_upon); refine tail_ok _ _ (by kernel_rfl) ?_) | ((first | go_values | go_skip | go_guarded | go_step | go_upon); (first | go_values | go_skip | go_guarded | go_step | go_upon); (first | go_values | go_skip | go_guarded | go_step | go_upon); refine tail_ok _ _ (by kernel_rfl) ?_)
        refine hK2 _ _ ?_
        refine wp_ret ?_
        refine bodyPost_ret (v := .bool false) (by kernel_rfl) (by kernel_rfl) ?_
        exact ⟨false, rfl, ⟨fun h => (by cases h), fun h => absurd (by rw [h]) N7.out⟩, HBe'.out.trans (HB.out.mono HBe'.out.size)⟩
      have H7 := Aside0.mk h7
      have q7 : (x.f3.f4.toList == y.f3.f4.toList) = true := beq_iff_eq.2 (by rw [h7])
      have r7 : (x.f3.f4.toList = y.f3.f4.toList) = True := eq_true (by rw [h7])
      clear h7
      iterate 14 (first | go_values | go_skip | go_guarded | go_step | go_upon)
      clear q7 r7
      by_cases h8 : x.f3.f5 = y.f3.f5
      rotate_left
      · have N8 := Aside0.mk h8
        have q8 : (x.f3.f5.toList == y.f3.f5.toList) = false := beq_eq_false_iff_ne.2 (fun h => h8 (toList_inj h))
        have r8 : (x.f3.f5.toList = y.f3.f5.toList) = False := eq_false (fun h => h8 (toList_inj h))
        clear h8
        iterate 12 (first | go_values | go_skip | go_guarded | go_step | go_upon)
        first | refine tail_ok _ _ (by kernel_rfl) ?_ | ((first | go_values | go_skip | go_guarded | go_step | go_upon); refine tail_ok _ _ (by kernel_rfl) ?_) | ((first | go_values | go_skip | go_guarded | go_step | go_upon); (first | go_values | go_skip | go_guarded | go_step | go_upon); refine tail_ok _ _ (by kernel_rfl) ?_) | ((first | go_values | go_skip | go_guarded | go_step | go_upon); (first | go_values | go_skip | go_guarded | go_step | go_upon); (first | go_values | go_skip | go_guarded | go_step | go_upon); refine tail_ok _ _ (by kernel_rfl) ?_)
        refine hK2 _ _ ?_
        refine wp_ret ?_
        refine bodyPost_ret (v := .bool false) (by kernel_rfl) (by kernel_rfl) ?_
        exact ⟨false, rfl, ⟨fun h => (by cases h), fun h => absurd (by rw [h]) N8.out⟩, HBe'.out.trans (HB.out.mono HBe'.out.size)⟩
      have H8 := Aside0.mk h8
      have q8 : (x.f3.f5.toList == y.f3.f5.toList) = true := beq_iff_eq.2 (by rw [h8])
      have r8 : (x.f3.f5.toList = y.f3.f5.toList) = True := eq_true (by rw [h8])
      clear h8
      iterate 14 (first | go_values | go_skip | go_guarded | go_step | go_upon)
      clear q8 r8
      by_cases h9 : x.f3.f6 = y.f3.f6
      rotate_left
      · have N9 := Aside0.mk h9
        have q9 : (x.f3.f6 == y.f3.f6) = false := beq_eq_false_iff_ne.2 h9
        have r9 : (x.f3.f6 = y.f3.f6) = False := eq_false h9
        clear h9
        iterate 16 (first | go_values | go_skip | go_guarded | go_step | go_upon)
        first | refine tail_ok _ _ (by kernel_rfl) ?_ | ((first | go_values | go_skip | go_guarded | go_step | go_upon); refine tail_ok _ _ (by kernel_rfl) ?_) | ((first | go_values | go_skip | go_guarded | go_step | go_upon); (first | go_values | go_skip | go_guarded | go_step | go_upon); refine tail_ok _ _ (by kernel_rfl) ?_) | ((first | go_values | go_skip | go_guarded | go_step | go_upon); (first | go_values | go_skip | go_guarded | go_step | go_upon); (first | go_values | go_skip | go_guarded | go_step | go_upon); refine tail_ok _ _ (by kernel_rfl) ?_)
        refine hK2 _ _ ?_
        refine wp_ret ?_
        refine bodyPost_ret (v := .bool false) (by kernel_rfl) (by kernel_rfl) ?_
        exact ⟨false, rfl, ⟨fun h => (by cases h), fun h => absurd (by rw [h]) N9.out⟩, HBe'.out.trans (HB.out.mono HBe'.out.size)⟩
      have H9 := Aside0.mk h9
      have q9 : (x.f3.f6 == y.f3.f6) = true := beq_iff_eq.2 h9
      have r9 : (x.f3.f6 = y.f3.f6) = True := eq_true h9
      clear h9
      iterate 16 (first | go_values | go_skip | go_guarded | go_step | go_upon)
      clear q9 r9
      by_cases h10 : x.f3.f7 = y.f3.f7
      rotate_left
      · have N10 := Aside0.mk h10
        have q10 : (x.f3.f7 == y.f3.f7) = false := beq_eq_false_iff_ne.2 h10
        have r10 : (x.f3.f7 = y.f3.f7) = False := eq_false h10
        clear h10
        iterate 16 (first | go_values | go_skip | go_guarded | go_step | go_upon)
        first | refine tail_ok _ _ (by kernel_rfl) ?_ | ((first | go_values | go_skip | go_guarded | go_step | go_upon); refine tail_ok _ _ (by kernel_rfl) ?_) | ((first | go_values | go_skip | go_guarded | go_step | go_upon); (first | go_values | go_skip | go_guarded | go_step | go_upon); refine tail_ok _ _ (by kernel_rfl) ?_) | ((first | go_values | go_skip | go_guarded | go_step | go_upon); (first | go_values | go_skip | go_guarded | go_step | go_upon); (first | go_values | go_skip | go_guarded | go_step | go_upon); refine tail_ok _ _ (by kernel_rfl) ?_)
        refine hK2 _ _ ?_
        refine wp_ret ?_
        refine bodyPost_ret (v := .bool false) (by kernel_rfl) (by kernel_rfl) ?_
        exact ⟨false, rfl, ⟨fun h => (by cases h), fun h => absurd (by rw [h]) N10.out⟩, HBe'.out.trans (HB.out.mono HBe'.out.size)⟩
      have H10 := Aside0.mk h10
      have q10 : (x.f3.f7 == y.f3.f7) = true := beq_iff_eq.2 h10
      have r10 : (x.f3.f7 = y.f3.f7) = True := eq_true h10
      clear h10
      iterate 16 (first | go_values | go_skip | go_guarded | go_step | go_upon)
      clear q10 r10
      by_cases h11 : x.f3.f8 = y.f3.f8
      rotate_left
      · have N11 := Aside0.mk h11
        have q11 : (x.f3.f8 == y.f3.f8) = false := beq_eq_false_iff_ne.2 h11
        have r11 : (x.f3.f8 = y.f3.f8) = False := eq_false h11
        clear h11
        iterate 16 (first | go_values | go_skip | go_guarded | go_step | go_upon)
        first | refine tail_ok _ _ (by kernel_rfl) ?_ | ((first | go_values | go_skip | go_guarded | go_step | go_upon); refine tail_ok _ _ (by kernel_rfl) ?_) | ((first | go_values | go_skip | go_guarded | go_step | go_upon); (first | go_values | go_skip | go_guarded | go_step | go_upon); refine tail_ok _ _ (by kernel_rfl) ?_) | ((first | go_values | go_skip | go_guarded | go_step | go_upon); (first | go_values | go_skip | go_guarded | go_step | go_upon); (first | go_values | go_skip | go_guarded | go_step | go_upon); refine tail_ok _ _ (by kernel_rfl) ?_)
        refine hK2 _ _ ?_
        refine wp_ret ?_
        refine bodyPost_ret (v := .bool false) (by kernel_rfl) (by kernel_rfl) ?_
        exact ⟨false, rfl, ⟨fun h => (by cases h), fun h => absurd (by rw [h]) N11.out⟩, HBe'.out.trans (HB.out.mono HBe'.out.size)⟩
      have H11 := Aside0.mk h11
      have q11 : (x.f3.f8 == y.f3.f8) = true := beq_iff_eq.2 h11
      have r11 : (x.f3.f8 = y.f3.f8) = True := eq_true h11
      clear h11
      iterate 16 (first | go_values | go_skip | go_guarded | go_step | go_upon)
      clear q11 r11
      by_cases h12 : x.f3.f9 = y.f3.f9
      rotate_left
      · have N12 := Aside0.mk h12
        have q12 : (x.f3.f9 == y.f3.f9) = false := beq_eq_false_iff_ne.2 h12
        have r12 : (x.f3.f9 = y.f3.f9) = False := eq_false h12
        clear h12
        iterate 16 (first | go_values | go_skip | go_guarded | go_step | go_upon)
        first | refine tail_ok _ _ (by kernel_rfl) ?_ | ((first | go_values | go_skip | go_guarded | go_step | go_upon); refine tail_ok _ _ (by kernel_rfl) ?_) | ((first | go_values | go_skip | go_guarded | go_step | go_upon); (first | go_values | go_skip | go_guarded | go_step | go_upon); refine tail_ok _ _ (by kernel_rfl) ?_) | ((first | go_values | go_skip | go_guarded | go_step | go_upon); (first | go_values | go_skip | go_guarded | go_step | go_upon); (first | go_values | go_skip | go_guarded | go_step | go_upon); refine tail_ok _ _ (by kernel_rfl) ?_)
        refine hK2 _ _ ?_
        refine wp_ret ?_
        refine bodyPost_ret (v := .bool false) (by kernel_rfl) (by kernel_rfl) ?_
        exact ⟨false, rfl, ⟨fun h => (by cases h), fun h => absurd (by rw [h]) N12.out⟩, HBe'.out.trans (HB.out.mono HBe'.out.size)⟩
      have H12 := Aside0.mk h12
      have q12 : (x.f3.f9 == y.f3.f9) = true := beq_iff_eq.2 h12
      have r12 : (x.f3.f9 = y.f3.f9) = True := eq_true h12
      clear h12
      iterate 16 (first | go_values | go_skip | go_guarded | go_step | go_upon)
      clear q12 r12
      by_cases h13 : x.f3.f10 = y.f3.f10
      rotate_left
      · have N13 := Aside0.mk h13
        have q13 : (x.f3.f10 == y.f3.f10) = false := beq_eq_false_iff_ne.2 h13
        have r13 : (x.f3.f10 = y.f3.f10) = False := eq_false h13
        clear h13
        iterate 14 (first | go_values | go_skip | go_guarded | go_step | go_upon)
        first | refine tail_ok _ _ (by kernel_rfl) ?_ | ((first | go_values | go_skip | go_guarded | go_step | go_upon); refine tail_ok _ _ (by kernel_rfl) ?_) | ((first | go_values | go_skip | go_guarded | go_step | go_upon); (first | go_values | go_skip | go_guarded | go_step | go_upon); refine tail_ok _ _ (by kernel_rfl) ?_) | ((first | go_values | go_skip | go_guarded | go_step | go_upon); (first | go_values | go_skip | go_guarded | go_step | go_upon); (first | go_values | go_skip | go_guarded | go_step | go_upon); refine tail_ok _ _ (by kernel_rfl) ?_)
        refine hK2 _ _ ?_
        refine wp_ret ?_
        refine bodyPost_ret (v := .bool false) (by kernel_rfl) (by kernel_rfl) ?_
        exact ⟨false, rfl, ⟨fun h => (by cases h), fun h => absurd (by rw [h]) N13.out⟩, HBe'.out.trans (HB.out.mono HBe'.out.size)⟩
      have H13 := Aside0.mk h13
      have q13 : (x.f3.f10 == y.f3.f10) = true := beq_iff_eq.2 h13
      have r13 : (x.f3.f10 = y.f3.f10) = True := eq_true h13
      clear h13
      iterate 14 (first | go_values | go_skip | go_guarded | go_step | go_upon)
      first | refine tail_ok _ _ (by kernel_rfl) ?_ | ((first | go_values | go_skip | go_guarded | go_step | go_upon); refine tail_ok _ _ (by kernel_rfl) ?_) | ((first | go_values | go_skip | go_guarded | go_step | go_upon); (first | go_values | go_skip | go_guarded | go_step | go_upon); refine tail_ok _ _ (by kernel_rfl) ?_) | ((first | go_values | go_skip | go_guarded | go_step | go_upon); (first | go_values | go_skip | go_guarded | go_step | go_upon); (first | go_values | go_skip | go_guarded | go_step | go_upon); refine tail_ok _ _ (by kernel_rfl) ?_)
      refine hK2 _ _ ?_
      refine wp_ret ?_
      refine bodyPost_ret (v := .bool true) (by kernel_rfl) (by kernel_rfl) ?_
      exact ⟨true, rfl, ⟨fun _ => s48_eq H0.out H1.out H2.out H3.out H4.out H5.out H6.out H7.out H8.out H9.out H10.out H11.out H12.out H13.out, fun _ => rfl⟩, HBe'.out.trans (HB.out.mono HBe'.out.size)⟩
end Go.Proofs.YtlkbeddlmbghkaaGreatDoor.PR
