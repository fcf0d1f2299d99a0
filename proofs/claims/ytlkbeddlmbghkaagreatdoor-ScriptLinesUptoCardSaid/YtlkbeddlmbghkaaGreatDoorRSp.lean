/- rundleref26.span: where a span begins, and ends, and a limit. -/
import Derived.Test.YtlkbeddlmbghkaaGreatDoorPRx0
import Derived.Test.YtlkbeddlmbghkaaGreatDoorBox1
import Derived.Laws.Strings
import Derived.Deep.RegionWith
namespace Go.Proofs.YtlkbeddlmbghkaaGreatDoor.PR
open Go Go.Proofs Go.RowKit Go.Proofs.YtlkbeddlmbghkaaGreatDoorW.PrintWords Go.Proofs.YtlkbeddlmbghkaaGreatDoorW.PrintLast Go.Proofs.YtlkbeddlmbghkaaGreatDoorW.PrintMore
set_option linter.unusedVariables false
set_option linter.unusedSimpArgs false
set_option maxRecDepth 100000

def rundleref26_span.f (x0 : Int) (x1 x2 : ByteArray) (l3 : List S93) (x4 x5 : ByteArray) (x6 : Bool) (x7 x8 x9 x10 : Int) (l : List S46) : Option (Int × ByteArray × ByteArray × List S93 × ByteArray × ByteArray × Bool × Int × Int × Int × Int × Int) :=
 match l3 with
 | _ :: _ => none
 | [] => match l with
  | [a, b, c] => if a.f0 = 3 ∧ c.f0 = 1 then (if b.f0 = 3 then some (x0, x1, x2, [], a.f2, b.f2, x6, c.f1, x8, x9, x10, 3) else if b.f0 = 2 ∧ b.f2.toList = [101, 110, 100] then some (x0, x1, x2, [], a.f2, x5, true, c.f1, x8, x9, x10, 3) else some (x0, x1, x2, [], a.f2, x5, true, c.f1, x8, x9, x10, 0)) else some (x0, x1, x2, [], x4, x5, x6, x7, x8, x9, x10, 0)
  | _ => some (x0, x1, x2, [], x4, x5, x6, x7, x8, x9, x10, 0)
theorem rundleref26_span.mono : ∀ x0 x1 x2 l3 x4 x5 x6 x7 x8 x9 x10 l, LeO (rundleref26_span.f x0 x1 x2 l3 x4 x5 x6 x7 x8 x9 x10 l) (rundleref26_span.f x0 x1 x2 l3 x4 x5 x6 x7 x8 x9 x10 l) := fun _ _ _ _ _ _ _ _ _ _ _ _ => LeO.refl _
theorem results_c2 {P : Program} {fn : Func} {p q : Tmp} {ty : TypeId} (h : fn.results = #[.cell p ty, .tmp q]) (tmps : Array Value) (w : World) (g : Nat) (t : TypeId) (cs : Array Value) (fr : Nat × Nat) (d : TypeDesc)
  (hp : tmps.getD p undef = .pointer (some ⟨g, 0, none⟩)) (hg : w.heap[g]? = some (.cells cs t fr))
  (hu : P.underlying ty = some d) (hd : (match d with | .struct _ | .array _ _ => true | _ => false) = true) (hi : (P.info? ty).map (·.size) = some cs.size) :
  (results fn tmps).run P w = .ok (.tuple #[.agg cs, tmps.getD q undef]) w := by
 have hp' : tmps[p]?.getD undef = .pointer (some ⟨g, 0, none⟩) := by simpa using hp
 simp [results, h, hp', asAddr, run_loadVar_row w g t ty cs fr d hg hu hd hi]
/-- The result's cell has been filled. -/
theorem fill11 (W : World) (r : Nat) (t : TypeId) (z0 z1 z2 z3 z4 z5 z6 z7 z8 z9 z10 u0 u1 u2 u3 u4 u5 u6 u7 u8 u9 u10 : Value) (h : W.heap[r]? = some (.cells #[z0, z1, z2, z3, z4, z5, z6, z7, z8, z9, z10] t (0, 0))) (n : Nat) (hn : n ≤ r) (W0 : World) (hb : Below n W0 W) :
  (World.setCell (World.setCell (World.setCell (World.setCell (World.setCell (World.setCell (World.setCell (World.setCell (World.setCell (World.setCell (World.setCell W ⟨r, 0, none⟩ u0) ⟨r, 1, none⟩ u1) ⟨r, 2, none⟩ u2) ⟨r, 3, none⟩ u3) ⟨r, 4, none⟩ u4) ⟨r, 5, none⟩ u5) ⟨r, 6, none⟩ u6) ⟨r, 7, none⟩ u7) ⟨r, 8, none⟩ u8) ⟨r, 9, none⟩ u9) ⟨r, 10, none⟩ u10).heap[r]? = some (.cells #[u0, u1, u2, u3, u4, u5, u6, u7, u8, u9, u10] t (0, 0)) ∧ Below n W0 (World.setCell (World.setCell (World.setCell (World.setCell (World.setCell (World.setCell (World.setCell (World.setCell (World.setCell (World.setCell (World.setCell W ⟨r, 0, none⟩ u0) ⟨r, 1, none⟩ u1) ⟨r, 2, none⟩ u2) ⟨r, 3, none⟩ u3) ⟨r, 4, none⟩ u4) ⟨r, 5, none⟩ u5) ⟨r, 6, none⟩ u6) ⟨r, 7, none⟩ u7) ⟨r, 8, none⟩ u8) ⟨r, 9, none⟩ u9) ⟨r, 10, none⟩ u10) := by
 have h := blk_put h 0 u0 (cs' := #[u0, z1, z2, z3, z4, z5, z6, z7, z8, z9, z10]) rfl
 have hb := hb.setCell (p := ⟨r, 0, none⟩) hn u0
 have h := blk_put h 1 u1 (cs' := #[u0, u1, z2, z3, z4, z5, z6, z7, z8, z9, z10]) rfl
 have hb := hb.setCell (p := ⟨r, 1, none⟩) hn u1
 have h := blk_put h 2 u2 (cs' := #[u0, u1, u2, z3, z4, z5, z6, z7, z8, z9, z10]) rfl
 have hb := hb.setCell (p := ⟨r, 2, none⟩) hn u2
 have h := blk_put h 3 u3 (cs' := #[u0, u1, u2, u3, z4, z5, z6, z7, z8, z9, z10]) rfl
 have hb := hb.setCell (p := ⟨r, 3, none⟩) hn u3
 have h := blk_put h 4 u4 (cs' := #[u0, u1, u2, u3, u4, z5, z6, z7, z8, z9, z10]) rfl
 have hb := hb.setCell (p := ⟨r, 4, none⟩) hn u4
 have h := blk_put h 5 u5 (cs' := #[u0, u1, u2, u3, u4, u5, z6, z7, z8, z9, z10]) rfl
 have hb := hb.setCell (p := ⟨r, 5, none⟩) hn u5
 have h := blk_put h 6 u6 (cs' := #[u0, u1, u2, u3, u4, u5, u6, z7, z8, z9, z10]) rfl
 have hb := hb.setCell (p := ⟨r, 6, none⟩) hn u6
 have h := blk_put h 7 u7 (cs' := #[u0, u1, u2, u3, u4, u5, u6, u7, z8, z9, z10]) rfl
 have hb := hb.setCell (p := ⟨r, 7, none⟩) hn u7
 have h := blk_put h 8 u8 (cs' := #[u0, u1, u2, u3, u4, u5, u6, u7, u8, z9, z10]) rfl
 have hb := hb.setCell (p := ⟨r, 8, none⟩) hn u8
 have h := blk_put h 9 u9 (cs' := #[u0, u1, u2, u3, u4, u5, u6, u7, u8, u9, z10]) rfl
 have hb := hb.setCell (p := ⟨r, 9, none⟩) hn u9
 have h := blk_put h 10 u10 (cs' := #[u0, u1, u2, u3, u4, u5, u6, u7, u8, u9, u10]) rfl
 have hb := hb.setCell (p := ⟨r, 10, none⟩) hn u10
 exact ⟨h, hb⟩

set_option maxHeartbeats 8000000 in
theorem rundleref26_span.calls (x0 : Int) (x1 x2 : ByteArray) (A3 : Option Addr) (c3 : Nat) (l3 : List S93) (x4 x5 : ByteArray) (x6 : Bool) (x7 x8 x9 x10 : Int) (A : Option Addr) (c : Nat) (l : List S46)
  (r0 : Int) (r1 r2 : ByteArray) (r3 : List S93) (r4 r5 : ByteArray) (r6 : Bool) (r7 r8 r9 r10 r11 : Int) (w : World) (s1 : Kd.C k93 w A3 l3.length l3) (s2 : l3.length ≤ c3) (hC : Kd.C k46 w A l.length l) (hc : l.length ≤ c) (hA3 : A3 = none ∧ c3 = 0)
  (h : rundleref26_span.f x0 x1 x2 l3 x4 x5 x6 x7 x8 x9 x10 l = some (r0, r1, r2, r3, r4, r5, r6, r7, r8, r9, r10, r11)) :
  Calls Tryz.prog 69 #[.agg #[.int .i64 x0, .string x1, .string x2, .slice A3 l3.length c3, .string x4, .string x5, .bool x6, .int .i64 x7, .int .i64 x8, .int .i64 x9, .int .i64 x10], .slice A l.length c] w fun e w' => ∃ v, e = .returned (.tuple #[.agg #[.int .i64 r0, .string r1, .string r2, v, .string r4, .string r5, .bool r6, .int .i64 r7, .int .i64 r8, .int .i64 r9, .int .i64 r10], .int .i64 r11]) ∧ k93.R 93 w' w.heap.size (fun _ => True) v r3 ∧ Below w.heap.size w w' := by
 have hu52 := Tryz.underlying52
 have hu46 := Tryz.underlying46
 obtain ⟨rfl, rfl⟩ := hA3
 cases l3 with
 | cons _ _ => cases h
 | nil =>
 clear s1 s2
 have HC := Aside0.mk hC
 have HH := Aside0.mk h
 have HL := Aside0.mk hc
 clear hC h hc
 go_enter Tryz.func69, Tryz.ntmps69
 go_upto_region 1 with (fail)
 have P1 := Aside0.mk (blk_alloc (blk_new w (.cells #[.int .i64 x0, .string x1, .string x2, .slice none 0 0, .string x4, .string x5, .bool x6, .int .i64 x7, .int .i64 x8, .int .i64 x9, .int .i64 x10] 52)) (.cells #[.int .i64 0, .string ⟨#[]⟩, .string ⟨#[]⟩, .slice none 0 0, .string ⟨#[]⟩, .string ⟨#[]⟩, .bool false, .int .i64 0, .int .i64 0, .int .i64 0, .int .i64 0] 52))
 have R1' := blk_new (w.alloc (.cells #[.int .i64 x0, .string x1, .string x2, .slice none 0 0, .string x4, .string x5, .bool x6, .int .i64 x7, .int .i64 x8, .int .i64 x9, .int .i64 x10] 52)) (.cells #[.int .i64 0, .string ⟨#[]⟩, .string ⟨#[]⟩, .slice none 0 0, .string ⟨#[]⟩, .string ⟨#[]⟩, .bool false, .int .i64 0, .int .i64 0, .int .i64 0, .int .i64 0] 52)
 rw [World.size_alloc] at R1'
 have R1 := Aside0.mk R1'
 have B1 := Aside0.mk (((Below.refl _ _).alloc (Nat.le_refl _) _).alloc (by rw [World.size_alloc]; omega) _ : Below w.heap.size w ((w.alloc (.cells #[.int .i64 x0, .string x1, .string x2, .slice none 0 0, .string x4, .string x5, .bool x6, .int .i64 x7, .int .i64 x8, .int .i64 x9, .int .i64 x10] 52)).alloc (.cells #[.int .i64 0, .string ⟨#[]⟩, .string ⟨#[]⟩, .slice none 0 0, .string ⟨#[]⟩, .string ⟨#[]⟩, .bool false, .int .i64 0, .int .i64 0, .int .i64 0, .int .i64 0] 52)))
 clear R1'
 change Code.wp _ _ _ _ ((w.alloc (.cells #[.int .i64 x0, .string x1, .string x2, .slice none 0 0, .string x4, .string x5, .bool x6, .int .i64 x7, .int .i64 x8, .int .i64 x9, .int .i64 x10] 52)).alloc (.cells #[.int .i64 0, .string ⟨#[]⟩, .string ⟨#[]⟩, .slice none 0 0, .string ⟨#[]⟩, .string ⟨#[]⟩, .bool false, .int .i64 0, .int .i64 0, .int .i64 0, .int .i64 0] 52))
 generalize ((w.alloc (.cells #[.int .i64 x0, .string x1, .string x2, .slice none 0 0, .string x4, .string x5, .bool x6, .int .i64 x7, .int .i64 x8, .int .i64 x9, .int .i64 x10] 52)).alloc (.cells #[.int .i64 0, .string ⟨#[]⟩, .string ⟨#[]⟩, .slice none 0 0, .string ⟨#[]⟩, .string ⟨#[]⟩, .bool false, .int .i64 0, .int .i64 0, .int .i64 0, .int .i64 0] 52)) = w1 at *
 have HC1 := Aside0.mk (Kd.C_below HC.out B1.out)
 have q0 : w1.cell? ⟨w.heap.size, 0, none⟩ = some (.int .i64 x0) := (blk_cell P1.out 0).trans rfl
 have q1 : w1.cell? ⟨w.heap.size, 1, none⟩ = some (.string x1) := (blk_cell P1.out 1).trans rfl
 have q2 : w1.cell? ⟨w.heap.size, 2, none⟩ = some (.string x2) := (blk_cell P1.out 2).trans rfl
 have q3 : w1.cell? ⟨w.heap.size, 3, none⟩ = some (.slice none 0 0) := (blk_cell P1.out 3).trans rfl
 have q4 : w1.cell? ⟨w.heap.size, 4, none⟩ = some (.string x4) := (blk_cell P1.out 4).trans rfl
 have q5 : w1.cell? ⟨w.heap.size, 5, none⟩ = some (.string x5) := (blk_cell P1.out 5).trans rfl
 have q6 : w1.cell? ⟨w.heap.size, 6, none⟩ = some (.bool x6) := (blk_cell P1.out 6).trans rfl
 have q7 : w1.cell? ⟨w.heap.size, 7, none⟩ = some (.int .i64 x7) := (blk_cell P1.out 7).trans rfl
 have q8 : w1.cell? ⟨w.heap.size, 8, none⟩ = some (.int .i64 x8) := (blk_cell P1.out 8).trans rfl
 have q9 : w1.cell? ⟨w.heap.size, 9, none⟩ = some (.int .i64 x9) := (blk_cell P1.out 9).trans rfl
 have q10 : w1.cell? ⟨w.heap.size, 10, none⟩ = some (.int .i64 x10) := (blk_cell P1.out 10).trans rfl
 have r0 : w1.cell? ⟨w.heap.size + 1, 0, none⟩ = some (.int .i64 0) := (blk_cell R1.out 0).trans rfl
 have rf0 : w1.frozen? ⟨w.heap.size + 1, 0, none⟩ = false := blk_frozen R1.out 0
 have r1 : w1.cell? ⟨w.heap.size + 1, 1, none⟩ = some (.string ⟨#[]⟩) := (blk_cell R1.out 1).trans rfl
 have rf1 : w1.frozen? ⟨w.heap.size + 1, 1, none⟩ = false := blk_frozen R1.out 1
 have r2 : w1.cell? ⟨w.heap.size + 1, 2, none⟩ = some (.string ⟨#[]⟩) := (blk_cell R1.out 2).trans rfl
 have rf2 : w1.frozen? ⟨w.heap.size + 1, 2, none⟩ = false := blk_frozen R1.out 2
 have r3 : w1.cell? ⟨w.heap.size + 1, 3, none⟩ = some (.slice none 0 0) := (blk_cell R1.out 3).trans rfl
 have rf3 : w1.frozen? ⟨w.heap.size + 1, 3, none⟩ = false := blk_frozen R1.out 3
 have r4 : w1.cell? ⟨w.heap.size + 1, 4, none⟩ = some (.string ⟨#[]⟩) := (blk_cell R1.out 4).trans rfl
 have rf4 : w1.frozen? ⟨w.heap.size + 1, 4, none⟩ = false := blk_frozen R1.out 4
 have r5 : w1.cell? ⟨w.heap.size + 1, 5, none⟩ = some (.string ⟨#[]⟩) := (blk_cell R1.out 5).trans rfl
 have rf5 : w1.frozen? ⟨w.heap.size + 1, 5, none⟩ = false := blk_frozen R1.out 5
 have r6 : w1.cell? ⟨w.heap.size + 1, 6, none⟩ = some (.bool false) := (blk_cell R1.out 6).trans rfl
 have rf6 : w1.frozen? ⟨w.heap.size + 1, 6, none⟩ = false := blk_frozen R1.out 6
 have r7 : w1.cell? ⟨w.heap.size + 1, 7, none⟩ = some (.int .i64 0) := (blk_cell R1.out 7).trans rfl
 have rf7 : w1.frozen? ⟨w.heap.size + 1, 7, none⟩ = false := blk_frozen R1.out 7
 have r8 : w1.cell? ⟨w.heap.size + 1, 8, none⟩ = some (.int .i64 0) := (blk_cell R1.out 8).trans rfl
 have rf8 : w1.frozen? ⟨w.heap.size + 1, 8, none⟩ = false := blk_frozen R1.out 8
 have r9 : w1.cell? ⟨w.heap.size + 1, 9, none⟩ = some (.int .i64 0) := (blk_cell R1.out 9).trans rfl
 have rf9 : w1.frozen? ⟨w.heap.size + 1, 9, none⟩ = false := blk_frozen R1.out 9
 have r10 : w1.cell? ⟨w.heap.size + 1, 10, none⟩ = some (.int .i64 0) := (blk_cell R1.out 10).trans rfl
 have rf10 : w1.frozen? ⟨w.heap.size + 1, 10, none⟩ = false := blk_frozen R1.out 10
 by_cases h3 : l.length = 3
 ·
  obtain ⟨a, b, c', rfl⟩ : ∃ a b c', l = [a, b, c'] := by
   match l, h3 with
   | [a, b, c'], _ => exact ⟨a, b, c', rfl⟩
  clear h3
  obtain ⟨ad, e0, xa0, xa1, xa2⟩ := at_T46 HC.out 0 (by decide) (by simp)
  subst e0
  obtain ⟨ad', e0, xb0, xb1, xb2⟩ := at_T46 HC.out 1 (by decide) (by simp)
  obtain rfl := Option.some.inj e0
  obtain ⟨ad', e0', xc0, xc1, xc2⟩ := at_T46 HC.out 2 (by decide) (by simp)
  obtain rfl := Option.some.inj e0'
  clear e0 e0'
  rw [show rd_T46 [a, b, c'] 0 = a from rfl, show ((0 : Int).toNat * 3) = 0 from rfl, Addr.add_zero'] at xa0 xa1 xa2
  rw [show rd_T46 [a, b, c'] 1 = b from rfl, show ((1 : Int).toNat * 3) = 3 from rfl] at xb0 xb1 xb2
  rw [show rd_T46 [a, b, c'] 2 = c' from rfl, show ((2 : Int).toNat * 3) = 6 from rfl] at xc0 xc1 xc2
  rw [show Addr.add ad 3 = ⟨ad.block, ad.off + 3, none⟩ from rfl] at xb0 xb1 xb2
  rw [show Addr.add ad 6 = ⟨ad.block, ad.off + 6, none⟩ from rfl] at xc0 xc1 xc2
  dsimp only at xb1 xb2 xc1 xc2
  have XX := Aside0.mk (And.intro xa0 (And.intro xa2 (And.intro xb0 (And.intro xb2 (And.intro xc0 xc1)))))
  clear xa0 xa1 xa2 xb0 xb1 xb2 xc0 xc1 xc2
  have ha0 := (B1.out.cell (World.block_lt_of_cell? w _ XX.out.1)).trans XX.out.1
  have ha2 := (B1.out.cell (World.block_lt_of_cell? w _ XX.out.2.1)).trans XX.out.2.1
  have hb0 := (B1.out.cell (World.block_lt_of_cell? w _ XX.out.2.2.1)).trans XX.out.2.2.1
  have hb2 := (B1.out.cell (World.block_lt_of_cell? w _ XX.out.2.2.2.1)).trans XX.out.2.2.2.1
  have hc0 := (B1.out.cell (World.block_lt_of_cell? w _ XX.out.2.2.2.2.1)).trans XX.out.2.2.2.2.1
  have hc1 := (B1.out.cell (World.block_lt_of_cell? w _ XX.out.2.2.2.2.2)).trans XX.out.2.2.2.2.2
  by_cases hm : a.f0 = 3
  ·
   -- the first word is a text
   have m1 : (a.f0 == 3) = true := beq_iff_eq.2 hm
   have m2 : (a.f0 != 3) = false := bne_eq_false_iff_eq.2 hm
   have m3 : (a.f0 = 3) = True := eq_true hm
   have Hm := Aside0.mk hm
   clear hm
   by_cases hk : c'.f0 = 1
   ·
    -- and the last one a number
    have k1 : (c'.f0 == 1) = true := beq_iff_eq.2 hk
    have k2 : (c'.f0 != 1) = false := bne_eq_false_iff_eq.2 hk
    have k3 : (c'.f0 = 1) = True := eq_true hk
    have Hk := Aside0.mk hk
    clear hk
    go_upto_region 3 with (fail)
    clear q0 q1 q2 q3 q4 q5 q6 q7 q8 q9 q10 r0 rf0 r1 rf1 r2 rf2 r3 rf3 r4 rf4 r5 rf5 r6 rf6 r7 rf7 r8 rf8 r9 rf9 r10 rf10
    go_cut [24] (fun v24 wx => Aside0 (wx.heap[w.heap.size]? = some (.cells #[.int .i64 x0, .string x1, .string x2, .slice none 0 0, .string a.f2, .string x5, .bool x6, .int .i64 c'.f1, .int .i64 x8, .int .i64 x9, .int .i64 x10] 52 (0, 0))) ∧ Aside0 (wx.heap[w.heap.size + 1]? = some (.cells #[.int .i64 0, .string ⟨#[]⟩, .string ⟨#[]⟩, .slice none 0 0, .string ⟨#[]⟩, .string ⟨#[]⟩, .bool false, .int .i64 0, .int .i64 0, .int .i64 0, .int .i64 0] 52 (0, 0))) ∧ Aside0 (Below w.heap.size w wx))
    case first =>
     have q0 : w1.cell? ⟨w.heap.size, 0, none⟩ = some (.int .i64 x0) := (blk_cell P1.out 0).trans rfl
     have q1 : w1.cell? ⟨w.heap.size, 1, none⟩ = some (.string x1) := (blk_cell P1.out 1).trans rfl
     have q2 : w1.cell? ⟨w.heap.size, 2, none⟩ = some (.string x2) := (blk_cell P1.out 2).trans rfl
     have q3 : w1.cell? ⟨w.heap.size, 3, none⟩ = some (.slice none 0 0) := (blk_cell P1.out 3).trans rfl
     have q4 : w1.cell? ⟨w.heap.size, 4, none⟩ = some (.string x4) := (blk_cell P1.out 4).trans rfl
     have q5 : w1.cell? ⟨w.heap.size, 5, none⟩ = some (.string x5) := (blk_cell P1.out 5).trans rfl
     have q6 : w1.cell? ⟨w.heap.size, 6, none⟩ = some (.bool x6) := (blk_cell P1.out 6).trans rfl
     have q7 : w1.cell? ⟨w.heap.size, 7, none⟩ = some (.int .i64 x7) := (blk_cell P1.out 7).trans rfl
     have q8 : w1.cell? ⟨w.heap.size, 8, none⟩ = some (.int .i64 x8) := (blk_cell P1.out 8).trans rfl
     have q9 : w1.cell? ⟨w.heap.size, 9, none⟩ = some (.int .i64 x9) := (blk_cell P1.out 9).trans rfl
     have q10 : w1.cell? ⟨w.heap.size, 10, none⟩ = some (.int .i64 x10) := (blk_cell P1.out 10).trans rfl
     have qf4 : w1.frozen? ⟨w.heap.size, 4, none⟩ = false := blk_frozen P1.out 4
     have qf7 : w1.frozen? ⟨w.heap.size, 7, none⟩ = false := blk_frozen P1.out 7
     go_region_with (fail)
     all_goals try go_wp2_with (fail)
     all_goals go_meet
     all_goals exact ⟨⟨blk_put (blk_put P1.out 4 _ rfl) 7 _ rfl⟩, ⟨(Below.heap_setCell _ ⟨w.heap.size, 7, none⟩ _ (w.heap.size + 1) (by show w.heap.size + 1 ≠ w.heap.size; omega)).trans ((Below.heap_setCell _ ⟨w.heap.size, 4, none⟩ _ (w.heap.size + 1) (by show w.heap.size + 1 ≠ w.heap.size; omega)).trans R1.out)⟩, ⟨(B1.out.drew.setCell (Nat.le_refl _) _).setCell (Nat.le_refl _) _⟩⟩
    case rest =>
     rename_i hKK
     obtain ⟨P2, R2, B2⟩ := hcut
     refine hKK _ _ ?_
     clear hKK ha0 ha2 hb0 hb2 hc0 hc1 HC1 P1 R1 B1
     have ha0 := (B2.out.cell (World.block_lt_of_cell? w _ XX.out.1)).trans XX.out.1
     have ha2 := (B2.out.cell (World.block_lt_of_cell? w _ XX.out.2.1)).trans XX.out.2.1
     have hb0 := (B2.out.cell (World.block_lt_of_cell? w _ XX.out.2.2.1)).trans XX.out.2.2.1
     have hb2 := (B2.out.cell (World.block_lt_of_cell? w _ XX.out.2.2.2.1)).trans XX.out.2.2.2.1
     have hc0 := (B2.out.cell (World.block_lt_of_cell? w _ XX.out.2.2.2.2.1)).trans XX.out.2.2.2.2.1
     have hc1 := (B2.out.cell (World.block_lt_of_cell? w _ XX.out.2.2.2.2.2)).trans XX.out.2.2.2.2.2
     by_cases hj : b.f0 = 3
     ·
      -- a span between two texts
      have j1 : (b.f0 == 3) = true := beq_iff_eq.2 hj
      have j2 : (b.f0 != 3) = false := bne_eq_false_iff_eq.2 hj
      have j3 : (b.f0 = 3) = True := eq_true hj
      have Hj := Aside0.mk hj
      clear hj
      have e := HH.out
      unfold rundleref26_span.f at e
      dsimp only at e
      rw [if_pos ⟨Hm.out, Hk.out⟩, if_pos Hj.out] at e
      simp only [Option.some.injEq, Prod.mk.injEq] at e
      obtain ⟨rfl, rfl, rfl, rfl, rfl, rfl, rfl, rfl, rfl, rfl, rfl, rfl⟩ := e
      have q0 : wc.cell? ⟨w.heap.size, 0, none⟩ = some (.int .i64 x0) := (blk_cell P2.out 0).trans rfl
      have q1 : wc.cell? ⟨w.heap.size, 1, none⟩ = some (.string x1) := (blk_cell P2.out 1).trans rfl
      have q2 : wc.cell? ⟨w.heap.size, 2, none⟩ = some (.string x2) := (blk_cell P2.out 2).trans rfl
      have q3 : wc.cell? ⟨w.heap.size, 3, none⟩ = some (.slice none 0 0) := (blk_cell P2.out 3).trans rfl
      have q4 : wc.cell? ⟨w.heap.size, 4, none⟩ = some (.string a.f2) := (blk_cell P2.out 4).trans rfl
      have q5 : wc.cell? ⟨w.heap.size, 5, none⟩ = some (.string x5) := (blk_cell P2.out 5).trans rfl
      have q6 : wc.cell? ⟨w.heap.size, 6, none⟩ = some (.bool x6) := (blk_cell P2.out 6).trans rfl
      have q7 : wc.cell? ⟨w.heap.size, 7, none⟩ = some (.int .i64 c'.f1) := (blk_cell P2.out 7).trans rfl
      have q8 : wc.cell? ⟨w.heap.size, 8, none⟩ = some (.int .i64 x8) := (blk_cell P2.out 8).trans rfl
      have q9 : wc.cell? ⟨w.heap.size, 9, none⟩ = some (.int .i64 x9) := (blk_cell P2.out 9).trans rfl
      have q10 : wc.cell? ⟨w.heap.size, 10, none⟩ = some (.int .i64 x10) := (blk_cell P2.out 10).trans rfl
      have qf5 : wc.frozen? ⟨w.heap.size, 5, none⟩ = false := blk_frozen P2.out 5
      go_upto_region 6 with (fail)
      clear q0 q1 q2 q3 q4 q5 q6 q7 q8 q9 q10 qf5
      have P3 := blk_put P2.out 5 (.string b.f2) (cs' := #[.int .i64 x0, .string x1, .string x2, .slice none 0 0, .string a.f2, .string b.f2, .bool x6, .int .i64 c'.f1, .int .i64 x8, .int .i64 x9, .int .i64 x10]) rfl
      have R3 := (Below.heap_setCell wc ⟨w.heap.size, 5, none⟩ (.string b.f2) (w.heap.size + 1) (by show w.heap.size + 1 ≠ w.heap.size; omega)).trans R2.out
      have B3 := B2.out.setCell (p := ⟨w.heap.size, 5, none⟩) (Nat.le_refl _) (.string b.f2)
      change Code.wp _ _ _ _ (wc.setCell ⟨w.heap.size, 5, none⟩ (.string b.f2))
      generalize wc.setCell ⟨w.heap.size, 5, none⟩ (.string b.f2) = w3 at *
      have q0 : w3.cell? ⟨w.heap.size, 0, none⟩ = some (.int .i64 x0) := (blk_cell P3 0).trans rfl
      have q1 : w3.cell? ⟨w.heap.size, 1, none⟩ = some (.string x1) := (blk_cell P3 1).trans rfl
      have q2 : w3.cell? ⟨w.heap.size, 2, none⟩ = some (.string x2) := (blk_cell P3 2).trans rfl
      have q3 : w3.cell? ⟨w.heap.size, 3, none⟩ = some (.slice none 0 0) := (blk_cell P3 3).trans rfl
      have q4 : w3.cell? ⟨w.heap.size, 4, none⟩ = some (.string a.f2) := (blk_cell P3 4).trans rfl
      have q5 : w3.cell? ⟨w.heap.size, 5, none⟩ = some (.string b.f2) := (blk_cell P3 5).trans rfl
      have q6 : w3.cell? ⟨w.heap.size, 6, none⟩ = some (.bool x6) := (blk_cell P3 6).trans rfl
      have q7 : w3.cell? ⟨w.heap.size, 7, none⟩ = some (.int .i64 c'.f1) := (blk_cell P3 7).trans rfl
      have q8 : w3.cell? ⟨w.heap.size, 8, none⟩ = some (.int .i64 x8) := (blk_cell P3 8).trans rfl
      have q9 : w3.cell? ⟨w.heap.size, 9, none⟩ = some (.int .i64 x9) := (blk_cell P3 9).trans rfl
      have q10 : w3.cell? ⟨w.heap.size, 10, none⟩ = some (.int .i64 x10) := (blk_cell P3 10).trans rfl
      have r0 : w3.cell? ⟨w.heap.size + 1, 0, none⟩ = some (.int .i64 0) := (blk_cell R3 0).trans rfl
      have rf0 : w3.frozen? ⟨w.heap.size + 1, 0, none⟩ = false := blk_frozen R3 0
      have r1 : w3.cell? ⟨w.heap.size + 1, 1, none⟩ = some (.string ⟨#[]⟩) := (blk_cell R3 1).trans rfl
      have rf1 : w3.frozen? ⟨w.heap.size + 1, 1, none⟩ = false := blk_frozen R3 1
      have r2 : w3.cell? ⟨w.heap.size + 1, 2, none⟩ = some (.string ⟨#[]⟩) := (blk_cell R3 2).trans rfl
      have rf2 : w3.frozen? ⟨w.heap.size + 1, 2, none⟩ = false := blk_frozen R3 2
      have r3 : w3.cell? ⟨w.heap.size + 1, 3, none⟩ = some (.slice none 0 0) := (blk_cell R3 3).trans rfl
      have rf3 : w3.frozen? ⟨w.heap.size + 1, 3, none⟩ = false := blk_frozen R3 3
      have r4 : w3.cell? ⟨w.heap.size + 1, 4, none⟩ = some (.string ⟨#[]⟩) := (blk_cell R3 4).trans rfl
      have rf4 : w3.frozen? ⟨w.heap.size + 1, 4, none⟩ = false := blk_frozen R3 4
      have r5 : w3.cell? ⟨w.heap.size + 1, 5, none⟩ = some (.string ⟨#[]⟩) := (blk_cell R3 5).trans rfl
      have rf5 : w3.frozen? ⟨w.heap.size + 1, 5, none⟩ = false := blk_frozen R3 5
      have r6 : w3.cell? ⟨w.heap.size + 1, 6, none⟩ = some (.bool false) := (blk_cell R3 6).trans rfl
      have rf6 : w3.frozen? ⟨w.heap.size + 1, 6, none⟩ = false := blk_frozen R3 6
      have r7 : w3.cell? ⟨w.heap.size + 1, 7, none⟩ = some (.int .i64 0) := (blk_cell R3 7).trans rfl
      have rf7 : w3.frozen? ⟨w.heap.size + 1, 7, none⟩ = false := blk_frozen R3 7
      have r8 : w3.cell? ⟨w.heap.size + 1, 8, none⟩ = some (.int .i64 0) := (blk_cell R3 8).trans rfl
      have rf8 : w3.frozen? ⟨w.heap.size + 1, 8, none⟩ = false := blk_frozen R3 8
      have r9 : w3.cell? ⟨w.heap.size + 1, 9, none⟩ = some (.int .i64 0) := (blk_cell R3 9).trans rfl
      have rf9 : w3.frozen? ⟨w.heap.size + 1, 9, none⟩ = false := blk_frozen R3 9
      have r10 : w3.cell? ⟨w.heap.size + 1, 10, none⟩ = some (.int .i64 0) := (blk_cell R3 10).trans rfl
      have rf10 : w3.frozen? ⟨w.heap.size + 1, 10, none⟩ = false := blk_frozen R3 10
      go_wp2_with (fail)
      have F := fill11 w3 (w.heap.size + 1) 52 (.int .i64 0) (.string ⟨#[]⟩) (.string ⟨#[]⟩) (.slice none 0 0) (.string ⟨#[]⟩) (.string ⟨#[]⟩) (.bool false) (.int .i64 0) (.int .i64 0) (.int .i64 0) (.int .i64 0) (.int .i64 x0) (.string x1) (.string x2) (.slice none 0 0) (.string a.f2) (.string b.f2) (.bool x6) (.int .i64 c'.f1) (.int .i64 x8) (.int .i64 x9) (.int .i64 x10) R3 w.heap.size (Nat.le_succ _) w B3
      refine bodyPost_ret (results_c2 rfl _ _ (w.heap.size + 1) 52 #[.int .i64 x0, .string x1, .string x2, .slice none 0 0, .string a.f2, .string b.f2, .bool x6, .int .i64 c'.f1, .int .i64 x8, .int .i64 x9, .int .i64 x10] (0, 0) _ rfl F.1 hu52 rfl (by kernel_rfl)) rfl ?_
      exact ⟨_, rfl, Kd.R_nil _ _ _ _ _, F.2⟩
     ·
      -- no upper bound
      have j1 : (b.f0 == 3) = false := beq_eq_false_iff_ne.2 hj
      have j2 : (b.f0 != 3) = true := bne_iff_ne.2 hj
      have j3 : (b.f0 = 3) = False := eq_false hj
      have Hj := Aside0.mk hj
      clear hj
      have q0 : wc.cell? ⟨w.heap.size, 0, none⟩ = some (.int .i64 x0) := (blk_cell P2.out 0).trans rfl
      have q1 : wc.cell? ⟨w.heap.size, 1, none⟩ = some (.string x1) := (blk_cell P2.out 1).trans rfl
      have q2 : wc.cell? ⟨w.heap.size, 2, none⟩ = some (.string x2) := (blk_cell P2.out 2).trans rfl
      have q3 : wc.cell? ⟨w.heap.size, 3, none⟩ = some (.slice none 0 0) := (blk_cell P2.out 3).trans rfl
      have q4 : wc.cell? ⟨w.heap.size, 4, none⟩ = some (.string a.f2) := (blk_cell P2.out 4).trans rfl
      have q5 : wc.cell? ⟨w.heap.size, 5, none⟩ = some (.string x5) := (blk_cell P2.out 5).trans rfl
      have q6 : wc.cell? ⟨w.heap.size, 6, none⟩ = some (.bool x6) := (blk_cell P2.out 6).trans rfl
      have q7 : wc.cell? ⟨w.heap.size, 7, none⟩ = some (.int .i64 c'.f1) := (blk_cell P2.out 7).trans rfl
      have q8 : wc.cell? ⟨w.heap.size, 8, none⟩ = some (.int .i64 x8) := (blk_cell P2.out 8).trans rfl
      have q9 : wc.cell? ⟨w.heap.size, 9, none⟩ = some (.int .i64 x9) := (blk_cell P2.out 9).trans rfl
      have q10 : wc.cell? ⟨w.heap.size, 10, none⟩ = some (.int .i64 x10) := (blk_cell P2.out 10).trans rfl
      have qf6 : wc.frozen? ⟨w.heap.size, 6, none⟩ = false := blk_frozen P2.out 6
      go_upto_region 8 with (fail)
      clear q0 q1 q2 q3 q4 q5 q6 q7 q8 q9 q10 qf6
      have P3 := blk_put P2.out 6 (.bool true) (cs' := #[.int .i64 x0, .string x1, .string x2, .slice none 0 0, .string a.f2, .string x5, .bool true, .int .i64 c'.f1, .int .i64 x8, .int .i64 x9, .int .i64 x10]) rfl
      have R3 := (Below.heap_setCell wc ⟨w.heap.size, 6, none⟩ (.bool true) (w.heap.size + 1) (by show w.heap.size + 1 ≠ w.heap.size; omega)).trans R2.out
      have B3 := B2.out.setCell (p := ⟨w.heap.size, 6, none⟩) (Nat.le_refl _) (.bool true)
      change Code.wp _ _ _ _ (wc.setCell ⟨w.heap.size, 6, none⟩ (.bool true))
      generalize wc.setCell ⟨w.heap.size, 6, none⟩ (.bool true) = w3 at *
      have ha0 := (B3.cell (World.block_lt_of_cell? w _ XX.out.1)).trans XX.out.1
      have ha2 := (B3.cell (World.block_lt_of_cell? w _ XX.out.2.1)).trans XX.out.2.1
      have hb0 := (B3.cell (World.block_lt_of_cell? w _ XX.out.2.2.1)).trans XX.out.2.2.1
      have hb2 := (B3.cell (World.block_lt_of_cell? w _ XX.out.2.2.2.1)).trans XX.out.2.2.2.1
      have hc0 := (B3.cell (World.block_lt_of_cell? w _ XX.out.2.2.2.2.1)).trans XX.out.2.2.2.2.1
      have hc1 := (B3.cell (World.block_lt_of_cell? w _ XX.out.2.2.2.2.2)).trans XX.out.2.2.2.2.2
      have q0 : w3.cell? ⟨w.heap.size, 0, none⟩ = some (.int .i64 x0) := (blk_cell P3 0).trans rfl
      have q1 : w3.cell? ⟨w.heap.size, 1, none⟩ = some (.string x1) := (blk_cell P3 1).trans rfl
      have q2 : w3.cell? ⟨w.heap.size, 2, none⟩ = some (.string x2) := (blk_cell P3 2).trans rfl
      have q3 : w3.cell? ⟨w.heap.size, 3, none⟩ = some (.slice none 0 0) := (blk_cell P3 3).trans rfl
      have q4 : w3.cell? ⟨w.heap.size, 4, none⟩ = some (.string a.f2) := (blk_cell P3 4).trans rfl
      have q5 : w3.cell? ⟨w.heap.size, 5, none⟩ = some (.string x5) := (blk_cell P3 5).trans rfl
      have q6 : w3.cell? ⟨w.heap.size, 6, none⟩ = some (.bool true) := (blk_cell P3 6).trans rfl
      have q7 : w3.cell? ⟨w.heap.size, 7, none⟩ = some (.int .i64 c'.f1) := (blk_cell P3 7).trans rfl
      have q8 : w3.cell? ⟨w.heap.size, 8, none⟩ = some (.int .i64 x8) := (blk_cell P3 8).trans rfl
      have q9 : w3.cell? ⟨w.heap.size, 9, none⟩ = some (.int .i64 x9) := (blk_cell P3 9).trans rfl
      have q10 : w3.cell? ⟨w.heap.size, 10, none⟩ = some (.int .i64 x10) := (blk_cell P3 10).trans rfl
      have r0 : w3.cell? ⟨w.heap.size + 1, 0, none⟩ = some (.int .i64 0) := (blk_cell R3 0).trans rfl
      have rf0 : w3.frozen? ⟨w.heap.size + 1, 0, none⟩ = false := blk_frozen R3 0
      have r1 : w3.cell? ⟨w.heap.size + 1, 1, none⟩ = some (.string ⟨#[]⟩) := (blk_cell R3 1).trans rfl
      have rf1 : w3.frozen? ⟨w.heap.size + 1, 1, none⟩ = false := blk_frozen R3 1
      have r2 : w3.cell? ⟨w.heap.size + 1, 2, none⟩ = some (.string ⟨#[]⟩) := (blk_cell R3 2).trans rfl
      have rf2 : w3.frozen? ⟨w.heap.size + 1, 2, none⟩ = false := blk_frozen R3 2
      have r3 : w3.cell? ⟨w.heap.size + 1, 3, none⟩ = some (.slice none 0 0) := (blk_cell R3 3).trans rfl
      have rf3 : w3.frozen? ⟨w.heap.size + 1, 3, none⟩ = false := blk_frozen R3 3
      have r4 : w3.cell? ⟨w.heap.size + 1, 4, none⟩ = some (.string ⟨#[]⟩) := (blk_cell R3 4).trans rfl
      have rf4 : w3.frozen? ⟨w.heap.size + 1, 4, none⟩ = false := blk_frozen R3 4
      have r5 : w3.cell? ⟨w.heap.size + 1, 5, none⟩ = some (.string ⟨#[]⟩) := (blk_cell R3 5).trans rfl
      have rf5 : w3.frozen? ⟨w.heap.size + 1, 5, none⟩ = false := blk_frozen R3 5
      have r6 : w3.cell? ⟨w.heap.size + 1, 6, none⟩ = some (.bool false) := (blk_cell R3 6).trans rfl
      have rf6 : w3.frozen? ⟨w.heap.size + 1, 6, none⟩ = false := blk_frozen R3 6
      have r7 : w3.cell? ⟨w.heap.size + 1, 7, none⟩ = some (.int .i64 0) := (blk_cell R3 7).trans rfl
      have rf7 : w3.frozen? ⟨w.heap.size + 1, 7, none⟩ = false := blk_frozen R3 7
      have r8 : w3.cell? ⟨w.heap.size + 1, 8, none⟩ = some (.int .i64 0) := (blk_cell R3 8).trans rfl
      have rf8 : w3.frozen? ⟨w.heap.size + 1, 8, none⟩ = false := blk_frozen R3 8
      have r9 : w3.cell? ⟨w.heap.size + 1, 9, none⟩ = some (.int .i64 0) := (blk_cell R3 9).trans rfl
      have rf9 : w3.frozen? ⟨w.heap.size + 1, 9, none⟩ = false := blk_frozen R3 9
      have r10 : w3.cell? ⟨w.heap.size + 1, 10, none⟩ = some (.int .i64 0) := (blk_cell R3 10).trans rfl
      have rf10 : w3.frozen? ⟨w.heap.size + 1, 10, none⟩ = false := blk_frozen R3 10
      by_cases hi : b.f0 = 2
      ·
       by_cases ho : b.f2.toList = [101, 110, 100]
       ·
        -- up to the end
        have o1 : (b.f2.toList == [101, 110, 100]) = true := beq_iff_eq.2 ho
        have i1 : (b.f0 == 2) = true := beq_iff_eq.2 hi
        have i2 : (b.f0 != 2) = false := bne_eq_false_iff_eq.2 hi
        have i3 : (b.f0 = 2) = True := eq_true hi
        have Hi := Aside0.mk hi
        clear hi
        have e := HH.out
        unfold rundleref26_span.f at e
        dsimp only at e
        rw [if_pos ⟨Hm.out, Hk.out⟩, if_neg Hj.out, if_pos ⟨Hi.out, ho⟩] at e
        simp only [Option.some.injEq, Prod.mk.injEq] at e
        obtain ⟨rfl, rfl, rfl, rfl, rfl, rfl, rfl, rfl, rfl, rfl, rfl, rfl⟩ := e
        go_wp2_with (fail)
        have F := fill11 w3 (w.heap.size + 1) 52 (.int .i64 0) (.string ⟨#[]⟩) (.string ⟨#[]⟩) (.slice none 0 0) (.string ⟨#[]⟩) (.string ⟨#[]⟩) (.bool false) (.int .i64 0) (.int .i64 0) (.int .i64 0) (.int .i64 0) (.int .i64 x0) (.string x1) (.string x2) (.slice none 0 0) (.string a.f2) (.string x5) (.bool true) (.int .i64 c'.f1) (.int .i64 x8) (.int .i64 x9) (.int .i64 x10) R3 w.heap.size (Nat.le_succ _) w B3
        refine bodyPost_ret (results_c2 rfl _ _ (w.heap.size + 1) 52 #[.int .i64 x0, .string x1, .string x2, .slice none 0 0, .string a.f2, .string x5, .bool true, .int .i64 c'.f1, .int .i64 x8, .int .i64 x9, .int .i64 x10] (0, 0) _ rfl F.1 hu52 rfl (by kernel_rfl)) rfl ?_
        exact ⟨_, rfl, Kd.R_nil _ _ _ _ _, F.2⟩
       ·
        have o1 : (b.f2.toList == [101, 110, 100]) = false := beq_eq_false_iff_ne.2 ho
        have o2 : (b.f2.toList = [101, 110, 100]) = False := eq_false ho
        have HO := Aside0.mk ho
        clear ho
        have i1 : (b.f0 == 2) = true := beq_iff_eq.2 hi
        have i2 : (b.f0 != 2) = false := bne_eq_false_iff_eq.2 hi
        have i3 : (b.f0 = 2) = True := eq_true hi
        have Hi := Aside0.mk hi
        clear hi
        have e := HH.out
        unfold rundleref26_span.f at e
        dsimp only at e
        rw [if_pos ⟨Hm.out, Hk.out⟩, if_neg Hj.out, if_neg (fun h => HO.out h.2)] at e
        simp only [Option.some.injEq, Prod.mk.injEq] at e
        obtain ⟨rfl, rfl, rfl, rfl, rfl, rfl, rfl, rfl, rfl, rfl, rfl, rfl⟩ := e
        go_wp2_with (fail)
        have F := fill11 w3 (w.heap.size + 1) 52 (.int .i64 0) (.string ⟨#[]⟩) (.string ⟨#[]⟩) (.slice none 0 0) (.string ⟨#[]⟩) (.string ⟨#[]⟩) (.bool false) (.int .i64 0) (.int .i64 0) (.int .i64 0) (.int .i64 0) (.int .i64 x0) (.string x1) (.string x2) (.slice none 0 0) (.string a.f2) (.string x5) (.bool true) (.int .i64 c'.f1) (.int .i64 x8) (.int .i64 x9) (.int .i64 x10) R3 w.heap.size (Nat.le_succ _) w B3
        refine bodyPost_ret (results_c2 rfl _ _ (w.heap.size + 1) 52 #[.int .i64 x0, .string x1, .string x2, .slice none 0 0, .string a.f2, .string x5, .bool true, .int .i64 c'.f1, .int .i64 x8, .int .i64 x9, .int .i64 x10] (0, 0) _ rfl F.1 hu52 rfl (by kernel_rfl)) rfl ?_
        exact ⟨_, rfl, Kd.R_nil _ _ _ _ _, F.2⟩
      ·
       -- no word
       have i1 : (b.f0 == 2) = false := beq_eq_false_iff_ne.2 hi
       have i2 : (b.f0 != 2) = true := bne_iff_ne.2 hi
       have i3 : (b.f0 = 2) = False := eq_false hi
       have Hi := Aside0.mk hi
       clear hi
       have e := HH.out
       unfold rundleref26_span.f at e
       dsimp only at e
       rw [if_pos ⟨Hm.out, Hk.out⟩, if_neg Hj.out, if_neg (fun h => Hi.out h.1)] at e
       simp only [Option.some.injEq, Prod.mk.injEq] at e
       obtain ⟨rfl, rfl, rfl, rfl, rfl, rfl, rfl, rfl, rfl, rfl, rfl, rfl⟩ := e
       go_wp2_with (fail)
       have F := fill11 w3 (w.heap.size + 1) 52 (.int .i64 0) (.string ⟨#[]⟩) (.string ⟨#[]⟩) (.slice none 0 0) (.string ⟨#[]⟩) (.string ⟨#[]⟩) (.bool false) (.int .i64 0) (.int .i64 0) (.int .i64 0) (.int .i64 0) (.int .i64 x0) (.string x1) (.string x2) (.slice none 0 0) (.string a.f2) (.string x5) (.bool true) (.int .i64 c'.f1) (.int .i64 x8) (.int .i64 x9) (.int .i64 x10) R3 w.heap.size (Nat.le_succ _) w B3
       refine bodyPost_ret (results_c2 rfl _ _ (w.heap.size + 1) 52 #[.int .i64 x0, .string x1, .string x2, .slice none 0 0, .string a.f2, .string x5, .bool true, .int .i64 c'.f1, .int .i64 x8, .int .i64 x9, .int .i64 x10] (0, 0) _ rfl F.1 hu52 rfl (by kernel_rfl)) rfl ?_
       exact ⟨_, rfl, Kd.R_nil _ _ _ _ _, F.2⟩
   ·
    -- the last one is no number
    have k1 : (c'.f0 == 1) = false := beq_eq_false_iff_ne.2 hk
    have k2 : (c'.f0 != 1) = true := bne_iff_ne.2 hk
    have k3 : (c'.f0 = 1) = False := eq_false hk
    have Hk := Aside0.mk hk
    clear hk
    have e := HH.out
    unfold rundleref26_span.f at e
    dsimp only at e
    rw [if_neg (fun h => Hk.out h.2)] at e
    simp only [Option.some.injEq, Prod.mk.injEq] at e
    obtain ⟨rfl, rfl, rfl, rfl, rfl, rfl, rfl, rfl, rfl, rfl, rfl, rfl⟩ := e
    go_wp2_with (fail)
    have F := fill11 w1 (w.heap.size + 1) 52 (.int .i64 0) (.string ⟨#[]⟩) (.string ⟨#[]⟩) (.slice none 0 0) (.string ⟨#[]⟩) (.string ⟨#[]⟩) (.bool false) (.int .i64 0) (.int .i64 0) (.int .i64 0) (.int .i64 0) (.int .i64 x0) (.string x1) (.string x2) (.slice none 0 0) (.string x4) (.string x5) (.bool x6) (.int .i64 x7) (.int .i64 x8) (.int .i64 x9) (.int .i64 x10) R1.out w.heap.size (Nat.le_succ _) w B1.out
    refine bodyPost_ret (results_c2 rfl _ _ (w.heap.size + 1) 52 #[.int .i64 x0, .string x1, .string x2, .slice none 0 0, .string x4, .string x5, .bool x6, .int .i64 x7, .int .i64 x8, .int .i64 x9, .int .i64 x10] (0, 0) _ rfl F.1 hu52 rfl (by kernel_rfl)) rfl ?_
    exact ⟨_, rfl, Kd.R_nil _ _ _ _ _, F.2⟩
  ·
   -- the first word is no text
   have m1 : (a.f0 == 3) = false := beq_eq_false_iff_ne.2 hm
   have m2 : (a.f0 != 3) = true := bne_iff_ne.2 hm
   have m3 : (a.f0 = 3) = False := eq_false hm
   have Hm := Aside0.mk hm
   clear hm
   have e := HH.out
   unfold rundleref26_span.f at e
   dsimp only at e
   rw [if_neg (fun h => Hm.out h.1)] at e
   simp only [Option.some.injEq, Prod.mk.injEq] at e
   obtain ⟨rfl, rfl, rfl, rfl, rfl, rfl, rfl, rfl, rfl, rfl, rfl, rfl⟩ := e
   go_wp2_with (fail)
   have F := fill11 w1 (w.heap.size + 1) 52 (.int .i64 0) (.string ⟨#[]⟩) (.string ⟨#[]⟩) (.slice none 0 0) (.string ⟨#[]⟩) (.string ⟨#[]⟩) (.bool false) (.int .i64 0) (.int .i64 0) (.int .i64 0) (.int .i64 0) (.int .i64 x0) (.string x1) (.string x2) (.slice none 0 0) (.string x4) (.string x5) (.bool x6) (.int .i64 x7) (.int .i64 x8) (.int .i64 x9) (.int .i64 x10) R1.out w.heap.size (Nat.le_succ _) w B1.out
   refine bodyPost_ret (results_c2 rfl _ _ (w.heap.size + 1) 52 #[.int .i64 x0, .string x1, .string x2, .slice none 0 0, .string x4, .string x5, .bool x6, .int .i64 x7, .int .i64 x8, .int .i64 x9, .int .i64 x10] (0, 0) _ rfl F.1 hu52 rfl (by kernel_rfl)) rfl ?_
   exact ⟨_, rfl, Kd.R_nil _ _ _ _ _, F.2⟩
 ·
  have n1 : ((l.length : Int) == 3) = false := beq_eq_false_iff_ne.2 (by omega)
  have n2 : ((l.length : Int) != 3) = true := bne_iff_ne.2 (by omega)
  have n3 : (l.length = 3) = False := eq_false h3
  have e : rundleref26_span.f x0 x1 x2 [] x4 x5 x6 x7 x8 x9 x10 l = some (x0, x1, x2, [], x4, x5, x6, x7, x8, x9, x10, 0) := by
   unfold rundleref26_span.f
   dsimp only
   split
   ·
    exact absurd rfl h3
   ·
    rfl
  have e := e.symm.trans HH.out
  simp only [Option.some.injEq, Prod.mk.injEq] at e
  obtain ⟨rfl, rfl, rfl, rfl, rfl, rfl, rfl, rfl, rfl, rfl, rfl, rfl⟩ := e
  go_wp2_with (fail)
  have F := fill11 w1 (w.heap.size + 1) 52 (.int .i64 0) (.string ⟨#[]⟩) (.string ⟨#[]⟩) (.slice none 0 0) (.string ⟨#[]⟩) (.string ⟨#[]⟩) (.bool false) (.int .i64 0) (.int .i64 0) (.int .i64 0) (.int .i64 0) (.int .i64 x0) (.string x1) (.string x2) (.slice none 0 0) (.string x4) (.string x5) (.bool x6) (.int .i64 x7) (.int .i64 x8) (.int .i64 x9) (.int .i64 x10) R1.out w.heap.size (Nat.le_succ _) w B1.out
  refine bodyPost_ret (results_c2 rfl _ _ (w.heap.size + 1) 52 #[.int .i64 x0, .string x1, .string x2, .slice none 0 0, .string x4, .string x5, .bool x6, .int .i64 x7, .int .i64 x8, .int .i64 x9, .int .i64 x10] (0, 0) _ rfl F.1 hu52 rfl (by kernel_rfl)) rfl ?_
  exact ⟨_, rfl, Kd.R_nil _ _ _ _ _, F.2⟩
end Go.Proofs.YtlkbeddlmbghkaaGreatDoor.PR
