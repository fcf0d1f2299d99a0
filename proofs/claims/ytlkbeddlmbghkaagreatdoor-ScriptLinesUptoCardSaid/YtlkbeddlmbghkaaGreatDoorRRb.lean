/- rundleref26.Read, at a line that begins, or runs, a call. -/
import Derived.Test.YtlkbeddlmbghkaaGreatDoorRRd
import Derived.Test.YtlkbeddlmbghkaaGreatDoorRCy
namespace Go.Proofs.YtlkbeddlmbghkaaGreatDoor.PR
open Go Go.Proofs Go.RowKit Go.Proofs.YtlkbeddlmbghkaaGreatDoorW.PrintWords Go.Proofs.YtlkbeddlmbghkaaGreatDoorW.PrintLast Go.Proofs.YtlkbeddlmbghkaaGreatDoorW.PrintMore
set_option linter.unusedVariables false
set_option linter.unusedSimpArgs false
set_option maxRecDepth 100000

set_option maxHeartbeats 16000000 in
theorem walkR_begin (A : Option Addr) (c : Nat) (h : S46) (r : List S46) (hl : (h :: r).length ≤ 1000000) (hc : (h :: r).length ≤ c) (w : World) (hC : Kd.C k46 w A (h :: r).length (h :: r)) (hm : h.f0 = 2) (hy : h.f2.toList = [98, 101, 103, 105, 110]) :
  Calls Tryz.prog 18 #[.slice A (h :: r).length c] w fun e w' => ReadRPost w (h :: r) e w' := by
 have hu54 := Tryz.underlying54
 have hu52 := Tryz.underlying52
 have hu46 := Tryz.underlying46
 have HC := Aside0.mk hC
 have HL := Aside0.mk hl
 have HCC := Aside0.mk hc
 clear hC hl hc
 go_enter Tryz.func18, Tryz.ntmps18
 go_upto_region 1 with (fail)
 have Z1 := Aside0.mk (blk_new w (.cells #[.int .i64 0, .int .i64 0, .int .i64 0, .int .i64 0, .string ⟨#[]⟩, .string ⟨#[]⟩, .slice none 0 0, .string ⟨#[]⟩, .string ⟨#[]⟩, .bool false, .int .i64 0, .int .i64 0, .int .i64 0, .int .i64 0] 54))
 have B1 : Aside0 (Below w.heap.size w (w.alloc (.cells #[.int .i64 0, .int .i64 0, .int .i64 0, .int .i64 0, .string ⟨#[]⟩, .string ⟨#[]⟩, .slice none 0 0, .string ⟨#[]⟩, .string ⟨#[]⟩, .bool false, .int .i64 0, .int .i64 0, .int .i64 0, .int .i64 0] 54))) := ⟨(Below.refl _ _).alloc (Nat.le_refl _) _⟩
 change Code.wp _ _ _ _ (w.alloc (.cells #[.int .i64 0, .int .i64 0, .int .i64 0, .int .i64 0, .string ⟨#[]⟩, .string ⟨#[]⟩, .slice none 0 0, .string ⟨#[]⟩, .string ⟨#[]⟩, .bool false, .int .i64 0, .int .i64 0, .int .i64 0, .int .i64 0] 54))
 generalize (w.alloc (.cells #[.int .i64 0, .int .i64 0, .int .i64 0, .int .i64 0, .string ⟨#[]⟩, .string ⟨#[]⟩, .slice none 0 0, .string ⟨#[]⟩, .string ⟨#[]⟩, .bool false, .int .i64 0, .int .i64 0, .int .i64 0, .int .i64 0] 54)) = w1 at *
 obtain ⟨ad, e0, xa0, xa1, xa2⟩ := at_T46 HC.out 0 (by decide) (by simp)
 subst e0
 rw [show rd_T46 (h :: r) 0 = h from rfl, show ((0 : Int).toNat * 3) = 0 from rfl, Addr.add_zero'] at xa0 xa1 xa2
 have hlta := World.block_lt_of_cell? w _ xa0
 have ha0 := (B1.out.cell hlta).trans xa0
 have ha2 := (B1.out.cell (World.block_lt_of_cell? w _ xa2)).trans xa2
 have l0 : (0 < (((h :: r).length : Nat) : Int)) = True := eq_true (by rw [List.length_cons]; omega)
 have l1 : (((h :: r).length : Int) == 0) = false := beq_eq_false_iff_ne.2 (by rw [List.length_cons]; omega)
 have l2 : ((r.length : Int) + 1 == 0) = false := beq_eq_false_iff_ne.2 (by omega)
 have l3 : ((r.length : Int) + 1 = 0) = False := eq_false (by omega)
 have l4 : (0 < (r.length : Int) + 1) = True := eq_true (by omega)
 have l5 : ((1 : Int) ≤ (r.length : Int) + 1) = True := eq_true (by omega)
 have l6 : (r.length + 1 ≤ c) = True := eq_true (by have := HCC.out; rw [List.length_cons] at this; exact this)
 have m1 : (h.f0 == 2) = true := beq_iff_eq.2 hm
 have m2 : (h.f0 != 2) = false := bne_eq_false_iff_eq.2 hm
 have m3 : (h.f0 = 2) = True := eq_true hm
 have y_1 : (h.f2.toList == [98, 101, 103, 105, 110]) = true := beq_iff_eq.2 hy
 have y_2 : (h.f2.toList != [98, 101, 103, 105, 110]) = false := bne_eq_false_iff_eq.2 hy
 have y_3 : (h.f2.toList = [98, 101, 103, 105, 110]) = True := eq_true hy
 have h1 : ¬ h.f2.toList = [114, 117, 110] := by rw [hy]; decide
 have n0_1 : (h.f2.toList == [114, 117, 110]) = false := beq_eq_false_iff_ne.2 h1
 have n0_2 : (h.f2.toList != [114, 117, 110]) = true := bne_iff_ne.2 h1
 have n0_3 : (h.f2.toList = [114, 117, 110]) = False := eq_false h1
 have HRD := Aside0.mk (readR_begin h r hm hy)
 go_upto_region 6 with (fail)
 iterate 9 (first | go_values | go_skip | go_guarded | go_step | go_upon)
 have CD := Kd.C_drop (m := 1) HC.out (by rw [List.length_cons]; omega) HCC.out
 rw [show (some ad).map (·.add (1 * k46.sz)) = some ⟨ad.block, ad.off + 3, none⟩ from rfl, show (h :: r).drop 1 = r from rfl] at CD
 have hcr : r.length ≤ c - 1 := by have := HCC.out; rw [List.length_cons] at this; omega
 generalize (if c = 1 then some ad else some (⟨ad.block, ad.off + 3, none⟩ : Addr)) = A1 at *
 generalize c - 1 = c1 at *
 go_wp2_with (fail)
 refine (formR_at A1 c1 r ⟨#[110]⟩ [110] (by decide) rfl w1 (Kd.C_below CD B1.out) hcr).mono ?_
 rintro e w2 ⟨rfl, hb⟩
 have Z2 := Aside0.mk (blk_below Z1.out hb)
 have B2 := Aside0.mk (B1.out.trans (hb.mono B1.out.size))
 have SZ2 : Aside0 (w.heap.size + 1 ≤ w2.heap.size) := ⟨blk_lt Z2.out⟩
 clear hb CD Z1 B1 ha0 ha2 hcr
 cases hg : formR [110] r with
 | false =>
  have HG := Aside0.mk hg
  clear hg
  obtain ⟨r0, rf0, r1, rf1, r2, rf2, r3, rf3, r4, rf4, r5, rf5, r6, rf6, r7, rf7, r8, rf8, r9, rf9, r10, rf10, r11, rf11, r12, rf12, r13, rf13⟩ := cells14f (show w2.heap[w.heap.size]? = some (.cells #[.int .i64 0, .int .i64 0, .int .i64 0, .int .i64 0, .string ⟨#[]⟩, .string ⟨#[]⟩, .slice none 0 0, .string ⟨#[]⟩, .string ⟨#[]⟩, .bool false, .int .i64 0, .int .i64 0, .int .i64 0, .int .i64 0] 54 (0, 0)) from Z2.out)
  have hno : readR (h :: r) = none := by
   rw [HRD.out]
   cases r with
   | nil => rfl
   | cons a t => rw [begR, HG.out]; rfl
  have HNO := Aside0.mk hno
  clear hno
  go_wp2_with (fail)
  have F := fillS w w2 (zS) (.slice none 0 0) Z2.out B2.out (Kd.R_nil _ _ _ _ _)
  refine bodyPost_ret (results_c2 rfl _ _ w.heap.size 54 (stepW (zS) (.slice none 0 0)) (0, 0) _ rfl F.1 hu54 rfl (by kernel_rfl)) rfl ?_
  exact ⟨0, zS, .slice none 0 0, rfl, F.2.2, F.2.1, .inr ⟨rfl, HNO.out⟩⟩
 | true =>
  have HG := Aside0.mk hg
  clear hg
  cases r with
  | nil => exact absurd HG.out (by decide)
  | cons a t =>
   clear l2 l3 l4 l5 l6 l0 l1
   have l7 : ((2 : Int) ≤ (t.length : Int) + 1 + 1) = True := eq_true (by omega)
   have l8 : (t.length + 1 + 1 ≤ c) = True := eq_true (by have := HCC.out; simp only [List.length_cons] at this; omega)
   have l9 : (2 ≤ t.length + 1 + 1) = True := eq_true (by omega)
   go_upto_region 8 with (fail)
   iterate 9 (first | go_values | go_skip | go_guarded | go_step | go_upon)
   have CD := Kd.C_drop (m := 2) HC.out (by simp) HCC.out
   rw [show (some ad).map (·.add (2 * k46.sz)) = some ⟨ad.block, ad.off + 6, none⟩ from rfl, show (h :: a :: t).drop 2 = t from rfl] at CD
   have hcr : t.length ≤ c - 2 := by have := HCC.out; simp only [List.length_cons] at this; omega
   have hlt : t.length ≤ 1000000 := by have := HL.out; simp only [List.length_cons] at this; omega
   generalize (if c = 2 then some ad else some (⟨ad.block, ad.off + 6, none⟩ : Addr)) = A2 at *
   generalize c - 2 = c2 at *
   go_wp2_with (fail)
   refine (callR_at A2 c2 t hlt hcr w2 (Kd.C_below CD B2.out)).mono ?_
   rintro e w3 ⟨n, x, v, rfl, hR, hB, hcr2⟩
   unfold callV
   obtain ⟨Av, cv, ev⟩ := Kd.R_slice hR
   subst ev
   have Z3 := Aside0.mk (blk_below Z2.out hB)
   have B3 := Aside0.mk (B2.out.trans (hB.mono B2.out.size))
   have R3 := Aside0.mk (Kd.R_lower hR SZ2.out)
   have HCR := Aside0.mk hcr2
   clear hB hR hcr2 hcr hlt CD Z2 B2
   go_upto_region 9 with (fail)
   have Y4 := Aside0.mk (blk_new w3 (.cells #[.int .i64 x.f0, .string x.f1, .string x.f2, .slice Av x.f3.length cv, .string x.f4, .string x.f5, .bool x.f6, .int .i64 x.f7, .int .i64 x.f8, .int .i64 x.f9, .int .i64 x.f10] 52))
   have ab : Below w3.heap.size w3 (w3.alloc (.cells #[.int .i64 x.f0, .string x.f1, .string x.f2, .slice Av x.f3.length cv, .string x.f4, .string x.f5, .bool x.f6, .int .i64 x.f7, .int .i64 x.f8, .int .i64 x.f9, .int .i64 x.f10] 52)) := (Below.refl _ _).alloc (Nat.le_refl _) _
   have Z4 := Aside0.mk (blk_below Z3.out ab)
   have B4 := Aside0.mk (B3.out.trans (ab.mono B3.out.size))
   have R4 := Aside0.mk (Kd.R_below R3.out ab)
   have S4 : Aside0 (w.heap.size < w3.heap.size) := ⟨blk_lt Z3.out⟩
   change Code.wp _ _ _ _ (w3.alloc (.cells #[.int .i64 x.f0, .string x.f1, .string x.f2, .slice Av x.f3.length cv, .string x.f4, .string x.f5, .bool x.f6, .int .i64 x.f7, .int .i64 x.f8, .int .i64 x.f9, .int .i64 x.f10] 52))
   generalize (w3.alloc (.cells #[.int .i64 x.f0, .string x.f1, .string x.f2, .slice Av x.f3.length cv, .string x.f4, .string x.f5, .bool x.f6, .int .i64 x.f7, .int .i64 x.f8, .int .i64 x.f9, .int .i64 x.f10] 52)) = w4 at *
   clear ab Z3 B3 R3
   generalize hg4 : w3.heap.size = g4 at *
   clear hg4
   rcases HCR.out with ⟨hn, hcr⟩ | ⟨hn, hcr⟩
   ·
    subst hn
    have HX := Aside0.mk hcr
    clear hcr HCR
    have HYES := Aside0.mk (show readR (h :: a :: t) = some ⟨1, a.f1, 0, x⟩ by rw [HRD.out, begR, if_pos HG.out, HX.out]; rfl)
    have ha4 := (B4.out.cell (World.block_lt_of_cell? w _ xa2)).trans xa2
    obtain ⟨ad1, e1, y10, y11, y12⟩ := at_T46 HC.out 1 (by decide) (by simp only [List.length_cons]; omega)
    obtain rfl := Option.some.inj e1
    rw [show rd_T46 (h :: a :: t) 1 = a from rfl, show ((1 : Int).toNat * 3) = 3 from rfl, show Addr.add ad 3 = ⟨ad.block, ad.off + 3, none⟩ from rfl] at y10 y11
    dsimp only at y11
    have z11 := (B4.out.cell (World.block_lt_of_cell? w _ y11)).trans y11
    clear e1 y10 y11 y12 xa0 xa1 xa2
    have l5 : ((1 : Int) < (t.length : Int) + 1 + 1) = True := eq_true (by omega)
    have l4 : (0 < (t.length : Int) + 1 + 1) = True := eq_true (by omega)
    go_upto_region 14 with (fail)
    refine start_ (n := 9) (S := fun w' => ∀ k, k ≠ w.heap.size → w'.heap[k]? = w4.heap[k]?) (ds := []) #[false, false, false, false, false, false, false, false, false] (by kernel_rfl) rfl rfl (fun _ _ => rfl) (fun hHeld => ?_)
    have Z7 := Aside0.mk (show w4.drew.heap[w.heap.size]? = _ from Z4.out)
    have B7 := Aside0.mk (B4.out.drew)
    have R7 := Aside0.mk (Kd.R_below R4.out (Below.refl w4.heap.size w4).drew)
    generalize w4.drew = w7 at *
    refine pure_ (i := 0) (N := some 44) (v := ?_) (a' := ?_) #[true, false, false, false, false, false, false, false, false] rfl rfl (by kernel_rfl) (fun _ _ _ h => h) (Or.inl ⟨by rfl, ?_⟩) ?_ ?_
    rotate_left
    ·
     intro w'
     go_simp
     with_reducible rfl
    rotate_left
    ·
     simp only [Act.put, List.setIfInBounds_toArray, List.set_cons_zero, List.set_cons_succ, i64_w, i32_w]
     rfl
    refine pure_ (i := 1) (N := some 45) (v := ?_) (a' := ?_) #[true, true, false, false, false, false, false, false, false] rfl rfl (by kernel_rfl) (fun _ _ _ h => h) (Or.inl ⟨by rfl, ?_⟩) ?_ ?_
    rotate_left
    ·
     intro w'
     go_simp
     with_reducible rfl
    rotate_left
    ·
     simp only [Act.put, List.setIfInBounds_toArray, List.set_cons_zero, List.set_cons_succ, i64_w, i32_w]
     rfl
    refine pure_ (i := 2) (N := some 46) (v := ?_) (a' := ?_) #[true, true, true, false, false, false, false, false, false] rfl rfl (by kernel_rfl) (fun _ _ _ h => h) (Or.inl ⟨by rfl, ?_⟩) ?_ ?_
    rotate_left
    ·
     intro w'
     go_simp
     with_reducible rfl
    rotate_left
    ·
     simp only [Act.put, List.setIfInBounds_toArray, List.set_cons_zero, List.set_cons_succ, i64_w, i32_w]
     rfl
    refine pure_ (i := 3) (N := some 47) (v := ?_) (a' := ?_) #[true, true, true, true, false, false, false, false, false] rfl rfl (by kernel_rfl) (fun _ _ _ h => h) (Or.inl ⟨by rfl, ?_⟩) ?_ ?_
    rotate_left
    ·
     intro w'
     go_simp
     with_reducible rfl
    rotate_left
    ·
     simp only [Act.put, List.setIfInBounds_toArray, List.set_cons_zero, List.set_cons_succ, i64_w, i32_w]
     rfl
    refine take_ (i := 4) (N := some 48) (v := ?_) (a' := ?_) #[true, true, true, true, true, false, false, false, false] rfl rfl (by kernel_rfl) (fun _ _ _ h => h) (Or.inl ⟨by rfl, ?_⟩) hHeld ?_ ?_
    rotate_left
    ·
     intro w' hS
     have s0 := (cell_eq (hS _ (by show ad.block ≠ w.heap.size; omega))).trans z11
     go_simp
     with_reducible rfl
    rotate_left
    ·
     simp only [Act.put, List.setIfInBounds_toArray, List.set_cons_zero, List.set_cons_succ, i64_w, i32_w]
     rfl
    refine take_ (i := 5) (N := some 49) (v := ?_) (a' := ?_) #[true, true, true, true, true, true, false, false, false] rfl rfl (by kernel_rfl) (fun _ _ _ h => h) (Or.inl ⟨by rfl, ?_⟩) hHeld ?_ ?_
    rotate_left
    ·
     intro w' hS
     have q0 : w'.cell? ⟨g4, 0, none⟩ = some (.int .i64 x.f0) := (cell_eq (hS _ (by show g4 ≠ w.heap.size; have := S4.out; omega))).trans ((blk_cell Y4.out 0).trans rfl)
     have q1 : w'.cell? ⟨g4, 1, none⟩ = some (.string x.f1) := (cell_eq (hS _ (by show g4 ≠ w.heap.size; have := S4.out; omega))).trans ((blk_cell Y4.out 1).trans rfl)
     have q2 : w'.cell? ⟨g4, 2, none⟩ = some (.string x.f2) := (cell_eq (hS _ (by show g4 ≠ w.heap.size; have := S4.out; omega))).trans ((blk_cell Y4.out 2).trans rfl)
     have q3 : w'.cell? ⟨g4, 3, none⟩ = some (.slice Av x.f3.length cv) := (cell_eq (hS _ (by show g4 ≠ w.heap.size; have := S4.out; omega))).trans ((blk_cell Y4.out 3).trans rfl)
     have q4 : w'.cell? ⟨g4, 4, none⟩ = some (.string x.f4) := (cell_eq (hS _ (by show g4 ≠ w.heap.size; have := S4.out; omega))).trans ((blk_cell Y4.out 4).trans rfl)
     have q5 : w'.cell? ⟨g4, 5, none⟩ = some (.string x.f5) := (cell_eq (hS _ (by show g4 ≠ w.heap.size; have := S4.out; omega))).trans ((blk_cell Y4.out 5).trans rfl)
     have q6 : w'.cell? ⟨g4, 6, none⟩ = some (.bool x.f6) := (cell_eq (hS _ (by show g4 ≠ w.heap.size; have := S4.out; omega))).trans ((blk_cell Y4.out 6).trans rfl)
     have q7 : w'.cell? ⟨g4, 7, none⟩ = some (.int .i64 x.f7) := (cell_eq (hS _ (by show g4 ≠ w.heap.size; have := S4.out; omega))).trans ((blk_cell Y4.out 7).trans rfl)
     have q8 : w'.cell? ⟨g4, 8, none⟩ = some (.int .i64 x.f8) := (cell_eq (hS _ (by show g4 ≠ w.heap.size; have := S4.out; omega))).trans ((blk_cell Y4.out 8).trans rfl)
     have q9 : w'.cell? ⟨g4, 9, none⟩ = some (.int .i64 x.f9) := (cell_eq (hS _ (by show g4 ≠ w.heap.size; have := S4.out; omega))).trans ((blk_cell Y4.out 9).trans rfl)
     have q10 : w'.cell? ⟨g4, 10, none⟩ = some (.int .i64 x.f10) := (cell_eq (hS _ (by show g4 ≠ w.heap.size; have := S4.out; omega))).trans ((blk_cell Y4.out 10).trans rfl)
     go_simp
     with_reducible rfl
    rotate_left
    ·
     simp only [Act.put, List.setIfInBounds_toArray, List.set_cons_zero, List.set_cons_succ, i64_w, i32_w]
     rfl
    refine pure_ (i := 6) (N := some 50) (v := ?_) (a' := ?_) #[true, true, true, true, true, true, true, false, false] rfl rfl (by kernel_rfl) (fun _ _ _ h => h) (Or.inl ⟨by rfl, ?_⟩) ?_ ?_
    rotate_left
    ·
     intro w'
     go_simp
     with_reducible rfl
    rotate_left
    ·
     simp only [Act.put, List.setIfInBounds_toArray, List.set_cons_zero, List.set_cons_succ, i64_w, i32_w]
     rfl
    obtain ⟨r0, rf0, r1, rf1, r2, rf2, r3, rf3, r4, rf4, r5, rf5, r6, rf6, r7, rf7, r8, rf8, r9, rf9, r10, rf10, r11, rf11, r12, rf12, r13, rf13⟩ := cells14f (show w7.heap[w.heap.size]? = some (.cells #[.int .i64 0, .int .i64 0, .int .i64 0, .int .i64 0, .string ⟨#[]⟩, .string ⟨#[]⟩, .slice none 0 0, .string ⟨#[]⟩, .string ⟨#[]⟩, .bool false, .int .i64 0, .int .i64 0, .int .i64 0, .int .i64 0] 54 (0, 0)) from Z7.out)
    refine one_ (i := 7) (N := none) #[true, true, true, true, true, true, true, true, false] rfl rfl (by kernel_rfl) (by decide) (fun K hK => ?_)
    refine skip_ (w1 := ?_) (by rfl) rfl ?_ ?_
    rotate_left
    ·
     go_simp
     rfl
    refine hK.out _ _ (fun k hk => (fr14 _ w.heap.size _ _ _ _ _ _ _ _ _ _ _ _ _ _ k hk).trans (hHeld k hk)) (fun hHeld => ?_)
    clear hK K hHeld
    refine pure_ (i := 8) (N := some 3) (v := ?_) (a' := ?_) #[true, true, true, true, true, true, true, true, true] rfl rfl (by kernel_rfl) (fun _ _ _ h => h) (Or.inl ⟨by rfl, ?_⟩) ?_ ?_
    rotate_left
    ·
     intro w'
     go_simp
     with_reducible rfl
    rotate_left
    ·
     simp only [Act.put, List.setIfInBounds_toArray, List.set_cons_zero, List.set_cons_succ, i64_w, i32_w]
     rfl
    refine done_ (by kernel_rfl) ?_
    go_wp2_with (fail)
    have F := fillS w w7 (⟨1, a.f1, 0, x⟩) (.slice Av x.f3.length cv) Z7.out B7.out (R7.out)
    refine bodyPost_ret (results_c2 rfl _ _ w.heap.size 54 (stepW (⟨1, a.f1, 0, x⟩) (.slice Av x.f3.length cv)) (0, 0) _ rfl F.1 hu54 rfl (by kernel_rfl)) rfl ?_
    exact ⟨1, ⟨1, a.f1, 0, x⟩, .slice Av x.f3.length cv, rfl, F.2.2, F.2.1, .inl ⟨rfl, HYES.out⟩⟩
   ·
    subst hn
    have HX := Aside0.mk hcr
    clear hcr HCR
    obtain ⟨r0, rf0, r1, rf1, r2, rf2, r3, rf3, r4, rf4, r5, rf5, r6, rf6, r7, rf7, r8, rf8, r9, rf9, r10, rf10, r11, rf11, r12, rf12, r13, rf13⟩ := cells14f (show w4.heap[w.heap.size]? = some (.cells #[.int .i64 0, .int .i64 0, .int .i64 0, .int .i64 0, .string ⟨#[]⟩, .string ⟨#[]⟩, .slice none 0 0, .string ⟨#[]⟩, .string ⟨#[]⟩, .bool false, .int .i64 0, .int .i64 0, .int .i64 0, .int .i64 0] 54 (0, 0)) from Z4.out)
    have hno : readR (h :: a :: t) = none := by
     rw [HRD.out, begR, if_pos HG.out, HX.out]
     rfl
    have HNO := Aside0.mk hno
    clear hno
    go_wp2_with (fail)
    have F := fillS w w4 (zS) (.slice none 0 0) Z4.out B4.out (Kd.R_nil _ _ _ _ _)
    refine bodyPost_ret (results_c2 rfl _ _ w.heap.size 54 (stepW (zS) (.slice none 0 0)) (0, 0) _ rfl F.1 hu54 rfl (by kernel_rfl)) rfl ?_
    exact ⟨0, zS, .slice none 0 0, rfl, F.2.2, F.2.1, .inr ⟨rfl, HNO.out⟩⟩

set_option maxHeartbeats 16000000 in
theorem walkR_run (A : Option Addr) (c : Nat) (h : S46) (r : List S46) (hl : (h :: r).length ≤ 1000000) (hc : (h :: r).length ≤ c) (w : World) (hC : Kd.C k46 w A (h :: r).length (h :: r)) (hm : h.f0 = 2) (hy : h.f2.toList = [114, 117, 110]) :
  Calls Tryz.prog 18 #[.slice A (h :: r).length c] w fun e w' => ReadRPost w (h :: r) e w' := by
 have hu54 := Tryz.underlying54
 have hu52 := Tryz.underlying52
 have hu46 := Tryz.underlying46
 have HC := Aside0.mk hC
 have HL := Aside0.mk hl
 have HCC := Aside0.mk hc
 clear hC hl hc
 go_enter Tryz.func18, Tryz.ntmps18
 go_upto_region 1 with (fail)
 have Z1 := Aside0.mk (blk_new w (.cells #[.int .i64 0, .int .i64 0, .int .i64 0, .int .i64 0, .string ⟨#[]⟩, .string ⟨#[]⟩, .slice none 0 0, .string ⟨#[]⟩, .string ⟨#[]⟩, .bool false, .int .i64 0, .int .i64 0, .int .i64 0, .int .i64 0] 54))
 have B1 : Aside0 (Below w.heap.size w (w.alloc (.cells #[.int .i64 0, .int .i64 0, .int .i64 0, .int .i64 0, .string ⟨#[]⟩, .string ⟨#[]⟩, .slice none 0 0, .string ⟨#[]⟩, .string ⟨#[]⟩, .bool false, .int .i64 0, .int .i64 0, .int .i64 0, .int .i64 0] 54))) := ⟨(Below.refl _ _).alloc (Nat.le_refl _) _⟩
 change Code.wp _ _ _ _ (w.alloc (.cells #[.int .i64 0, .int .i64 0, .int .i64 0, .int .i64 0, .string ⟨#[]⟩, .string ⟨#[]⟩, .slice none 0 0, .string ⟨#[]⟩, .string ⟨#[]⟩, .bool false, .int .i64 0, .int .i64 0, .int .i64 0, .int .i64 0] 54))
 generalize (w.alloc (.cells #[.int .i64 0, .int .i64 0, .int .i64 0, .int .i64 0, .string ⟨#[]⟩, .string ⟨#[]⟩, .slice none 0 0, .string ⟨#[]⟩, .string ⟨#[]⟩, .bool false, .int .i64 0, .int .i64 0, .int .i64 0, .int .i64 0] 54)) = w1 at *
 obtain ⟨ad, e0, xa0, xa1, xa2⟩ := at_T46 HC.out 0 (by decide) (by simp)
 subst e0
 rw [show rd_T46 (h :: r) 0 = h from rfl, show ((0 : Int).toNat * 3) = 0 from rfl, Addr.add_zero'] at xa0 xa1 xa2
 have hlta := World.block_lt_of_cell? w _ xa0
 have ha0 := (B1.out.cell hlta).trans xa0
 have ha2 := (B1.out.cell (World.block_lt_of_cell? w _ xa2)).trans xa2
 have l0 : (0 < (((h :: r).length : Nat) : Int)) = True := eq_true (by rw [List.length_cons]; omega)
 have l1 : (((h :: r).length : Int) == 0) = false := beq_eq_false_iff_ne.2 (by rw [List.length_cons]; omega)
 have l2 : ((r.length : Int) + 1 == 0) = false := beq_eq_false_iff_ne.2 (by omega)
 have l3 : ((r.length : Int) + 1 = 0) = False := eq_false (by omega)
 have l4 : (0 < (r.length : Int) + 1) = True := eq_true (by omega)
 have l5 : ((1 : Int) ≤ (r.length : Int) + 1) = True := eq_true (by omega)
 have l6 : (r.length + 1 ≤ c) = True := eq_true (by have := HCC.out; rw [List.length_cons] at this; exact this)
 have m1 : (h.f0 == 2) = true := beq_iff_eq.2 hm
 have m2 : (h.f0 != 2) = false := bne_eq_false_iff_eq.2 hm
 have m3 : (h.f0 = 2) = True := eq_true hm
 have h1 : ¬ h.f2.toList = [98, 101, 103, 105, 110] := by rw [hy]; decide
 have n0_1 : (h.f2.toList == [98, 101, 103, 105, 110]) = false := beq_eq_false_iff_ne.2 h1
 have n0_2 : (h.f2.toList != [98, 101, 103, 105, 110]) = true := bne_iff_ne.2 h1
 have n0_3 : (h.f2.toList = [98, 101, 103, 105, 110]) = False := eq_false h1
 have y_1 : (h.f2.toList == [114, 117, 110]) = true := beq_iff_eq.2 hy
 have y_2 : (h.f2.toList != [114, 117, 110]) = false := bne_eq_false_iff_eq.2 hy
 have y_3 : (h.f2.toList = [114, 117, 110]) = True := eq_true hy
 have HRD := Aside0.mk (readR_run h r hm hy)
 go_upto_region 6 with (fail)
 iterate 9 (first | go_values | go_skip | go_guarded | go_step | go_upon)
 have CD := Kd.C_drop (m := 1) HC.out (by rw [List.length_cons]; omega) HCC.out
 rw [show (some ad).map (·.add (1 * k46.sz)) = some ⟨ad.block, ad.off + 3, none⟩ from rfl, show (h :: r).drop 1 = r from rfl] at CD
 have hcr : r.length ≤ c - 1 := by have := HCC.out; rw [List.length_cons] at this; omega
 generalize (if c = 1 then some ad else some (⟨ad.block, ad.off + 3, none⟩ : Addr)) = A1 at *
 generalize c - 1 = c1 at *
 go_wp2_with (fail)
 refine (formR_at A1 c1 r ⟨#[110]⟩ [110] (by decide) rfl w1 (Kd.C_below CD B1.out) hcr).mono ?_
 rintro e w2 ⟨rfl, hb⟩
 have Z2 := Aside0.mk (blk_below Z1.out hb)
 have B2 := Aside0.mk (B1.out.trans (hb.mono B1.out.size))
 have SZ2 : Aside0 (w.heap.size + 1 ≤ w2.heap.size) := ⟨blk_lt Z2.out⟩
 clear hb CD Z1 B1 ha0 ha2 hcr
 cases hg : formR [110] r with
 | false =>
  have HG := Aside0.mk hg
  clear hg
  obtain ⟨r0, rf0, r1, rf1, r2, rf2, r3, rf3, r4, rf4, r5, rf5, r6, rf6, r7, rf7, r8, rf8, r9, rf9, r10, rf10, r11, rf11, r12, rf12, r13, rf13⟩ := cells14f (show w2.heap[w.heap.size]? = some (.cells #[.int .i64 0, .int .i64 0, .int .i64 0, .int .i64 0, .string ⟨#[]⟩, .string ⟨#[]⟩, .slice none 0 0, .string ⟨#[]⟩, .string ⟨#[]⟩, .bool false, .int .i64 0, .int .i64 0, .int .i64 0, .int .i64 0] 54 (0, 0)) from Z2.out)
  have hno : readR (h :: r) = none := by
   rw [HRD.out]
   cases r with
   | nil => rfl
   | cons a t => rw [begR, HG.out]; rfl
  have HNO := Aside0.mk hno
  clear hno
  go_wp2_with (fail)
  have F := fillS w w2 (zS) (.slice none 0 0) Z2.out B2.out (Kd.R_nil _ _ _ _ _)
  refine bodyPost_ret (results_c2 rfl _ _ w.heap.size 54 (stepW (zS) (.slice none 0 0)) (0, 0) _ rfl F.1 hu54 rfl (by kernel_rfl)) rfl ?_
  exact ⟨0, zS, .slice none 0 0, rfl, F.2.2, F.2.1, .inr ⟨rfl, HNO.out⟩⟩
 | true =>
  have HG := Aside0.mk hg
  clear hg
  cases r with
  | nil => exact absurd HG.out (by decide)
  | cons a t =>
   clear l2 l3 l4 l5 l6 l0 l1
   have l7 : ((2 : Int) ≤ (t.length : Int) + 1 + 1) = True := eq_true (by omega)
   have l8 : (t.length + 1 + 1 ≤ c) = True := eq_true (by have := HCC.out; simp only [List.length_cons] at this; omega)
   have l9 : (2 ≤ t.length + 1 + 1) = True := eq_true (by omega)
   go_upto_region 8 with (fail)
   iterate 9 (first | go_values | go_skip | go_guarded | go_step | go_upon)
   have CD := Kd.C_drop (m := 2) HC.out (by simp) HCC.out
   rw [show (some ad).map (·.add (2 * k46.sz)) = some ⟨ad.block, ad.off + 6, none⟩ from rfl, show (h :: a :: t).drop 2 = t from rfl] at CD
   have hcr : t.length ≤ c - 2 := by have := HCC.out; simp only [List.length_cons] at this; omega
   have hlt : t.length ≤ 1000000 := by have := HL.out; simp only [List.length_cons] at this; omega
   generalize (if c = 2 then some ad else some (⟨ad.block, ad.off + 6, none⟩ : Addr)) = A2 at *
   generalize c - 2 = c2 at *
   go_wp2_with (fail)
   refine (callR_at A2 c2 t hlt hcr w2 (Kd.C_below CD B2.out)).mono ?_
   rintro e w3 ⟨n, x, v, rfl, hR, hB, hcr2⟩
   unfold callV
   obtain ⟨Av, cv, ev⟩ := Kd.R_slice hR
   subst ev
   have Z3 := Aside0.mk (blk_below Z2.out hB)
   have B3 := Aside0.mk (B2.out.trans (hB.mono B2.out.size))
   have R3 := Aside0.mk (Kd.R_lower hR SZ2.out)
   have HCR := Aside0.mk hcr2
   clear hB hR hcr2 hcr hlt CD Z2 B2
   go_upto_region 9 with (fail)
   have Y4 := Aside0.mk (blk_new w3 (.cells #[.int .i64 x.f0, .string x.f1, .string x.f2, .slice Av x.f3.length cv, .string x.f4, .string x.f5, .bool x.f6, .int .i64 x.f7, .int .i64 x.f8, .int .i64 x.f9, .int .i64 x.f10] 52))
   have ab : Below w3.heap.size w3 (w3.alloc (.cells #[.int .i64 x.f0, .string x.f1, .string x.f2, .slice Av x.f3.length cv, .string x.f4, .string x.f5, .bool x.f6, .int .i64 x.f7, .int .i64 x.f8, .int .i64 x.f9, .int .i64 x.f10] 52)) := (Below.refl _ _).alloc (Nat.le_refl _) _
   have Z4 := Aside0.mk (blk_below Z3.out ab)
   have B4 := Aside0.mk (B3.out.trans (ab.mono B3.out.size))
   have R4 := Aside0.mk (Kd.R_below R3.out ab)
   have S4 : Aside0 (w.heap.size < w3.heap.size) := ⟨blk_lt Z3.out⟩
   change Code.wp _ _ _ _ (w3.alloc (.cells #[.int .i64 x.f0, .string x.f1, .string x.f2, .slice Av x.f3.length cv, .string x.f4, .string x.f5, .bool x.f6, .int .i64 x.f7, .int .i64 x.f8, .int .i64 x.f9, .int .i64 x.f10] 52))
   generalize (w3.alloc (.cells #[.int .i64 x.f0, .string x.f1, .string x.f2, .slice Av x.f3.length cv, .string x.f4, .string x.f5, .bool x.f6, .int .i64 x.f7, .int .i64 x.f8, .int .i64 x.f9, .int .i64 x.f10] 52)) = w4 at *
   clear ab Z3 B3 R3
   generalize hg4 : w3.heap.size = g4 at *
   clear hg4
   rcases HCR.out with ⟨hn, hcr⟩ | ⟨hn, hcr⟩
   ·
    subst hn
    have HX := Aside0.mk hcr
    clear hcr HCR
    have HYES := Aside0.mk (show readR (h :: a :: t) = some ⟨2, a.f1, 0, x⟩ by rw [HRD.out, begR, if_pos HG.out, HX.out]; rfl)
    have ha4 := (B4.out.cell (World.block_lt_of_cell? w _ xa2)).trans xa2
    obtain ⟨ad1, e1, y10, y11, y12⟩ := at_T46 HC.out 1 (by decide) (by simp only [List.length_cons]; omega)
    obtain rfl := Option.some.inj e1
    rw [show rd_T46 (h :: a :: t) 1 = a from rfl, show ((1 : Int).toNat * 3) = 3 from rfl, show Addr.add ad 3 = ⟨ad.block, ad.off + 3, none⟩ from rfl] at y10 y11
    dsimp only at y11
    have z11 := (B4.out.cell (World.block_lt_of_cell? w _ y11)).trans y11
    clear e1 y10 y11 y12 xa0 xa1 xa2
    have l5 : ((1 : Int) < (t.length : Int) + 1 + 1) = True := eq_true (by omega)
    have l4 : (0 < (t.length : Int) + 1 + 1) = True := eq_true (by omega)
    go_upto_region 14 with (fail)
    refine start_ (n := 9) (S := fun w' => ∀ k, k ≠ w.heap.size → w'.heap[k]? = w4.heap[k]?) (ds := []) #[false, false, false, false, false, false, false, false, false] (by kernel_rfl) rfl rfl (fun _ _ => rfl) (fun hHeld => ?_)
    have Z7 := Aside0.mk (show w4.drew.heap[w.heap.size]? = _ from Z4.out)
    have B7 := Aside0.mk (B4.out.drew)
    have R7 := Aside0.mk (Kd.R_below R4.out (Below.refl w4.heap.size w4).drew)
    generalize w4.drew = w7 at *
    refine pure_ (i := 0) (N := some 44) (v := ?_) (a' := ?_) #[true, false, false, false, false, false, false, false, false] rfl rfl (by kernel_rfl) (fun _ _ _ h => h) (Or.inl ⟨by rfl, ?_⟩) ?_ ?_
    rotate_left
    ·
     intro w'
     go_simp
     with_reducible rfl
    rotate_left
    ·
     simp only [Act.put, List.setIfInBounds_toArray, List.set_cons_zero, List.set_cons_succ, i64_w, i32_w]
     rfl
    refine pure_ (i := 1) (N := some 45) (v := ?_) (a' := ?_) #[true, true, false, false, false, false, false, false, false] rfl rfl (by kernel_rfl) (fun _ _ _ h => h) (Or.inl ⟨by rfl, ?_⟩) ?_ ?_
    rotate_left
    ·
     intro w'
     go_simp
     with_reducible rfl
    rotate_left
    ·
     simp only [Act.put, List.setIfInBounds_toArray, List.set_cons_zero, List.set_cons_succ, i64_w, i32_w]
     rfl
    refine pure_ (i := 2) (N := some 46) (v := ?_) (a' := ?_) #[true, true, true, false, false, false, false, false, false] rfl rfl (by kernel_rfl) (fun _ _ _ h => h) (Or.inl ⟨by rfl, ?_⟩) ?_ ?_
    rotate_left
    ·
     intro w'
     go_simp
     with_reducible rfl
    rotate_left
    ·
     simp only [Act.put, List.setIfInBounds_toArray, List.set_cons_zero, List.set_cons_succ, i64_w, i32_w]
     rfl
    refine pure_ (i := 3) (N := some 47) (v := ?_) (a' := ?_) #[true, true, true, true, false, false, false, false, false] rfl rfl (by kernel_rfl) (fun _ _ _ h => h) (Or.inl ⟨by rfl, ?_⟩) ?_ ?_
    rotate_left
    ·
     intro w'
     go_simp
     with_reducible rfl
    rotate_left
    ·
     simp only [Act.put, List.setIfInBounds_toArray, List.set_cons_zero, List.set_cons_succ, i64_w, i32_w]
     rfl
    refine take_ (i := 4) (N := some 48) (v := ?_) (a' := ?_) #[true, true, true, true, true, false, false, false, false] rfl rfl (by kernel_rfl) (fun _ _ _ h => h) (Or.inl ⟨by rfl, ?_⟩) hHeld ?_ ?_
    rotate_left
    ·
     intro w' hS
     have s0 := (cell_eq (hS _ (by show ad.block ≠ w.heap.size; omega))).trans z11
     go_simp
     with_reducible rfl
    rotate_left
    ·
     simp only [Act.put, List.setIfInBounds_toArray, List.set_cons_zero, List.set_cons_succ, i64_w, i32_w]
     rfl
    refine take_ (i := 5) (N := some 49) (v := ?_) (a' := ?_) #[true, true, true, true, true, true, false, false, false] rfl rfl (by kernel_rfl) (fun _ _ _ h => h) (Or.inl ⟨by rfl, ?_⟩) hHeld ?_ ?_
    rotate_left
    ·
     intro w' hS
     have q0 : w'.cell? ⟨g4, 0, none⟩ = some (.int .i64 x.f0) := (cell_eq (hS _ (by show g4 ≠ w.heap.size; have := S4.out; omega))).trans ((blk_cell Y4.out 0).trans rfl)
     have q1 : w'.cell? ⟨g4, 1, none⟩ = some (.string x.f1) := (cell_eq (hS _ (by show g4 ≠ w.heap.size; have := S4.out; omega))).trans ((blk_cell Y4.out 1).trans rfl)
     have q2 : w'.cell? ⟨g4, 2, none⟩ = some (.string x.f2) := (cell_eq (hS _ (by show g4 ≠ w.heap.size; have := S4.out; omega))).trans ((blk_cell Y4.out 2).trans rfl)
     have q3 : w'.cell? ⟨g4, 3, none⟩ = some (.slice Av x.f3.length cv) := (cell_eq (hS _ (by show g4 ≠ w.heap.size; have := S4.out; omega))).trans ((blk_cell Y4.out 3).trans rfl)
     have q4 : w'.cell? ⟨g4, 4, none⟩ = some (.string x.f4) := (cell_eq (hS _ (by show g4 ≠ w.heap.size; have := S4.out; omega))).trans ((blk_cell Y4.out 4).trans rfl)
     have q5 : w'.cell? ⟨g4, 5, none⟩ = some (.string x.f5) := (cell_eq (hS _ (by show g4 ≠ w.heap.size; have := S4.out; omega))).trans ((blk_cell Y4.out 5).trans rfl)
     have q6 : w'.cell? ⟨g4, 6, none⟩ = some (.bool x.f6) := (cell_eq (hS _ (by show g4 ≠ w.heap.size; have := S4.out; omega))).trans ((blk_cell Y4.out 6).trans rfl)
     have q7 : w'.cell? ⟨g4, 7, none⟩ = some (.int .i64 x.f7) := (cell_eq (hS _ (by show g4 ≠ w.heap.size; have := S4.out; omega))).trans ((blk_cell Y4.out 7).trans rfl)
     have q8 : w'.cell? ⟨g4, 8, none⟩ = some (.int .i64 x.f8) := (cell_eq (hS _ (by show g4 ≠ w.heap.size; have := S4.out; omega))).trans ((blk_cell Y4.out 8).trans rfl)
     have q9 : w'.cell? ⟨g4, 9, none⟩ = some (.int .i64 x.f9) := (cell_eq (hS _ (by show g4 ≠ w.heap.size; have := S4.out; omega))).trans ((blk_cell Y4.out 9).trans rfl)
     have q10 : w'.cell? ⟨g4, 10, none⟩ = some (.int .i64 x.f10) := (cell_eq (hS _ (by show g4 ≠ w.heap.size; have := S4.out; omega))).trans ((blk_cell Y4.out 10).trans rfl)
     go_simp
     with_reducible rfl
    rotate_left
    ·
     simp only [Act.put, List.setIfInBounds_toArray, List.set_cons_zero, List.set_cons_succ, i64_w, i32_w]
     rfl
    refine pure_ (i := 6) (N := some 50) (v := ?_) (a' := ?_) #[true, true, true, true, true, true, true, false, false] rfl rfl (by kernel_rfl) (fun _ _ _ h => h) (Or.inl ⟨by rfl, ?_⟩) ?_ ?_
    rotate_left
    ·
     intro w'
     go_simp
     with_reducible rfl
    rotate_left
    ·
     simp only [Act.put, List.setIfInBounds_toArray, List.set_cons_zero, List.set_cons_succ, i64_w, i32_w]
     rfl
    obtain ⟨r0, rf0, r1, rf1, r2, rf2, r3, rf3, r4, rf4, r5, rf5, r6, rf6, r7, rf7, r8, rf8, r9, rf9, r10, rf10, r11, rf11, r12, rf12, r13, rf13⟩ := cells14f (show w7.heap[w.heap.size]? = some (.cells #[.int .i64 0, .int .i64 0, .int .i64 0, .int .i64 0, .string ⟨#[]⟩, .string ⟨#[]⟩, .slice none 0 0, .string ⟨#[]⟩, .string ⟨#[]⟩, .bool false, .int .i64 0, .int .i64 0, .int .i64 0, .int .i64 0] 54 (0, 0)) from Z7.out)
    refine one_ (i := 7) (N := none) #[true, true, true, true, true, true, true, true, false] rfl rfl (by kernel_rfl) (by decide) (fun K hK => ?_)
    refine skip_ (w1 := ?_) (by rfl) rfl ?_ ?_
    rotate_left
    ·
     go_simp
     rfl
    refine hK.out _ _ (fun k hk => (fr14 _ w.heap.size _ _ _ _ _ _ _ _ _ _ _ _ _ _ k hk).trans (hHeld k hk)) (fun hHeld => ?_)
    clear hK K hHeld
    refine pure_ (i := 8) (N := some 3) (v := ?_) (a' := ?_) #[true, true, true, true, true, true, true, true, true] rfl rfl (by kernel_rfl) (fun _ _ _ h => h) (Or.inl ⟨by rfl, ?_⟩) ?_ ?_
    rotate_left
    ·
     intro w'
     go_simp
     with_reducible rfl
    rotate_left
    ·
     simp only [Act.put, List.setIfInBounds_toArray, List.set_cons_zero, List.set_cons_succ, i64_w, i32_w]
     rfl
    refine done_ (by kernel_rfl) ?_
    go_wp2_with (fail)
    have F := fillS w w7 (⟨2, a.f1, 0, x⟩) (.slice Av x.f3.length cv) Z7.out B7.out (R7.out)
    refine bodyPost_ret (results_c2 rfl _ _ w.heap.size 54 (stepW (⟨2, a.f1, 0, x⟩) (.slice Av x.f3.length cv)) (0, 0) _ rfl F.1 hu54 rfl (by kernel_rfl)) rfl ?_
    exact ⟨1, ⟨2, a.f1, 0, x⟩, .slice Av x.f3.length cv, rfl, F.2.2, F.2.1, .inl ⟨rfl, HYES.out⟩⟩
   ·
    subst hn
    have HX := Aside0.mk hcr
    clear hcr HCR
    obtain ⟨r0, rf0, r1, rf1, r2, rf2, r3, rf3, r4, rf4, r5, rf5, r6, rf6, r7, rf7, r8, rf8, r9, rf9, r10, rf10, r11, rf11, r12, rf12, r13, rf13⟩ := cells14f (show w4.heap[w.heap.size]? = some (.cells #[.int .i64 0, .int .i64 0, .int .i64 0, .int .i64 0, .string ⟨#[]⟩, .string ⟨#[]⟩, .slice none 0 0, .string ⟨#[]⟩, .string ⟨#[]⟩, .bool false, .int .i64 0, .int .i64 0, .int .i64 0, .int .i64 0] 54 (0, 0)) from Z4.out)
    have hno : readR (h :: a :: t) = none := by
     rw [HRD.out, begR, if_pos HG.out, HX.out]
     rfl
    have HNO := Aside0.mk hno
    clear hno
    go_wp2_with (fail)
    have F := fillS w w4 (zS) (.slice none 0 0) Z4.out B4.out (Kd.R_nil _ _ _ _ _)
    refine bodyPost_ret (results_c2 rfl _ _ w.heap.size 54 (stepW (zS) (.slice none 0 0)) (0, 0) _ rfl F.1 hu54 rfl (by kernel_rfl)) rfl ?_
    exact ⟨0, zS, .slice none 0 0, rfl, F.2.2, F.2.1, .inr ⟨rfl, HNO.out⟩⟩
end Go.Proofs.YtlkbeddlmbghkaaGreatDoor.PR
