/- rundleref26.Read, at a line that steps. -/
import Derived.Test.YtlkbeddlmbghkaaGreatDoorRRd
namespace Go.Proofs.YtlkbeddlmbghkaaGreatDoor.PR
open Go Go.Proofs Go.RowKit Go.Proofs.YtlkbeddlmbghkaaGreatDoorW.PrintWords Go.Proofs.YtlkbeddlmbghkaaGreatDoorW.PrintLast Go.Proofs.YtlkbeddlmbghkaaGreatDoorW.PrintMore
set_option linter.unusedVariables false
set_option linter.unusedSimpArgs false
set_option maxRecDepth 100000

set_option maxHeartbeats 16000000 in
theorem walkR_step (A : Option Addr) (c : Nat) (h : S46) (r : List S46) (hl : (h :: r).length ≤ 1000000) (hc : (h :: r).length ≤ c) (w : World) (hC : Kd.C k46 w A (h :: r).length (h :: r)) (hm : h.f0 = 2) (hy : h.f2.toList = [115, 116, 101, 112]) :
  Calls Tryz.prog 18 #[.slice A (h :: r).length c] w fun e w' => ReadRPost w (h :: r) e w' := by
 have hu54 := Tryz.underlying54
 have hu52 := Tryz.underlying52
 have hu46 := Tryz.underlying46
 have HC := Aside0.mk hC
 have HL := Aside0.mk hl
 have HCC := Aside0.mk hc
 clear hC hl hc
 go_enter Tryz.func18, Tryz.ntmps18
 go_upto_region 1 with (fail)
 have Z1 := Aside0.mk (blk_new w (.cells #[.int .i64 0, .int .i64 0, .int .i64 0, .int .i64 0, .string ⟨#[]⟩, .string ⟨#[]⟩, .slice none 0 0, .string ⟨#[]⟩, .string ⟨#[]⟩, .bool false, .int .i64 0, .int .i64 0, .int .i64 0, .int .i64 0] 54))
 have B1 : Aside0 (Below w.heap.size w (w.alloc (.cells #[.int .i64 0, .int .i64 0, .int .i64 0, .int .i64 0, .string ⟨#[]⟩, .string ⟨#[]⟩, .slice none 0 0, .string ⟨#[]⟩, .string ⟨#[]⟩, .bool false, .int .i64 0, .int .i64 0, .int .i64 0, .int .i64 0] 54))) := ⟨(Below.refl _ _).alloc (Nat.le_refl _) _⟩
 change Code.wp _ _ _ _ (w.alloc (.cells #[.int .i64 0, .int .i64 0, .int .i64 0, .int .i64 0, .string ⟨#[]⟩, .string ⟨#[]⟩, .slice none 0 0, .string ⟨#[]⟩, .string ⟨#[]⟩, .bool false, .int .i64 0, .int .i64 0, .int .i64 0, .int .i64 0] 54))
 generalize (w.alloc (.cells #[.int .i64 0, .int .i64 0, .int .i64 0, .int .i64 0, .string ⟨#[]⟩, .string ⟨#[]⟩, .slice none 0 0, .string ⟨#[]⟩, .string ⟨#[]⟩, .bool false, .int .i64 0, .int .i64 0, .int .i64 0, .int .i64 0] 54)) = w1 at *
 obtain ⟨ad, e0, xa0, xa1, xa2⟩ := at_T46 HC.out 0 (by decide) (by simp)
 subst e0
 rw [show rd_T46 (h :: r) 0 = h from rfl, show ((0 : Int).toNat * 3) = 0 from rfl, Addr.add_zero'] at xa0 xa1 xa2
 have hlta := World.block_lt_of_cell? w _ xa0
 have ha0 := (B1.out.cell hlta).trans xa0
 have ha2 := (B1.out.cell (World.block_lt_of_cell? w _ xa2)).trans xa2
 have l0 : (0 < (((h :: r).length : Nat) : Int)) = True := eq_true (by rw [List.length_cons]; omega)
 have l1 : (((h :: r).length : Int) == 0) = false := beq_eq_false_iff_ne.2 (by rw [List.length_cons]; omega)
 have l2 : ((r.length : Int) + 1 == 0) = false := beq_eq_false_iff_ne.2 (by omega)
 have l3 : ((r.length : Int) + 1 = 0) = False := eq_false (by omega)
 have l4 : (0 < (r.length : Int) + 1) = True := eq_true (by omega)
 have l5 : ((1 : Int) ≤ (r.length : Int) + 1) = True := eq_true (by omega)
 have l6 : (r.length + 1 ≤ c) = True := eq_true (by have := HCC.out; rw [List.length_cons] at this; exact this)
 have m1 : (h.f0 == 2) = true := beq_iff_eq.2 hm
 have m2 : (h.f0 != 2) = false := bne_eq_false_iff_eq.2 hm
 have m3 : (h.f0 = 2) = True := eq_true hm
 have h1 : ¬ h.f2.toList = [98, 101, 103, 105, 110] := by rw [hy]; decide
 have h2 : ¬ h.f2.toList = [114, 117, 110] := by rw [hy]; decide
 have n0_1 : (h.f2.toList == [98, 101, 103, 105, 110]) = false := beq_eq_false_iff_ne.2 h1
 have n0_2 : (h.f2.toList != [98, 101, 103, 105, 110]) = true := bne_iff_ne.2 h1
 have n0_3 : (h.f2.toList = [98, 101, 103, 105, 110]) = False := eq_false h1
 have n1_1 : (h.f2.toList == [114, 117, 110]) = false := beq_eq_false_iff_ne.2 h2
 have n1_2 : (h.f2.toList != [114, 117, 110]) = true := bne_iff_ne.2 h2
 have n1_3 : (h.f2.toList = [114, 117, 110]) = False := eq_false h2
 have y_1 : (h.f2.toList == [115, 116, 101, 112]) = true := beq_iff_eq.2 hy
 have y_2 : (h.f2.toList != [115, 116, 101, 112]) = false := bne_eq_false_iff_eq.2 hy
 have y_3 : (h.f2.toList = [115, 116, 101, 112]) = True := eq_true hy
 have h3 : ¬ h.f2.toList = [97, 108, 108] := by rw [hy]; decide
 have n5_1 : (h.f2.toList == [97, 108, 108]) = false := beq_eq_false_iff_ne.2 h3
 have n5_2 : (h.f2.toList != [97, 108, 108]) = true := bne_iff_ne.2 h3
 have n5_3 : (h.f2.toList = [97, 108, 108]) = False := eq_false h3
 have HRD := Aside0.mk (readR_step h r hm hy)
 by_cases hn : r.length = 2
 ·
  obtain ⟨a, b, rfl⟩ : ∃ a b, r = [a, b] := by
   match r, hn with
   | [a, b], _ => exact ⟨a, b, rfl⟩
  clear hn
  go_upto_region 16 with (fail)
  iterate 21 (first | go_values | go_skip | go_guarded | go_step | go_upon)
  have CD := Kd.C_drop (m := 1) HC.out (by simp) HCC.out
  rw [show (some ad).map (·.add (1 * k46.sz)) = some ⟨ad.block, ad.off + 3, none⟩ from rfl, show (h :: [a, b]).drop 1 = [a, b] from rfl] at CD
  have hcr : 2 ≤ c - 1 := by have := HCC.out; simp only [List.length_cons, List.length_nil] at this; omega
  generalize (if c = 1 then some ad else some (⟨ad.block, ad.off + 3, none⟩ : Addr)) = A1 at *
  generalize c - 1 = c1 at *
  go_wp2_with (fail)
  refine (formR_at A1 c1 [a, b] ⟨#[110, 110]⟩ [110, 110] (by decide) rfl w1 (Kd.C_below CD B1.out) hcr).mono ?_
  rintro e w2 ⟨rfl, hb⟩
  have Z2 := Aside0.mk (blk_below Z1.out hb)
  have B2 := Aside0.mk (B1.out.trans (hb.mono B1.out.size))
  clear hb CD Z1 B1 ha0 ha2
  cases hg : formR [110, 110] [a, b] with
  | false =>
   have HG := Aside0.mk hg
   clear hg
   obtain ⟨r0, rf0, r1, rf1, r2, rf2, r3, rf3, r4, rf4, r5, rf5, r6, rf6, r7, rf7, r8, rf8, r9, rf9, r10, rf10, r11, rf11, r12, rf12, r13, rf13⟩ := cells14f (show w2.heap[w.heap.size]? = some (.cells #[.int .i64 0, .int .i64 0, .int .i64 0, .int .i64 0, .string ⟨#[]⟩, .string ⟨#[]⟩, .slice none 0 0, .string ⟨#[]⟩, .string ⟨#[]⟩, .bool false, .int .i64 0, .int .i64 0, .int .i64 0, .int .i64 0] 54 (0, 0)) from Z2.out)
   have hno : readR (h :: [a, b]) = none := by
    rw [HRD.out, stepR]; simp [HG.out]
   have HNO := Aside0.mk hno
   clear hno
   go_wp2_with (fail)
   have F := fillS w w2 (zS) (.slice none 0 0) Z2.out B2.out (Kd.R_nil _ _ _ _ _)
   refine bodyPost_ret (results_c2 rfl _ _ w.heap.size 54 (stepW (zS) (.slice none 0 0)) (0, 0) _ rfl F.1 hu54 rfl (by kernel_rfl)) rfl ?_
   exact ⟨0, zS, .slice none 0 0, rfl, F.2.2, F.2.1, .inr ⟨rfl, HNO.out⟩⟩
  | true =>
   have HG := Aside0.mk hg
   clear hg
   obtain ⟨ad1, e1, y10, y11, y12⟩ := at_T46 HC.out 1 (by decide) (by simp)
   obtain rfl := Option.some.inj e1
   rw [show rd_T46 [h, a, b] 1 = a from rfl, show ((1 : Int).toNat * 3) = 3 from rfl, show Addr.add ad 3 = ⟨ad.block, ad.off + 3, none⟩ from rfl] at y10 y11
   dsimp only at y11
   have z11 := (B2.out.cell (World.block_lt_of_cell? w _ y11)).trans y11
   clear e1 y10 y12
   obtain ⟨ad2, e2, y20, y21, y22⟩ := at_T46 HC.out 2 (by decide) (by simp)
   obtain rfl := Option.some.inj e2
   rw [show rd_T46 [h, a, b] 2 = b from rfl, show ((2 : Int).toNat * 3) = 6 from rfl, show Addr.add ad 6 = ⟨ad.block, ad.off + 6, none⟩ from rfl] at y20 y21
   dsimp only at y21
   have z21 := (B2.out.cell (World.block_lt_of_cell? w _ y21)).trans y21
   clear e2 y20 y22
   clear xa0 xa1 xa2
   by_cases hb1 : 1 ≤ b.f1
   ·
    have p1 : (b.f1 ≥ 1) = True := eq_true hb1
    have p2 : decide (b.f1 ≥ 1) = true := decide_eq_true hb1
    have p3 : ((1 : Int) ≤ b.f1) = True := eq_true hb1
    have p4 : decide ((1 : Int) ≤ b.f1) = true := decide_eq_true hb1
    by_cases hb2 : b.f1 ≤ 100000
    ·
     have q1 : (b.f1 ≤ 100000) = True := eq_true hb2
     have q2 : decide (b.f1 ≤ 100000) = true := decide_eq_true hb2
     have hyes : readR (h :: [a, b]) = some ⟨3, a.f1, b.f1, zC⟩ := by rw [HRD.out, stepR]; simp [HG.out, hb1, hb2]
     have HYES := Aside0.mk hyes
     clear hyes hb1 hb2
     go_upto_region 17 with (fail)
     refine start_ (n := 11) (S := fun w' => ∀ k, k ≠ w.heap.size → w'.heap[k]? = w2.heap[k]?) (ds := []) #[false, false, false, false, false, false, false, false, false, false, false] (by kernel_rfl) rfl rfl (fun _ _ => rfl) (fun hHeld => ?_)
     have Z7 := Aside0.mk (show w2.drew.heap[w.heap.size]? = _ from Z2.out)
     have B7 := Aside0.mk (B2.out.drew)
     generalize w2.drew = w7 at *
     refine pure_ (i := 0) (N := some 75) (v := ?_) (a' := ?_) #[true, false, false, false, false, false, false, false, false, false, false] rfl rfl (by kernel_rfl) (fun _ _ _ h => h) (Or.inl ⟨by rfl, ?_⟩) ?_ ?_
     rotate_left
     ·
      intro w'
      go_simp
      with_reducible rfl
     rotate_left
     ·
      simp only [Act.put, List.setIfInBounds_toArray, List.set_cons_zero, List.set_cons_succ, i64_w, i32_w]
      rfl
     refine pure_ (i := 1) (N := some 76) (v := ?_) (a' := ?_) #[true, true, false, false, false, false, false, false, false, false, false] rfl rfl (by kernel_rfl) (fun _ _ _ h => h) (Or.inl ⟨by rfl, ?_⟩) ?_ ?_
     rotate_left
     ·
      intro w'
      go_simp
      with_reducible rfl
     rotate_left
     ·
      simp only [Act.put, List.setIfInBounds_toArray, List.set_cons_zero, List.set_cons_succ, i64_w, i32_w]
      rfl
     refine pure_ (i := 2) (N := some 77) (v := ?_) (a' := ?_) #[true, true, true, false, false, false, false, false, false, false, false] rfl rfl (by kernel_rfl) (fun _ _ _ h => h) (Or.inl ⟨by rfl, ?_⟩) ?_ ?_
     rotate_left
     ·
      intro w'
      go_simp
      with_reducible rfl
     rotate_left
     ·
      simp only [Act.put, List.setIfInBounds_toArray, List.set_cons_zero, List.set_cons_succ, i64_w, i32_w]
      rfl
     refine take_ (i := 3) (N := some 78) (v := ?_) (a' := ?_) #[true, true, true, true, false, false, false, false, false, false, false] rfl rfl (by kernel_rfl) (fun _ _ _ h => h) (Or.inl ⟨by rfl, ?_⟩) hHeld ?_ ?_
     rotate_left
     ·
      intro w' hS
      have s0 := (cell_eq (hS _ (by show ad.block ≠ w.heap.size; omega))).trans z11
      go_simp
      with_reducible rfl
     rotate_left
     ·
      simp only [Act.put, List.setIfInBounds_toArray, List.set_cons_zero, List.set_cons_succ, i64_w, i32_w]
      rfl
     refine pure_ (i := 4) (N := some 79) (v := ?_) (a' := ?_) #[true, true, true, true, true, false, false, false, false, false, false] rfl rfl (by kernel_rfl) (fun _ _ _ h => h) (Or.inl ⟨by rfl, ?_⟩) ?_ ?_
     rotate_left
     ·
      intro w'
      go_simp
      with_reducible rfl
     rotate_left
     ·
      simp only [Act.put, List.setIfInBounds_toArray, List.set_cons_zero, List.set_cons_succ, i64_w, i32_w]
      rfl
     refine pure_ (i := 5) (N := some 80) (v := ?_) (a' := ?_) #[true, true, true, true, true, true, false, false, false, false, false] rfl rfl (by kernel_rfl) (fun _ _ _ h => h) (Or.inl ⟨by rfl, ?_⟩) ?_ ?_
     rotate_left
     ·
      intro w'
      go_simp
      with_reducible rfl
     rotate_left
     ·
      simp only [Act.put, List.setIfInBounds_toArray, List.set_cons_zero, List.set_cons_succ, i64_w, i32_w]
      rfl
     refine pure_ (i := 6) (N := some 81) (v := ?_) (a' := ?_) #[true, true, true, true, true, true, true, false, false, false, false] rfl rfl (by kernel_rfl) (fun _ _ _ h => h) (Or.inl ⟨by rfl, ?_⟩) ?_ ?_
     rotate_left
     ·
      intro w'
      go_simp
      with_reducible rfl
     rotate_left
     ·
      simp only [Act.put, List.setIfInBounds_toArray, List.set_cons_zero, List.set_cons_succ, i64_w, i32_w]
      rfl
     refine take_ (i := 7) (N := some 82) (v := ?_) (a' := ?_) #[true, true, true, true, true, true, true, true, false, false, false] rfl rfl (by kernel_rfl) (fun _ _ _ h => h) (Or.inl ⟨by rfl, ?_⟩) hHeld ?_ ?_
     rotate_left
     ·
      intro w' hS
      have s0 := (cell_eq (hS _ (by show ad.block ≠ w.heap.size; omega))).trans z21
      go_simp
      with_reducible rfl
     rotate_left
     ·
      simp only [Act.put, List.setIfInBounds_toArray, List.set_cons_zero, List.set_cons_succ, i64_w, i32_w]
      rfl
     refine pure_ (i := 8) (N := some 83) (v := ?_) (a' := ?_) #[true, true, true, true, true, true, true, true, true, false, false] rfl rfl (by kernel_rfl) (fun _ _ _ h => h) (Or.inl ⟨by rfl, ?_⟩) ?_ ?_
     rotate_left
     ·
      intro w'
      go_simp
      with_reducible rfl
     rotate_left
     ·
      simp only [Act.put, List.setIfInBounds_toArray, List.set_cons_zero, List.set_cons_succ, i64_w, i32_w]
      rfl
     obtain ⟨r0, rf0, r1, rf1, r2, rf2, r3, rf3, r4, rf4, r5, rf5, r6, rf6, r7, rf7, r8, rf8, r9, rf9, r10, rf10, r11, rf11, r12, rf12, r13, rf13⟩ := cells14f (show w7.heap[w.heap.size]? = some (.cells #[.int .i64 0, .int .i64 0, .int .i64 0, .int .i64 0, .string ⟨#[]⟩, .string ⟨#[]⟩, .slice none 0 0, .string ⟨#[]⟩, .string ⟨#[]⟩, .bool false, .int .i64 0, .int .i64 0, .int .i64 0, .int .i64 0] 54 (0, 0)) from Z7.out)
     refine one_ (i := 9) (N := none) #[true, true, true, true, true, true, true, true, true, true, false] rfl rfl (by kernel_rfl) (by decide) (fun K hK => ?_)
     refine skip_ (w1 := ?_) (by rfl) rfl ?_ ?_
     rotate_left
     ·
      go_simp
      rfl
     refine hK.out _ _ (fun k hk => (fr14 _ w.heap.size _ _ _ _ _ _ _ _ _ _ _ _ _ _ k hk).trans (hHeld k hk)) (fun hHeld => ?_)
     clear hK K hHeld
     refine pure_ (i := 10) (N := some 3) (v := ?_) (a' := ?_) #[true, true, true, true, true, true, true, true, true, true, true] rfl rfl (by kernel_rfl) (fun _ _ _ h => h) (Or.inl ⟨by rfl, ?_⟩) ?_ ?_
     rotate_left
     ·
      intro w'
      go_simp
      with_reducible rfl
     rotate_left
     ·
      simp only [Act.put, List.setIfInBounds_toArray, List.set_cons_zero, List.set_cons_succ, i64_w, i32_w]
      rfl
     refine done_ (by kernel_rfl) ?_
     go_wp2_with (fail)
     have F := fillS w w7 (⟨3, a.f1, b.f1, zC⟩) (.slice none 0 0) Z7.out B7.out (Kd.R_nil _ _ _ _ _)
     refine bodyPost_ret (results_c2 rfl _ _ w.heap.size 54 (stepW (⟨3, a.f1, b.f1, zC⟩) (.slice none 0 0)) (0, 0) _ rfl F.1 hu54 rfl (by kernel_rfl)) rfl ?_
     exact ⟨1, ⟨3, a.f1, b.f1, zC⟩, .slice none 0 0, rfl, F.2.2, F.2.1, .inl ⟨rfl, HYES.out⟩⟩
    ·
     have q1 : (b.f1 ≤ 100000) = False := eq_false hb2
     have q2 : decide (b.f1 ≤ 100000) = false := decide_eq_false hb2
     obtain ⟨r0, rf0, r1, rf1, r2, rf2, r3, rf3, r4, rf4, r5, rf5, r6, rf6, r7, rf7, r8, rf8, r9, rf9, r10, rf10, r11, rf11, r12, rf12, r13, rf13⟩ := cells14f (show w2.heap[w.heap.size]? = some (.cells #[.int .i64 0, .int .i64 0, .int .i64 0, .int .i64 0, .string ⟨#[]⟩, .string ⟨#[]⟩, .slice none 0 0, .string ⟨#[]⟩, .string ⟨#[]⟩, .bool false, .int .i64 0, .int .i64 0, .int .i64 0, .int .i64 0] 54 (0, 0)) from Z2.out)
     have hno : readR (h :: [a, b]) = none := by
      rw [HRD.out, stepR]; simp [hb2]
     have HNO := Aside0.mk hno
     clear hno
     go_wp2_with (fail)
     have F := fillS w w2 (zS) (.slice none 0 0) Z2.out B2.out (Kd.R_nil _ _ _ _ _)
     refine bodyPost_ret (results_c2 rfl _ _ w.heap.size 54 (stepW (zS) (.slice none 0 0)) (0, 0) _ rfl F.1 hu54 rfl (by kernel_rfl)) rfl ?_
     exact ⟨0, zS, .slice none 0 0, rfl, F.2.2, F.2.1, .inr ⟨rfl, HNO.out⟩⟩
   ·
    have p1 : (b.f1 ≥ 1) = False := eq_false hb1
    have p2 : decide (b.f1 ≥ 1) = false := decide_eq_false hb1
    have p3 : ((1 : Int) ≤ b.f1) = False := eq_false hb1
    have p4 : decide ((1 : Int) ≤ b.f1) = false := decide_eq_false hb1
    obtain ⟨r0, rf0, r1, rf1, r2, rf2, r3, rf3, r4, rf4, r5, rf5, r6, rf6, r7, rf7, r8, rf8, r9, rf9, r10, rf10, r11, rf11, r12, rf12, r13, rf13⟩ := cells14f (show w2.heap[w.heap.size]? = some (.cells #[.int .i64 0, .int .i64 0, .int .i64 0, .int .i64 0, .string ⟨#[]⟩, .string ⟨#[]⟩, .slice none 0 0, .string ⟨#[]⟩, .string ⟨#[]⟩, .bool false, .int .i64 0, .int .i64 0, .int .i64 0, .int .i64 0] 54 (0, 0)) from Z2.out)
    have hno : readR (h :: [a, b]) = none := by
     rw [HRD.out, stepR]; simp [hb1]
    have HNO := Aside0.mk hno
    clear hno
    go_wp2_with (fail)
    have F := fillS w w2 (zS) (.slice none 0 0) Z2.out B2.out (Kd.R_nil _ _ _ _ _)
    refine bodyPost_ret (results_c2 rfl _ _ w.heap.size 54 (stepW (zS) (.slice none 0 0)) (0, 0) _ rfl F.1 hu54 rfl (by kernel_rfl)) rfl ?_
    exact ⟨0, zS, .slice none 0 0, rfl, F.2.2, F.2.1, .inr ⟨rfl, HNO.out⟩⟩
 ·
  have g1 : (((r.length : Int) + 1 == 3)) = false := beq_eq_false_iff_ne.2 (by omega)
  have g2 : ((r.length : Int) + 1 = 3) = False := eq_false (by omega)
  have g3 : (r.length + 1 = 3) = False := eq_false (by omega)
  have hno2 : readR (h :: r) = none := by
   rw [HRD.out]
   match r, hn with
   | [], _ => rfl
   | [a], _ => rfl
   | [a, b], hn => exact absurd rfl hn
   | a :: b :: c :: t, _ => rfl
  have HNN := Aside0.mk hno2
  clear hno2 hn
  obtain ⟨r0, rf0, r1, rf1, r2, rf2, r3, rf3, r4, rf4, r5, rf5, r6, rf6, r7, rf7, r8, rf8, r9, rf9, r10, rf10, r11, rf11, r12, rf12, r13, rf13⟩ := cells14f (show w1.heap[w.heap.size]? = some (.cells #[.int .i64 0, .int .i64 0, .int .i64 0, .int .i64 0, .string ⟨#[]⟩, .string ⟨#[]⟩, .slice none 0 0, .string ⟨#[]⟩, .string ⟨#[]⟩, .bool false, .int .i64 0, .int .i64 0, .int .i64 0, .int .i64 0] 54 (0, 0)) from Z1.out)
  have hno : readR (h :: r) = none := by
   exact HNN.out
  have HNO := Aside0.mk hno
  clear hno
  go_wp2_with (fail)
  have F := fillS w w1 (zS) (.slice none 0 0) Z1.out B1.out (Kd.R_nil _ _ _ _ _)
  refine bodyPost_ret (results_c2 rfl _ _ w.heap.size 54 (stepW (zS) (.slice none 0 0)) (0, 0) _ rfl F.1 hu54 rfl (by kernel_rfl)) rfl ?_
  exact ⟨0, zS, .slice none 0 0, rfl, F.2.2, F.2.1, .inr ⟨rfl, HNO.out⟩⟩
end Go.Proofs.YtlkbeddlmbghkaaGreatDoor.PR
