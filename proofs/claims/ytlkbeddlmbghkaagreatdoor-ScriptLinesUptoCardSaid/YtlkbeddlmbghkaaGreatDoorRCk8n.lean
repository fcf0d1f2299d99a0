/- rundleref26.Call, at a call of kind 8: no span. -/
import Derived.Test.YtlkbeddlmbghkaaGreatDoorRCh
namespace Go.Proofs.YtlkbeddlmbghkaaGreatDoor.PR
open Go Go.Proofs Go.RowKit Go.Proofs.YtlkbeddlmbghkaaGreatDoorW.PrintWords Go.Proofs.YtlkbeddlmbghkaaGreatDoorW.PrintLast Go.Proofs.YtlkbeddlmbghkaaGreatDoorW.PrintMore
set_option linter.unusedVariables false
set_option linter.unusedSimpArgs false
set_option maxRecDepth 100000

set_option maxHeartbeats 16000000 in
theorem callR_k8n (A : Option Addr) (c : Nat) (h : S46) (r : List S46) (hl : (h :: r).length ≤ 1000000) (hc : (h :: r).length ≤ c) (w : World) (hC : Kd.C k46 w A (h :: r).length (h :: r)) (hm : h.f0 = 2) (hkk : kindS h.f2 = 8) (hq : argsR 8 r = none) :
  Calls Tryz.prog 47 #[.slice A (h :: r).length c] w fun e w' => CallRPost w (h :: r) e w' := by
 have HKK := Aside0.mk hkk
 have HQ := Aside0.mk hq
 clear hkk hq
 have hu52 := Tryz.underlying52
 have hu46 := Tryz.underlying46
 have HC := Aside0.mk hC
 have HL := Aside0.mk hl
 have HCC := Aside0.mk hc
 clear hC hl hc
 go_enter Tryz.func47, Tryz.ntmps47
 go_upto_region 2 with (fail)
 have C1 : CS w zC (.slice none 0 0) ((w.alloc (.cells #[.int .i64 0, .string ⟨#[]⟩, .string ⟨#[]⟩, .slice none 0 0, .string ⟨#[]⟩, .string ⟨#[]⟩, .bool false, .int .i64 0, .int .i64 0, .int .i64 0, .int .i64 0] 52)).alloc (.cells #[.int .i64 0, .string ⟨#[]⟩, .string ⟨#[]⟩, .slice none 0 0, .string ⟨#[]⟩, .string ⟨#[]⟩, .bool false, .int .i64 0, .int .i64 0, .int .i64 0, .int .i64 0] 52)) := ⟨by have h := blk_new (w.alloc (.cells #[.int .i64 0, .string ⟨#[]⟩, .string ⟨#[]⟩, .slice none 0 0, .string ⟨#[]⟩, .string ⟨#[]⟩, .bool false, .int .i64 0, .int .i64 0, .int .i64 0, .int .i64 0] 52)) (.cells #[.int .i64 0, .string ⟨#[]⟩, .string ⟨#[]⟩, .slice none 0 0, .string ⟨#[]⟩, .string ⟨#[]⟩, .bool false, .int .i64 0, .int .i64 0, .int .i64 0, .int .i64 0] 52); rw [World.size_alloc] at h; exact h, blk_alloc (blk_new w _) _, ((Below.refl _ _).alloc (Nat.le_refl _) _).alloc (by rw [World.size_alloc]; omega) _⟩
 change Code.wp _ _ _ _ ((w.alloc (.cells #[.int .i64 0, .string ⟨#[]⟩, .string ⟨#[]⟩, .slice none 0 0, .string ⟨#[]⟩, .string ⟨#[]⟩, .bool false, .int .i64 0, .int .i64 0, .int .i64 0, .int .i64 0] 52)).alloc (.cells #[.int .i64 0, .string ⟨#[]⟩, .string ⟨#[]⟩, .slice none 0 0, .string ⟨#[]⟩, .string ⟨#[]⟩, .bool false, .int .i64 0, .int .i64 0, .int .i64 0, .int .i64 0] 52))
 generalize ((w.alloc (.cells #[.int .i64 0, .string ⟨#[]⟩, .string ⟨#[]⟩, .slice none 0 0, .string ⟨#[]⟩, .string ⟨#[]⟩, .bool false, .int .i64 0, .int .i64 0, .int .i64 0, .int .i64 0] 52)).alloc (.cells #[.int .i64 0, .string ⟨#[]⟩, .string ⟨#[]⟩, .slice none 0 0, .string ⟨#[]⟩, .string ⟨#[]⟩, .bool false, .int .i64 0, .int .i64 0, .int .i64 0, .int .i64 0] 52)) = w1 at *
 have CC1 := Aside0.mk C1
 clear C1
 ·
  obtain ⟨ad, e0, xa0, xa1, xa2⟩ := at_T46 HC.out 0 (by decide) (by simp)
  subst e0
  rw [show rd_T46 (h :: r) 0 = h from rfl, show ((0 : Int).toNat * 3) = 0 from rfl, Addr.add_zero'] at xa0 xa1 xa2
  have ha0 := (CC1.out.2.2.cell (World.block_lt_of_cell? w _ xa0)).trans xa0
  have ha2 := (CC1.out.2.2.cell (World.block_lt_of_cell? w _ xa2)).trans xa2
  have l0 : (0 < (((h :: r).length : Nat) : Int)) = True := eq_true (by rw [List.length_cons]; omega)
  have l1 : (((h :: r).length : Int) == 0) = false := beq_eq_false_iff_ne.2 (by rw [List.length_cons]; omega)
  have l2 : ((r.length : Int) + 1 == 0) = false := beq_eq_false_iff_ne.2 (by omega)
  have l3 : ((r.length : Int) + 1 = 0) = False := eq_false (by omega)
  have l4 : (0 < (r.length : Int) + 1) = True := eq_true (by omega)
  have l5 : ((1 : Int) ≤ (r.length : Int) + 1) = True := eq_true (by omega)
  have l6 : (r.length + 1 ≤ c) = True := eq_true (by have := HCC.out; rw [List.length_cons] at this; exact this)
  ·
   have m1 : (h.f0 == 2) = true := beq_iff_eq.2 hm
   have m2 : (h.f0 != 2) = false := bne_eq_false_iff_eq.2 hm
   have m3 : (h.f0 = 2) = True := eq_true hm
   have HM := Aside0.mk hm
   clear hm
   have p0 : w1.cell? ⟨w.heap.size + 1, 0, none⟩ = some (.int .i64 0) := (blk_cell CC1.out.1 0).trans rfl
   have pf0 : w1.frozen? ⟨w.heap.size + 1, 0, none⟩ = false := blk_frozen CC1.out.1 0
   go_upto_region 5 with (fail)
   refine (rundleref26_Kind.calls 11 _ _ _ (kind_f _)).mono ?_
   rintro e w2 ⟨rfl, hb⟩
   have CC2 := Aside0.mk (CC1.out.fr hb)
   have p0 : w2.cell? ⟨w.heap.size + 1, 0, none⟩ = some (.int .i64 0) := (blk_cell CC2.out.1 0).trans rfl
   have pf0 : w2.frozen? ⟨w.heap.size + 1, 0, none⟩ = false := blk_frozen CC2.out.1 0
   clear hb ha0 ha2
   generalize hkd : kindS h.f2 = kd
   have HKD := Aside0.mk hkd
   clear hkd
   go_upto_region 6 with (fail)
   iterate 8 (first | go_values | go_skip | go_guarded | go_step | go_upon)
   have CD := Kd.C_drop (m := 1) HC.out (by rw [List.length_cons]; omega) HCC.out
   rw [show (some ad).map (·.add (1 * k46.sz)) = some ⟨ad.block, ad.off + 3, none⟩ from rfl, show (h :: r).drop 1 = r from rfl] at CD
   have CC3 := Aside0.mk (CC2.out.put 0 (.int .i64 kd) (x' := { zC with f0 := kd }) (v' := .slice none 0 0) rfl)
   have hcr : r.length ≤ c - 1 := by have := HCC.out; rw [List.length_cons] at this; omega
   clear p0 pf0 CC2 CC1
   change Code.wp _ _ _ _ (w2.setCell ⟨w.heap.size + 1, 0, none⟩ (.int .i64 kd))
   generalize w2.setCell ⟨w.heap.size + 1, 0, none⟩ (.int .i64 kd) = w3 at *
   generalize (if c = 1 then some ad else some ⟨ad.block, ad.off + 3, none⟩) = A1 at *
   generalize c - 1 = c1 at *
   have HR := Aside0.mk CD
   have HRC := Aside0.mk hcr
   have HLR : Aside0 (r.length ≤ 1000000) := ⟨by have := HL.out; rw [List.length_cons] at this; omega⟩
   clear CD hcr l0 l1 l2 l3 l4 l5 l6 m1 m2 m3 xa0 xa1 xa2
   go_cut [5] (fun v5 wx => ∃ (g : Bool) (x : S52) (v : Value), v5 = .bool g ∧ Aside0 (CS w x v wx) ∧ Aside0 (k93.R 93 wx (w.heap.size + 2) (fun _ => True) v x.f3) ∧ Aside0 (g = true → argsR kd r = some x) ∧ Aside0 (g = false → argsR kd r = none))
   case first =>
    have p0 : w3.cell? ⟨w.heap.size + 1, 0, none⟩ = some (.int .i64 kd) := (blk_cell CC3.out.1 0).trans rfl
    go_upto_region 8 with (fail)
    clear p0
    have hk : kd = 8 := HKD.out.symm.trans HKK.out
    subst hk
    ·
     go_wp2_with (fail)
     refine (formR_at A1 c1 r ⟨#[110]⟩ [110] (by decide) rfl w3 (Kd.C_below HR.out CC3.out.2.2) HRC.out).mono ?_
     rintro e w4 ⟨rfl, hb⟩
     have CC4 := Aside0.mk (CC3.out.fr hb)
     clear hb CC3
     cases hg : formR [110] r with
     | false =>
      have HG := Aside0.mk hg
      clear hg
      obtain ⟨q0, q1, q2, q3, q4, q5, q6, q7, q8, q9, q10⟩ := cells11 (show w4.heap[w.heap.size + 1]? = some (.cells #[.int .i64 8, .string ⟨#[]⟩, .string ⟨#[]⟩, .slice none 0 0, .string ⟨#[]⟩, .string ⟨#[]⟩, .bool false, .int .i64 0, .int .i64 0, .int .i64 0, .int .i64 0] 52 (0, 0)) from CC4.out.1)
      obtain ⟨r0, rf0, r1, rf1, r2, rf2, r3, rf3, r4, rf4, r5, rf5, r6, rf6, r7, rf7, r8, rf8, r9, rf9, r10, rf10⟩ := cells11f (show w4.heap[w.heap.size]? = some (.cells #[.int .i64 0, .string ⟨#[]⟩, .string ⟨#[]⟩, .slice none 0 0, .string ⟨#[]⟩, .string ⟨#[]⟩, .bool false, .int .i64 0, .int .i64 0, .int .i64 0, .int .i64 0] 52 (0, 0)) from CC4.out.2.1)
      go_wp2_with (fail)
      have hcall : callR (h :: r) = none := by
       rw [callR, if_pos HM.out, HKD.out]
       cases r with
       | nil => simp [argsR]
       | cons a t => simp [argsR, HG.out]
      have F := fillC w w4 ({ zC with f0 := 8 }) (.slice none 0 0) CC4.out (Kd.R_nil _ _ _ _ _)
      refine bodyPost_ret (results_c2 rfl _ _ w.heap.size 52 (callV ({ zC with f0 := 8 }) (.slice none 0 0)) (0, 0) _ rfl F.1 hu52 rfl (by kernel_rfl)) rfl ?_
      exact ⟨0, { zC with f0 := 8 }, .slice none 0 0, rfl, F.2.2, F.2.1, .inr ⟨rfl, hcall⟩⟩
     | true =>
      have HG := Aside0.mk hg
      clear hg
      cases r with
      | nil => exact absurd HG.out (by decide)
      | cons a t =>
       obtain ⟨ad0, e0, yz, yz1, _⟩ := at_T46 HR.out 0 (by decide) (by simp)
       subst e0
       rw [show rd_T46 (a :: t) 0 = a from rfl, show ((0 : Int).toNat * 3) = 0 from rfl, Addr.add_zero'] at yz yz1
       have y01 := (CC4.out.2.2.cell (World.block_lt_of_cell? w _ yz1)).trans yz1
       clear yz yz1
       have l4 : (0 < (t.length : Int) + 1) = True := eq_true (by omega)
       have l5 : ((1 : Int) ≤ (t.length : Int) + 1) = True := eq_true (by omega)
       have l6 : (t.length + 1 ≤ c1) = True := eq_true (by have := HRC.out; rw [List.length_cons] at this; exact this)
       have s8 : w4.cell? ⟨w.heap.size + 1, 8, none⟩ = some (.int .i64 0) := (blk_cell CC4.out.1 8).trans rfl
       have sf8 : w4.frozen? ⟨w.heap.size + 1, 8, none⟩ = false := blk_frozen CC4.out.1 8
       go_upto_region 45 with (fail)
       have CC5 := Aside0.mk (CC4.out.put 8 (.int .i64 a.f1) (x' := { zC with f0 := 8, f8 := a.f1 }) (v' := .slice none 0 0) rfl)
       clear s8 sf8 CC4 y01
       change Code.wp _ _ _ _ (w4.setCell ⟨w.heap.size + 1, 8, none⟩ (.int .i64 a.f1))
       generalize w4.setCell ⟨w.heap.size + 1, 8, none⟩ (.int .i64 a.f1) = w5 at *
       have CD := Kd.C_drop (m := 1) HR.out (by rw [List.length_cons]; omega) HRC.out
       rw [show (some ad0).map (·.add (1 * k46.sz)) = some ⟨ad0.block, ad0.off + 3, none⟩ from rfl, show (a :: t).drop 1 = t from rfl] at CD
       have CDA := Aside0.mk CD
       have hcl : Aside0 (t.length ≤ c1 - 1) := ⟨by have := HRC.out; rw [List.length_cons] at this; omega⟩
       clear CD
       obtain ⟨y, -, hsp⟩ := span_tot { zC with f0 := 8, f8 := a.f1 } rfl t
       rcases hsp with ⟨hf, hsr⟩ | ⟨hf, hsr⟩
       ·
        exact absurd (HQ.out.symm.trans (show argsR 8 (a :: t) = some y by simp [argsR, HG.out, hsr])) (by simp)
       ·
        have HSR := Aside0.mk hsr
        have HF := Aside0.mk hf
        clear hsr hf
        go_cut [10, 11] (fun v10 v11 wx => ∃ (gY : Nat) (Av : Option Addr) (cv : Nat), v10 = .pointer (some ⟨gY, 0, none⟩) ∧ v11 = .int .i64 0 ∧ Aside0 (w.heap.size + 1 < gY) ∧ Aside0 (wx.heap[gY]? = some (.cells #[.int .i64 y.f0, .string y.f1, .string y.f2, .slice Av y.f3.length cv, .string y.f4, .string y.f5, .bool y.f6, .int .i64 y.f7, .int .i64 y.f8, .int .i64 y.f9, .int .i64 y.f10] 52 (0, 0))) ∧ Aside0 (CS w { zC with f0 := 8, f8 := a.f1 } (.slice none 0 0) wx) ∧ Aside0 (k93.R 93 wx (w.heap.size + 2) (fun _ => True) (.slice Av y.f3.length cv) y.f3))
        case first =>
         have q0 : w5.cell? ⟨w.heap.size + 1, 0, none⟩ = some (.int .i64 8) := (blk_cell CC5.out.1 0).trans rfl
         have q1 : w5.cell? ⟨w.heap.size + 1, 1, none⟩ = some (.string ⟨#[]⟩) := (blk_cell CC5.out.1 1).trans rfl
         have q2 : w5.cell? ⟨w.heap.size + 1, 2, none⟩ = some (.string ⟨#[]⟩) := (blk_cell CC5.out.1 2).trans rfl
         have q3 : w5.cell? ⟨w.heap.size + 1, 3, none⟩ = some (.slice none 0 0) := (blk_cell CC5.out.1 3).trans rfl
         have q4 : w5.cell? ⟨w.heap.size + 1, 4, none⟩ = some (.string ⟨#[]⟩) := (blk_cell CC5.out.1 4).trans rfl
         have q5 : w5.cell? ⟨w.heap.size + 1, 5, none⟩ = some (.string ⟨#[]⟩) := (blk_cell CC5.out.1 5).trans rfl
         have q6 : w5.cell? ⟨w.heap.size + 1, 6, none⟩ = some (.bool false) := (blk_cell CC5.out.1 6).trans rfl
         have q7 : w5.cell? ⟨w.heap.size + 1, 7, none⟩ = some (.int .i64 0) := (blk_cell CC5.out.1 7).trans rfl
         have q8 : w5.cell? ⟨w.heap.size + 1, 8, none⟩ = some (.int .i64 a.f1) := (blk_cell CC5.out.1 8).trans rfl
         have q9 : w5.cell? ⟨w.heap.size + 1, 9, none⟩ = some (.int .i64 0) := (blk_cell CC5.out.1 9).trans rfl
         have q10 : w5.cell? ⟨w.heap.size + 1, 10, none⟩ = some (.int .i64 0) := (blk_cell CC5.out.1 10).trans rfl
         clear q0 q1 q2 q3 q4 q5 q6 q7 q8 q9 q10
         refine start_ (n := 10) (S := fun w' => CS w { zC with f0 := 8, f8 := a.f1 } (.slice none 0 0) w') (ds := []) #[false, false, false, false, false, false, false, false, false, false] (by kernel_rfl) rfl rfl CC5.out.drew (fun hHeld => ?_)
         have HB5 := Aside0.mk (Below.refl w5.drew.heap.size w5.drew)
         have SZ : Aside0 (w.heap.size + 2 ≤ w5.drew.heap.size) := ⟨blk_lt CC5.out.1⟩
         generalize w5.drew = w7 at *
         refine pure_ (i := 1) (N := some 239) (v := ?_) (a' := ?_) #[false, true, false, false, false, false, false, false, false, false] rfl rfl (by kernel_rfl) (fun _ _ _ h => h) (Or.inl ⟨by rfl, ?_⟩) ?_ ?_
         rotate_left
         ·
          intro w'
          go_simp
          with_reducible rfl
         rotate_left
         ·
          simp only [Act.put, List.setIfInBounds_toArray, List.set_cons_zero, List.set_cons_succ, i64_w, i32_w]
          rfl
         refine pure_ (i := 2) (N := some 240) (v := ?_) (a' := ?_) #[false, true, true, false, false, false, false, false, false, false] rfl rfl (by kernel_rfl) (fun _ _ _ h => h) (Or.inl ⟨by rfl, ?_⟩) ?_ ?_
         rotate_left
         ·
          intro w'
          go_simp
          with_reducible rfl
         rotate_left
         ·
          simp only [Act.put, List.setIfInBounds_toArray, List.set_cons_zero, List.set_cons_succ, i64_w, i32_w]
          rfl
         refine take_ (i := 0) (N := some 238) (v := ?_) (a' := ?_) #[true, true, true, false, false, false, false, false, false, false] rfl rfl (by kernel_rfl) (fun _ _ _ h => h) (Or.inl ⟨by rfl, ?_⟩) hHeld ?_ ?_
         rotate_left
         ·
          intro w' hS
          have q0 : w'.cell? ⟨w.heap.size + 1, 0, none⟩ = some (.int .i64 8) := (blk_cell hS.1 0).trans rfl
          have q1 : w'.cell? ⟨w.heap.size + 1, 1, none⟩ = some (.string ⟨#[]⟩) := (blk_cell hS.1 1).trans rfl
          have q2 : w'.cell? ⟨w.heap.size + 1, 2, none⟩ = some (.string ⟨#[]⟩) := (blk_cell hS.1 2).trans rfl
          have q3 : w'.cell? ⟨w.heap.size + 1, 3, none⟩ = some (.slice none 0 0) := (blk_cell hS.1 3).trans rfl
          have q4 : w'.cell? ⟨w.heap.size + 1, 4, none⟩ = some (.string ⟨#[]⟩) := (blk_cell hS.1 4).trans rfl
          have q5 : w'.cell? ⟨w.heap.size + 1, 5, none⟩ = some (.string ⟨#[]⟩) := (blk_cell hS.1 5).trans rfl
          have q6 : w'.cell? ⟨w.heap.size + 1, 6, none⟩ = some (.bool false) := (blk_cell hS.1 6).trans rfl
          have q7 : w'.cell? ⟨w.heap.size + 1, 7, none⟩ = some (.int .i64 0) := (blk_cell hS.1 7).trans rfl
          have q8 : w'.cell? ⟨w.heap.size + 1, 8, none⟩ = some (.int .i64 a.f1) := (blk_cell hS.1 8).trans rfl
          have q9 : w'.cell? ⟨w.heap.size + 1, 9, none⟩ = some (.int .i64 0) := (blk_cell hS.1 9).trans rfl
          have q10 : w'.cell? ⟨w.heap.size + 1, 10, none⟩ = some (.int .i64 0) := (blk_cell hS.1 10).trans rfl
          go_simp
          with_reducible rfl
         rotate_left
         ·
          simp only [Act.put, List.setIfInBounds_toArray, List.set_cons_zero, List.set_cons_succ, i64_w, i32_w]
          rfl
         generalize (if c1 = 1 then some ad0 else some (⟨ad0.block, ad0.off + 3, none⟩ : Addr)) = A2 at *
         refine two_ (i := 3) (j := 7) (Ni := some 241) (Nj := some 10) #[true, true, true, true, false, false, false, false, false, false] #[true, true, true, false, false, false, false, true, false, false] rfl rfl rfl rfl (by kernel_rfl) (by decide) (by decide) (fun K hK => ?_) (fun K hK => ?_)
         ·
          go_simp
          refine (rundleref26_span.calls 8 ⟨#[]⟩ ⟨#[]⟩ none 0 [] ⟨#[]⟩ ⟨#[]⟩ false 0 a.f1 0 0 _ (c1 - 1) t _ _ _ _ _ _ _ _ _ _ _ _ w7 (Kd.C_nil _ _) (Nat.le_refl _) (Kd.C_below CDA.out hHeld.2.2) hcl.out ⟨rfl, rfl⟩ HF.out).mono ?_
          rintro e w6 ⟨v, rfl, hRv, hb⟩
          obtain ⟨Av, cv, ev⟩ := Kd.R_slice hRv
          subst ev
          have hS6 := hHeld.fr hb
          have RV6 := Kd.R_bound (Kd.R_lower hRv SZ.out)
          dsimp only
          refine hK.out _ _ hS6 (fun hHeld => ?_)
          clear hK K hS6 hRv hb
          refine pure_ (i := 4) (N := some 237) (v := ?_) (a' := ?_) #[true, true, true, true, true, false, false, false, false, false] rfl rfl (by kernel_rfl) (fun _ _ _ h => h) (Or.inl ⟨by rfl, ?_⟩) ?_ ?_
          rotate_left
          ·
           intro w'
           go_simp
           with_reducible rfl
          rotate_left
          ·
           simp only [Act.put, List.setIfInBounds_toArray, List.set_cons_zero, List.set_cons_succ, i64_w, i32_w]
           rfl
          refine pure_ (i := 5) (N := some 242) (v := ?_) (a' := ?_) #[true, true, true, true, true, true, false, false, false, false] rfl rfl (by kernel_rfl) (fun _ _ _ h => h) (Or.inl ⟨by rfl, ?_⟩) ?_ ?_
          rotate_left
          ·
           intro w'
           go_simp
           with_reducible rfl
          rotate_left
          ·
           simp only [Act.put, List.setIfInBounds_toArray, List.set_cons_zero, List.set_cons_succ, i64_w, i32_w]
           rfl
          refine pure_ (i := 6) (N := some 243) (v := ?_) (a' := ?_) #[true, true, true, true, true, true, true, false, false, false] rfl rfl (by kernel_rfl) (fun _ _ _ h => h) (Or.inl ⟨by rfl, ?_⟩) ?_ ?_
          rotate_left
          ·
           intro w'
           go_simp
           with_reducible rfl
          rotate_left
          ·
           simp only [Act.put, List.setIfInBounds_toArray, List.set_cons_zero, List.set_cons_succ, i64_w, i32_w]
           rfl
          refine one_ (i := 7) (N := some 10) #[true, true, true, true, true, true, true, true, false, false] rfl rfl (by kernel_rfl) (by decide) (fun K hK => ?_)
          go_simp
          have YB := blk_new w6 (.cells #[.int .i64 0, .string ⟨#[]⟩, .string ⟨#[]⟩, .slice none 0 0, .string ⟨#[]⟩, .string ⟨#[]⟩, .bool false, .int .i64 0, .int .i64 0, .int .i64 0, .int .i64 0] 52)
          have ab : Below w6.heap.size w6 (w6.alloc (.cells #[.int .i64 0, .string ⟨#[]⟩, .string ⟨#[]⟩, .slice none 0 0, .string ⟨#[]⟩, .string ⟨#[]⟩, .bool false, .int .i64 0, .int .i64 0, .int .i64 0, .int .i64 0] 52)) := (Below.refl _ _).alloc (Nat.le_refl _) _
          have hgY : w.heap.size + 1 < w6.heap.size := blk_lt hHeld.1
          refine hK.out _ _ (hHeld.fr ab) (fun hHeld => ?_)
          clear hK K
          have RV8 := Kd.R_below RV6 ab
          generalize w6.alloc (.cells #[.int .i64 0, .string ⟨#[]⟩, .string ⟨#[]⟩, .slice none 0 0, .string ⟨#[]⟩, .string ⟨#[]⟩, .bool false, .int .i64 0, .int .i64 0, .int .i64 0, .int .i64 0] 52) = w8 at *
          clear ab RV6
          have s0 : w8.cell? ⟨w6.heap.size, 0, none⟩ = some (.int .i64 0) := (blk_cell YB 0).trans rfl
          have sf0 : w8.frozen? ⟨w6.heap.size, 0, none⟩ = false := blk_frozen YB 0
          have s1 : w8.cell? ⟨w6.heap.size, 1, none⟩ = some (.string ⟨#[]⟩) := (blk_cell YB 1).trans rfl
          have sf1 : w8.frozen? ⟨w6.heap.size, 1, none⟩ = false := blk_frozen YB 1
          have s2 : w8.cell? ⟨w6.heap.size, 2, none⟩ = some (.string ⟨#[]⟩) := (blk_cell YB 2).trans rfl
          have sf2 : w8.frozen? ⟨w6.heap.size, 2, none⟩ = false := blk_frozen YB 2
          have s3 : w8.cell? ⟨w6.heap.size, 3, none⟩ = some (.slice none 0 0) := (blk_cell YB 3).trans rfl
          have sf3 : w8.frozen? ⟨w6.heap.size, 3, none⟩ = false := blk_frozen YB 3
          have s4 : w8.cell? ⟨w6.heap.size, 4, none⟩ = some (.string ⟨#[]⟩) := (blk_cell YB 4).trans rfl
          have sf4 : w8.frozen? ⟨w6.heap.size, 4, none⟩ = false := blk_frozen YB 4
          have s5 : w8.cell? ⟨w6.heap.size, 5, none⟩ = some (.string ⟨#[]⟩) := (blk_cell YB 5).trans rfl
          have sf5 : w8.frozen? ⟨w6.heap.size, 5, none⟩ = false := blk_frozen YB 5
          have s6 : w8.cell? ⟨w6.heap.size, 6, none⟩ = some (.bool false) := (blk_cell YB 6).trans rfl
          have sf6 : w8.frozen? ⟨w6.heap.size, 6, none⟩ = false := blk_frozen YB 6
          have s7 : w8.cell? ⟨w6.heap.size, 7, none⟩ = some (.int .i64 0) := (blk_cell YB 7).trans rfl
          have sf7 : w8.frozen? ⟨w6.heap.size, 7, none⟩ = false := blk_frozen YB 7
          have s8 : w8.cell? ⟨w6.heap.size, 8, none⟩ = some (.int .i64 0) := (blk_cell YB 8).trans rfl
          have sf8 : w8.frozen? ⟨w6.heap.size, 8, none⟩ = false := blk_frozen YB 8
          have s9 : w8.cell? ⟨w6.heap.size, 9, none⟩ = some (.int .i64 0) := (blk_cell YB 9).trans rfl
          have sf9 : w8.frozen? ⟨w6.heap.size, 9, none⟩ = false := blk_frozen YB 9
          have s10 : w8.cell? ⟨w6.heap.size, 10, none⟩ = some (.int .i64 0) := (blk_cell YB 10).trans rfl
          have sf10 : w8.frozen? ⟨w6.heap.size, 10, none⟩ = false := blk_frozen YB 10
          refine one_ (i := 8) (N := none) #[true, true, true, true, true, true, true, true, true, false] rfl rfl (by kernel_rfl) (by decide) (fun K hK => ?_)
          refine skip_ (w1 := ?_) (by rfl) rfl ?_ ?_
          rotate_left
          ·
           go_simp
           rfl
          have FY := fillY w w8 _ y _ (.slice Av y.f3.length cv) w6.heap.size hgY hHeld _ (fun k hk => by have := hk.2.2; omega) YB RV8
          refine hK.out _ _ FY.1 (fun hHeld => ?_)
          clear hK K
          refine pure_ (i := 9) (N := some 11) (v := ?_) (a' := ?_) #[true, true, true, true, true, true, true, true, true, true] rfl rfl (by kernel_rfl) (fun _ _ _ h => h) (Or.inl ⟨by rfl, ?_⟩) ?_ ?_
          rotate_left
          ·
           intro w'
           go_simp
           with_reducible rfl
          rotate_left
          ·
           simp only [Act.put, List.setIfInBounds_toArray, List.set_cons_zero, List.set_cons_succ, i64_w, i32_w]
           rfl
          refine done_ (by kernel_rfl) ?_
          go_wp2_with (fail)
          go_meet
          exact ⟨w6.heap.size, Av, cv, rfl, rfl, ⟨hgY⟩, ⟨FY.2.1⟩, ⟨FY.1⟩, ⟨FY.2.2⟩⟩
         ·
          go_simp
          have YB := blk_new w7 (.cells #[.int .i64 0, .string ⟨#[]⟩, .string ⟨#[]⟩, .slice none 0 0, .string ⟨#[]⟩, .string ⟨#[]⟩, .bool false, .int .i64 0, .int .i64 0, .int .i64 0, .int .i64 0] 52)
          have ab : Below w7.heap.size w7 (w7.alloc (.cells #[.int .i64 0, .string ⟨#[]⟩, .string ⟨#[]⟩, .slice none 0 0, .string ⟨#[]⟩, .string ⟨#[]⟩, .bool false, .int .i64 0, .int .i64 0, .int .i64 0, .int .i64 0] 52)) := (Below.refl _ _).alloc (Nat.le_refl _) _
          have hsz : (w7.alloc (.cells #[.int .i64 0, .string ⟨#[]⟩, .string ⟨#[]⟩, .slice none 0 0, .string ⟨#[]⟩, .string ⟨#[]⟩, .bool false, .int .i64 0, .int .i64 0, .int .i64 0, .int .i64 0] 52)).heap.size = w7.heap.size + 1 := World.size_alloc ..
          have hgY : w.heap.size + 1 < w7.heap.size := blk_lt hHeld.1
          refine hK.out _ _ (hHeld.fr ab) (fun hHeld => ?_)
          clear hK K
          generalize w7.alloc (.cells #[.int .i64 0, .string ⟨#[]⟩, .string ⟨#[]⟩, .slice none 0 0, .string ⟨#[]⟩, .string ⟨#[]⟩, .bool false, .int .i64 0, .int .i64 0, .int .i64 0, .int .i64 0] 52) = w8 at *
          clear ab
          refine one_ (i := 3) (N := some 241) #[true, true, true, true, false, false, false, true, false, false] rfl rfl (by kernel_rfl) (by decide) (fun K hK => ?_)
          go_simp
          refine (rundleref26_span.calls 8 ⟨#[]⟩ ⟨#[]⟩ none 0 [] ⟨#[]⟩ ⟨#[]⟩ false 0 a.f1 0 0 _ (c1 - 1) t _ _ _ _ _ _ _ _ _ _ _ _ w8 (Kd.C_nil _ _) (Nat.le_refl _) (Kd.C_below CDA.out hHeld.2.2) hcl.out ⟨rfl, rfl⟩ HF.out).mono ?_
          rintro e w6 ⟨v, rfl, hRv, hb⟩
          obtain ⟨Av, cv, ev⟩ := Kd.R_slice hRv
          subst ev
          have hS6 := hHeld.fr hb
          have RV8 := Kd.R_mono (Kd.R_bound (Kd.R_lower (Kd.R_bound hRv) (show w.heap.size + 2 ≤ w8.heap.size by have := SZ.out; omega))) (ok' := fun k => w7.heap.size < k) (fun k hk => by have := hk.1.2.1; omega)
          have YB := blk_below YB hb
          dsimp only
          refine hK.out _ _ hS6 (fun hHeld => ?_)
          clear hK K hS6 hRv hb
          refine pure_ (i := 4) (N := some 237) (v := ?_) (a' := ?_) #[true, true, true, true, true, false, false, true, false, false] rfl rfl (by kernel_rfl) (fun _ _ _ h => h) (Or.inl ⟨by rfl, ?_⟩) ?_ ?_
          rotate_left
          ·
           intro w'
           go_simp
           with_reducible rfl
          rotate_left
          ·
           simp only [Act.put, List.setIfInBounds_toArray, List.set_cons_zero, List.set_cons_succ, i64_w, i32_w]
           rfl
          refine pure_ (i := 5) (N := some 242) (v := ?_) (a' := ?_) #[true, true, true, true, true, true, false, true, false, false] rfl rfl (by kernel_rfl) (fun _ _ _ h => h) (Or.inl ⟨by rfl, ?_⟩) ?_ ?_
          rotate_left
          ·
           intro w'
           go_simp
           with_reducible rfl
          rotate_left
          ·
           simp only [Act.put, List.setIfInBounds_toArray, List.set_cons_zero, List.set_cons_succ, i64_w, i32_w]
           rfl
          refine pure_ (i := 6) (N := some 243) (v := ?_) (a' := ?_) #[true, true, true, true, true, true, true, true, false, false] rfl rfl (by kernel_rfl) (fun _ _ _ h => h) (Or.inl ⟨by rfl, ?_⟩) ?_ ?_
          rotate_left
          ·
           intro w'
           go_simp
           with_reducible rfl
          rotate_left
          ·
           simp only [Act.put, List.setIfInBounds_toArray, List.set_cons_zero, List.set_cons_succ, i64_w, i32_w]
           rfl
          have s0 : w6.cell? ⟨w7.heap.size, 0, none⟩ = some (.int .i64 0) := (blk_cell YB 0).trans rfl
          have sf0 : w6.frozen? ⟨w7.heap.size, 0, none⟩ = false := blk_frozen YB 0
          have s1 : w6.cell? ⟨w7.heap.size, 1, none⟩ = some (.string ⟨#[]⟩) := (blk_cell YB 1).trans rfl
          have sf1 : w6.frozen? ⟨w7.heap.size, 1, none⟩ = false := blk_frozen YB 1
          have s2 : w6.cell? ⟨w7.heap.size, 2, none⟩ = some (.string ⟨#[]⟩) := (blk_cell YB 2).trans rfl
          have sf2 : w6.frozen? ⟨w7.heap.size, 2, none⟩ = false := blk_frozen YB 2
          have s3 : w6.cell? ⟨w7.heap.size, 3, none⟩ = some (.slice none 0 0) := (blk_cell YB 3).trans rfl
          have sf3 : w6.frozen? ⟨w7.heap.size, 3, none⟩ = false := blk_frozen YB 3
          have s4 : w6.cell? ⟨w7.heap.size, 4, none⟩ = some (.string ⟨#[]⟩) := (blk_cell YB 4).trans rfl
          have sf4 : w6.frozen? ⟨w7.heap.size, 4, none⟩ = false := blk_frozen YB 4
          have s5 : w6.cell? ⟨w7.heap.size, 5, none⟩ = some (.string ⟨#[]⟩) := (blk_cell YB 5).trans rfl
          have sf5 : w6.frozen? ⟨w7.heap.size, 5, none⟩ = false := blk_frozen YB 5
          have s6 : w6.cell? ⟨w7.heap.size, 6, none⟩ = some (.bool false) := (blk_cell YB 6).trans rfl
          have sf6 : w6.frozen? ⟨w7.heap.size, 6, none⟩ = false := blk_frozen YB 6
          have s7 : w6.cell? ⟨w7.heap.size, 7, none⟩ = some (.int .i64 0) := (blk_cell YB 7).trans rfl
          have sf7 : w6.frozen? ⟨w7.heap.size, 7, none⟩ = false := blk_frozen YB 7
          have s8 : w6.cell? ⟨w7.heap.size, 8, none⟩ = some (.int .i64 0) := (blk_cell YB 8).trans rfl
          have sf8 : w6.frozen? ⟨w7.heap.size, 8, none⟩ = false := blk_frozen YB 8
          have s9 : w6.cell? ⟨w7.heap.size, 9, none⟩ = some (.int .i64 0) := (blk_cell YB 9).trans rfl
          have sf9 : w6.frozen? ⟨w7.heap.size, 9, none⟩ = false := blk_frozen YB 9
          have s10 : w6.cell? ⟨w7.heap.size, 10, none⟩ = some (.int .i64 0) := (blk_cell YB 10).trans rfl
          have sf10 : w6.frozen? ⟨w7.heap.size, 10, none⟩ = false := blk_frozen YB 10
          refine one_ (i := 8) (N := none) #[true, true, true, true, true, true, true, true, true, false] rfl rfl (by kernel_rfl) (by decide) (fun K hK => ?_)
          refine skip_ (w1 := ?_) (by rfl) rfl ?_ ?_
          rotate_left
          ·
           go_simp
           rfl
          have FY := fillY w w6 _ y _ (.slice Av y.f3.length cv) w7.heap.size hgY hHeld _ (fun k hk => by omega) YB RV8
          refine hK.out _ _ FY.1 (fun hHeld => ?_)
          clear hK K
          refine pure_ (i := 9) (N := some 11) (v := ?_) (a' := ?_) #[true, true, true, true, true, true, true, true, true, true] rfl rfl (by kernel_rfl) (fun _ _ _ h => h) (Or.inl ⟨by rfl, ?_⟩) ?_ ?_
          rotate_left
          ·
           intro w'
           go_simp
           with_reducible rfl
          rotate_left
          ·
           simp only [Act.put, List.setIfInBounds_toArray, List.set_cons_zero, List.set_cons_succ, i64_w, i32_w]
           rfl
          refine done_ (by kernel_rfl) ?_
          go_wp2_with (fail)
          go_meet
          exact ⟨w7.heap.size, Av, cv, rfl, rfl, ⟨hgY⟩, ⟨FY.2.1⟩, ⟨FY.1⟩, ⟨FY.2.2⟩⟩
        case rest =>
         rename_i hKK
         obtain ⟨gY, Av, cv, rfl, rfl, HGY, YB, C6, R6⟩ := hcut
         refine hKK _ _ ?_
         clear hKK
         have q0 : wc.cell? ⟨gY, 0, none⟩ = some (.int .i64 y.f0) := (blk_cell YB.out 0).trans rfl
         have q1 : wc.cell? ⟨gY, 1, none⟩ = some (.string y.f1) := (blk_cell YB.out 1).trans rfl
         have q2 : wc.cell? ⟨gY, 2, none⟩ = some (.string y.f2) := (blk_cell YB.out 2).trans rfl
         have q3 : wc.cell? ⟨gY, 3, none⟩ = some (.slice Av y.f3.length cv) := (blk_cell YB.out 3).trans rfl
         have q4 : wc.cell? ⟨gY, 4, none⟩ = some (.string y.f4) := (blk_cell YB.out 4).trans rfl
         have q5 : wc.cell? ⟨gY, 5, none⟩ = some (.string y.f5) := (blk_cell YB.out 5).trans rfl
         have q6 : wc.cell? ⟨gY, 6, none⟩ = some (.bool y.f6) := (blk_cell YB.out 6).trans rfl
         have q7 : wc.cell? ⟨gY, 7, none⟩ = some (.int .i64 y.f7) := (blk_cell YB.out 7).trans rfl
         have q8 : wc.cell? ⟨gY, 8, none⟩ = some (.int .i64 y.f8) := (blk_cell YB.out 8).trans rfl
         have q9 : wc.cell? ⟨gY, 9, none⟩ = some (.int .i64 y.f9) := (blk_cell YB.out 9).trans rfl
         have q10 : wc.cell? ⟨gY, 10, none⟩ = some (.int .i64 y.f10) := (blk_cell YB.out 10).trans rfl
         have sf0 : wc.frozen? ⟨w.heap.size + 1, 0, none⟩ = false := blk_frozen C6.out.1 0
         have s0 : wc.cell? ⟨w.heap.size + 1, 0, none⟩ = some (.int .i64 8) := (blk_cell C6.out.1 0).trans rfl
         have sf1 : wc.frozen? ⟨w.heap.size + 1, 1, none⟩ = false := blk_frozen C6.out.1 1
         have s1 : wc.cell? ⟨w.heap.size + 1, 1, none⟩ = some (.string ⟨#[]⟩) := (blk_cell C6.out.1 1).trans rfl
         have sf2 : wc.frozen? ⟨w.heap.size + 1, 2, none⟩ = false := blk_frozen C6.out.1 2
         have s2 : wc.cell? ⟨w.heap.size + 1, 2, none⟩ = some (.string ⟨#[]⟩) := (blk_cell C6.out.1 2).trans rfl
         have sf3 : wc.frozen? ⟨w.heap.size + 1, 3, none⟩ = false := blk_frozen C6.out.1 3
         have s3 : wc.cell? ⟨w.heap.size + 1, 3, none⟩ = some (.slice none 0 0) := (blk_cell C6.out.1 3).trans rfl
         have sf4 : wc.frozen? ⟨w.heap.size + 1, 4, none⟩ = false := blk_frozen C6.out.1 4
         have s4 : wc.cell? ⟨w.heap.size + 1, 4, none⟩ = some (.string ⟨#[]⟩) := (blk_cell C6.out.1 4).trans rfl
         have sf5 : wc.frozen? ⟨w.heap.size + 1, 5, none⟩ = false := blk_frozen C6.out.1 5
         have s5 : wc.cell? ⟨w.heap.size + 1, 5, none⟩ = some (.string ⟨#[]⟩) := (blk_cell C6.out.1 5).trans rfl
         have sf6 : wc.frozen? ⟨w.heap.size + 1, 6, none⟩ = false := blk_frozen C6.out.1 6
         have s6 : wc.cell? ⟨w.heap.size + 1, 6, none⟩ = some (.bool false) := (blk_cell C6.out.1 6).trans rfl
         have sf7 : wc.frozen? ⟨w.heap.size + 1, 7, none⟩ = false := blk_frozen C6.out.1 7
         have s7 : wc.cell? ⟨w.heap.size + 1, 7, none⟩ = some (.int .i64 0) := (blk_cell C6.out.1 7).trans rfl
         have sf8 : wc.frozen? ⟨w.heap.size + 1, 8, none⟩ = false := blk_frozen C6.out.1 8
         have s8 : wc.cell? ⟨w.heap.size + 1, 8, none⟩ = some (.int .i64 a.f1) := (blk_cell C6.out.1 8).trans rfl
         have sf9 : wc.frozen? ⟨w.heap.size + 1, 9, none⟩ = false := blk_frozen C6.out.1 9
         have s9 : wc.cell? ⟨w.heap.size + 1, 9, none⟩ = some (.int .i64 0) := (blk_cell C6.out.1 9).trans rfl
         have sf10 : wc.frozen? ⟨w.heap.size + 1, 10, none⟩ = false := blk_frozen C6.out.1 10
         have s10 : wc.cell? ⟨w.heap.size + 1, 10, none⟩ = some (.int .i64 0) := (blk_cell C6.out.1 10).trans rfl
         go_wp2_with (fail)
         go_meet
         have FP := fillP w wc _ y _ (.slice Av y.f3.length cv) C6.out R6.out
         exact ⟨false, y, .slice Av y.f3.length cv, rfl, ⟨FP.1⟩, ⟨FP.2⟩, ⟨fun e => (by cases e)⟩, ⟨fun _ => by simp [argsR, HG.out, HSR.out]⟩⟩
   case rest =>
    rename_i hKK
    obtain ⟨g, x, v, rfl, C4, R4, T4, F4⟩ := hcut
    refine hKK _ _ ?_
    clear hKK
    have hcall : callR (h :: r) = argsR kd r := by rw [callR, if_pos HM.out, HKD.out]
    have HCL := Aside0.mk hcall
    clear hcall
    obtain ⟨Av, cv, ev⟩ := Kd.R_slice R4.out
    subst ev
    obtain ⟨q0, q1, q2, q3, q4, q5, q6, q7, q8, q9, q10⟩ := cells11 (show wc.heap[w.heap.size + 1]? = some (.cells #[.int .i64 x.f0, .string x.f1, .string x.f2, .slice Av x.f3.length cv, .string x.f4, .string x.f5, .bool x.f6, .int .i64 x.f7, .int .i64 x.f8, .int .i64 x.f9, .int .i64 x.f10] 52 (0, 0)) from C4.out.1)
    obtain ⟨r0, rf0, r1, rf1, r2, rf2, r3, rf3, r4, rf4, r5, rf5, r6, rf6, r7, rf7, r8, rf8, r9, rf9, r10, rf10⟩ := cells11f (show wc.heap[w.heap.size]? = some (.cells #[.int .i64 0, .string ⟨#[]⟩, .string ⟨#[]⟩, .slice none 0 0, .string ⟨#[]⟩, .string ⟨#[]⟩, .bool false, .int .i64 0, .int .i64 0, .int .i64 0, .int .i64 0] 52 (0, 0)) from C4.out.2.1)
    cases g with
    | false =>
     have FF := Aside0.mk (HCL.out.trans (F4.out rfl))
     clear F4 T4 HCL
     go_wp2_with (fail)
     have F := fillC w wc (x) (.slice Av x.f3.length cv) C4.out (R4.out)
     refine bodyPost_ret (results_c2 rfl _ _ w.heap.size 52 (callV (x) (.slice Av x.f3.length cv)) (0, 0) _ rfl F.1 hu52 rfl (by kernel_rfl)) rfl ?_
     exact ⟨0, x, .slice Av x.f3.length cv, rfl, F.2.2, F.2.1, .inr ⟨rfl, FF.out⟩⟩
    | true =>
     have FF := Aside0.mk (HCL.out.trans (T4.out rfl))
     clear F4 T4 HCL
     go_wp2_with (fail)
     have F := fillC w wc (x) (.slice Av x.f3.length cv) C4.out (R4.out)
     refine bodyPost_ret (results_c2 rfl _ _ w.heap.size 52 (callV (x) (.slice Av x.f3.length cv)) (0, 0) _ rfl F.1 hu52 rfl (by kernel_rfl)) rfl ?_
     exact ⟨1, x, .slice Av x.f3.length cv, rfl, F.2.2, F.2.1, .inl ⟨rfl, FF.out⟩⟩
end Go.Proofs.YtlkbeddlmbghkaaGreatDoor.PR
