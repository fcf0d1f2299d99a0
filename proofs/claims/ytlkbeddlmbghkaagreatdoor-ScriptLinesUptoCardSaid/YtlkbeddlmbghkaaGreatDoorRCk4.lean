/- rundleref26.Call, at a call of kind 4. -/
import Derived.Test.YtlkbeddlmbghkaaGreatDoorRCh
namespace Go.Proofs.YtlkbeddlmbghkaaGreatDoor.PR
open Go Go.Proofs Go.RowKit Go.Proofs.YtlkbeddlmbghkaaGreatDoorW.PrintWords Go.Proofs.YtlkbeddlmbghkaaGreatDoorW.PrintLast Go.Proofs.YtlkbeddlmbghkaaGreatDoorW.PrintMore
set_option linter.unusedVariables false
set_option linter.unusedSimpArgs false
set_option maxRecDepth 100000

theorem CS.far {w W : World} {x : S52} {v : Value} (h : CS w x v W) {g i : Nat} (hg : w.heap.size + 2 ≤ g) (u : Value) : CS w x v (W.setCell ⟨g, i, none⟩ u) :=
 ⟨(Below.heap_setCell W ⟨g, i, none⟩ u (w.heap.size + 1) (by show w.heap.size + 1 ≠ g; omega)).trans h.1, (Below.heap_setCell W ⟨g, i, none⟩ u w.heap.size (by show w.heap.size ≠ g; omega)).trans h.2.1, h.2.2.setCell (by show w.heap.size ≤ g; omega) u⟩
theorem CS.fr2 {w W W' : World} {x : S52} {v : Value} (h : CS w x v W) (hb : Below (w.heap.size + 2) W W') : CS w x v W' :=
 ⟨(hb.block _ (by omega)).trans h.1, (hb.block _ (by omega)).trans h.2.1, h.2.2.trans (hb.mono (by omega))⟩
set_option maxHeartbeats 16000000 in
theorem callR_k4 (A : Option Addr) (c : Nat) (h : S46) (r : List S46) (hl : (h :: r).length ≤ 1000000) (hc : (h :: r).length ≤ c) (w : World) (hC : Kd.C k46 w A (h :: r).length (h :: r)) (hm : h.f0 = 2) (hkk : kindS h.f2 = 4) :
  Calls Tryz.prog 47 #[.slice A (h :: r).length c] w fun e w' => CallRPost w (h :: r) e w' := by
 have HKK := Aside0.mk hkk
 clear hkk
 have hu52 := Tryz.underlying52
 have hu46 := Tryz.underlying46
 have HC := Aside0.mk hC
 have HL := Aside0.mk hl
 have HCC := Aside0.mk hc
 clear hC hl hc
 go_enter Tryz.func47, Tryz.ntmps47
 go_upto_region 2 with (fail)
 have C1 : CS w zC (.slice none 0 0) ((w.alloc (.cells #[.int .i64 0, .string ⟨#[]⟩, .string ⟨#[]⟩, .slice none 0 0, .string ⟨#[]⟩, .string ⟨#[]⟩, .bool false, .int .i64 0, .int .i64 0, .int .i64 0, .int .i64 0] 52)).alloc (.cells #[.int .i64 0, .string ⟨#[]⟩, .string ⟨#[]⟩, .slice none 0 0, .string ⟨#[]⟩, .string ⟨#[]⟩, .bool false, .int .i64 0, .int .i64 0, .int .i64 0, .int .i64 0] 52)) := ⟨by have h := blk_new (w.alloc (.cells #[.int .i64 0, .string ⟨#[]⟩, .string ⟨#[]⟩, .slice none 0 0, .string ⟨#[]⟩, .string ⟨#[]⟩, .bool false, .int .i64 0, .int .i64 0, .int .i64 0, .int .i64 0] 52)) (.cells #[.int .i64 0, .string ⟨#[]⟩, .string ⟨#[]⟩, .slice none 0 0, .string ⟨#[]⟩, .string ⟨#[]⟩, .bool false, .int .i64 0, .int .i64 0, .int .i64 0, .int .i64 0] 52); rw [World.size_alloc] at h; exact h, blk_alloc (blk_new w _) _, ((Below.refl _ _).alloc (Nat.le_refl _) _).alloc (by rw [World.size_alloc]; omega) _⟩
 change Code.wp _ _ _ _ ((w.alloc (.cells #[.int .i64 0, .string ⟨#[]⟩, .string ⟨#[]⟩, .slice none 0 0, .string ⟨#[]⟩, .string ⟨#[]⟩, .bool false, .int .i64 0, .int .i64 0, .int .i64 0, .int .i64 0] 52)).alloc (.cells #[.int .i64 0, .string ⟨#[]⟩, .string ⟨#[]⟩, .slice none 0 0, .string ⟨#[]⟩, .string ⟨#[]⟩, .bool false, .int .i64 0, .int .i64 0, .int .i64 0, .int .i64 0] 52))
 generalize ((w.alloc (.cells #[.int .i64 0, .string ⟨#[]⟩, .string ⟨#[]⟩, .slice none 0 0, .string ⟨#[]⟩, .string ⟨#[]⟩, .bool false, .int .i64 0, .int .i64 0, .int .i64 0, .int .i64 0] 52)).alloc (.cells #[.int .i64 0, .string ⟨#[]⟩, .string ⟨#[]⟩, .slice none 0 0, .string ⟨#[]⟩, .string ⟨#[]⟩, .bool false, .int .i64 0, .int .i64 0, .int .i64 0, .int .i64 0] 52)) = w1 at *
 have CC1 := Aside0.mk C1
 clear C1
 ·
  obtain ⟨ad, e0, xa0, xa1, xa2⟩ := at_T46 HC.out 0 (by decide) (by simp)
  subst e0
  rw [show rd_T46 (h :: r) 0 = h from rfl, show ((0 : Int).toNat * 3) = 0 from rfl, Addr.add_zero'] at xa0 xa1 xa2
  have ha0 := (CC1.out.2.2.cell (World.block_lt_of_cell? w _ xa0)).trans xa0
  have ha2 := (CC1.out.2.2.cell (World.block_lt_of_cell? w _ xa2)).trans xa2
  have l0 : (0 < (((h :: r).length : Nat) : Int)) = True := eq_true (by rw [List.length_cons]; omega)
  have l1 : (((h :: r).length : Int) == 0) = false := beq_eq_false_iff_ne.2 (by rw [List.length_cons]; omega)
  have l2 : ((r.length : Int) + 1 == 0) = false := beq_eq_false_iff_ne.2 (by omega)
  have l3 : ((r.length : Int) + 1 = 0) = False := eq_false (by omega)
  have l4 : (0 < (r.length : Int) + 1) = True := eq_true (by omega)
  have l5 : ((1 : Int) ≤ (r.length : Int) + 1) = True := eq_true (by omega)
  have l6 : (r.length + 1 ≤ c) = True := eq_true (by have := HCC.out; rw [List.length_cons] at this; exact this)
  ·
   have m1 : (h.f0 == 2) = true := beq_iff_eq.2 hm
   have m2 : (h.f0 != 2) = false := bne_eq_false_iff_eq.2 hm
   have m3 : (h.f0 = 2) = True := eq_true hm
   have HM := Aside0.mk hm
   clear hm
   have p0 : w1.cell? ⟨w.heap.size + 1, 0, none⟩ = some (.int .i64 0) := (blk_cell CC1.out.1 0).trans rfl
   have pf0 : w1.frozen? ⟨w.heap.size + 1, 0, none⟩ = false := blk_frozen CC1.out.1 0
   go_upto_region 5 with (fail)
   refine (rundleref26_Kind.calls 11 _ _ _ (kind_f _)).mono ?_
   rintro e w2 ⟨rfl, hb⟩
   have CC2 := Aside0.mk (CC1.out.fr hb)
   have p0 : w2.cell? ⟨w.heap.size + 1, 0, none⟩ = some (.int .i64 0) := (blk_cell CC2.out.1 0).trans rfl
   have pf0 : w2.frozen? ⟨w.heap.size + 1, 0, none⟩ = false := blk_frozen CC2.out.1 0
   clear hb ha0 ha2
   generalize hkd : kindS h.f2 = kd
   have HKD := Aside0.mk hkd
   clear hkd
   go_upto_region 6 with (fail)
   iterate 8 (first | go_values | go_skip | go_guarded | go_step | go_upon)
   have CD := Kd.C_drop (m := 1) HC.out (by rw [List.length_cons]; omega) HCC.out
   rw [show (some ad).map (·.add (1 * k46.sz)) = some ⟨ad.block, ad.off + 3, none⟩ from rfl, show (h :: r).drop 1 = r from rfl] at CD
   have CC3 := Aside0.mk (CC2.out.put 0 (.int .i64 kd) (x' := { zC with f0 := kd }) (v' := .slice none 0 0) rfl)
   have hcr : r.length ≤ c - 1 := by have := HCC.out; rw [List.length_cons] at this; omega
   clear p0 pf0 CC2 CC1
   change Code.wp _ _ _ _ (w2.setCell ⟨w.heap.size + 1, 0, none⟩ (.int .i64 kd))
   generalize w2.setCell ⟨w.heap.size + 1, 0, none⟩ (.int .i64 kd) = w3 at *
   generalize (if c = 1 then some ad else some ⟨ad.block, ad.off + 3, none⟩) = A1 at *
   generalize c - 1 = c1 at *
   have HR := Aside0.mk CD
   have HRC := Aside0.mk hcr
   have HLR : Aside0 (r.length ≤ 1000000) := ⟨by have := HL.out; rw [List.length_cons] at this; omega⟩
   clear CD hcr l0 l1 l2 l3 l4 l5 l6 m1 m2 m3 xa0 xa1 xa2
   go_cut [5] (fun v5 wx => ∃ (g : Bool) (x : S52) (v : Value), v5 = .bool g ∧ Aside0 (CS w x v wx) ∧ Aside0 (k93.R 93 wx (w.heap.size + 2) (fun _ => True) v x.f3) ∧ Aside0 (g = true → argsR kd r = some x) ∧ Aside0 (g = false → argsR kd r = none))
   case first =>
    have p0 : w3.cell? ⟨w.heap.size + 1, 0, none⟩ = some (.int .i64 kd) := (blk_cell CC3.out.1 0).trans rfl
    go_upto_region 8 with (fail)
    clear p0
    have hk : kd = 4 := HKD.out.symm.trans HKK.out
    subst hk
    ·
     go_wp2_with (fail)
     refine (formR_at A1 c1 r ⟨#[110, 110]⟩ [110, 110] (by decide) rfl w3 (Kd.C_below HR.out CC3.out.2.2) HRC.out).mono ?_
     rintro e w4 ⟨rfl, hb⟩
     have CC4 := Aside0.mk (CC3.out.fr hb)
     clear hb CC3
     cases hg : formR [110, 110] r with
     | false =>
      have HG := Aside0.mk hg
      clear hg
      obtain ⟨q0, q1, q2, q3, q4, q5, q6, q7, q8, q9, q10⟩ := cells11 (show w4.heap[w.heap.size + 1]? = some (.cells #[.int .i64 4, .string ⟨#[]⟩, .string ⟨#[]⟩, .slice none 0 0, .string ⟨#[]⟩, .string ⟨#[]⟩, .bool false, .int .i64 0, .int .i64 0, .int .i64 0, .int .i64 0] 52 (0, 0)) from CC4.out.1)
      obtain ⟨r0, rf0, r1, rf1, r2, rf2, r3, rf3, r4, rf4, r5, rf5, r6, rf6, r7, rf7, r8, rf8, r9, rf9, r10, rf10⟩ := cells11f (show w4.heap[w.heap.size]? = some (.cells #[.int .i64 0, .string ⟨#[]⟩, .string ⟨#[]⟩, .slice none 0 0, .string ⟨#[]⟩, .string ⟨#[]⟩, .bool false, .int .i64 0, .int .i64 0, .int .i64 0, .int .i64 0] 52 (0, 0)) from CC4.out.2.1)
      go_wp2_with (fail)
      have hcall : callR (h :: r) = none := by
       rw [callR, if_pos HM.out, HKD.out]
       match r, HG.out with
       | [], _ => simp [argsR]
       | [a], _ => simp [argsR]
       | a :: b :: t, hg => simp [argsR, hg]
      have F := fillC w w4 ({ zC with f0 := 4 }) (.slice none 0 0) CC4.out (Kd.R_nil _ _ _ _ _)
      refine bodyPost_ret (results_c2 rfl _ _ w.heap.size 52 (callV ({ zC with f0 := 4 }) (.slice none 0 0)) (0, 0) _ rfl F.1 hu52 rfl (by kernel_rfl)) rfl ?_
      exact ⟨0, { zC with f0 := 4 }, .slice none 0 0, rfl, F.2.2, F.2.1, .inr ⟨rfl, hcall⟩⟩
     | true =>
      have HG := Aside0.mk hg
      clear hg
      obtain ⟨a, b, t, er⟩ : ∃ (a b : S46) (t : List S46), r = a :: b :: t := by
       match r, HG.out with
       | [], hg => exact absurd hg (by decide)
       | [a], hg => exact absurd hg (by simp [formR])
       | a :: b :: t, _ => exact ⟨a, b, t, rfl⟩
      subst er
      ·
       obtain ⟨ad0, e0, yz0, yz1, _⟩ := at_T46 HR.out 0 (by decide) (by simp only [List.length_cons]; omega)
       subst e0
       obtain ⟨ad1, e1, yb0, yb1, _⟩ := at_T46 HR.out 1 (by decide) (by simp only [List.length_cons]; omega)
       obtain rfl := Option.some.inj e1
       rw [show rd_T46 (a :: b :: t) 0 = a from rfl, show ((0 : Int).toNat * 3) = 0 from rfl, Addr.add_zero'] at yz0 yz1
       rw [show rd_T46 (a :: b :: t) 1 = b from rfl, show ((1 : Int).toNat * 3) = 3 from rfl, show Addr.add ad0 3 = ⟨ad0.block, ad0.off + 3, none⟩ from rfl] at yb1
       dsimp only at yb1
       have hlt := World.block_lt_of_cell? w _ yz0
       have hne : (ad0.block = w.heap.size + 1) = False := eq_false (by omega)
       have hne2 : (w.heap.size + 1 = ad0.block) = False := eq_false (by omega)
       have y01 := (CC4.out.2.2.cell (World.block_lt_of_cell? w _ yz1)).trans yz1
       have y11 := (CC4.out.2.2.cell (World.block_lt_of_cell? w _ yb1)).trans yb1
       clear yz0 yz1 yb0 yb1 e1
       have l4 : (0 < (t.length : Int) + 1 + 1) = True := eq_true (by omega)
       have l5 : ((1 : Int) < (t.length : Int) + 1 + 1) = True := eq_true (by omega)
       go_upto_region 23 with (fail)
       go_cut [112] (fun v112 wx => Aside0 (CS w { zC with f0 := 4, f9 := a.f1, f10 := b.f1 } (.slice none 0 0) wx))
       case first =>
        have s9 : w4.cell? ⟨w.heap.size + 1, 9, none⟩ = some (.int .i64 0) := (blk_cell CC4.out.1 9).trans rfl
        have sf9 : w4.frozen? ⟨w.heap.size + 1, 9, none⟩ = false := blk_frozen CC4.out.1 9
        have s10 : w4.cell? ⟨w.heap.size + 1, 10, none⟩ = some (.int .i64 0) := (blk_cell CC4.out.1 10).trans rfl
        have sf10 : w4.frozen? ⟨w.heap.size + 1, 10, none⟩ = false := blk_frozen CC4.out.1 10
        go_region_with (fail)
        all_goals try go_wp2_with (fail)
        all_goals go_meet
        all_goals exact ⟨((CC4.out.drew).put 9 _ (x' := { zC with f0 := 4, f9 := a.f1 }) (v' := .slice none 0 0) rfl).put 10 _ (x' := { zC with f0 := 4, f9 := a.f1, f10 := b.f1 }) (v' := .slice none 0 0) rfl⟩
       case rest =>
        rename_i hKK
        have C5 := hcut
        refine hKK _ _ ?_
        clear hKK hcut y01 y11 hne hne2 hlt l4 l5
        go_wp2_with (fail)
        go_loopg [6] (t.length) (fun kq v6 w' => ∃ (j i : Nat) (L : List S93) (v : Value), v6 = .int .i64 (j : Int) ∧ Aside0 (j = i + 2) ∧ Aside0 (i + kq = t.length) ∧ Aside0 (entsR t = (entsR (t.drop i)).map fun M => L ++ M) ∧ Aside0 (CS w { zC with f0 := 4, f3 := L, f9 := a.f1, f10 := b.f1 } v w') ∧ Aside0 (k93.R 93 w' (w.heap.size + 2) (fun _ => True) v L) ∧ Aside0 (L.length ≤ i))
        case atStart => exact ⟨2, 0, [], .slice none 0 0, rfl, ⟨rfl⟩, ⟨Nat.zero_add _⟩, ⟨by rw [List.drop_zero]; cases entsR t <;> simp⟩, C5, ⟨Kd.R_nil _ _ _ _ _⟩, ⟨Nat.le_refl _⟩⟩
        case round =>
         obtain ⟨j, i, L, v, rfl, HJ, HI, HS, CL, RL, LL⟩ := hrel
         obtain ⟨Av, cv, ev⟩ := Kd.R_slice RL.out
         subst ev
         by_cases hend : i = t.length
         ·
          have d1 : ((j : Int) < (t.length : Int) + 1 + 1) = False := eq_false (by have := HJ.out; omega)
          have d2 : decide ((j : Int) < (t.length : Int) + 1 + 1) = false := decide_eq_false (by have := HJ.out; omega)
          have hz : argsR 4 (a :: b :: t) = some { zC with f0 := 4, f3 := L, f9 := a.f1, f10 := b.f1 } := by
           have hs := HS.out
           rw [hend, List.drop_length] at hs
           simp [argsR, HG.out, hs, entsR]
          have HZ := Aside0.mk hz
          clear hz hend
          go_wp2_with (fail)
          go_meet
          exact ⟨true, { zC with f0 := 4, f3 := L, f9 := a.f1, f10 := b.f1 }, .slice Av L.length cv, rfl, CL, RL, ⟨fun _ => HZ.out⟩, ⟨fun e => (by cases e)⟩⟩
         ·
          have hlr : t.length ≤ 1000000 := by have := HLR.out; simp only [List.length_cons] at this; omega
          have hji := HJ.out
          have hii := HI.out
          obtain ⟨j1, hj1⟩ : ∃ j1, j1 = j + 1 := ⟨_, rfl⟩
          have e10 : IntKind.i64.wrap ((j : Int) + 1) = (j1 : Int) := by rw [i64_w]; unfold wrap64; omega
          have d1 : ((j : Int) < (t.length : Int) + 1 + 1) = True := eq_true (by omega)
          have d2 : decide ((j : Int) < (t.length : Int) + 1 + 1) = true := decide_eq_true (by omega)
          have d3 : (j < t.length + 1 + 1) = True := eq_true (by omega)
          cases hd : t.drop i with
          | nil => exact absurd (List.drop_eq_nil_iff.1 hd) (by omega)
          | cons p rs =>
           have hti : t[i]? = some p := by have := congrArg (fun z : List S46 => z[0]?) hd; simpa using this
           have hp : rd_T46 (a :: b :: t) (j : Int) = p := by unfold rd_T46; rw [Int.toNat_natCast, List.getD_eq_getElem?_getD, hji, show (a :: b :: t)[i + 2]? = t[i]? from rfl, hti]; rfl
           obtain ⟨adp, ep, yp0, yp1, yp2⟩ := at_T46 HR.out (j : Int) (by omega) (by simp only [List.length_cons]; omega)
           obtain rfl := Option.some.inj ep
           rw [hp, Int.toNat_natCast] at yp0 yp1 yp2
           have hltp := World.block_lt_of_cell? w _ yp0
           have xp0 := (CL.out.2.2.cell hltp).trans yp0
           have xp2 := (CL.out.2.2.cell (World.block_lt_of_cell? w _ yp2)).trans yp2
           have CLT : Aside0 (w.heap.size + 2 ≤ wr.heap.size) := ⟨blk_lt CL.out.1⟩
           have HD := Aside0.mk hd
           have J1 := Aside0.mk hj1
           have LR := Aside0.mk hlr
           have NE := Aside0.mk hend
           clear hd hti hp ep yp0 yp1 yp2 hj1 hlr hend hltp
           cases rs with
           | nil =>
            have hl1 : i + 1 = t.length := by have := congrArg List.length HD.out; rw [List.length_drop] at this; simp only [List.length_cons, List.length_nil] at this; omega
            have g1 : ((t.length : Int) + 1 + 1 ≤ (j1 : Int)) = True := eq_true (by have := J1.out; omega)
            have g2 : decide ((t.length : Int) + 1 + 1 ≤ (j1 : Int)) = true := decide_eq_true (by have := J1.out; omega)
            clear hl1 hji hii
            obtain ⟨q0, q1, q2, q3, q4, q5, q6, q7, q8, q9, q10⟩ := cells11 (show wr.heap[w.heap.size + 1]? = some (.cells #[.int .i64 4, .string ⟨#[]⟩, .string ⟨#[]⟩, .slice Av L.length cv, .string ⟨#[]⟩, .string ⟨#[]⟩, .bool false, .int .i64 0, .int .i64 0, .int .i64 a.f1, .int .i64 b.f1] 52 (0, 0)) from CL.out.1)
            obtain ⟨r0, rf0, r1, rf1, r2, rf2, r3, rf3, r4, rf4, r5, rf5, r6, rf6, r7, rf7, r8, rf8, r9, rf9, r10, rf10⟩ := cells11f (show wr.heap[w.heap.size]? = some (.cells #[.int .i64 0, .string ⟨#[]⟩, .string ⟨#[]⟩, .slice none 0 0, .string ⟨#[]⟩, .string ⟨#[]⟩, .bool false, .int .i64 0, .int .i64 0, .int .i64 0, .int .i64 0] 52 (0, 0)) from CL.out.2.1)
            have hcall : callR (h :: a :: b :: t) = none := by
             have hs := HS.out
             rw [HD.out] at hs
             have he : entsR t = none := by rw [hs]; simp [entsR]
             rw [callR, if_pos HM.out, HKD.out]
             simp [argsR, HG.out, he]
            have HCN := Aside0.mk hcall
            clear hcall
            go_wp2_with (fail)
            have F := fillC w wr ({ zC with f0 := 4, f3 := L, f9 := a.f1, f10 := b.f1 }) (.slice Av L.length cv) CL.out (RL.out)
            refine bodyPost_ret (results_c2 rfl _ _ w.heap.size 52 (callV ({ zC with f0 := 4, f3 := L, f9 := a.f1, f10 := b.f1 }) (.slice Av L.length cv)) (0, 0) _ rfl F.1 hu52 rfl (by kernel_rfl)) rfl ?_
            exact ⟨0, { zC with f0 := 4, f3 := L, f9 := a.f1, f10 := b.f1 }, .slice Av L.length cv, rfl, F.2.2, F.2.1, .inr ⟨rfl, HCN.out⟩⟩
           | cons q us =>
            have hl1 : i + 1 < t.length := by have := congrArg List.length HD.out; rw [List.length_drop] at this; simp only [List.length_cons] at this; omega
            have g1 : ((t.length : Int) + 1 + 1 ≤ (j1 : Int)) = False := eq_false (by have := J1.out; omega)
            have g2 : decide ((t.length : Int) + 1 + 1 ≤ (j1 : Int)) = false := decide_eq_false (by have := J1.out; omega)
            have g3 : ((j1 : Int) < (t.length : Int) + 1 + 1) = True := eq_true (by have := J1.out; omega)
            have g4 : (j1 < t.length + 1 + 1) = True := eq_true (by have := J1.out; omega)
            have hti : t[i + 1]? = some q := by have := congrArg (fun z : List S46 => z[1]?) HD.out; simpa using this
            have hp : rd_T46 (a :: b :: t) (j1 : Int) = q := by unfold rd_T46; rw [Int.toNat_natCast, List.getD_eq_getElem?_getD, J1.out, hji, show (a :: b :: t)[i + 2 + 1]? = t[i + 1]? from rfl, hti]; rfl
            obtain ⟨adq, eq_, yq0, yq1, yq2⟩ := at_T46 HR.out (j1 : Int) (by omega) (by have := J1.out; simp only [List.length_cons]; omega)
            obtain rfl := Option.some.inj eq_
            rw [hp, Int.toNat_natCast] at yq0 yq1 yq2
            have xq0 := (CL.out.2.2.cell (World.block_lt_of_cell? w _ yq0)).trans yq0
            have xq2 := (CL.out.2.2.cell (World.block_lt_of_cell? w _ yq2)).trans yq2
            have HL1 := Aside0.mk hl1
            clear hl1 hti hp eq_ yq0 yq1 yq2 hji hii
            by_cases hq3 : q.f0 = 3
            ·
             have u1 : (q.f0 == 3) = true := beq_iff_eq.2 hq3
             have u2 : (q.f0 != 3) = false := bne_eq_false_iff_eq.2 hq3
             have u3 : (q.f0 = 3) = True := eq_true hq3
             by_cases hp3 : p.f0 = 3
             ·
              have hp2 : ¬ p.f0 = 2 := by omega
              have v1 : (p.f0 == 3) = true := beq_iff_eq.2 hp3
              have v2 : (p.f0 != 3) = false := bne_eq_false_iff_eq.2 hp3
              have v3 : (p.f0 = 3) = True := eq_true hp3
              have v4 : (p.f0 == 2) = false := beq_eq_false_iff_ne.2 hp2
              have v5 : (p.f0 != 2) = true := bne_iff_ne.2 hp2
              have v6 : (p.f0 = 2) = False := eq_false hp2
              as_aux_lemma =>
               go_upto_region 30 with (fail)
               go_cut [7] (fun v7 wx => ∃ (g7 : Nat), v7 = .pointer (some ⟨g7, 0, none⟩) ∧ Aside0 (wx.heap[g7]? = some (.cells #[.string p.f2, .string q.f2, .bool false] 93 (0, 0))) ∧ Aside0 (Below wr.heap.size wr wx) ∧ Aside0 (wr.heap.size ≤ g7))
               case first =>
                refine start_ (n := 14) (S := fun w' => Below wr.heap.size wr w') (ds := []) #[false, false, false, false, false, false, false, false, false, false, false, false, false, false] (by kernel_rfl) rfl rfl (Below.refl _ _).drew (fun hHeld => ?_)
                generalize wr.drew = w7 at *
                refine pure_ (i := 0) (N := some 164) (v := ?_) (a' := ?_) #[true, false, false, false, false, false, false, false, false, false, false, false, false, false] rfl rfl (by kernel_rfl) (fun _ _ _ h => h) (Or.inl ⟨by rfl, ?_⟩) ?_ ?_
                rotate_left
                ·
                 intro w'
                 go_simp
                 with_reducible rfl
                rotate_left
                ·
                 simp only [Act.put, List.setIfInBounds_toArray, List.set_cons_zero, List.set_cons_succ, i64_w, i32_w]
                 rfl
                refine pure_ (i := 1) (N := some 165) (v := ?_) (a' := ?_) #[true, true, false, false, false, false, false, false, false, false, false, false, false, false] rfl rfl (by kernel_rfl) (fun _ _ _ h => h) (Or.inl ⟨by rfl, ?_⟩) ?_ ?_
                rotate_left
                ·
                 intro w'
                 go_simp
                 with_reducible rfl
                rotate_left
                ·
                 simp only [Act.put, List.setIfInBounds_toArray, List.set_cons_zero, List.set_cons_succ, i64_w, i32_w]
                 rfl
                refine pure_ (i := 2) (N := some 166) (v := ?_) (a' := ?_) #[true, true, true, false, false, false, false, false, false, false, false, false, false, false] rfl rfl (by kernel_rfl) (fun _ _ _ h => h) (Or.inl ⟨by rfl, ?_⟩) ?_ ?_
                rotate_left
                ·
                 intro w'
                 go_simp
                 with_reducible rfl
                rotate_left
                ·
                 simp only [Act.put, List.setIfInBounds_toArray, List.set_cons_zero, List.set_cons_succ, i64_w, i32_w]
                 rfl
                refine pure_ (i := 3) (N := some 167) (v := ?_) (a' := ?_) #[true, true, true, true, false, false, false, false, false, false, false, false, false, false] rfl rfl (by kernel_rfl) (fun _ _ _ h => h) (Or.inl ⟨by rfl, ?_⟩) ?_ ?_
                rotate_left
                ·
                 intro w'
                 go_simp
                 with_reducible rfl
                rotate_left
                ·
                 simp only [Act.put, List.setIfInBounds_toArray, List.set_cons_zero, List.set_cons_succ, i64_w, i32_w]
                 rfl
                refine take_ (i := 4) (N := some 168) (v := ?_) (a' := ?_) #[true, true, true, true, true, false, false, false, false, false, false, false, false, false] rfl rfl (by kernel_rfl) (fun _ _ _ h => h) (Or.inl ⟨by rfl, ?_⟩) hHeld ?_ ?_
                rotate_left
                ·
                 intro w' hS
                 have s0 := (hS.cell (World.block_lt_of_cell? wr _ xp2)).trans xp2
                 go_simp
                 with_reducible rfl
                rotate_left
                ·
                 simp only [Act.put, List.setIfInBounds_toArray, List.set_cons_zero, List.set_cons_succ, i64_w, i32_w]
                 rfl
                refine pure_ (i := 5) (N := some 169) (v := ?_) (a' := ?_) #[true, true, true, true, true, true, false, false, false, false, false, false, false, false] rfl rfl (by kernel_rfl) (fun _ _ _ h => h) (Or.inl ⟨by rfl, ?_⟩) ?_ ?_
                rotate_left
                ·
                 intro w'
                 go_simp
                 with_reducible rfl
                rotate_left
                ·
                 simp only [Act.put, List.setIfInBounds_toArray, List.set_cons_zero, List.set_cons_succ, i64_w, i32_w]
                 rfl
                refine pure_ (i := 6) (N := some 170) (v := ?_) (a' := ?_) #[true, true, true, true, true, true, true, false, false, false, false, false, false, false] rfl rfl (by kernel_rfl) (fun _ _ _ h => h) (Or.inl ⟨by rfl, ?_⟩) ?_ ?_
                rotate_left
                ·
                 intro w'
                 go_simp
                 with_reducible rfl
                rotate_left
                ·
                 simp only [Act.put, List.setIfInBounds_toArray, List.set_cons_zero, List.set_cons_succ, i64_w, i32_w]
                 rfl
                refine pure_ (i := 7) (N := some 171) (v := ?_) (a' := ?_) #[true, true, true, true, true, true, true, true, false, false, false, false, false, false] rfl rfl (by kernel_rfl) (fun _ _ _ h => h) (Or.inl ⟨by rfl, ?_⟩) ?_ ?_
                rotate_left
                ·
                 intro w'
                 go_simp
                 with_reducible rfl
                rotate_left
                ·
                 simp only [Act.put, List.setIfInBounds_toArray, List.set_cons_zero, List.set_cons_succ, i64_w, i32_w]
                 rfl
                refine pure_ (i := 8) (N := some 172) (v := ?_) (a' := ?_) #[true, true, true, true, true, true, true, true, true, false, false, false, false, false] rfl rfl (by kernel_rfl) (fun _ _ _ h => h) (Or.inl ⟨by rfl, ?_⟩) ?_ ?_
                rotate_left
                ·
                 intro w'
                 go_simp
                 with_reducible rfl
                rotate_left
                ·
                 simp only [Act.put, List.setIfInBounds_toArray, List.set_cons_zero, List.set_cons_succ, i64_w, i32_w]
                 rfl
                refine pure_ (i := 9) (N := some 173) (v := ?_) (a' := ?_) #[true, true, true, true, true, true, true, true, true, true, false, false, false, false] rfl rfl (by kernel_rfl) (fun _ _ _ h => h) (Or.inl ⟨by rfl, ?_⟩) ?_ ?_
                rotate_left
                ·
                 intro w'
                 go_simp
                 with_reducible rfl
                rotate_left
                ·
                 simp only [Act.put, List.setIfInBounds_toArray, List.set_cons_zero, List.set_cons_succ, i64_w, i32_w]
                 rfl
                refine take_ (i := 10) (N := some 174) (v := ?_) (a' := ?_) #[true, true, true, true, true, true, true, true, true, true, true, false, false, false] rfl rfl (by kernel_rfl) (fun _ _ _ h => h) (Or.inl ⟨by rfl, ?_⟩) hHeld ?_ ?_
                rotate_left
                ·
                 intro w' hS
                 have s0 := (hS.cell (World.block_lt_of_cell? wr _ xq2)).trans xq2
                 go_simp
                 with_reducible rfl
                rotate_left
                ·
                 simp only [Act.put, List.setIfInBounds_toArray, List.set_cons_zero, List.set_cons_succ, i64_w, i32_w]
                 rfl
                refine pure_ (i := 11) (N := some 175) (v := ?_) (a' := ?_) #[true, true, true, true, true, true, true, true, true, true, true, true, false, false] rfl rfl (by kernel_rfl) (fun _ _ _ h => h) (Or.inl ⟨by rfl, ?_⟩) ?_ ?_
                rotate_left
                ·
                 intro w'
                 go_simp
                 with_reducible rfl
                rotate_left
                ·
                 simp only [Act.put, List.setIfInBounds_toArray, List.set_cons_zero, List.set_cons_succ, i64_w, i32_w]
                 rfl
                refine one_ (i := 12) (N := some 7) #[true, true, true, true, true, true, true, true, true, true, true, true, true, false] rfl rfl (by kernel_rfl) (by decide) (fun K hK => ?_)
                go_simp
                have YB := blk_new w7 (.cells #[.string ⟨#[]⟩, .string ⟨#[]⟩, .bool false] 93)
                have hle : wr.heap.size ≤ w7.heap.size := hHeld.size
                refine hK.out _ _ (hHeld.alloc hle _) (fun hHeld => ?_)
                clear hK K
                generalize w7.alloc (.cells #[.string ⟨#[]⟩, .string ⟨#[]⟩, .bool false] 93) = w8 at *
                have s0 : w8.cell? ⟨w7.heap.size, 0, none⟩ = some (.string ⟨#[]⟩) := (blk_cell YB 0).trans rfl
                have sf0 : w8.frozen? ⟨w7.heap.size, 0, none⟩ = false := blk_frozen YB 0
                have s1 : w8.cell? ⟨w7.heap.size, 1, none⟩ = some (.string ⟨#[]⟩) := (blk_cell YB 1).trans rfl
                have sf1 : w8.frozen? ⟨w7.heap.size, 1, none⟩ = false := blk_frozen YB 1
                have s2 : w8.cell? ⟨w7.heap.size, 2, none⟩ = some (.bool false) := (blk_cell YB 2).trans rfl
                have sf2 : w8.frozen? ⟨w7.heap.size, 2, none⟩ = false := blk_frozen YB 2
                refine one_ (i := 13) (N := none) #[true, true, true, true, true, true, true, true, true, true, true, true, true, true] rfl rfl (by kernel_rfl) (by decide) (fun K hK => ?_)
                refine skip_ (w1 := ?_) (by rfl) rfl ?_ ?_
                rotate_left
                ·
                 go_simp
                 rfl
                have hB9 := ((hHeld.setCell (p := ⟨w7.heap.size, 0, none⟩) hle (.string p.f2)).setCell (p := ⟨w7.heap.size, 1, none⟩) hle (.string q.f2)).setCell (p := ⟨w7.heap.size, 2, none⟩) hle (.bool false)
                have hY1 := blk_put YB 0 (.string p.f2) (cs' := #[.string p.f2, .string ⟨#[]⟩, .bool false]) rfl
                have hY2 := blk_put hY1 1 (.string q.f2) (cs' := #[.string p.f2, .string q.f2, .bool false]) rfl
                have hY3 := blk_put hY2 2 (.bool false) (cs' := #[.string p.f2, .string q.f2, .bool false]) rfl
                refine hK.out _ _ hB9 (fun hHeld => ?_)
                clear hK K
                refine done_ (by kernel_rfl) ?_
                go_wp2_with (fail)
                go_meet
                exact ⟨w7.heap.size, rfl, ⟨hY3⟩, ⟨hB9⟩, ⟨hle⟩⟩
               case rest =>
                rename_i hKK
                obtain ⟨g7, rfl, E7, B7, H7⟩ := hcut
                refine hKK _ _ ?_
                clear hKK
                have zp0 := (B7.out.cell (World.block_lt_of_cell? wr _ xp0)).trans xp0
                have zq2 := (B7.out.cell (World.block_lt_of_cell? wr _ xq2)).trans xq2
                have CL7 := Aside0.mk (CL.out.fr B7.out)
                have RL7 := Aside0.mk (Kd.R_mono (Kd.R_below (Kd.R_bound RL.out) B7.out) (ok' := fun k => k < wr.heap.size) (fun k hk => hk.2.2.1))
                clear xp0 xp2 xq0 xq2 CL RL
                have s0 : wc.cell? ⟨g7, 0, none⟩ = some (.string p.f2) := (blk_cell E7.out 0).trans rfl
                have s1 : wc.cell? ⟨g7, 1, none⟩ = some (.string q.f2) := (blk_cell E7.out 1).trans rfl
                have s2 : wc.cell? ⟨g7, 2, none⟩ = some (.bool false) := (blk_cell E7.out 2).trans rfl
                have hgs : w.heap.size + 2 ≤ g7 := Nat.le_trans (Nat.le_of_lt_succ (Nat.lt_succ_of_le (Nat.le_of_lt_succ (Nat.lt_succ_of_le (show w.heap.size + 2 ≤ wr.heap.size from CLT.out))))) H7.out
                have hg1 : (w.heap.size + 1 = g7) = False := eq_false (by omega)
                have hg2 : (g7 = w.heap.size + 1) = False := eq_false (by omega)
                have hs2 : entsR t = (entsR (t.drop (i + 2))).map fun M => (L ++ [⟨p.f2, q.f2, false⟩]) ++ M := by
                 have hd2 : t.drop (i + 2) = us := by rw [← List.drop_drop, HD.out]; rfl
                 rw [HS.out, HD.out, hd2]
                 cases he : entsR us <;> simp [entsR, hq3, hp3, he]
                have HS2 := Aside0.mk hs2
                obtain ⟨j2, hj2⟩ : ∃ j2, j2 = j + 2 := ⟨_, rfl⟩
                have e11 : IntKind.i64.wrap ((j : Int) + 2) = (j2 : Int) := by have := HJ.out; have := HI.out; have := LR.out; rw [i64_w]; unfold wrap64; omega
                have J2 := Aside0.mk hj2
                have HGS := Aside0.mk hgs
                clear hs2 hj2 hgs
                have SZ7 : Aside0 (w.heap.size + 2 ≤ wc.heap.size) := ⟨Nat.le_trans CLT.out B7.out.size⟩
                have RL8 := Aside0.mk (Kd.R_mono RL7.out (ok' := fun _ => True) (fun _ _ => trivial))
                clear hq3 hp3 hp2
                go_upto_region 33 with (fail)
                clear zp0 zq2
                have c3 : wc.cell? ⟨w.heap.size + 1, 3, none⟩ = some (.slice Av L.length cv) := (blk_cell CL7.out.1 3).trans rfl
                go_wp2_with ((with_reducible refine gate_builtin (b := .append) (xs := #[.tmp 190, .tmp 192]) rfl ?_); (try (refine gate_guard (by rfl) ?_; dsimp only)); at_builtin; refine Kd.R_append k93 (w0 := wc) (w.heap.size + 2) rfl (.tmp 190) (.tmp 192) 50 93 (.agg #[(.string ⟨#[]⟩), (.string ⟨#[]⟩), (.bool false)]) 40 rfl Tryz.underlying50 info93 rfl (by decide) (by omega) (.slice Av L.length cv) L (⟨p.f2, q.f2, false⟩ : S93) [.string p.f2, .string q.f2, .bool false] (fun _ => True) (fun _ => False) rfl rfl ?aP (fun _ hk => hk.elim) (fun _ _ => trivial) RL8.out (Below.refl _ _) ?aS ?aL ?_; (case aP => exact k93_mkM _ _ _ _); (case aS => exact SZ7.out); (case aL => have h1 := LL.out; have h2 := HI.out; have h3 := LR.out; omega); intro v1 w10 ho hb hg hat; obtain ⟨B', d', ev⟩ := Kd.R_slice ho; subst ev; have OA := Aside0.mk ho; have CA := Aside0.mk (CL7.out.fr2 hb); have ra : w10.cell? ⟨w.heap.size + 1, 3, none⟩ = some (.slice Av L.length cv) := (blk_cell CA.out.1 3).trans rfl; have rfa : w10.frozen? ⟨w.heap.size + 1, 3, none⟩ = false := blk_frozen CA.out.1 3; clear ho hb hg hat c3)
                go_roundg (t.length - (i + 2))
                case measure => have h1 := HI.out; have h2 := HL1.out; omega
                case rel =>
                 have h9 := OA.out
                 rw [List.length_append, List.length_singleton] at h9
                 exact ⟨j2, i + 2, L ++ [⟨p.f2, q.f2, false⟩], _, rfl, ⟨by have := J2.out; have := HJ.out; omega⟩, ⟨by have h2 := HL1.out; omega⟩, HS2, ⟨CA.out.put 3 _ rfl⟩, ⟨Kd.R_mono (Kd.R_far (p := ⟨w.heap.size + 1, 3, none⟩) (Kd.R_bound h9) (fun k hk => by have := hk.2.1; show k ≠ w.heap.size + 1; omega) _) (ok' := fun _ => True) (fun _ _ => trivial)⟩, ⟨by have := LL.out; simp only [List.length_append, List.length_singleton]; omega⟩⟩
             ·
              have v1 : (p.f0 == 3) = false := beq_eq_false_iff_ne.2 hp3
              have v2 : (p.f0 != 3) = true := bne_iff_ne.2 hp3
              have v3 : (p.f0 = 3) = False := eq_false hp3
              by_cases hp2 : p.f0 = 2
              ·
               have v4 : (p.f0 == 2) = true := beq_iff_eq.2 hp2
               have v5 : (p.f0 != 2) = false := bne_eq_false_iff_eq.2 hp2
               have v6 : (p.f0 = 2) = True := eq_true hp2
               by_cases hpg : p.f2.toList = [103, 111, 110, 101]
               ·
                have x1 : (p.f2.toList == [103, 111, 110, 101]) = true := beq_iff_eq.2 hpg
                have x2 : (p.f2.toList != [103, 111, 110, 101]) = false := bne_eq_false_iff_eq.2 hpg
                have x3 : (p.f2.toList = [103, 111, 110, 101]) = True := eq_true hpg
                as_aux_lemma =>
                 go_upto_region 30 with (fail)
                 go_cut [7] (fun v7 wx => ∃ (g7 : Nat), v7 = .pointer (some ⟨g7, 0, none⟩) ∧ Aside0 (wx.heap[g7]? = some (.cells #[.string p.f2, .string q.f2, .bool false] 93 (0, 0))) ∧ Aside0 (Below wr.heap.size wr wx) ∧ Aside0 (wr.heap.size ≤ g7))
                 case first =>
                  refine start_ (n := 14) (S := fun w' => Below wr.heap.size wr w') (ds := []) #[false, false, false, false, false, false, false, false, false, false, false, false, false, false] (by kernel_rfl) rfl rfl (Below.refl _ _).drew (fun hHeld => ?_)
                  generalize wr.drew = w7 at *
                  refine pure_ (i := 0) (N := some 164) (v := ?_) (a' := ?_) #[true, false, false, false, false, false, false, false, false, false, false, false, false, false] rfl rfl (by kernel_rfl) (fun _ _ _ h => h) (Or.inl ⟨by rfl, ?_⟩) ?_ ?_
                  rotate_left
                  ·
                   intro w'
                   go_simp
                   with_reducible rfl
                  rotate_left
                  ·
                   simp only [Act.put, List.setIfInBounds_toArray, List.set_cons_zero, List.set_cons_succ, i64_w, i32_w]
                   rfl
                  refine pure_ (i := 1) (N := some 165) (v := ?_) (a' := ?_) #[true, true, false, false, false, false, false, false, false, false, false, false, false, false] rfl rfl (by kernel_rfl) (fun _ _ _ h => h) (Or.inl ⟨by rfl, ?_⟩) ?_ ?_
                  rotate_left
                  ·
                   intro w'
                   go_simp
                   with_reducible rfl
                  rotate_left
                  ·
                   simp only [Act.put, List.setIfInBounds_toArray, List.set_cons_zero, List.set_cons_succ, i64_w, i32_w]
                   rfl
                  refine pure_ (i := 2) (N := some 166) (v := ?_) (a' := ?_) #[true, true, true, false, false, false, false, false, false, false, false, false, false, false] rfl rfl (by kernel_rfl) (fun _ _ _ h => h) (Or.inl ⟨by rfl, ?_⟩) ?_ ?_
                  rotate_left
                  ·
                   intro w'
                   go_simp
                   with_reducible rfl
                  rotate_left
                  ·
                   simp only [Act.put, List.setIfInBounds_toArray, List.set_cons_zero, List.set_cons_succ, i64_w, i32_w]
                   rfl
                  refine pure_ (i := 3) (N := some 167) (v := ?_) (a' := ?_) #[true, true, true, true, false, false, false, false, false, false, false, false, false, false] rfl rfl (by kernel_rfl) (fun _ _ _ h => h) (Or.inl ⟨by rfl, ?_⟩) ?_ ?_
                  rotate_left
                  ·
                   intro w'
                   go_simp
                   with_reducible rfl
                  rotate_left
                  ·
                   simp only [Act.put, List.setIfInBounds_toArray, List.set_cons_zero, List.set_cons_succ, i64_w, i32_w]
                   rfl
                  refine take_ (i := 4) (N := some 168) (v := ?_) (a' := ?_) #[true, true, true, true, true, false, false, false, false, false, false, false, false, false] rfl rfl (by kernel_rfl) (fun _ _ _ h => h) (Or.inl ⟨by rfl, ?_⟩) hHeld ?_ ?_
                  rotate_left
                  ·
                   intro w' hS
                   have s0 := (hS.cell (World.block_lt_of_cell? wr _ xp2)).trans xp2
                   go_simp
                   with_reducible rfl
                  rotate_left
                  ·
                   simp only [Act.put, List.setIfInBounds_toArray, List.set_cons_zero, List.set_cons_succ, i64_w, i32_w]
                   rfl
                  refine pure_ (i := 5) (N := some 169) (v := ?_) (a' := ?_) #[true, true, true, true, true, true, false, false, false, false, false, false, false, false] rfl rfl (by kernel_rfl) (fun _ _ _ h => h) (Or.inl ⟨by rfl, ?_⟩) ?_ ?_
                  rotate_left
                  ·
                   intro w'
                   go_simp
                   with_reducible rfl
                  rotate_left
                  ·
                   simp only [Act.put, List.setIfInBounds_toArray, List.set_cons_zero, List.set_cons_succ, i64_w, i32_w]
                   rfl
                  refine pure_ (i := 6) (N := some 170) (v := ?_) (a' := ?_) #[true, true, true, true, true, true, true, false, false, false, false, false, false, false] rfl rfl (by kernel_rfl) (fun _ _ _ h => h) (Or.inl ⟨by rfl, ?_⟩) ?_ ?_
                  rotate_left
                  ·
                   intro w'
                   go_simp
                   with_reducible rfl
                  rotate_left
                  ·
                   simp only [Act.put, List.setIfInBounds_toArray, List.set_cons_zero, List.set_cons_succ, i64_w, i32_w]
                   rfl
                  refine pure_ (i := 7) (N := some 171) (v := ?_) (a' := ?_) #[true, true, true, true, true, true, true, true, false, false, false, false, false, false] rfl rfl (by kernel_rfl) (fun _ _ _ h => h) (Or.inl ⟨by rfl, ?_⟩) ?_ ?_
                  rotate_left
                  ·
                   intro w'
                   go_simp
                   with_reducible rfl
                  rotate_left
                  ·
                   simp only [Act.put, List.setIfInBounds_toArray, List.set_cons_zero, List.set_cons_succ, i64_w, i32_w]
                   rfl
                  refine pure_ (i := 8) (N := some 172) (v := ?_) (a' := ?_) #[true, true, true, true, true, true, true, true, true, false, false, false, false, false] rfl rfl (by kernel_rfl) (fun _ _ _ h => h) (Or.inl ⟨by rfl, ?_⟩) ?_ ?_
                  rotate_left
                  ·
                   intro w'
                   go_simp
                   with_reducible rfl
                  rotate_left
                  ·
                   simp only [Act.put, List.setIfInBounds_toArray, List.set_cons_zero, List.set_cons_succ, i64_w, i32_w]
                   rfl
                  refine pure_ (i := 9) (N := some 173) (v := ?_) (a' := ?_) #[true, true, true, true, true, true, true, true, true, true, false, false, false, false] rfl rfl (by kernel_rfl) (fun _ _ _ h => h) (Or.inl ⟨by rfl, ?_⟩) ?_ ?_
                  rotate_left
                  ·
                   intro w'
                   go_simp
                   with_reducible rfl
                  rotate_left
                  ·
                   simp only [Act.put, List.setIfInBounds_toArray, List.set_cons_zero, List.set_cons_succ, i64_w, i32_w]
                   rfl
                  refine take_ (i := 10) (N := some 174) (v := ?_) (a' := ?_) #[true, true, true, true, true, true, true, true, true, true, true, false, false, false] rfl rfl (by kernel_rfl) (fun _ _ _ h => h) (Or.inl ⟨by rfl, ?_⟩) hHeld ?_ ?_
                  rotate_left
                  ·
                   intro w' hS
                   have s0 := (hS.cell (World.block_lt_of_cell? wr _ xq2)).trans xq2
                   go_simp
                   with_reducible rfl
                  rotate_left
                  ·
                   simp only [Act.put, List.setIfInBounds_toArray, List.set_cons_zero, List.set_cons_succ, i64_w, i32_w]
                   rfl
                  refine pure_ (i := 11) (N := some 175) (v := ?_) (a' := ?_) #[true, true, true, true, true, true, true, true, true, true, true, true, false, false] rfl rfl (by kernel_rfl) (fun _ _ _ h => h) (Or.inl ⟨by rfl, ?_⟩) ?_ ?_
                  rotate_left
                  ·
                   intro w'
                   go_simp
                   with_reducible rfl
                  rotate_left
                  ·
                   simp only [Act.put, List.setIfInBounds_toArray, List.set_cons_zero, List.set_cons_succ, i64_w, i32_w]
                   rfl
                  refine one_ (i := 12) (N := some 7) #[true, true, true, true, true, true, true, true, true, true, true, true, true, false] rfl rfl (by kernel_rfl) (by decide) (fun K hK => ?_)
                  go_simp
                  have YB := blk_new w7 (.cells #[.string ⟨#[]⟩, .string ⟨#[]⟩, .bool false] 93)
                  have hle : wr.heap.size ≤ w7.heap.size := hHeld.size
                  refine hK.out _ _ (hHeld.alloc hle _) (fun hHeld => ?_)
                  clear hK K
                  generalize w7.alloc (.cells #[.string ⟨#[]⟩, .string ⟨#[]⟩, .bool false] 93) = w8 at *
                  have s0 : w8.cell? ⟨w7.heap.size, 0, none⟩ = some (.string ⟨#[]⟩) := (blk_cell YB 0).trans rfl
                  have sf0 : w8.frozen? ⟨w7.heap.size, 0, none⟩ = false := blk_frozen YB 0
                  have s1 : w8.cell? ⟨w7.heap.size, 1, none⟩ = some (.string ⟨#[]⟩) := (blk_cell YB 1).trans rfl
                  have sf1 : w8.frozen? ⟨w7.heap.size, 1, none⟩ = false := blk_frozen YB 1
                  have s2 : w8.cell? ⟨w7.heap.size, 2, none⟩ = some (.bool false) := (blk_cell YB 2).trans rfl
                  have sf2 : w8.frozen? ⟨w7.heap.size, 2, none⟩ = false := blk_frozen YB 2
                  refine one_ (i := 13) (N := none) #[true, true, true, true, true, true, true, true, true, true, true, true, true, true] rfl rfl (by kernel_rfl) (by decide) (fun K hK => ?_)
                  refine skip_ (w1 := ?_) (by rfl) rfl ?_ ?_
                  rotate_left
                  ·
                   go_simp
                   rfl
                  have hB9 := ((hHeld.setCell (p := ⟨w7.heap.size, 0, none⟩) hle (.string p.f2)).setCell (p := ⟨w7.heap.size, 1, none⟩) hle (.string q.f2)).setCell (p := ⟨w7.heap.size, 2, none⟩) hle (.bool false)
                  have hY1 := blk_put YB 0 (.string p.f2) (cs' := #[.string p.f2, .string ⟨#[]⟩, .bool false]) rfl
                  have hY2 := blk_put hY1 1 (.string q.f2) (cs' := #[.string p.f2, .string q.f2, .bool false]) rfl
                  have hY3 := blk_put hY2 2 (.bool false) (cs' := #[.string p.f2, .string q.f2, .bool false]) rfl
                  refine hK.out _ _ hB9 (fun hHeld => ?_)
                  clear hK K
                  refine done_ (by kernel_rfl) ?_
                  go_wp2_with (fail)
                  go_meet
                  exact ⟨w7.heap.size, rfl, ⟨hY3⟩, ⟨hB9⟩, ⟨hle⟩⟩
                 case rest =>
                  rename_i hKK
                  obtain ⟨g7, rfl, E7, B7, H7⟩ := hcut
                  refine hKK _ _ ?_
                  clear hKK
                  have zp0 := (B7.out.cell (World.block_lt_of_cell? wr _ xp0)).trans xp0
                  have zq2 := (B7.out.cell (World.block_lt_of_cell? wr _ xq2)).trans xq2
                  have CL7 := Aside0.mk (CL.out.fr B7.out)
                  have RL7 := Aside0.mk (Kd.R_mono (Kd.R_below (Kd.R_bound RL.out) B7.out) (ok' := fun k => k < wr.heap.size) (fun k hk => hk.2.2.1))
                  clear xp0 xp2 xq0 xq2 CL RL
                  have s0 : wc.cell? ⟨g7, 0, none⟩ = some (.string p.f2) := (blk_cell E7.out 0).trans rfl
                  have sf0 : wc.frozen? ⟨g7, 0, none⟩ = false := blk_frozen E7.out 0
                  have s1 : wc.cell? ⟨g7, 1, none⟩ = some (.string q.f2) := (blk_cell E7.out 1).trans rfl
                  have sf1 : wc.frozen? ⟨g7, 1, none⟩ = false := blk_frozen E7.out 1
                  have s2 : wc.cell? ⟨g7, 2, none⟩ = some (.bool false) := (blk_cell E7.out 2).trans rfl
                  have sf2 : wc.frozen? ⟨g7, 2, none⟩ = false := blk_frozen E7.out 2
                  have hgs : w.heap.size + 2 ≤ g7 := Nat.le_trans (Nat.le_of_lt_succ (Nat.lt_succ_of_le (Nat.le_of_lt_succ (Nat.lt_succ_of_le (show w.heap.size + 2 ≤ wr.heap.size from CLT.out))))) H7.out
                  have hg1 : (w.heap.size + 1 = g7) = False := eq_false (by omega)
                  have hg2 : (g7 = w.heap.size + 1) = False := eq_false (by omega)
                  have hs2 : entsR t = (entsR (t.drop (i + 2))).map fun M => (L ++ [⟨q.f2, ⟨#[]⟩, true⟩]) ++ M := by
                   have hd2 : t.drop (i + 2) = us := by rw [← List.drop_drop, HD.out]; rfl
                   rw [HS.out, HD.out, hd2]
                   cases he : entsR us <;> simp [entsR, hq3, hp3, hp2, hpg, he]
                  have HS2 := Aside0.mk hs2
                  obtain ⟨j2, hj2⟩ : ∃ j2, j2 = j + 2 := ⟨_, rfl⟩
                  have e11 : IntKind.i64.wrap ((j : Int) + 2) = (j2 : Int) := by have := HJ.out; have := HI.out; have := LR.out; rw [i64_w]; unfold wrap64; omega
                  have J2 := Aside0.mk hj2
                  have HGS := Aside0.mk hgs
                  clear hs2 hj2 hgs
                  have SZ7 : Aside0 (w.heap.size + 2 ≤ wc.heap.size) := ⟨Nat.le_trans CLT.out B7.out.size⟩
                  clear hq3 hp3 hp2 hpg
                  go_upto_region 33 with (fail)
                  have hne7 : ∀ k, k < wr.heap.size → k ≠ g7 := fun k hk => by have := H7.out; omega
                  have CL8 := Aside0.mk (((CL7.out.far HGS.out (i := 0) (.string q.f2)).far HGS.out (i := 1) (.string ⟨#[]⟩)).far HGS.out (i := 2) (.bool true))
                  have RL8 := Aside0.mk (Kd.R_mono (Kd.R_far (p := ⟨g7, 2, none⟩) (Kd.R_far (p := ⟨g7, 1, none⟩) (Kd.R_far (p := ⟨g7, 0, none⟩) RL7.out hne7 (.string q.f2)) hne7 (.string ⟨#[]⟩)) hne7 (.bool true)) (ok' := fun _ => True) (fun _ _ => trivial))
                  have E8 := Aside0.mk (blk_put (blk_put (blk_put E7.out 0 (.string q.f2) (cs' := #[.string q.f2, .string q.f2, .bool false]) rfl) 1 (.string ⟨#[]⟩) (cs' := #[.string q.f2, .string ⟨#[]⟩, .bool false]) rfl) 2 (.bool true) (cs' := #[.string q.f2, .string ⟨#[]⟩, .bool true]) rfl)
                  have SZ8 : Aside0 (w.heap.size + 2 ≤ (World.setCell (World.setCell (World.setCell wc ⟨g7, 0, none⟩ (.string q.f2)) ⟨g7, 1, none⟩ (.string ⟨#[]⟩)) ⟨g7, 2, none⟩ (.bool true)).heap.size) := ⟨blk_lt CL8.out.1⟩
                  change Code.wp _ _ _ _ (World.setCell (World.setCell (World.setCell wc ⟨g7, 0, none⟩ (.string q.f2)) ⟨g7, 1, none⟩ (.string ⟨#[]⟩)) ⟨g7, 2, none⟩ (.bool true))
                  generalize (World.setCell (World.setCell (World.setCell wc ⟨g7, 0, none⟩ (.string q.f2)) ⟨g7, 1, none⟩ (.string ⟨#[]⟩)) ⟨g7, 2, none⟩ (.bool true)) = w8 at *
                  clear s0 s1 s2 sf0 sf1 sf2 zp0 zq2
                  have s0 : w8.cell? ⟨g7, 0, none⟩ = some (.string q.f2) := (blk_cell E8.out 0).trans rfl
                  have s1 : w8.cell? ⟨g7, 1, none⟩ = some (.string ⟨#[]⟩) := (blk_cell E8.out 1).trans rfl
                  have s2 : w8.cell? ⟨g7, 2, none⟩ = some (.bool true) := (blk_cell E8.out 2).trans rfl
                  have c3 : w8.cell? ⟨w.heap.size + 1, 3, none⟩ = some (.slice Av L.length cv) := (blk_cell CL8.out.1 3).trans rfl
                  go_wp2_with ((with_reducible refine gate_builtin (b := .append) (xs := #[.tmp 190, .tmp 192]) rfl ?_); (try (refine gate_guard (by rfl) ?_; dsimp only)); at_builtin; refine Kd.R_append k93 (w0 := w8) (w.heap.size + 2) rfl (.tmp 190) (.tmp 192) 50 93 (.agg #[(.string ⟨#[]⟩), (.string ⟨#[]⟩), (.bool false)]) 40 rfl Tryz.underlying50 info93 rfl (by decide) (by omega) (.slice Av L.length cv) L (⟨q.f2, ⟨#[]⟩, true⟩ : S93) [.string q.f2, .string ⟨#[]⟩, .bool true] (fun _ => True) (fun _ => False) rfl rfl ?aP (fun _ hk => hk.elim) (fun _ _ => trivial) RL8.out (Below.refl _ _) ?aS ?aL ?_; (case aP => exact k93_mkM _ _ _ _); (case aS => exact SZ8.out); (case aL => have h1 := LL.out; have h2 := HI.out; have h3 := LR.out; omega); intro v1 w10 ho hb hg hat; obtain ⟨B', d', ev⟩ := Kd.R_slice ho; subst ev; have OA := Aside0.mk ho; have CA := Aside0.mk (CL8.out.fr2 hb); have ra : w10.cell? ⟨w.heap.size + 1, 3, none⟩ = some (.slice Av L.length cv) := (blk_cell CA.out.1 3).trans rfl; have rfa : w10.frozen? ⟨w.heap.size + 1, 3, none⟩ = false := blk_frozen CA.out.1 3; clear ho hb hg hat c3)
                  go_roundg (t.length - (i + 2))
                  case measure => have h1 := HI.out; have h2 := HL1.out; omega
                  case rel =>
                   have h9 := OA.out
                   rw [List.length_append, List.length_singleton] at h9
                   exact ⟨j2, i + 2, L ++ [⟨q.f2, ⟨#[]⟩, true⟩], _, rfl, ⟨by have := J2.out; have := HJ.out; omega⟩, ⟨by have h2 := HL1.out; omega⟩, HS2, ⟨CA.out.put 3 _ rfl⟩, ⟨Kd.R_mono (Kd.R_far (p := ⟨w.heap.size + 1, 3, none⟩) (Kd.R_bound h9) (fun k hk => by have := hk.2.1; show k ≠ w.heap.size + 1; omega) _) (ok' := fun _ => True) (fun _ _ => trivial)⟩, ⟨by have := LL.out; simp only [List.length_append, List.length_singleton]; omega⟩⟩
               ·
                have x1 : (p.f2.toList == [103, 111, 110, 101]) = false := beq_eq_false_iff_ne.2 hpg
                have x2 : (p.f2.toList != [103, 111, 110, 101]) = true := bne_iff_ne.2 hpg
                have x3 : (p.f2.toList = [103, 111, 110, 101]) = False := eq_false hpg
                obtain ⟨q0, q1, q2, q3, q4, q5, q6, q7, q8, q9, q10⟩ := cells11 (show wr.heap[w.heap.size + 1]? = some (.cells #[.int .i64 4, .string ⟨#[]⟩, .string ⟨#[]⟩, .slice Av L.length cv, .string ⟨#[]⟩, .string ⟨#[]⟩, .bool false, .int .i64 0, .int .i64 0, .int .i64 a.f1, .int .i64 b.f1] 52 (0, 0)) from CL.out.1)
                obtain ⟨r0, rf0, r1, rf1, r2, rf2, r3, rf3, r4, rf4, r5, rf5, r6, rf6, r7, rf7, r8, rf8, r9, rf9, r10, rf10⟩ := cells11f (show wr.heap[w.heap.size]? = some (.cells #[.int .i64 0, .string ⟨#[]⟩, .string ⟨#[]⟩, .slice none 0 0, .string ⟨#[]⟩, .string ⟨#[]⟩, .bool false, .int .i64 0, .int .i64 0, .int .i64 0, .int .i64 0] 52 (0, 0)) from CL.out.2.1)
                have hcall : callR (h :: a :: b :: t) = none := by
                 have hs := HS.out
                 rw [HD.out] at hs
                 have he : entsR t = none := by rw [hs]; simp [entsR, hq3, hp3, hp2, hpg]
                 rw [callR, if_pos HM.out, HKD.out]
                 simp [argsR, HG.out, he]
                have HCN := Aside0.mk hcall
                clear hcall
                go_wp2_with (fail)
                have F := fillC w wr ({ zC with f0 := 4, f3 := L, f9 := a.f1, f10 := b.f1 }) (.slice Av L.length cv) CL.out (RL.out)
                refine bodyPost_ret (results_c2 rfl _ _ w.heap.size 52 (callV ({ zC with f0 := 4, f3 := L, f9 := a.f1, f10 := b.f1 }) (.slice Av L.length cv)) (0, 0) _ rfl F.1 hu52 rfl (by kernel_rfl)) rfl ?_
                exact ⟨0, { zC with f0 := 4, f3 := L, f9 := a.f1, f10 := b.f1 }, .slice Av L.length cv, rfl, F.2.2, F.2.1, .inr ⟨rfl, HCN.out⟩⟩
              ·
               have v4 : (p.f0 == 2) = false := beq_eq_false_iff_ne.2 hp2
               have v5 : (p.f0 != 2) = true := bne_iff_ne.2 hp2
               have v6 : (p.f0 = 2) = False := eq_false hp2
               obtain ⟨q0, q1, q2, q3, q4, q5, q6, q7, q8, q9, q10⟩ := cells11 (show wr.heap[w.heap.size + 1]? = some (.cells #[.int .i64 4, .string ⟨#[]⟩, .string ⟨#[]⟩, .slice Av L.length cv, .string ⟨#[]⟩, .string ⟨#[]⟩, .bool false, .int .i64 0, .int .i64 0, .int .i64 a.f1, .int .i64 b.f1] 52 (0, 0)) from CL.out.1)
               obtain ⟨r0, rf0, r1, rf1, r2, rf2, r3, rf3, r4, rf4, r5, rf5, r6, rf6, r7, rf7, r8, rf8, r9, rf9, r10, rf10⟩ := cells11f (show wr.heap[w.heap.size]? = some (.cells #[.int .i64 0, .string ⟨#[]⟩, .string ⟨#[]⟩, .slice none 0 0, .string ⟨#[]⟩, .string ⟨#[]⟩, .bool false, .int .i64 0, .int .i64 0, .int .i64 0, .int .i64 0] 52 (0, 0)) from CL.out.2.1)
               have hcall : callR (h :: a :: b :: t) = none := by
                have hs := HS.out
                rw [HD.out] at hs
                have he : entsR t = none := by rw [hs]; simp [entsR, hq3, hp3, hp2]
                rw [callR, if_pos HM.out, HKD.out]
                simp [argsR, HG.out, he]
               have HCN := Aside0.mk hcall
               clear hcall
               go_wp2_with (fail)
               have F := fillC w wr ({ zC with f0 := 4, f3 := L, f9 := a.f1, f10 := b.f1 }) (.slice Av L.length cv) CL.out (RL.out)
               refine bodyPost_ret (results_c2 rfl _ _ w.heap.size 52 (callV ({ zC with f0 := 4, f3 := L, f9 := a.f1, f10 := b.f1 }) (.slice Av L.length cv)) (0, 0) _ rfl F.1 hu52 rfl (by kernel_rfl)) rfl ?_
               exact ⟨0, { zC with f0 := 4, f3 := L, f9 := a.f1, f10 := b.f1 }, .slice Av L.length cv, rfl, F.2.2, F.2.1, .inr ⟨rfl, HCN.out⟩⟩
            ·
             have u1 : (q.f0 == 3) = false := beq_eq_false_iff_ne.2 hq3
             have u2 : (q.f0 != 3) = true := bne_iff_ne.2 hq3
             have u3 : (q.f0 = 3) = False := eq_false hq3
             obtain ⟨q0, q1, q2, q3, q4, q5, q6, q7, q8, q9, q10⟩ := cells11 (show wr.heap[w.heap.size + 1]? = some (.cells #[.int .i64 4, .string ⟨#[]⟩, .string ⟨#[]⟩, .slice Av L.length cv, .string ⟨#[]⟩, .string ⟨#[]⟩, .bool false, .int .i64 0, .int .i64 0, .int .i64 a.f1, .int .i64 b.f1] 52 (0, 0)) from CL.out.1)
             obtain ⟨r0, rf0, r1, rf1, r2, rf2, r3, rf3, r4, rf4, r5, rf5, r6, rf6, r7, rf7, r8, rf8, r9, rf9, r10, rf10⟩ := cells11f (show wr.heap[w.heap.size]? = some (.cells #[.int .i64 0, .string ⟨#[]⟩, .string ⟨#[]⟩, .slice none 0 0, .string ⟨#[]⟩, .string ⟨#[]⟩, .bool false, .int .i64 0, .int .i64 0, .int .i64 0, .int .i64 0] 52 (0, 0)) from CL.out.2.1)
             have hcall : callR (h :: a :: b :: t) = none := by
              have hs := HS.out
              rw [HD.out] at hs
              have he : entsR t = none := by rw [hs]; simp [entsR, hq3]
              rw [callR, if_pos HM.out, HKD.out]
              simp [argsR, HG.out, he]
             have HCN := Aside0.mk hcall
             clear hcall
             go_wp2_with (fail)
             have F := fillC w wr ({ zC with f0 := 4, f3 := L, f9 := a.f1, f10 := b.f1 }) (.slice Av L.length cv) CL.out (RL.out)
             refine bodyPost_ret (results_c2 rfl _ _ w.heap.size 52 (callV ({ zC with f0 := 4, f3 := L, f9 := a.f1, f10 := b.f1 }) (.slice Av L.length cv)) (0, 0) _ rfl F.1 hu52 rfl (by kernel_rfl)) rfl ?_
             exact ⟨0, { zC with f0 := 4, f3 := L, f9 := a.f1, f10 := b.f1 }, .slice Av L.length cv, rfl, F.2.2, F.2.1, .inr ⟨rfl, HCN.out⟩⟩
   case rest =>
    rename_i hKK
    obtain ⟨g, x, v, rfl, C4, R4, T4, F4⟩ := hcut
    refine hKK _ _ ?_
    clear hKK
    have hcall : callR (h :: r) = argsR kd r := by rw [callR, if_pos HM.out, HKD.out]
    have HCL := Aside0.mk hcall
    clear hcall
    obtain ⟨Av, cv, ev⟩ := Kd.R_slice R4.out
    subst ev
    obtain ⟨q0, q1, q2, q3, q4, q5, q6, q7, q8, q9, q10⟩ := cells11 (show wc.heap[w.heap.size + 1]? = some (.cells #[.int .i64 x.f0, .string x.f1, .string x.f2, .slice Av x.f3.length cv, .string x.f4, .string x.f5, .bool x.f6, .int .i64 x.f7, .int .i64 x.f8, .int .i64 x.f9, .int .i64 x.f10] 52 (0, 0)) from C4.out.1)
    obtain ⟨r0, rf0, r1, rf1, r2, rf2, r3, rf3, r4, rf4, r5, rf5, r6, rf6, r7, rf7, r8, rf8, r9, rf9, r10, rf10⟩ := cells11f (show wc.heap[w.heap.size]? = some (.cells #[.int .i64 0, .string ⟨#[]⟩, .string ⟨#[]⟩, .slice none 0 0, .string ⟨#[]⟩, .string ⟨#[]⟩, .bool false, .int .i64 0, .int .i64 0, .int .i64 0, .int .i64 0] 52 (0, 0)) from C4.out.2.1)
    cases g with
    | false =>
     have FF := Aside0.mk (HCL.out.trans (F4.out rfl))
     clear F4 T4 HCL
     go_wp2_with (fail)
     have F := fillC w wc (x) (.slice Av x.f3.length cv) C4.out (R4.out)
     refine bodyPost_ret (results_c2 rfl _ _ w.heap.size 52 (callV (x) (.slice Av x.f3.length cv)) (0, 0) _ rfl F.1 hu52 rfl (by kernel_rfl)) rfl ?_
     exact ⟨0, x, .slice Av x.f3.length cv, rfl, F.2.2, F.2.1, .inr ⟨rfl, FF.out⟩⟩
    | true =>
     have FF := Aside0.mk (HCL.out.trans (T4.out rfl))
     clear F4 T4 HCL
     go_wp2_with (fail)
     have F := fillC w wc (x) (.slice Av x.f3.length cv) C4.out (R4.out)
     refine bodyPost_ret (results_c2 rfl _ _ w.heap.size 52 (callV (x) (.slice Av x.f3.length cv)) (0, 0) _ rfl F.1 hu52 rfl (by kernel_rfl)) rfl ?_
     exact ⟨1, x, .slice Av x.f3.length cv, rfl, F.2.2, F.2.1, .inl ⟨rfl, FF.out⟩⟩
end Go.Proofs.YtlkbeddlmbghkaaGreatDoor.PR
