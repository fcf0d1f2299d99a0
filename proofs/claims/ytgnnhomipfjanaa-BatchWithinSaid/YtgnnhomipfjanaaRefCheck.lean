/- rundleref08.Find and rundleref09.Check, in the print's own form. -/
import Derived.Test.YtgnnhomipfjanaaRefSorted
namespace Go.Proofs.Ytgnnhomipfjanaa.PA
open Go Go.Proofs Go.RowKit Go.Proofs.YtgnnhomipfjanaaW.PrintWords Go.Proofs.YtgnnhomipfjanaaW.PrintLast Go.Proofs.YtgnnhomipfjanaaW.PrintMore

/-- The place of the first entry of a key from a place on; -1. -/
def findI (k : ByteArray) : List S94 → Nat → Int
  | [], _ => -1
  | x :: t, i => if (x.f0.toList == k.toList) = true then (i : Int) else findI k t (i + 1)
def rundleref08_Find.f (l0 : List (S94)) (a1 : ByteArray) : Option (Int) := if l0.length < 3518437208883 then some (findI a1 l0 0) else none

theorem drop_getD (l : List S94) (i : Nat) (h : i < l.length) : l.drop i = l.getD i z94 :: l.drop (i + 1) := by
  rw [List.drop_eq_getElem_cons h]; simp [h]

set_option maxHeartbeats 4000000 in
theorem rundleref08_Find.calls (A0 : Option Addr) (c0 : Nat) (l0 : List (S94)) (a1 : ByteArray) (r : Int) (w : World) (hr0 : Kd.C k94 w A0 l0.length l0) (_hc0 : l0.length ≤ c0) (h : rundleref08_Find.f l0 a1 = some r) :
    Calls Try.prog 42 #[.slice A0 l0.length c0, .string a1] w fun e w' => e = .returned (.int .i64 r) ∧ Drawn0 w w' := by
  unfold rundleref08_Find.f at h
  by_cases hl : l0.length < 3518437208883
  · rw [if_pos hl] at h
    obtain rfl := Option.some.inj h
    clear h
    have HR0 := Aside0.mk hr0
    have H0 : Hid (findI a1 (l0.drop 0) 0 = findI a1 l0 0) := rfl
    clear hr0
    generalize findI a1 l0 0 = r at H0 ⊢
    go_enter Try.func42, Try.ntmps42
    go_wp2_with fail
    go_loopg [5] l0.length (fun kq v3 w' => ∃ (i : Nat), v3 = .int .i64 i ∧ i ≤ l0.length ∧ l0.length - i ≤ kq ∧ Drawn0 w w' ∧ Hid (findI a1 (l0.drop i) i = r))
    case atStart => exact ⟨0, rfl, by omega, by omega, Drawn0.refl w, H0⟩
    case round =>
      obtain ⟨i, rfl, hi, hk, HD, HE⟩ := hrel
      by_cases hlt : i < l0.length
      · have z1 : (i : Int) < (l0.length : Int) := by omega
        have p1 : (0 : Int) ≤ (i : Int) := by omega
        obtain ⟨ad1, e1, ha0, ha1, ha2⟩ := at_T94 HR0.out i p1 z1
        subst e1
        have hx0 := (HD.below.cell (World.block_lt_of_cell? w _ ha0)).trans ha0
        have ex : rd_T94 l0 (i : Int) = l0.getD i z94 := rfl
        rw [ex, Int.toNat_natCast] at hx0
        clear ha0 ha1 ha2 ex
        have HE2 := HE.out
        rw [drop_getD l0 i hlt, findI] at HE2
        generalize l0.getD i z94 = X at *
        cases hb : X.f0.toList == a1.toList with
        | true =>
          rw [if_pos hb] at HE2
          have HE3 := Lib.hid HE2
          clear HE2 HE
          go_wp2_with fail
          repeat (go_quiet (fail); try go_wp2_with fail)
          go_ret
          exact ⟨by rw [← HE3.out]; rfl, by repeat (first | exact HD | apply Drawn0.step)⟩
        | false =>
          rw [if_neg (by rw [hb]; simp)] at HE2
          have HE3 := Lib.hid HE2
          clear HE2 HE
          go_wp2_with fail
          repeat (go_quiet (fail); try go_wp2_with fail)
          go_roundg (l0.length - (i + 1))
          case measure => omega
          case rel => exact ⟨i + 1, by go_num, by omega, by omega, by repeat (first | exact HD | apply Drawn0.step), HE3⟩
      · have z1 : ¬ (i : Int) < (l0.length : Int) := by omega
        have HE3 : Hid (r = -1) := by
          show _ = _
          rw [← HE.out, List.drop_of_length_le (by omega)]; rfl
        go_wp2
        go_ret
        exact ⟨by rw [HE3.out]; rfl, HD⟩
  · rw [if_neg hl] at h; cases h

theorem find_quiet (A0 : Option Addr) (c0 : Nat) (l0 : List (S94)) (i : Nat) (a1 : ByteArray) (w : World) (hr0 : Kd.C k94 w A0 l0.length l0) (hi : i < l0.length) (hc : i ≤ c0) (hl : l0.length < 3518437208883) :
    Calls Try.prog 42 #[.slice A0 i c0, .string a1] w fun e w' => e = .returned (.int .i64 (findI a1 (l0.take i) 0)) ∧ ∃ m, w' = w.drewN m := by
  have hn : (l0.take i).length = i := by rw [List.length_take]; omega
  have hC := C_take' hr0 (show i ≤ l0.length by omega)
  have C := rundleref08_Find.calls A0 c0 (l0.take i) a1 (findI a1 (l0.take i) 0) w (by rw [hn]; exact hC) (by rw [hn]; exact hc) (by unfold rundleref08_Find.f; rw [if_pos (by omega)])
  rw [hn] at C
  exact C.mono fun _ _ ⟨he, hd⟩ => ⟨he, hd.out⟩

/-- May an entry not be? -/
def badE (x : S94) : Bool := decide (x.f0.size = 0) || decide (1024 < x.f0.size) || decide (65536 < x.f1.size) || (x.f2 && decide (0 < x.f1.size))
/-- The document's check, from a place on. -/
def chkE (l : List S94) : Nat → Int
  | 0 => 0
  | n + 1 => if badE (l.getD (l.length - (n + 1)) z94) = true then 1 else if 0 ≤ findI (l.getD (l.length - (n + 1)) z94).f0 (l.take (l.length - (n + 1))) 0 then 1 else chkE l n
def refCheckE (l : List S94) : Int := if l.length = 0 ∨ 4096 < l.length then 1 else chkE l l.length
def rundleref09_Check.f (l0 : List (S94)) : Option (Int) := if l0.length < 3518437208883 then some (refCheckE l0) else none

set_option maxHeartbeats 8000000 in
set_option maxRecDepth 100000 in
theorem rundleref09_Check.calls (A0 : Option Addr) (c0 : Nat) (l0 : List (S94)) (r : Int) (w : World) (hr0 : Kd.C k94 w A0 l0.length l0) (hc0 : l0.length ≤ c0) (h : rundleref09_Check.f l0 = some r) :
    Calls Try.prog 16 #[.slice A0 l0.length c0] w fun e w' => e = .returned (.int .i64 r) ∧ Below w.heap.size w w' := by
  unfold rundleref09_Check.f at h
  by_cases hl : l0.length < 3518437208883
  · rw [if_pos hl] at h
    obtain rfl := Option.some.inj h
    clear h
    have HB := Aside0.mk (Below.refl w.heap.size w)
    by_cases h1 : l0.length = 0
    · have HE : Hid (refCheckE l0 = 1) := by show _ = _; rw [refCheckE, if_pos (Or.inl h1)]
      generalize refCheckE l0 = r at HE ⊢
      have z1 : ((l0.length : Int) == 0) = true := by rw [beq_iff_eq]; omega
      clear hr0 h1
      go_enter Try.func16, Try.ntmps16
      go_wp2
      go_ret
      exact ⟨by rw [HE.out]; rfl, HB.out⟩
    · have z1 : ((l0.length : Int) == 0) = false := by rw [beq_eq_false_iff_ne]; omega
      have z1' : (l0.length == 0) = false := by rw [beq_eq_false_iff_ne]; omega
      by_cases h2 : 4096 < l0.length
      · have HE : Hid (refCheckE l0 = 1) := by show _ = _; rw [refCheckE, if_pos (Or.inr h2)]
        generalize refCheckE l0 = r at HE ⊢
        have z2 : (4096 : Int) < (l0.length : Int) := by omega
        clear hr0 h1
        go_enter Try.func16, Try.ntmps16
        go_wp2
        go_ret
        exact ⟨by rw [HE.out]; rfl, HB.out⟩
      · have HE : Hid (chkE l0 (l0.length - 0) = refCheckE l0) := by show _ = _; rw [refCheckE, if_neg (by omega)]; rfl
        generalize refCheckE l0 = r at HE ⊢
        have z2 : ¬ (4096 : Int) < (l0.length : Int) := by omega
        have HR0 := Aside0.mk hr0
        have HC0 := Aside0.mk hc0
        clear hr0 hc0 h1
        go_enter Try.func16, Try.ntmps16
        go_wp2_with fail
        go_loopg [3, 4] l0.length (fun kq v3 _ w' => ∃ (i : Nat), v3 = .int .i64 i ∧ i ≤ l0.length ∧ l0.length - i ≤ kq ∧ Aside0 (Below w.heap.size w w') ∧ Hid (chkE l0 (l0.length - i) = r))
        case atStart => exact ⟨0, rfl, by omega, by omega, HB, HE⟩
        case round =>
          clear HE HB
          obtain ⟨i, rfl, hi, hk, HB, HE⟩ := hrel
          by_cases hlt : i < l0.length
          · have z3 : (i : Int) < (l0.length : Int) := by omega
            have p1 : (0 : Int) ≤ (i : Int) := by omega
            obtain ⟨ad1, e1, ha0, ha1, ha2⟩ := at_T94 HR0.out i p1 z3
            subst e1
            have hx0 := (HB.out.cell (World.block_lt_of_cell? w _ ha0)).trans ha0
            have hx1 := (HB.out.cell (World.block_lt_of_cell? w _ ha1)).trans ha1
            have hx2 := (HB.out.cell (World.block_lt_of_cell? w _ ha2)).trans ha2
            have ex : rd_T94 l0 (i : Int) = l0.getD i z94 := rfl
            rw [ex, Int.toNat_natCast] at hx0 hx1 hx2
            clear ha0 ha1 ha2 ex
            have hn0 := World.new_ne wr _ hx0
            have hn1 := World.new_ne wr _ hx1
            have hn2 := World.new_ne wr _ hx2
            have HE2 := HE.out
            rw [show l0.length - i = (l0.length - (i + 1)) + 1 from by omega, chkE, show l0.length - (l0.length - (i + 1) + 1) = i from by omega] at HE2
            generalize l0.getD i z94 = X at *
            have HBT : ∀ {W : World}, Below wr.heap.size wr W → Below w.heap.size w W := fun h => below_then HB.out HB.out.size h
            have HBA := Aside0.mk (@HBT)
            clear HBT HE
            have bad : badE X = true → Hid (r = 1) := fun hb => by
              show _ = _
              rw [← HE2, if_pos hb]
            by_cases c1 : X.f0.size = 0
            · have HE2 := bad (by simp [badE, c1])
              have t1 : ((X.f0.size : Int) == 0) = true := by rw [beq_iff_eq]; omega
              clear bad c1
              go_wp2_with fail
              go_ret
              exact ⟨by rw [HE2.out]; rfl, HBA.out (by repeat (first | exact Below.refl _ _ | apply below_alloc))⟩
            have t1 : ((X.f0.size : Int) == 0) = false := by rw [beq_eq_false_iff_ne]; omega
            by_cases c2 : 1024 < X.f0.size
            · have HE2 := bad (by simp [badE, c2])
              have t2 : (1024 : Int) < (X.f0.size : Int) := by omega
              clear bad c1
              go_wp2_with fail
              go_ret
              exact ⟨by rw [HE2.out]; rfl, HBA.out (by repeat (first | exact Below.refl _ _ | apply below_alloc))⟩
            have t2 : ¬ (1024 : Int) < (X.f0.size : Int) := by omega
            by_cases c3 : 65536 < X.f1.size
            · have HE2 := bad (by simp [badE, c3])
              have t3 : (65536 : Int) < (X.f1.size : Int) := by omega
              clear bad c1
              go_wp2_with fail
              go_ret
              exact ⟨by rw [HE2.out]; rfl, HBA.out (by repeat (first | exact Below.refl _ _ | apply below_alloc))⟩
            have t3 : ¬ (65536 : Int) < (X.f1.size : Int) := by omega
            have ok4 : ∀ b : Bool, X.f2 = b → (b = true → ¬ 0 < X.f1.size) → (if 0 ≤ findI X.f0 (l0.take i) 0 then 1 else chkE l0 (l0.length - (i + 1))) = r := fun b hb hz => by
              rw [if_neg] at HE2
              · exact HE2
              · have e : badE X = false := by
                  unfold badE
                  rw [hb, decide_eq_false c1, decide_eq_false c2, decide_eq_false c3]
                  cases b with
                  | false => rfl
                  | true => rw [decide_eq_false (hz rfl)]; rfl
                rw [e]; simp
            obtain ⟨b2, hb2⟩ : ∃ b, b = X.f2 := ⟨_, rfl⟩
            rw [← hb2] at hx2
            cases b2 with
            | false =>
              have H4 := Lib.hid (ok4 false hb2.symm (by simp))
              have hic : i ≤ c0 := by have := HC0.out; omega
              have hC1 := Kd.C_below (Kd.C_below HR0.out HB.out) (below_alloc (Below.refl wr.heap.size wr) (.cells #[.string X.f0, .string X.f1, .bool false] 94))
              have hF := fun n => find_quiet (some ad1) c0 l0 i X.f0 _ (Kd.C_below hC1 (pw_below_drewN (Below.refl _ _) n)) hlt hic hl
              have hlm := hl
              clear bad ok4 c1 hb2 HE2 hC1
              cases hd : decide (0 ≤ findI X.f0 (l0.take i) 0) with
              | true =>
                have h4 := of_decide_eq_true hd
                have H5 : Hid (r = 1) := by show _ = _; rw [← H4.out, if_pos h4]
                generalize findI X.f0 (l0.take i) 0 = q at *
                clear hd
                go_wp2_with fail
                go_quiet ((go_at_call 42; exact Calls.quiet_of (hF _)))
                go_wp2_with fail
                go_ret
                exact ⟨by rw [H5.out]; rfl, HBA.out (by repeat (first | exact Below.refl _ _ | apply below_alloc | apply pw_below_drewN))⟩
              | false =>
                have h4 := of_decide_eq_false hd
                have H5 : Hid (chkE l0 (l0.length - (i + 1)) = r) := by show _ = _; rw [← H4.out, if_neg h4]
                generalize findI X.f0 (l0.take i) 0 = q at *
                clear hd
                go_wp2_with fail
                go_quiet ((go_at_call 42; exact Calls.quiet_of (hF _)))
                go_wp2_with fail
                go_roundg (l0.length - (i + 1))
                case measure => omega
                case rel => exact ⟨i + 1, by go_num, by omega, by omega, ⟨HBA.out (by repeat (first | exact Below.refl _ _ | apply below_alloc | apply pw_below_drewN))⟩, H5⟩
            | true =>
              by_cases c4 : 0 < X.f1.size
              · have HE2 := bad (by unfold badE; rw [← hb2, decide_eq_true c4]; exact Bool.or_true _)
                have t4 : (0 : Int) < (X.f1.size : Int) := by omega
                clear bad c1 ok4 hb2
                go_wp2_with fail
                go_ret
                exact ⟨by rw [HE2.out]; rfl, HBA.out (by repeat (first | exact Below.refl _ _ | apply below_alloc))⟩
              · have t4 : ¬ (0 : Int) < (X.f1.size : Int) := by omega
                have H4 := Lib.hid (ok4 true hb2.symm (fun _ => c4))
                clear c4
                have hic : i ≤ c0 := by have := HC0.out; omega
                have hC1 := Kd.C_below (Kd.C_below HR0.out HB.out) (below_alloc (Below.refl wr.heap.size wr) (.cells #[.string X.f0, .string X.f1, .bool true] 94))
                have hF := fun n => find_quiet (some ad1) c0 l0 i X.f0 _ (Kd.C_below hC1 (pw_below_drewN (Below.refl _ _) n)) hlt hic hl
                have hlm := hl
                clear bad ok4 c1 hb2 HE2 hC1
                cases hd : decide (0 ≤ findI X.f0 (l0.take i) 0) with
                | true =>
                  have h4 := of_decide_eq_true hd
                  have H5 : Hid (r = 1) := by show _ = _; rw [← H4.out, if_pos h4]
                  generalize findI X.f0 (l0.take i) 0 = q at *
                  clear hd
                  go_wp2_with fail
                  go_quiet ((go_at_call 42; exact Calls.quiet_of (hF _)))
                  go_wp2_with fail
                  go_ret
                  exact ⟨by rw [H5.out]; rfl, HBA.out (by repeat (first | exact Below.refl _ _ | apply below_alloc | apply pw_below_drewN))⟩
                | false =>
                  have h4 := of_decide_eq_false hd
                  have H5 : Hid (chkE l0 (l0.length - (i + 1)) = r) := by show _ = _; rw [← H4.out, if_neg h4]
                  generalize findI X.f0 (l0.take i) 0 = q at *
                  clear hd
                  go_wp2_with fail
                  go_quiet ((go_at_call 42; exact Calls.quiet_of (hF _)))
                  go_wp2_with fail
                  go_roundg (l0.length - (i + 1))
                  case measure => omega
                  case rel => exact ⟨i + 1, by go_num, by omega, by omega, ⟨HBA.out (by repeat (first | exact Below.refl _ _ | apply below_alloc | apply pw_below_drewN))⟩, H5⟩
          · have z3 : ¬ (i : Int) < (l0.length : Int) := by omega
            have HE3 : Hid (r = 0) := by
              show _ = _
              rw [← HE.out, show l0.length - i = 0 from by omega]; rfl
            go_wp2
            go_ret
            exact ⟨by rw [HE3.out]; rfl, HB.out⟩
  · rw [if_neg hl] at h; cases h
end Go.Proofs.Ytgnnhomipfjanaa.PA
