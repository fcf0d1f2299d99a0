/- Functions with the same answers as the Go functions named, and that the Go code comes to just these; written by a program of this work, out of the kit's print. -/
import Derived.Test.YtlkbeddlmbghkaaGreatDoorPRx0
import Derived.Test.YtlkbeddlmbghkaaGreatDoorPRx6
namespace Go.Proofs.YtlkbeddlmbghkaaGreatDoor.PR
open Go.RowKit Go.Proofs.YtlkbeddlmbghkaaGreatDoorW.PrintWords Go.Proofs.YtlkbeddlmbghkaaGreatDoorW.PrintLast Go.Proofs.YtlkbeddlmbghkaaGreatDoorW.PrintMore
attribute [local go_sem] Wd.one Wd.run_store Go.Lib.run_max_strs max2_int min2_int max_two min_two max_three min_three max_four min_four   -- for this text's walks alone
set_option linter.unusedVariables false
set_option linter.unusedSimpArgs false

/-! ### rundleref01_Width: function 62 -/
mutual
def rundleref01_Width.j0 : Nat → ByteArray → Int → Bool → Option (Int)
  | 0, _, _, _ => none
  | k + 1, x0, x1, x18 => if x18 = true then (some 2) else ((rundleref01_in.f x0 x1 224 224).bind fun t160 => (if t160 = true then ((rundleref01_in.f x0 (wrap64 (x1 + 1)) 160 191).bind fun t161 => (if t161 = true then (rundleref01_Width.j1 k x0 x1 true) else ((rundleref01_in.f x0 x1 225 236).bind fun t162 => (if t162 = true then ((rundleref01_in.f x0 (wrap64 (x1 + 1)) 128 191).bind fun t163 => (if t163 = true then (rundleref01_Width.j1 k x0 x1 true) else ((rundleref01_in.f x0 x1 237 237).bind fun t164 => (if t164 = true then ((rundleref01_in.f x0 (wrap64 (x1 + 1)) 128 159).bind fun t165 => (if t165 = true then (rundleref01_Width.j1 k x0 x1 true) else ((rundleref01_in.f x0 x1 238 239).bind fun t166 => (if t166 = true then ((rundleref01_in.f x0 (wrap64 (x1 + 1)) 128 191).bind fun t167 => (rundleref01_Width.j1 k x0 x1 t167)) else (rundleref01_Width.j1 k x0 x1 false))))) else ((rundleref01_in.f x0 x1 238 239).bind fun t168 => (if t168 = true then ((rundleref01_in.f x0 (wrap64 (x1 + 1)) 128 191).bind fun t169 => (rundleref01_Width.j1 k x0 x1 t169)) else (rundleref01_Width.j1 k x0 x1 false))))))) else ((rundleref01_in.f x0 x1 237 237).bind fun t170 => (if t170 = true then ((rundleref01_in.f x0 (wrap64 (x1 + 1)) 128 159).bind fun t171 => (if t171 = true then (rundleref01_Width.j1 k x0 x1 true) else ((rundleref01_in.f x0 x1 238 239).bind fun t172 => (if t172 = true then ((rundleref01_in.f x0 (wrap64 (x1 + 1)) 128 191).bind fun t173 => (rundleref01_Width.j1 k x0 x1 t173)) else (rundleref01_Width.j1 k x0 x1 false))))) else ((rundleref01_in.f x0 x1 238 239).bind fun t174 => (if t174 = true then ((rundleref01_in.f x0 (wrap64 (x1 + 1)) 128 191).bind fun t175 => (rundleref01_Width.j1 k x0 x1 t175)) else (rundleref01_Width.j1 k x0 x1 false))))))))) else ((rundleref01_in.f x0 x1 225 236).bind fun t176 => (if t176 = true then ((rundleref01_in.f x0 (wrap64 (x1 + 1)) 128 191).bind fun t177 => (if t177 = true then (rundleref01_Width.j1 k x0 x1 true) else ((rundleref01_in.f x0 x1 237 237).bind fun t178 => (if t178 = true then ((rundleref01_in.f x0 (wrap64 (x1 + 1)) 128 159).bind fun t179 => (if t179 = true then (rundleref01_Width.j1 k x0 x1 true) else ((rundleref01_in.f x0 x1 238 239).bind fun t180 => (if t180 = true then ((rundleref01_in.f x0 (wrap64 (x1 + 1)) 128 191).bind fun t181 => (rundleref01_Width.j1 k x0 x1 t181)) else (rundleref01_Width.j1 k x0 x1 false))))) else ((rundleref01_in.f x0 x1 238 239).bind fun t182 => (if t182 = true then ((rundleref01_in.f x0 (wrap64 (x1 + 1)) 128 191).bind fun t183 => (rundleref01_Width.j1 k x0 x1 t183)) else (rundleref01_Width.j1 k x0 x1 false))))))) else ((rundleref01_in.f x0 x1 237 237).bind fun t184 => (if t184 = true then ((rundleref01_in.f x0 (wrap64 (x1 + 1)) 128 159).bind fun t185 => (if t185 = true then (rundleref01_Width.j1 k x0 x1 true) else ((rundleref01_in.f x0 x1 238 239).bind fun t186 => (if t186 = true then ((rundleref01_in.f x0 (wrap64 (x1 + 1)) 128 191).bind fun t187 => (rundleref01_Width.j1 k x0 x1 t187)) else (rundleref01_Width.j1 k x0 x1 false))))) else ((rundleref01_in.f x0 x1 238 239).bind fun t188 => (if t188 = true then ((rundleref01_in.f x0 (wrap64 (x1 + 1)) 128 191).bind fun t189 => (rundleref01_Width.j1 k x0 x1 t189)) else (rundleref01_Width.j1 k x0 x1 false)))))))))
def rundleref01_Width.j1 : Nat → ByteArray → Int → Bool → Option (Int)
  | 0, _, _, _ => none
  | k + 1, x0, x1, x5 => if x5 = true then ((rundleref01_in.f x0 (wrap64 (x1 + 2)) 128 191).bind fun t190 => (rundleref01_Width.j2 k x0 x1 t190)) else (rundleref01_Width.j2 k x0 x1 false)
def rundleref01_Width.j2 : Nat → ByteArray → Int → Bool → Option (Int)
  | 0, _, _, _ => none
  | k + 1, x0, x1, x67 => if x67 = true then (some 3) else ((rundleref01_in.f x0 x1 240 240).bind fun t191 => (if t191 = true then ((rundleref01_in.f x0 (wrap64 (x1 + 1)) 144 191).bind fun t192 => (if t192 = true then (rundleref01_Width.j3 k x0 x1 true) else ((rundleref01_in.f x0 x1 241 243).bind fun t193 => (if t193 = true then ((rundleref01_in.f x0 (wrap64 (x1 + 1)) 128 191).bind fun t194 => (if t194 = true then (rundleref01_Width.j3 k x0 x1 true) else ((rundleref01_in.f x0 x1 244 244).bind fun t195 => (if t195 = true then ((rundleref01_in.f x0 (wrap64 (x1 + 1)) 128 143).bind fun t196 => (rundleref01_Width.j3 k x0 x1 t196)) else (rundleref01_Width.j3 k x0 x1 false))))) else ((rundleref01_in.f x0 x1 244 244).bind fun t197 => (if t197 = true then ((rundleref01_in.f x0 (wrap64 (x1 + 1)) 128 143).bind fun t198 => (rundleref01_Width.j3 k x0 x1 t198)) else (rundleref01_Width.j3 k x0 x1 false))))))) else ((rundleref01_in.f x0 x1 241 243).bind fun t199 => (if t199 = true then ((rundleref01_in.f x0 (wrap64 (x1 + 1)) 128 191).bind fun t200 => (if t200 = true then (rundleref01_Width.j3 k x0 x1 true) else ((rundleref01_in.f x0 x1 244 244).bind fun t201 => (if t201 = true then ((rundleref01_in.f x0 (wrap64 (x1 + 1)) 128 143).bind fun t202 => (rundleref01_Width.j3 k x0 x1 t202)) else (rundleref01_Width.j3 k x0 x1 false))))) else ((rundleref01_in.f x0 x1 244 244).bind fun t203 => (if t203 = true then ((rundleref01_in.f x0 (wrap64 (x1 + 1)) 128 143).bind fun t204 => (rundleref01_Width.j3 k x0 x1 t204)) else (rundleref01_Width.j3 k x0 x1 false)))))))
def rundleref01_Width.j3 : Nat → ByteArray → Int → Bool → Option (Int)
  | 0, _, _, _ => none
  | k + 1, x0, x1, x6 => if x6 = true then ((rundleref01_in.f x0 (wrap64 (x1 + 2)) 128 191).bind fun t205 => (if t205 = true then ((rundleref01_in.f x0 (wrap64 (x1 + 3)) 128 191).bind fun t206 => (if t206 = true then (some 4) else (some 0))) else (some 0))) else (some 0)
end
def rundleref01_Width.f (k : Nat) (a0 : ByteArray) (a1 : Int) : Option (Int) := (rundleref01_in.f a0 a1 0 127).bind fun t157 => (if t157 = true then (some 1) else ((rundleref01_in.f a0 a1 194 223).bind fun t158 => (if t158 = true then ((rundleref01_in.f a0 (wrap64 (a1 + 1)) 128 191).bind fun t159 => (rundleref01_Width.j0 k a0 a1 t159)) else (rundleref01_Width.j0 k a0 a1 false))))
theorem rundleref01_Width.mono_l : ∀ k, (∀ y0 y1 y2, LeO (rundleref01_Width.j0 k y0 y1 y2) (rundleref01_Width.j0 (k + 1) y0 y1 y2)) ∧ (∀ y0 y1 y2, LeO (rundleref01_Width.j1 k y0 y1 y2) (rundleref01_Width.j1 (k + 1) y0 y1 y2)) ∧ (∀ y0 y1 y2, LeO (rundleref01_Width.j2 k y0 y1 y2) (rundleref01_Width.j2 (k + 1) y0 y1 y2)) ∧ (∀ y0 y1 y2, LeO (rundleref01_Width.j3 k y0 y1 y2) (rundleref01_Width.j3 (k + 1) y0 y1 y2))
  | 0 => ⟨fun _ _ _ r h => by simp [rundleref01_Width.j0] at h, fun _ _ _ r h => by simp [rundleref01_Width.j1] at h, fun _ _ _ r h => by simp [rundleref01_Width.j2] at h, fun _ _ _ r h => by simp [rundleref01_Width.j3] at h⟩
  | k + 1 => by
    obtain ⟨ih0, ih1, ih2, ih3⟩ := rundleref01_Width.mono_l k
    refine ⟨?_, ?_, ?_, ?_⟩
    · intro y0 y1 y2
      unfold rundleref01_Width.j0
      repeat' first
      | (with_reducible exact ih0 _ _ _)
      | (with_reducible exact ih1 _ _ _)
      | (with_reducible exact ih2 _ _ _)
      | (with_reducible exact ih3 _ _ _)
      | (with_reducible exact LeO.refl _)
      | (with_reducible exact LeO.none _)
      | (with_reducible refine LeO.ite ?_ ?_)
      | (with_reducible refine LeO.bind ?_ (fun _ => ?_))
      | exact ih0 _ _ _
      | exact ih1 _ _ _
      | exact ih2 _ _ _
      | exact ih3 _ _ _
      | exact LeO.none _
      | refine LeO.ite ?_ ?_
      | refine LeO.bind ?_ (fun _ => ?_)
    · intro y0 y1 y2
      unfold rundleref01_Width.j1
      repeat' first
      | (with_reducible exact ih0 _ _ _)
      | (with_reducible exact ih1 _ _ _)
      | (with_reducible exact ih2 _ _ _)
      | (with_reducible exact ih3 _ _ _)
      | (with_reducible exact LeO.refl _)
      | (with_reducible exact LeO.none _)
      | (with_reducible refine LeO.ite ?_ ?_)
      | (with_reducible refine LeO.bind ?_ (fun _ => ?_))
      | exact ih0 _ _ _
      | exact ih1 _ _ _
      | exact ih2 _ _ _
      | exact ih3 _ _ _
      | exact LeO.none _
      | refine LeO.ite ?_ ?_
      | refine LeO.bind ?_ (fun _ => ?_)
    · intro y0 y1 y2
      unfold rundleref01_Width.j2
      repeat' first
      | (with_reducible exact ih0 _ _ _)
      | (with_reducible exact ih1 _ _ _)
      | (with_reducible exact ih2 _ _ _)
      | (with_reducible exact ih3 _ _ _)
      | (with_reducible exact LeO.refl _)
      | (with_reducible exact LeO.none _)
      | (with_reducible refine LeO.ite ?_ ?_)
      | (with_reducible refine LeO.bind ?_ (fun _ => ?_))
      | exact ih0 _ _ _
      | exact ih1 _ _ _
      | exact ih2 _ _ _
      | exact ih3 _ _ _
      | exact LeO.none _
      | refine LeO.ite ?_ ?_
      | refine LeO.bind ?_ (fun _ => ?_)
    · intro y0 y1 y2
      unfold rundleref01_Width.j3
      repeat' first
      | (with_reducible exact ih0 _ _ _)
      | (with_reducible exact ih1 _ _ _)
      | (with_reducible exact ih2 _ _ _)
      | (with_reducible exact ih3 _ _ _)
      | (with_reducible exact LeO.refl _)
      | (with_reducible exact LeO.none _)
      | (with_reducible refine LeO.ite ?_ ?_)
      | (with_reducible refine LeO.bind ?_ (fun _ => ?_))
      | exact ih0 _ _ _
      | exact ih1 _ _ _
      | exact ih2 _ _ _
      | exact ih3 _ _ _
      | exact LeO.none _
      | refine LeO.ite ?_ ?_
      | refine LeO.bind ?_ (fun _ => ?_)
theorem rundleref01_Width.mono : ∀ a0 a1 k, LeO (rundleref01_Width.f k a0 a1) (rundleref01_Width.f (k + 1) a0 a1) := by
  intro a0 a1 k
  obtain ⟨ih0, ih1, ih2, ih3⟩ := rundleref01_Width.mono_l k
  unfold rundleref01_Width.f
  repeat' first
      | (with_reducible exact ih0 _ _ _)
      | (with_reducible exact ih1 _ _ _)
      | (with_reducible exact ih2 _ _ _)
      | (with_reducible exact ih3 _ _ _)
      | (with_reducible exact LeO.refl _)
      | (with_reducible exact LeO.none _)
      | (with_reducible refine LeO.ite ?_ ?_)
      | (with_reducible refine LeO.bind ?_ (fun _ => ?_))
      | exact ih0 _ _ _
      | exact ih1 _ _ _
      | exact ih2 _ _ _
      | exact ih3 _ _ _
      | exact LeO.none _
      | refine LeO.ite ?_ ?_
      | refine LeO.bind ?_ (fun _ => ?_)
set_option maxHeartbeats 8000000 in
set_option maxRecDepth 100000 in
theorem rundleref01_Width.calls (k : Nat) (a0 : ByteArray) (a1 : Int) (r : Int) (w : World) (h : rundleref01_Width.f k a0 a1 = some r) :
    Calls Tryz.prog 62 #[.string a0, .int .i64 a1] w fun e w' => e = .returned (.int .i64 r) ∧ Drawn0 w w' := by
  have H : ((rundleref01_in.f a0 a1 0 127).bind fun t157 => (if t157 = true then (some 1) else ((rundleref01_in.f a0 a1 194 223).bind fun t158 => (if t158 = true then ((rundleref01_in.f a0 (wrap64 (a1 + 1)) 128 191).bind fun t159 => (rundleref01_Width.j0 k a0 a1 t159)) else (rundleref01_Width.j0 k a0 a1 false))))) = some r := h
  clear h
  replace H := Option.bind_eq_some_iff.mp H
  obtain ⟨t157, A30, H⟩ := H
  replace H : (if t157 = true then (some 1) else ((rundleref01_in.f a0 a1 194 223).bind fun t158 => (if t158 = true then ((rundleref01_in.f a0 (wrap64 (a1 + 1)) 128 191).bind fun t159 => (rundleref01_Width.j0 k a0 a1 t159)) else (rundleref01_Width.j0 k a0 a1 false)))) = some r := H
  have A3 := Aside0.mk A30
  clear A30
  by_cases c4 : t157 = true
  · subst c4
    have H1 : (some 1) = some r := by rw [if_pos rfl] at H; exact H
    clear H
    have H := H1
    clear H1
    obtain rfl := Option.some.inj H
    go_enter Tryz.func62, Tryz.ntmps62
    go_wp2_with (first | ((with_reducible refine gate_callee (f := 80) rfl ?_); refine goesL_ (some 9) rfl rfl Tryz.func80 (by kernel_rfl) rfl #[.string a0, .int .i64 a1, .int .u8 0, .int .u8 127] rfl (by (try simp only [List.map_toArray, List.map_cons, List.map_nil]); first | done | rfl | (simp only [List.length_drop, List.length_take]; rfl)) ?_; (with_reducible refine (rundleref01_in.calls a0 a1 0 127 true _ A3.out).mono ?_); rintro e w' ⟨rfl, ⟨nd, rfl⟩⟩; refine ⟨_, rfl, ?_⟩))
    go_ret
    exact ⟨by first | rfl | (simp; done) | (simp [*]; done), by repeat (first | exact Drawn0.refl _ | apply Drawn0.step)⟩
  · replace c4 := Bool.eq_false_iff.mpr c4
    subst c4
    have H1 : ((rundleref01_in.f a0 a1 194 223).bind fun t158 => (if t158 = true then ((rundleref01_in.f a0 (wrap64 (a1 + 1)) 128 191).bind fun t159 => (rundleref01_Width.j0 k a0 a1 t159)) else (rundleref01_Width.j0 k a0 a1 false))) = some r := by rw [if_neg (show ¬ (false = true) by decide)] at H; exact H
    clear H
    have H := H1
    clear H1
    have HC5 := Aside0.mk H
    clear H
    go_enter Tryz.func62, Tryz.ntmps62
    go_upto_region 3 with (first | ((with_reducible refine gate_callee (f := 80) rfl ?_); refine goesL_ (some 9) rfl rfl Tryz.func80 (by kernel_rfl) rfl #[.string a0, .int .i64 a1, .int .u8 0, .int .u8 127] rfl (by (try simp only [List.map_toArray, List.map_cons, List.map_nil]); first | done | rfl | (simp only [List.length_drop, List.length_take]; rfl)) ?_; (with_reducible refine (rundleref01_in.calls a0 a1 0 127 false _ A3.out).mono ?_); rintro e w' ⟨rfl, ⟨nd, rfl⟩⟩; refine ⟨_, rfl, ?_⟩))
    (try simp only [Act.put, List.setIfInBounds_toArray, List.set_cons_zero, List.set_cons_succ])
    go_cut [18] (fun v18 wc => ∃ (kq : Nat) (x18_4 : Bool), v18 = .bool x18_4 ∧ Aside0 (rundleref01_Width.j0 kq a0 a1 x18_4 = some r) ∧ Aside0 (kq ≤ k) ∧ Drawn0 w wc)
    case first =>
      have H := HC5.out
      clear HC5
      replace H := Option.bind_eq_some_iff.mp H
      obtain ⟨t158, A60, H⟩ := H
      replace H : (if t158 = true then ((rundleref01_in.f a0 (wrap64 (a1 + 1)) 128 191).bind fun t159 => (rundleref01_Width.j0 k a0 a1 t159)) else (rundleref01_Width.j0 k a0 a1 false)) = some r := H
      have A6 := Aside0.mk A60
      clear A60
      by_cases c7 : t158 = true
      · subst c7
        have H1 : ((rundleref01_in.f a0 (wrap64 (a1 + 1)) 128 191).bind fun t159 => (rundleref01_Width.j0 k a0 a1 t159)) = some r := by rw [if_pos rfl] at H; exact H
        clear H
        have H := H1
        clear H1
        replace H := Option.bind_eq_some_iff.mp H
        obtain ⟨t159, A80, H⟩ := H
        replace H : (rundleref01_Width.j0 k a0 a1 t159) = some r := H
        have A8 := Aside0.mk A80
        clear A80
        have H' := Aside0.mk H
        clear H
        go_wp2_with (first | ((with_reducible refine gate_callee (f := 80) rfl ?_); refine goesL_ (some 12) rfl rfl Tryz.func80 (by kernel_rfl) rfl #[.string a0, .int .i64 a1, .int .u8 194, .int .u8 223] rfl (by (try simp only [List.map_toArray, List.map_cons, List.map_nil]); first | done | rfl | (simp only [List.length_drop, List.length_take]; rfl)) ?_; (with_reducible refine (rundleref01_in.calls a0 a1 194 223 true _ A6.out).mono ?_); rintro e w' ⟨rfl, ⟨nd, rfl⟩⟩; refine ⟨_, rfl, ?_⟩) | (go_at_call 80; (with_reducible refine (rundleref01_in.calls a0 (wrap64 (a1 + 1)) 128 191 t159 _ A8.out).mono ?_); rintro e w' ⟨rfl, ⟨nd, rfl⟩⟩))
        go_meet
        case rel => exact ⟨_, (t159), (by first | rfl | (simp; done) | (simp [*]; done) | (simp; first | exact Option.some.inj (A8.out.symm.trans A17.out) | exact Option.some.inj (A8.out.symm.trans A41.out))), H', ⟨by first | omega | exact Nat.le_refl _⟩, by repeat (first | exact Drawn0.refl _ | apply Drawn0.step)⟩
      · replace c7 := Bool.eq_false_iff.mpr c7
        subst c7
        have H1 : (rundleref01_Width.j0 k a0 a1 false) = some r := by rw [if_neg (show ¬ (false = true) by decide)] at H; exact H
        clear H
        have H := H1
        clear H1
        have H' := Aside0.mk H
        clear H
        go_wp2_with (first | ((with_reducible refine gate_callee (f := 80) rfl ?_); refine goesL_ (some 12) rfl rfl Tryz.func80 (by kernel_rfl) rfl #[.string a0, .int .i64 a1, .int .u8 194, .int .u8 223] rfl (by (try simp only [List.map_toArray, List.map_cons, List.map_nil]); first | done | rfl | (simp only [List.length_drop, List.length_take]; rfl)) ?_; (with_reducible refine (rundleref01_in.calls a0 a1 194 223 false _ A6.out).mono ?_); rintro e w' ⟨rfl, ⟨nd, rfl⟩⟩; refine ⟨_, rfl, ?_⟩))
        go_meet
        case rel => exact ⟨_, (false), (by first | rfl | (simp; done) | (simp [*]; done)), H', ⟨by first | omega | exact Nat.le_refl _⟩, by repeat (first | exact Drawn0.refl _ | apply Drawn0.step)⟩
    case rest =>
      clear HC5
      try clear p2
      try clear c4
      try clear c6
      try clear p6
      try clear c7
      try clear c8
      obtain ⟨kq, x18_4, rfl, HA, HJ4, ⟨mc4, rfl⟩⟩ := hcut
      cases kq with
      | zero => exact absurd HA.out (by simp [rundleref01_Width.j0])
      | succ kj4 =>
        have H := HA.out
        clear HA
        simp only [rundleref01_Width.j0] at H
        by_cases c9 : x18_4 = true
        · subst c9
          have H1 : (some 2) = some r := by rw [if_pos rfl] at H; exact H
          clear H
          have H := H1
          clear H1
          obtain rfl := Option.some.inj H
          go_wp2
          go_ret
          exact ⟨by first | rfl | (simp; done) | (simp [*]; done), by repeat (first | exact Drawn0.refl _ | apply Drawn0.step)⟩
        · replace c9 := Bool.eq_false_iff.mpr c9
          subst c9
          have H1 : ((rundleref01_in.f a0 a1 224 224).bind fun t160 => (if t160 = true then ((rundleref01_in.f a0 (wrap64 (a1 + 1)) 160 191).bind fun t161 => (if t161 = true then (rundleref01_Width.j1 kj4 a0 a1 true) else ((rundleref01_in.f a0 a1 225 236).bind fun t162 => (if t162 = true then ((rundleref01_in.f a0 (wrap64 (a1 + 1)) 128 191).bind fun t163 => (if t163 = true then (rundleref01_Width.j1 kj4 a0 a1 true) else ((rundleref01_in.f a0 a1 237 237).bind fun t164 => (if t164 = true then ((rundleref01_in.f a0 (wrap64 (a1 + 1)) 128 159).bind fun t165 => (if t165 = true then (rundleref01_Width.j1 kj4 a0 a1 true) else ((rundleref01_in.f a0 a1 238 239).bind fun t166 => (if t166 = true then ((rundleref01_in.f a0 (wrap64 (a1 + 1)) 128 191).bind fun t167 => (rundleref01_Width.j1 kj4 a0 a1 t167)) else (rundleref01_Width.j1 kj4 a0 a1 false))))) else ((rundleref01_in.f a0 a1 238 239).bind fun t168 => (if t168 = true then ((rundleref01_in.f a0 (wrap64 (a1 + 1)) 128 191).bind fun t169 => (rundleref01_Width.j1 kj4 a0 a1 t169)) else (rundleref01_Width.j1 kj4 a0 a1 false))))))) else ((rundleref01_in.f a0 a1 237 237).bind fun t170 => (if t170 = true then ((rundleref01_in.f a0 (wrap64 (a1 + 1)) 128 159).bind fun t171 => (if t171 = true then (rundleref01_Width.j1 kj4 a0 a1 true) else ((rundleref01_in.f a0 a1 238 239).bind fun t172 => (if t172 = true then ((rundleref01_in.f a0 (wrap64 (a1 + 1)) 128 191).bind fun t173 => (rundleref01_Width.j1 kj4 a0 a1 t173)) else (rundleref01_Width.j1 kj4 a0 a1 false))))) else ((rundleref01_in.f a0 a1 238 239).bind fun t174 => (if t174 = true then ((rundleref01_in.f a0 (wrap64 (a1 + 1)) 128 191).bind fun t175 => (rundleref01_Width.j1 kj4 a0 a1 t175)) else (rundleref01_Width.j1 kj4 a0 a1 false))))))))) else ((rundleref01_in.f a0 a1 225 236).bind fun t176 => (if t176 = true then ((rundleref01_in.f a0 (wrap64 (a1 + 1)) 128 191).bind fun t177 => (if t177 = true then (rundleref01_Width.j1 kj4 a0 a1 true) else ((rundleref01_in.f a0 a1 237 237).bind fun t178 => (if t178 = true then ((rundleref01_in.f a0 (wrap64 (a1 + 1)) 128 159).bind fun t179 => (if t179 = true then (rundleref01_Width.j1 kj4 a0 a1 true) else ((rundleref01_in.f a0 a1 238 239).bind fun t180 => (if t180 = true then ((rundleref01_in.f a0 (wrap64 (a1 + 1)) 128 191).bind fun t181 => (rundleref01_Width.j1 kj4 a0 a1 t181)) else (rundleref01_Width.j1 kj4 a0 a1 false))))) else ((rundleref01_in.f a0 a1 238 239).bind fun t182 => (if t182 = true then ((rundleref01_in.f a0 (wrap64 (a1 + 1)) 128 191).bind fun t183 => (rundleref01_Width.j1 kj4 a0 a1 t183)) else (rundleref01_Width.j1 kj4 a0 a1 false))))))) else ((rundleref01_in.f a0 a1 237 237).bind fun t184 => (if t184 = true then ((rundleref01_in.f a0 (wrap64 (a1 + 1)) 128 159).bind fun t185 => (if t185 = true then (rundleref01_Width.j1 kj4 a0 a1 true) else ((rundleref01_in.f a0 a1 238 239).bind fun t186 => (if t186 = true then ((rundleref01_in.f a0 (wrap64 (a1 + 1)) 128 191).bind fun t187 => (rundleref01_Width.j1 kj4 a0 a1 t187)) else (rundleref01_Width.j1 kj4 a0 a1 false))))) else ((rundleref01_in.f a0 a1 238 239).bind fun t188 => (if t188 = true then ((rundleref01_in.f a0 (wrap64 (a1 + 1)) 128 191).bind fun t189 => (rundleref01_Width.j1 kj4 a0 a1 t189)) else (rundleref01_Width.j1 kj4 a0 a1 false))))))))) = some r := by rw [if_neg (show ¬ (false = true) by decide)] at H; exact H
          clear H
          have H := H1
          clear H1
          have HC10 := Aside0.mk H
          clear H
          go_upto_region 5 with (fail)
          go_cut [5] (fun v5 wc => ∃ (kq : Nat) (x5_9 : Bool), v5 = .bool x5_9 ∧ Aside0 (rundleref01_Width.j1 kq a0 a1 x5_9 = some r) ∧ Aside0 (kq ≤ kj4) ∧ Drawn0 w wc)
          case first =>
            have H := HC10.out
            clear HC10
            replace H := Option.bind_eq_some_iff.mp H
            obtain ⟨t160, A110, H⟩ := H
            replace H : (if t160 = true then ((rundleref01_in.f a0 (wrap64 (a1 + 1)) 160 191).bind fun t161 => (if t161 = true then (rundleref01_Width.j1 kj4 a0 a1 true) else ((rundleref01_in.f a0 a1 225 236).bind fun t162 => (if t162 = true then ((rundleref01_in.f a0 (wrap64 (a1 + 1)) 128 191).bind fun t163 => (if t163 = true then (rundleref01_Width.j1 kj4 a0 a1 true) else ((rundleref01_in.f a0 a1 237 237).bind fun t164 => (if t164 = true then ((rundleref01_in.f a0 (wrap64 (a1 + 1)) 128 159).bind fun t165 => (if t165 = true then (rundleref01_Width.j1 kj4 a0 a1 true) else ((rundleref01_in.f a0 a1 238 239).bind fun t166 => (if t166 = true then ((rundleref01_in.f a0 (wrap64 (a1 + 1)) 128 191).bind fun t167 => (rundleref01_Width.j1 kj4 a0 a1 t167)) else (rundleref01_Width.j1 kj4 a0 a1 false))))) else ((rundleref01_in.f a0 a1 238 239).bind fun t168 => (if t168 = true then ((rundleref01_in.f a0 (wrap64 (a1 + 1)) 128 191).bind fun t169 => (rundleref01_Width.j1 kj4 a0 a1 t169)) else (rundleref01_Width.j1 kj4 a0 a1 false))))))) else ((rundleref01_in.f a0 a1 237 237).bind fun t170 => (if t170 = true then ((rundleref01_in.f a0 (wrap64 (a1 + 1)) 128 159).bind fun t171 => (if t171 = true then (rundleref01_Width.j1 kj4 a0 a1 true) else ((rundleref01_in.f a0 a1 238 239).bind fun t172 => (if t172 = true then ((rundleref01_in.f a0 (wrap64 (a1 + 1)) 128 191).bind fun t173 => (rundleref01_Width.j1 kj4 a0 a1 t173)) else (rundleref01_Width.j1 kj4 a0 a1 false))))) else ((rundleref01_in.f a0 a1 238 239).bind fun t174 => (if t174 = true then ((rundleref01_in.f a0 (wrap64 (a1 + 1)) 128 191).bind fun t175 => (rundleref01_Width.j1 kj4 a0 a1 t175)) else (rundleref01_Width.j1 kj4 a0 a1 false))))))))) else ((rundleref01_in.f a0 a1 225 236).bind fun t176 => (if t176 = true then ((rundleref01_in.f a0 (wrap64 (a1 + 1)) 128 191).bind fun t177 => (if t177 = true then (rundleref01_Width.j1 kj4 a0 a1 true) else ((rundleref01_in.f a0 a1 237 237).bind fun t178 => (if t178 = true then ((rundleref01_in.f a0 (wrap64 (a1 + 1)) 128 159).bind fun t179 => (if t179 = true then (rundleref01_Width.j1 kj4 a0 a1 true) else ((rundleref01_in.f a0 a1 238 239).bind fun t180 => (if t180 = true then ((rundleref01_in.f a0 (wrap64 (a1 + 1)) 128 191).bind fun t181 => (rundleref01_Width.j1 kj4 a0 a1 t181)) else (rundleref01_Width.j1 kj4 a0 a1 false))))) else ((rundleref01_in.f a0 a1 238 239).bind fun t182 => (if t182 = true then ((rundleref01_in.f a0 (wrap64 (a1 + 1)) 128 191).bind fun t183 => (rundleref01_Width.j1 kj4 a0 a1 t183)) else (rundleref01_Width.j1 kj4 a0 a1 false))))))) else ((rundleref01_in.f a0 a1 237 237).bind fun t184 => (if t184 = true then ((rundleref01_in.f a0 (wrap64 (a1 + 1)) 128 159).bind fun t185 => (if t185 = true then (rundleref01_Width.j1 kj4 a0 a1 true) else ((rundleref01_in.f a0 a1 238 239).bind fun t186 => (if t186 = true then ((rundleref01_in.f a0 (wrap64 (a1 + 1)) 128 191).bind fun t187 => (rundleref01_Width.j1 kj4 a0 a1 t187)) else (rundleref01_Width.j1 kj4 a0 a1 false))))) else ((rundleref01_in.f a0 a1 238 239).bind fun t188 => (if t188 = true then ((rundleref01_in.f a0 (wrap64 (a1 + 1)) 128 191).bind fun t189 => (rundleref01_Width.j1 kj4 a0 a1 t189)) else (rundleref01_Width.j1 kj4 a0 a1 false)))))))) = some r := H
            have A11 := Aside0.mk A110
            clear A110
            by_cases c12 : t160 = true
            · subst c12
              have H1 : ((rundleref01_in.f a0 (wrap64 (a1 + 1)) 160 191).bind fun t161 => (if t161 = true then (rundleref01_Width.j1 kj4 a0 a1 true) else ((rundleref01_in.f a0 a1 225 236).bind fun t162 => (if t162 = true then ((rundleref01_in.f a0 (wrap64 (a1 + 1)) 128 191).bind fun t163 => (if t163 = true then (rundleref01_Width.j1 kj4 a0 a1 true) else ((rundleref01_in.f a0 a1 237 237).bind fun t164 => (if t164 = true then ((rundleref01_in.f a0 (wrap64 (a1 + 1)) 128 159).bind fun t165 => (if t165 = true then (rundleref01_Width.j1 kj4 a0 a1 true) else ((rundleref01_in.f a0 a1 238 239).bind fun t166 => (if t166 = true then ((rundleref01_in.f a0 (wrap64 (a1 + 1)) 128 191).bind fun t167 => (rundleref01_Width.j1 kj4 a0 a1 t167)) else (rundleref01_Width.j1 kj4 a0 a1 false))))) else ((rundleref01_in.f a0 a1 238 239).bind fun t168 => (if t168 = true then ((rundleref01_in.f a0 (wrap64 (a1 + 1)) 128 191).bind fun t169 => (rundleref01_Width.j1 kj4 a0 a1 t169)) else (rundleref01_Width.j1 kj4 a0 a1 false))))))) else ((rundleref01_in.f a0 a1 237 237).bind fun t170 => (if t170 = true then ((rundleref01_in.f a0 (wrap64 (a1 + 1)) 128 159).bind fun t171 => (if t171 = true then (rundleref01_Width.j1 kj4 a0 a1 true) else ((rundleref01_in.f a0 a1 238 239).bind fun t172 => (if t172 = true then ((rundleref01_in.f a0 (wrap64 (a1 + 1)) 128 191).bind fun t173 => (rundleref01_Width.j1 kj4 a0 a1 t173)) else (rundleref01_Width.j1 kj4 a0 a1 false))))) else ((rundleref01_in.f a0 a1 238 239).bind fun t174 => (if t174 = true then ((rundleref01_in.f a0 (wrap64 (a1 + 1)) 128 191).bind fun t175 => (rundleref01_Width.j1 kj4 a0 a1 t175)) else (rundleref01_Width.j1 kj4 a0 a1 false))))))))) = some r := by rw [if_pos rfl] at H; exact H
              clear H
              have H := H1
              clear H1
              replace H := Option.bind_eq_some_iff.mp H
              obtain ⟨t161, A130, H⟩ := H
              replace H : (if t161 = true then (rundleref01_Width.j1 kj4 a0 a1 true) else ((rundleref01_in.f a0 a1 225 236).bind fun t162 => (if t162 = true then ((rundleref01_in.f a0 (wrap64 (a1 + 1)) 128 191).bind fun t163 => (if t163 = true then (rundleref01_Width.j1 kj4 a0 a1 true) else ((rundleref01_in.f a0 a1 237 237).bind fun t164 => (if t164 = true then ((rundleref01_in.f a0 (wrap64 (a1 + 1)) 128 159).bind fun t165 => (if t165 = true then (rundleref01_Width.j1 kj4 a0 a1 true) else ((rundleref01_in.f a0 a1 238 239).bind fun t166 => (if t166 = true then ((rundleref01_in.f a0 (wrap64 (a1 + 1)) 128 191).bind fun t167 => (rundleref01_Width.j1 kj4 a0 a1 t167)) else (rundleref01_Width.j1 kj4 a0 a1 false))))) else ((rundleref01_in.f a0 a1 238 239).bind fun t168 => (if t168 = true then ((rundleref01_in.f a0 (wrap64 (a1 + 1)) 128 191).bind fun t169 => (rundleref01_Width.j1 kj4 a0 a1 t169)) else (rundleref01_Width.j1 kj4 a0 a1 false))))))) else ((rundleref01_in.f a0 a1 237 237).bind fun t170 => (if t170 = true then ((rundleref01_in.f a0 (wrap64 (a1 + 1)) 128 159).bind fun t171 => (if t171 = true then (rundleref01_Width.j1 kj4 a0 a1 true) else ((rundleref01_in.f a0 a1 238 239).bind fun t172 => (if t172 = true then ((rundleref01_in.f a0 (wrap64 (a1 + 1)) 128 191).bind fun t173 => (rundleref01_Width.j1 kj4 a0 a1 t173)) else (rundleref01_Width.j1 kj4 a0 a1 false))))) else ((rundleref01_in.f a0 a1 238 239).bind fun t174 => (if t174 = true then ((rundleref01_in.f a0 (wrap64 (a1 + 1)) 128 191).bind fun t175 => (rundleref01_Width.j1 kj4 a0 a1 t175)) else (rundleref01_Width.j1 kj4 a0 a1 false)))))))) = some r := H
              have A13 := Aside0.mk A130
              clear A130
              by_cases c14 : t161 = true
              · subst c14
                have H1 : (rundleref01_Width.j1 kj4 a0 a1 true) = some r := by rw [if_pos rfl] at H; exact H
                clear H
                have H := H1
                clear H1
                have H' := Aside0.mk H
                clear H
                go_wp2_with (first | ((with_reducible refine gate_callee (f := 80) rfl ?_); refine goesL_ (some 21) rfl rfl Tryz.func80 (by kernel_rfl) rfl #[.string a0, .int .i64 a1, .int .u8 224, .int .u8 224] rfl (by (try simp only [List.map_toArray, List.map_cons, List.map_nil]); first | done | rfl | (simp only [List.length_drop, List.length_take]; rfl)) ?_; (with_reducible refine (rundleref01_in.calls a0 a1 224 224 true _ A11.out).mono ?_); rintro e w' ⟨rfl, ⟨nd, rfl⟩⟩; refine ⟨_, rfl, ?_⟩) | (go_at_call 80; (with_reducible refine (rundleref01_in.calls a0 (wrap64 (a1 + 1)) 160 191 true _ A13.out).mono ?_); rintro e w' ⟨rfl, ⟨nd, rfl⟩⟩))
                go_meet
                case rel => exact ⟨_, (true), (by first | rfl | (simp; done) | (simp [*]; done)), H', ⟨by have := HJ4.out; first | omega | exact Nat.le_refl _⟩, by repeat (first | exact Drawn0.refl _ | apply Drawn0.step)⟩
              · replace c14 := Bool.eq_false_iff.mpr c14
                subst c14
                have H1 : ((rundleref01_in.f a0 a1 225 236).bind fun t162 => (if t162 = true then ((rundleref01_in.f a0 (wrap64 (a1 + 1)) 128 191).bind fun t163 => (if t163 = true then (rundleref01_Width.j1 kj4 a0 a1 true) else ((rundleref01_in.f a0 a1 237 237).bind fun t164 => (if t164 = true then ((rundleref01_in.f a0 (wrap64 (a1 + 1)) 128 159).bind fun t165 => (if t165 = true then (rundleref01_Width.j1 kj4 a0 a1 true) else ((rundleref01_in.f a0 a1 238 239).bind fun t166 => (if t166 = true then ((rundleref01_in.f a0 (wrap64 (a1 + 1)) 128 191).bind fun t167 => (rundleref01_Width.j1 kj4 a0 a1 t167)) else (rundleref01_Width.j1 kj4 a0 a1 false))))) else ((rundleref01_in.f a0 a1 238 239).bind fun t168 => (if t168 = true then ((rundleref01_in.f a0 (wrap64 (a1 + 1)) 128 191).bind fun t169 => (rundleref01_Width.j1 kj4 a0 a1 t169)) else (rundleref01_Width.j1 kj4 a0 a1 false))))))) else ((rundleref01_in.f a0 a1 237 237).bind fun t170 => (if t170 = true then ((rundleref01_in.f a0 (wrap64 (a1 + 1)) 128 159).bind fun t171 => (if t171 = true then (rundleref01_Width.j1 kj4 a0 a1 true) else ((rundleref01_in.f a0 a1 238 239).bind fun t172 => (if t172 = true then ((rundleref01_in.f a0 (wrap64 (a1 + 1)) 128 191).bind fun t173 => (rundleref01_Width.j1 kj4 a0 a1 t173)) else (rundleref01_Width.j1 kj4 a0 a1 false))))) else ((rundleref01_in.f a0 a1 238 239).bind fun t174 => (if t174 = true then ((rundleref01_in.f a0 (wrap64 (a1 + 1)) 128 191).bind fun t175 => (rundleref01_Width.j1 kj4 a0 a1 t175)) else (rundleref01_Width.j1 kj4 a0 a1 false))))))) = some r := by rw [if_neg (show ¬ (false = true) by decide)] at H; exact H
                clear H
                have H := H1
                clear H1
                replace H := Option.bind_eq_some_iff.mp H
                obtain ⟨t162, A150, H⟩ := H
                replace H : (if t162 = true then ((rundleref01_in.f a0 (wrap64 (a1 + 1)) 128 191).bind fun t163 => (if t163 = true then (rundleref01_Width.j1 kj4 a0 a1 true) else ((rundleref01_in.f a0 a1 237 237).bind fun t164 => (if t164 = true then ((rundleref01_in.f a0 (wrap64 (a1 + 1)) 128 159).bind fun t165 => (if t165 = true then (rundleref01_Width.j1 kj4 a0 a1 true) else ((rundleref01_in.f a0 a1 238 239).bind fun t166 => (if t166 = true then ((rundleref01_in.f a0 (wrap64 (a1 + 1)) 128 191).bind fun t167 => (rundleref01_Width.j1 kj4 a0 a1 t167)) else (rundleref01_Width.j1 kj4 a0 a1 false))))) else ((rundleref01_in.f a0 a1 238 239).bind fun t168 => (if t168 = true then ((rundleref01_in.f a0 (wrap64 (a1 + 1)) 128 191).bind fun t169 => (rundleref01_Width.j1 kj4 a0 a1 t169)) else (rundleref01_Width.j1 kj4 a0 a1 false))))))) else ((rundleref01_in.f a0 a1 237 237).bind fun t170 => (if t170 = true then ((rundleref01_in.f a0 (wrap64 (a1 + 1)) 128 159).bind fun t171 => (if t171 = true then (rundleref01_Width.j1 kj4 a0 a1 true) else ((rundleref01_in.f a0 a1 238 239).bind fun t172 => (if t172 = true then ((rundleref01_in.f a0 (wrap64 (a1 + 1)) 128 191).bind fun t173 => (rundleref01_Width.j1 kj4 a0 a1 t173)) else (rundleref01_Width.j1 kj4 a0 a1 false))))) else ((rundleref01_in.f a0 a1 238 239).bind fun t174 => (if t174 = true then ((rundleref01_in.f a0 (wrap64 (a1 + 1)) 128 191).bind fun t175 => (rundleref01_Width.j1 kj4 a0 a1 t175)) else (rundleref01_Width.j1 kj4 a0 a1 false)))))) = some r := H
                have A15 := Aside0.mk A150
                clear A150
                by_cases c16 : t162 = true
                · subst c16
                  have H1 : ((rundleref01_in.f a0 (wrap64 (a1 + 1)) 128 191).bind fun t163 => (if t163 = true then (rundleref01_Width.j1 kj4 a0 a1 true) else ((rundleref01_in.f a0 a1 237 237).bind fun t164 => (if t164 = true then ((rundleref01_in.f a0 (wrap64 (a1 + 1)) 128 159).bind fun t165 => (if t165 = true then (rundleref01_Width.j1 kj4 a0 a1 true) else ((rundleref01_in.f a0 a1 238 239).bind fun t166 => (if t166 = true then ((rundleref01_in.f a0 (wrap64 (a1 + 1)) 128 191).bind fun t167 => (rundleref01_Width.j1 kj4 a0 a1 t167)) else (rundleref01_Width.j1 kj4 a0 a1 false))))) else ((rundleref01_in.f a0 a1 238 239).bind fun t168 => (if t168 = true then ((rundleref01_in.f a0 (wrap64 (a1 + 1)) 128 191).bind fun t169 => (rundleref01_Width.j1 kj4 a0 a1 t169)) else (rundleref01_Width.j1 kj4 a0 a1 false))))))) = some r := by rw [if_pos rfl] at H; exact H
                  clear H
                  have H := H1
                  clear H1
                  replace H := Option.bind_eq_some_iff.mp H
                  obtain ⟨t163, A170, H⟩ := H
                  replace H : (if t163 = true then (rundleref01_Width.j1 kj4 a0 a1 true) else ((rundleref01_in.f a0 a1 237 237).bind fun t164 => (if t164 = true then ((rundleref01_in.f a0 (wrap64 (a1 + 1)) 128 159).bind fun t165 => (if t165 = true then (rundleref01_Width.j1 kj4 a0 a1 true) else ((rundleref01_in.f a0 a1 238 239).bind fun t166 => (if t166 = true then ((rundleref01_in.f a0 (wrap64 (a1 + 1)) 128 191).bind fun t167 => (rundleref01_Width.j1 kj4 a0 a1 t167)) else (rundleref01_Width.j1 kj4 a0 a1 false))))) else ((rundleref01_in.f a0 a1 238 239).bind fun t168 => (if t168 = true then ((rundleref01_in.f a0 (wrap64 (a1 + 1)) 128 191).bind fun t169 => (rundleref01_Width.j1 kj4 a0 a1 t169)) else (rundleref01_Width.j1 kj4 a0 a1 false)))))) = some r := H
                  have A17 := Aside0.mk A170
                  clear A170
                  by_cases c18 : t163 = true
                  · subst c18
                    have H1 : (rundleref01_Width.j1 kj4 a0 a1 true) = some r := by rw [if_pos rfl] at H; exact H
                    clear H
                    have H := H1
                    clear H1
                    have H' := Aside0.mk H
                    clear H
                    go_wp2_with (first | ((with_reducible refine gate_callee (f := 80) rfl ?_); refine goesL_ (some 21) rfl rfl Tryz.func80 (by kernel_rfl) rfl #[.string a0, .int .i64 a1, .int .u8 224, .int .u8 224] rfl (by (try simp only [List.map_toArray, List.map_cons, List.map_nil]); first | done | rfl | (simp only [List.length_drop, List.length_take]; rfl)) ?_; (with_reducible refine (rundleref01_in.calls a0 a1 224 224 true _ A11.out).mono ?_); rintro e w' ⟨rfl, ⟨nd, rfl⟩⟩; refine ⟨_, rfl, ?_⟩) | (go_at_call 80; (with_reducible refine (rundleref01_in.calls a0 (wrap64 (a1 + 1)) 160 191 false _ A13.out).mono ?_); rintro e w' ⟨rfl, ⟨nd, rfl⟩⟩) | (go_at_call 80; (with_reducible refine (rundleref01_in.calls a0 a1 225 236 true _ A15.out).mono ?_); rintro e w' ⟨rfl, ⟨nd, rfl⟩⟩) | (go_at_call 80; (with_reducible refine (rundleref01_in.calls a0 (wrap64 (a1 + 1)) 128 191 true _ A17.out).mono ?_); rintro e w' ⟨rfl, ⟨nd, rfl⟩⟩))
                    go_meet
                    case rel => exact ⟨_, (true), (by first | rfl | (simp; done) | (simp [*]; done)), H', ⟨by have := HJ4.out; first | omega | exact Nat.le_refl _⟩, by repeat (first | exact Drawn0.refl _ | apply Drawn0.step)⟩
                  · replace c18 := Bool.eq_false_iff.mpr c18
                    subst c18
                    have H1 : ((rundleref01_in.f a0 a1 237 237).bind fun t164 => (if t164 = true then ((rundleref01_in.f a0 (wrap64 (a1 + 1)) 128 159).bind fun t165 => (if t165 = true then (rundleref01_Width.j1 kj4 a0 a1 true) else ((rundleref01_in.f a0 a1 238 239).bind fun t166 => (if t166 = true then ((rundleref01_in.f a0 (wrap64 (a1 + 1)) 128 191).bind fun t167 => (rundleref01_Width.j1 kj4 a0 a1 t167)) else (rundleref01_Width.j1 kj4 a0 a1 false))))) else ((rundleref01_in.f a0 a1 238 239).bind fun t168 => (if t168 = true then ((rundleref01_in.f a0 (wrap64 (a1 + 1)) 128 191).bind fun t169 => (rundleref01_Width.j1 kj4 a0 a1 t169)) else (rundleref01_Width.j1 kj4 a0 a1 false))))) = some r := by rw [if_neg (show ¬ (false = true) by decide)] at H; exact H
                    clear H
                    have H := H1
                    clear H1
                    replace H := Option.bind_eq_some_iff.mp H
                    obtain ⟨t164, A190, H⟩ := H
                    replace H : (if t164 = true then ((rundleref01_in.f a0 (wrap64 (a1 + 1)) 128 159).bind fun t165 => (if t165 = true then (rundleref01_Width.j1 kj4 a0 a1 true) else ((rundleref01_in.f a0 a1 238 239).bind fun t166 => (if t166 = true then ((rundleref01_in.f a0 (wrap64 (a1 + 1)) 128 191).bind fun t167 => (rundleref01_Width.j1 kj4 a0 a1 t167)) else (rundleref01_Width.j1 kj4 a0 a1 false))))) else ((rundleref01_in.f a0 a1 238 239).bind fun t168 => (if t168 = true then ((rundleref01_in.f a0 (wrap64 (a1 + 1)) 128 191).bind fun t169 => (rundleref01_Width.j1 kj4 a0 a1 t169)) else (rundleref01_Width.j1 kj4 a0 a1 false)))) = some r := H
                    have A19 := Aside0.mk A190
                    clear A190
                    by_cases c20 : t164 = true
                    · subst c20
                      have H1 : ((rundleref01_in.f a0 (wrap64 (a1 + 1)) 128 159).bind fun t165 => (if t165 = true then (rundleref01_Width.j1 kj4 a0 a1 true) else ((rundleref01_in.f a0 a1 238 239).bind fun t166 => (if t166 = true then ((rundleref01_in.f a0 (wrap64 (a1 + 1)) 128 191).bind fun t167 => (rundleref01_Width.j1 kj4 a0 a1 t167)) else (rundleref01_Width.j1 kj4 a0 a1 false))))) = some r := by rw [if_pos rfl] at H; exact H
                      clear H
                      have H := H1
                      clear H1
                      replace H := Option.bind_eq_some_iff.mp H
                      obtain ⟨t165, A210, H⟩ := H
                      replace H : (if t165 = true then (rundleref01_Width.j1 kj4 a0 a1 true) else ((rundleref01_in.f a0 a1 238 239).bind fun t166 => (if t166 = true then ((rundleref01_in.f a0 (wrap64 (a1 + 1)) 128 191).bind fun t167 => (rundleref01_Width.j1 kj4 a0 a1 t167)) else (rundleref01_Width.j1 kj4 a0 a1 false)))) = some r := H
                      have A21 := Aside0.mk A210
                      clear A210
                      by_cases c22 : t165 = true
                      · subst c22
                        have H1 : (rundleref01_Width.j1 kj4 a0 a1 true) = some r := by rw [if_pos rfl] at H; exact H
                        clear H
                        have H := H1
                        clear H1
                        have H' := Aside0.mk H
                        clear H
                        go_wp2_with (first | ((with_reducible refine gate_callee (f := 80) rfl ?_); refine goesL_ (some 21) rfl rfl Tryz.func80 (by kernel_rfl) rfl #[.string a0, .int .i64 a1, .int .u8 224, .int .u8 224] rfl (by (try simp only [List.map_toArray, List.map_cons, List.map_nil]); first | done | rfl | (simp only [List.length_drop, List.length_take]; rfl)) ?_; (with_reducible refine (rundleref01_in.calls a0 a1 224 224 true _ A11.out).mono ?_); rintro e w' ⟨rfl, ⟨nd, rfl⟩⟩; refine ⟨_, rfl, ?_⟩) | (go_at_call 80; (with_reducible refine (rundleref01_in.calls a0 (wrap64 (a1 + 1)) 160 191 false _ A13.out).mono ?_); rintro e w' ⟨rfl, ⟨nd, rfl⟩⟩) | (go_at_call 80; (with_reducible refine (rundleref01_in.calls a0 a1 225 236 true _ A15.out).mono ?_); rintro e w' ⟨rfl, ⟨nd, rfl⟩⟩) | (go_at_call 80; (with_reducible refine (rundleref01_in.calls a0 (wrap64 (a1 + 1)) 128 191 false _ A17.out).mono ?_); rintro e w' ⟨rfl, ⟨nd, rfl⟩⟩) | (go_at_call 80; (with_reducible refine (rundleref01_in.calls a0 a1 237 237 true _ A19.out).mono ?_); rintro e w' ⟨rfl, ⟨nd, rfl⟩⟩) | (go_at_call 80; (with_reducible refine (rundleref01_in.calls a0 (wrap64 (a1 + 1)) 128 159 true _ A21.out).mono ?_); rintro e w' ⟨rfl, ⟨nd, rfl⟩⟩))
                        go_meet
                        case rel => exact ⟨_, (true), (by first | rfl | (simp; done) | (simp [*]; done)), H', ⟨by have := HJ4.out; first | omega | exact Nat.le_refl _⟩, by repeat (first | exact Drawn0.refl _ | apply Drawn0.step)⟩
                      · replace c22 := Bool.eq_false_iff.mpr c22
                        subst c22
                        have H1 : ((rundleref01_in.f a0 a1 238 239).bind fun t166 => (if t166 = true then ((rundleref01_in.f a0 (wrap64 (a1 + 1)) 128 191).bind fun t167 => (rundleref01_Width.j1 kj4 a0 a1 t167)) else (rundleref01_Width.j1 kj4 a0 a1 false))) = some r := by rw [if_neg (show ¬ (false = true) by decide)] at H; exact H
                        clear H
                        have H := H1
                        clear H1
                        replace H := Option.bind_eq_some_iff.mp H
                        obtain ⟨t166, A230, H⟩ := H
                        replace H : (if t166 = true then ((rundleref01_in.f a0 (wrap64 (a1 + 1)) 128 191).bind fun t167 => (rundleref01_Width.j1 kj4 a0 a1 t167)) else (rundleref01_Width.j1 kj4 a0 a1 false)) = some r := H
                        have A23 := Aside0.mk A230
                        clear A230
                        by_cases c24 : t166 = true
                        · subst c24
                          have H1 : ((rundleref01_in.f a0 (wrap64 (a1 + 1)) 128 191).bind fun t167 => (rundleref01_Width.j1 kj4 a0 a1 t167)) = some r := by rw [if_pos rfl] at H; exact H
                          clear H
                          have H := H1
                          clear H1
                          replace H := Option.bind_eq_some_iff.mp H
                          obtain ⟨t167, A250, H⟩ := H
                          replace H : (rundleref01_Width.j1 kj4 a0 a1 t167) = some r := H
                          have A25 := Aside0.mk A250
                          clear A250
                          have H' := Aside0.mk H
                          clear H
                          go_wp2_with (first | ((with_reducible refine gate_callee (f := 80) rfl ?_); refine goesL_ (some 21) rfl rfl Tryz.func80 (by kernel_rfl) rfl #[.string a0, .int .i64 a1, .int .u8 224, .int .u8 224] rfl (by (try simp only [List.map_toArray, List.map_cons, List.map_nil]); first | done | rfl | (simp only [List.length_drop, List.length_take]; rfl)) ?_; (with_reducible refine (rundleref01_in.calls a0 a1 224 224 true _ A11.out).mono ?_); rintro e w' ⟨rfl, ⟨nd, rfl⟩⟩; refine ⟨_, rfl, ?_⟩) | (go_at_call 80; (with_reducible refine (rundleref01_in.calls a0 (wrap64 (a1 + 1)) 160 191 false _ A13.out).mono ?_); rintro e w' ⟨rfl, ⟨nd, rfl⟩⟩) | (go_at_call 80; (with_reducible refine (rundleref01_in.calls a0 a1 225 236 true _ A15.out).mono ?_); rintro e w' ⟨rfl, ⟨nd, rfl⟩⟩) | (go_at_call 80; (with_reducible refine (rundleref01_in.calls a0 (wrap64 (a1 + 1)) 128 191 false _ A17.out).mono ?_); rintro e w' ⟨rfl, ⟨nd, rfl⟩⟩) | (go_at_call 80; (with_reducible refine (rundleref01_in.calls a0 a1 237 237 true _ A19.out).mono ?_); rintro e w' ⟨rfl, ⟨nd, rfl⟩⟩) | (go_at_call 80; (with_reducible refine (rundleref01_in.calls a0 (wrap64 (a1 + 1)) 128 159 false _ A21.out).mono ?_); rintro e w' ⟨rfl, ⟨nd, rfl⟩⟩) | (go_at_call 80; (with_reducible refine (rundleref01_in.calls a0 a1 238 239 true _ A23.out).mono ?_); rintro e w' ⟨rfl, ⟨nd, rfl⟩⟩) | (go_at_call 80; (with_reducible refine (rundleref01_in.calls a0 (wrap64 (a1 + 1)) 128 191 t167 _ A25.out).mono ?_); rintro e w' ⟨rfl, ⟨nd, rfl⟩⟩))
                          go_meet
                          case rel => exact ⟨_, (t167), (by first | rfl | (simp; done) | (simp [*]; done) | (simp; first | exact Option.some.inj (A25.out.symm.trans A17.out) | exact Option.some.inj (A25.out.symm.trans A41.out))), H', ⟨by have := HJ4.out; first | omega | exact Nat.le_refl _⟩, by repeat (first | exact Drawn0.refl _ | apply Drawn0.step)⟩
                        · replace c24 := Bool.eq_false_iff.mpr c24
                          subst c24
                          have H1 : (rundleref01_Width.j1 kj4 a0 a1 false) = some r := by rw [if_neg (show ¬ (false = true) by decide)] at H; exact H
                          clear H
                          have H := H1
                          clear H1
                          have H' := Aside0.mk H
                          clear H
                          go_wp2_with (first | ((with_reducible refine gate_callee (f := 80) rfl ?_); refine goesL_ (some 21) rfl rfl Tryz.func80 (by kernel_rfl) rfl #[.string a0, .int .i64 a1, .int .u8 224, .int .u8 224] rfl (by (try simp only [List.map_toArray, List.map_cons, List.map_nil]); first | done | rfl | (simp only [List.length_drop, List.length_take]; rfl)) ?_; (with_reducible refine (rundleref01_in.calls a0 a1 224 224 true _ A11.out).mono ?_); rintro e w' ⟨rfl, ⟨nd, rfl⟩⟩; refine ⟨_, rfl, ?_⟩) | (go_at_call 80; (with_reducible refine (rundleref01_in.calls a0 (wrap64 (a1 + 1)) 160 191 false _ A13.out).mono ?_); rintro e w' ⟨rfl, ⟨nd, rfl⟩⟩) | (go_at_call 80; (with_reducible refine (rundleref01_in.calls a0 a1 225 236 true _ A15.out).mono ?_); rintro e w' ⟨rfl, ⟨nd, rfl⟩⟩) | (go_at_call 80; (with_reducible refine (rundleref01_in.calls a0 (wrap64 (a1 + 1)) 128 191 false _ A17.out).mono ?_); rintro e w' ⟨rfl, ⟨nd, rfl⟩⟩) | (go_at_call 80; (with_reducible refine (rundleref01_in.calls a0 a1 237 237 true _ A19.out).mono ?_); rintro e w' ⟨rfl, ⟨nd, rfl⟩⟩) | (go_at_call 80; (with_reducible refine (rundleref01_in.calls a0 (wrap64 (a1 + 1)) 128 159 false _ A21.out).mono ?_); rintro e w' ⟨rfl, ⟨nd, rfl⟩⟩) | (go_at_call 80; (with_reducible refine (rundleref01_in.calls a0 a1 238 239 false _ A23.out).mono ?_); rintro e w' ⟨rfl, ⟨nd, rfl⟩⟩))
                          go_meet
                          case rel => exact ⟨_, (false), (by first | rfl | (simp; done) | (simp [*]; done)), H', ⟨by have := HJ4.out; first | omega | exact Nat.le_refl _⟩, by repeat (first | exact Drawn0.refl _ | apply Drawn0.step)⟩
                    · replace c20 := Bool.eq_false_iff.mpr c20
                      subst c20
                      have H1 : ((rundleref01_in.f a0 a1 238 239).bind fun t168 => (if t168 = true then ((rundleref01_in.f a0 (wrap64 (a1 + 1)) 128 191).bind fun t169 => (rundleref01_Width.j1 kj4 a0 a1 t169)) else (rundleref01_Width.j1 kj4 a0 a1 false))) = some r := by rw [if_neg (show ¬ (false = true) by decide)] at H; exact H
                      clear H
                      have H := H1
                      clear H1
                      replace H := Option.bind_eq_some_iff.mp H
                      obtain ⟨t168, A260, H⟩ := H
                      replace H : (if t168 = true then ((rundleref01_in.f a0 (wrap64 (a1 + 1)) 128 191).bind fun t169 => (rundleref01_Width.j1 kj4 a0 a1 t169)) else (rundleref01_Width.j1 kj4 a0 a1 false)) = some r := H
                      have A26 := Aside0.mk A260
                      clear A260
                      by_cases c27 : t168 = true
                      · subst c27
                        have H1 : ((rundleref01_in.f a0 (wrap64 (a1 + 1)) 128 191).bind fun t169 => (rundleref01_Width.j1 kj4 a0 a1 t169)) = some r := by rw [if_pos rfl] at H; exact H
                        clear H
                        have H := H1
                        clear H1
                        replace H := Option.bind_eq_some_iff.mp H
                        obtain ⟨t169, A280, H⟩ := H
                        replace H : (rundleref01_Width.j1 kj4 a0 a1 t169) = some r := H
                        have A28 := Aside0.mk A280
                        clear A280
                        have H' := Aside0.mk H
                        clear H
                        go_wp2_with (first | ((with_reducible refine gate_callee (f := 80) rfl ?_); refine goesL_ (some 21) rfl rfl Tryz.func80 (by kernel_rfl) rfl #[.string a0, .int .i64 a1, .int .u8 224, .int .u8 224] rfl (by (try simp only [List.map_toArray, List.map_cons, List.map_nil]); first | done | rfl | (simp only [List.length_drop, List.length_take]; rfl)) ?_; (with_reducible refine (rundleref01_in.calls a0 a1 224 224 true _ A11.out).mono ?_); rintro e w' ⟨rfl, ⟨nd, rfl⟩⟩; refine ⟨_, rfl, ?_⟩) | (go_at_call 80; (with_reducible refine (rundleref01_in.calls a0 (wrap64 (a1 + 1)) 160 191 false _ A13.out).mono ?_); rintro e w' ⟨rfl, ⟨nd, rfl⟩⟩) | (go_at_call 80; (with_reducible refine (rundleref01_in.calls a0 a1 225 236 true _ A15.out).mono ?_); rintro e w' ⟨rfl, ⟨nd, rfl⟩⟩) | (go_at_call 80; (with_reducible refine (rundleref01_in.calls a0 (wrap64 (a1 + 1)) 128 191 false _ A17.out).mono ?_); rintro e w' ⟨rfl, ⟨nd, rfl⟩⟩) | (go_at_call 80; (with_reducible refine (rundleref01_in.calls a0 a1 237 237 false _ A19.out).mono ?_); rintro e w' ⟨rfl, ⟨nd, rfl⟩⟩) | (go_at_call 80; (with_reducible refine (rundleref01_in.calls a0 a1 238 239 true _ A26.out).mono ?_); rintro e w' ⟨rfl, ⟨nd, rfl⟩⟩) | (go_at_call 80; (with_reducible refine (rundleref01_in.calls a0 (wrap64 (a1 + 1)) 128 191 t169 _ A28.out).mono ?_); rintro e w' ⟨rfl, ⟨nd, rfl⟩⟩))
                        go_meet
                        case rel => exact ⟨_, (t169), (by first | rfl | (simp; done) | (simp [*]; done) | (simp; first | exact Option.some.inj (A28.out.symm.trans A17.out) | exact Option.some.inj (A28.out.symm.trans A41.out))), H', ⟨by have := HJ4.out; first | omega | exact Nat.le_refl _⟩, by repeat (first | exact Drawn0.refl _ | apply Drawn0.step)⟩
                      · replace c27 := Bool.eq_false_iff.mpr c27
                        subst c27
                        have H1 : (rundleref01_Width.j1 kj4 a0 a1 false) = some r := by rw [if_neg (show ¬ (false = true) by decide)] at H; exact H
                        clear H
                        have H := H1
                        clear H1
                        have H' := Aside0.mk H
                        clear H
                        go_wp2_with (first | ((with_reducible refine gate_callee (f := 80) rfl ?_); refine goesL_ (some 21) rfl rfl Tryz.func80 (by kernel_rfl) rfl #[.string a0, .int .i64 a1, .int .u8 224, .int .u8 224] rfl (by (try simp only [List.map_toArray, List.map_cons, List.map_nil]); first | done | rfl | (simp only [List.length_drop, List.length_take]; rfl)) ?_; (with_reducible refine (rundleref01_in.calls a0 a1 224 224 true _ A11.out).mono ?_); rintro e w' ⟨rfl, ⟨nd, rfl⟩⟩; refine ⟨_, rfl, ?_⟩) | (go_at_call 80; (with_reducible refine (rundleref01_in.calls a0 (wrap64 (a1 + 1)) 160 191 false _ A13.out).mono ?_); rintro e w' ⟨rfl, ⟨nd, rfl⟩⟩) | (go_at_call 80; (with_reducible refine (rundleref01_in.calls a0 a1 225 236 true _ A15.out).mono ?_); rintro e w' ⟨rfl, ⟨nd, rfl⟩⟩) | (go_at_call 80; (with_reducible refine (rundleref01_in.calls a0 (wrap64 (a1 + 1)) 128 191 false _ A17.out).mono ?_); rintro e w' ⟨rfl, ⟨nd, rfl⟩⟩) | (go_at_call 80; (with_reducible refine (rundleref01_in.calls a0 a1 237 237 false _ A19.out).mono ?_); rintro e w' ⟨rfl, ⟨nd, rfl⟩⟩) | (go_at_call 80; (with_reducible refine (rundleref01_in.calls a0 a1 238 239 false _ A26.out).mono ?_); rintro e w' ⟨rfl, ⟨nd, rfl⟩⟩))
                        go_meet
                        case rel => exact ⟨_, (false), (by first | rfl | (simp; done) | (simp [*]; done)), H', ⟨by have := HJ4.out; first | omega | exact Nat.le_refl _⟩, by repeat (first | exact Drawn0.refl _ | apply Drawn0.step)⟩
                · replace c16 := Bool.eq_false_iff.mpr c16
                  subst c16
                  have H1 : ((rundleref01_in.f a0 a1 237 237).bind fun t170 => (if t170 = true then ((rundleref01_in.f a0 (wrap64 (a1 + 1)) 128 159).bind fun t171 => (if t171 = true then (rundleref01_Width.j1 kj4 a0 a1 true) else ((rundleref01_in.f a0 a1 238 239).bind fun t172 => (if t172 = true then ((rundleref01_in.f a0 (wrap64 (a1 + 1)) 128 191).bind fun t173 => (rundleref01_Width.j1 kj4 a0 a1 t173)) else (rundleref01_Width.j1 kj4 a0 a1 false))))) else ((rundleref01_in.f a0 a1 238 239).bind fun t174 => (if t174 = true then ((rundleref01_in.f a0 (wrap64 (a1 + 1)) 128 191).bind fun t175 => (rundleref01_Width.j1 kj4 a0 a1 t175)) else (rundleref01_Width.j1 kj4 a0 a1 false))))) = some r := by rw [if_neg (show ¬ (false = true) by decide)] at H; exact H
                  clear H
                  have H := H1
                  clear H1
                  replace H := Option.bind_eq_some_iff.mp H
                  obtain ⟨t170, A290, H⟩ := H
                  replace H : (if t170 = true then ((rundleref01_in.f a0 (wrap64 (a1 + 1)) 128 159).bind fun t171 => (if t171 = true then (rundleref01_Width.j1 kj4 a0 a1 true) else ((rundleref01_in.f a0 a1 238 239).bind fun t172 => (if t172 = true then ((rundleref01_in.f a0 (wrap64 (a1 + 1)) 128 191).bind fun t173 => (rundleref01_Width.j1 kj4 a0 a1 t173)) else (rundleref01_Width.j1 kj4 a0 a1 false))))) else ((rundleref01_in.f a0 a1 238 239).bind fun t174 => (if t174 = true then ((rundleref01_in.f a0 (wrap64 (a1 + 1)) 128 191).bind fun t175 => (rundleref01_Width.j1 kj4 a0 a1 t175)) else (rundleref01_Width.j1 kj4 a0 a1 false)))) = some r := H
                  have A29 := Aside0.mk A290
                  clear A290
                  by_cases c30 : t170 = true
                  · subst c30
                    have H1 : ((rundleref01_in.f a0 (wrap64 (a1 + 1)) 128 159).bind fun t171 => (if t171 = true then (rundleref01_Width.j1 kj4 a0 a1 true) else ((rundleref01_in.f a0 a1 238 239).bind fun t172 => (if t172 = true then ((rundleref01_in.f a0 (wrap64 (a1 + 1)) 128 191).bind fun t173 => (rundleref01_Width.j1 kj4 a0 a1 t173)) else (rundleref01_Width.j1 kj4 a0 a1 false))))) = some r := by rw [if_pos rfl] at H; exact H
                    clear H
                    have H := H1
                    clear H1
                    replace H := Option.bind_eq_some_iff.mp H
                    obtain ⟨t171, A310, H⟩ := H
                    replace H : (if t171 = true then (rundleref01_Width.j1 kj4 a0 a1 true) else ((rundleref01_in.f a0 a1 238 239).bind fun t172 => (if t172 = true then ((rundleref01_in.f a0 (wrap64 (a1 + 1)) 128 191).bind fun t173 => (rundleref01_Width.j1 kj4 a0 a1 t173)) else (rundleref01_Width.j1 kj4 a0 a1 false)))) = some r := H
                    have A31 := Aside0.mk A310
                    clear A310
                    by_cases c32 : t171 = true
                    · subst c32
                      have H1 : (rundleref01_Width.j1 kj4 a0 a1 true) = some r := by rw [if_pos rfl] at H; exact H
                      clear H
                      have H := H1
                      clear H1
                      have H' := Aside0.mk H
                      clear H
                      go_wp2_with (first | ((with_reducible refine gate_callee (f := 80) rfl ?_); refine goesL_ (some 21) rfl rfl Tryz.func80 (by kernel_rfl) rfl #[.string a0, .int .i64 a1, .int .u8 224, .int .u8 224] rfl (by (try simp only [List.map_toArray, List.map_cons, List.map_nil]); first | done | rfl | (simp only [List.length_drop, List.length_take]; rfl)) ?_; (with_reducible refine (rundleref01_in.calls a0 a1 224 224 true _ A11.out).mono ?_); rintro e w' ⟨rfl, ⟨nd, rfl⟩⟩; refine ⟨_, rfl, ?_⟩) | (go_at_call 80; (with_reducible refine (rundleref01_in.calls a0 (wrap64 (a1 + 1)) 160 191 false _ A13.out).mono ?_); rintro e w' ⟨rfl, ⟨nd, rfl⟩⟩) | (go_at_call 80; (with_reducible refine (rundleref01_in.calls a0 a1 225 236 false _ A15.out).mono ?_); rintro e w' ⟨rfl, ⟨nd, rfl⟩⟩) | (go_at_call 80; (with_reducible refine (rundleref01_in.calls a0 a1 237 237 true _ A29.out).mono ?_); rintro e w' ⟨rfl, ⟨nd, rfl⟩⟩) | (go_at_call 80; (with_reducible refine (rundleref01_in.calls a0 (wrap64 (a1 + 1)) 128 159 true _ A31.out).mono ?_); rintro e w' ⟨rfl, ⟨nd, rfl⟩⟩))
                      go_meet
                      case rel => exact ⟨_, (true), (by first | rfl | (simp; done) | (simp [*]; done)), H', ⟨by have := HJ4.out; first | omega | exact Nat.le_refl _⟩, by repeat (first | exact Drawn0.refl _ | apply Drawn0.step)⟩
                    · replace c32 := Bool.eq_false_iff.mpr c32
                      subst c32
                      have H1 : ((rundleref01_in.f a0 a1 238 239).bind fun t172 => (if t172 = true then ((rundleref01_in.f a0 (wrap64 (a1 + 1)) 128 191).bind fun t173 => (rundleref01_Width.j1 kj4 a0 a1 t173)) else (rundleref01_Width.j1 kj4 a0 a1 false))) = some r := by rw [if_neg (show ¬ (false = true) by decide)] at H; exact H
                      clear H
                      have H := H1
                      clear H1
                      replace H := Option.bind_eq_some_iff.mp H
                      obtain ⟨t172, A330, H⟩ := H
                      replace H : (if t172 = true then ((rundleref01_in.f a0 (wrap64 (a1 + 1)) 128 191).bind fun t173 => (rundleref01_Width.j1 kj4 a0 a1 t173)) else (rundleref01_Width.j1 kj4 a0 a1 false)) = some r := H
                      have A33 := Aside0.mk A330
                      clear A330
                      by_cases c34 : t172 = true
                      · subst c34
                        have H1 : ((rundleref01_in.f a0 (wrap64 (a1 + 1)) 128 191).bind fun t173 => (rundleref01_Width.j1 kj4 a0 a1 t173)) = some r := by rw [if_pos rfl] at H; exact H
                        clear H
                        have H := H1
                        clear H1
                        replace H := Option.bind_eq_some_iff.mp H
                        obtain ⟨t173, A350, H⟩ := H
                        replace H : (rundleref01_Width.j1 kj4 a0 a1 t173) = some r := H
                        have A35 := Aside0.mk A350
                        clear A350
                        have H' := Aside0.mk H
                        clear H
                        go_wp2_with (first | ((with_reducible refine gate_callee (f := 80) rfl ?_); refine goesL_ (some 21) rfl rfl Tryz.func80 (by kernel_rfl) rfl #[.string a0, .int .i64 a1, .int .u8 224, .int .u8 224] rfl (by (try simp only [List.map_toArray, List.map_cons, List.map_nil]); first | done | rfl | (simp only [List.length_drop, List.length_take]; rfl)) ?_; (with_reducible refine (rundleref01_in.calls a0 a1 224 224 true _ A11.out).mono ?_); rintro e w' ⟨rfl, ⟨nd, rfl⟩⟩; refine ⟨_, rfl, ?_⟩) | (go_at_call 80; (with_reducible refine (rundleref01_in.calls a0 (wrap64 (a1 + 1)) 160 191 false _ A13.out).mono ?_); rintro e w' ⟨rfl, ⟨nd, rfl⟩⟩) | (go_at_call 80; (with_reducible refine (rundleref01_in.calls a0 a1 225 236 false _ A15.out).mono ?_); rintro e w' ⟨rfl, ⟨nd, rfl⟩⟩) | (go_at_call 80; (with_reducible refine (rundleref01_in.calls a0 a1 237 237 true _ A29.out).mono ?_); rintro e w' ⟨rfl, ⟨nd, rfl⟩⟩) | (go_at_call 80; (with_reducible refine (rundleref01_in.calls a0 (wrap64 (a1 + 1)) 128 159 false _ A31.out).mono ?_); rintro e w' ⟨rfl, ⟨nd, rfl⟩⟩) | (go_at_call 80; (with_reducible refine (rundleref01_in.calls a0 a1 238 239 true _ A33.out).mono ?_); rintro e w' ⟨rfl, ⟨nd, rfl⟩⟩) | (go_at_call 80; (with_reducible refine (rundleref01_in.calls a0 (wrap64 (a1 + 1)) 128 191 t173 _ A35.out).mono ?_); rintro e w' ⟨rfl, ⟨nd, rfl⟩⟩))
                        go_meet
                        case rel => exact ⟨_, (t173), (by first | rfl | (simp; done) | (simp [*]; done) | (simp; first | exact Option.some.inj (A35.out.symm.trans A17.out) | exact Option.some.inj (A35.out.symm.trans A41.out))), H', ⟨by have := HJ4.out; first | omega | exact Nat.le_refl _⟩, by repeat (first | exact Drawn0.refl _ | apply Drawn0.step)⟩
                      · replace c34 := Bool.eq_false_iff.mpr c34
                        subst c34
                        have H1 : (rundleref01_Width.j1 kj4 a0 a1 false) = some r := by rw [if_neg (show ¬ (false = true) by decide)] at H; exact H
                        clear H
                        have H := H1
                        clear H1
                        have H' := Aside0.mk H
                        clear H
                        go_wp2_with (first | ((with_reducible refine gate_callee (f := 80) rfl ?_); refine goesL_ (some 21) rfl rfl Tryz.func80 (by kernel_rfl) rfl #[.string a0, .int .i64 a1, .int .u8 224, .int .u8 224] rfl (by (try simp only [List.map_toArray, List.map_cons, List.map_nil]); first | done | rfl | (simp only [List.length_drop, List.length_take]; rfl)) ?_; (with_reducible refine (rundleref01_in.calls a0 a1 224 224 true _ A11.out).mono ?_); rintro e w' ⟨rfl, ⟨nd, rfl⟩⟩; refine ⟨_, rfl, ?_⟩) | (go_at_call 80; (with_reducible refine (rundleref01_in.calls a0 (wrap64 (a1 + 1)) 160 191 false _ A13.out).mono ?_); rintro e w' ⟨rfl, ⟨nd, rfl⟩⟩) | (go_at_call 80; (with_reducible refine (rundleref01_in.calls a0 a1 225 236 false _ A15.out).mono ?_); rintro e w' ⟨rfl, ⟨nd, rfl⟩⟩) | (go_at_call 80; (with_reducible refine (rundleref01_in.calls a0 a1 237 237 true _ A29.out).mono ?_); rintro e w' ⟨rfl, ⟨nd, rfl⟩⟩) | (go_at_call 80; (with_reducible refine (rundleref01_in.calls a0 (wrap64 (a1 + 1)) 128 159 false _ A31.out).mono ?_); rintro e w' ⟨rfl, ⟨nd, rfl⟩⟩) | (go_at_call 80; (with_reducible refine (rundleref01_in.calls a0 a1 238 239 false _ A33.out).mono ?_); rintro e w' ⟨rfl, ⟨nd, rfl⟩⟩))
                        go_meet
                        case rel => exact ⟨_, (false), (by first | rfl | (simp; done) | (simp [*]; done)), H', ⟨by have := HJ4.out; first | omega | exact Nat.le_refl _⟩, by repeat (first | exact Drawn0.refl _ | apply Drawn0.step)⟩
                  · replace c30 := Bool.eq_false_iff.mpr c30
                    subst c30
                    have H1 : ((rundleref01_in.f a0 a1 238 239).bind fun t174 => (if t174 = true then ((rundleref01_in.f a0 (wrap64 (a1 + 1)) 128 191).bind fun t175 => (rundleref01_Width.j1 kj4 a0 a1 t175)) else (rundleref01_Width.j1 kj4 a0 a1 false))) = some r := by rw [if_neg (show ¬ (false = true) by decide)] at H; exact H
                    clear H
                    have H := H1
                    clear H1
                    replace H := Option.bind_eq_some_iff.mp H
                    obtain ⟨t174, A360, H⟩ := H
                    replace H : (if t174 = true then ((rundleref01_in.f a0 (wrap64 (a1 + 1)) 128 191).bind fun t175 => (rundleref01_Width.j1 kj4 a0 a1 t175)) else (rundleref01_Width.j1 kj4 a0 a1 false)) = some r := H
                    have A36 := Aside0.mk A360
                    clear A360
                    by_cases c37 : t174 = true
                    · subst c37
                      have H1 : ((rundleref01_in.f a0 (wrap64 (a1 + 1)) 128 191).bind fun t175 => (rundleref01_Width.j1 kj4 a0 a1 t175)) = some r := by rw [if_pos rfl] at H; exact H
                      clear H
                      have H := H1
                      clear H1
                      replace H := Option.bind_eq_some_iff.mp H
                      obtain ⟨t175, A380, H⟩ := H
                      replace H : (rundleref01_Width.j1 kj4 a0 a1 t175) = some r := H
                      have A38 := Aside0.mk A380
                      clear A380
                      have H' := Aside0.mk H
                      clear H
                      go_wp2_with (first | ((with_reducible refine gate_callee (f := 80) rfl ?_); refine goesL_ (some 21) rfl rfl Tryz.func80 (by kernel_rfl) rfl #[.string a0, .int .i64 a1, .int .u8 224, .int .u8 224] rfl (by (try simp only [List.map_toArray, List.map_cons, List.map_nil]); first | done | rfl | (simp only [List.length_drop, List.length_take]; rfl)) ?_; (with_reducible refine (rundleref01_in.calls a0 a1 224 224 true _ A11.out).mono ?_); rintro e w' ⟨rfl, ⟨nd, rfl⟩⟩; refine ⟨_, rfl, ?_⟩) | (go_at_call 80; (with_reducible refine (rundleref01_in.calls a0 (wrap64 (a1 + 1)) 160 191 false _ A13.out).mono ?_); rintro e w' ⟨rfl, ⟨nd, rfl⟩⟩) | (go_at_call 80; (with_reducible refine (rundleref01_in.calls a0 a1 225 236 false _ A15.out).mono ?_); rintro e w' ⟨rfl, ⟨nd, rfl⟩⟩) | (go_at_call 80; (with_reducible refine (rundleref01_in.calls a0 a1 237 237 false _ A29.out).mono ?_); rintro e w' ⟨rfl, ⟨nd, rfl⟩⟩) | (go_at_call 80; (with_reducible refine (rundleref01_in.calls a0 a1 238 239 true _ A36.out).mono ?_); rintro e w' ⟨rfl, ⟨nd, rfl⟩⟩) | (go_at_call 80; (with_reducible refine (rundleref01_in.calls a0 (wrap64 (a1 + 1)) 128 191 t175 _ A38.out).mono ?_); rintro e w' ⟨rfl, ⟨nd, rfl⟩⟩))
                      go_meet
                      case rel => exact ⟨_, (t175), (by first | rfl | (simp; done) | (simp [*]; done) | (simp; first | exact Option.some.inj (A38.out.symm.trans A17.out) | exact Option.some.inj (A38.out.symm.trans A41.out))), H', ⟨by have := HJ4.out; first | omega | exact Nat.le_refl _⟩, by repeat (first | exact Drawn0.refl _ | apply Drawn0.step)⟩
                    · replace c37 := Bool.eq_false_iff.mpr c37
                      subst c37
                      have H1 : (rundleref01_Width.j1 kj4 a0 a1 false) = some r := by rw [if_neg (show ¬ (false = true) by decide)] at H; exact H
                      clear H
                      have H := H1
                      clear H1
                      have H' := Aside0.mk H
                      clear H
                      go_wp2_with (first | ((with_reducible refine gate_callee (f := 80) rfl ?_); refine goesL_ (some 21) rfl rfl Tryz.func80 (by kernel_rfl) rfl #[.string a0, .int .i64 a1, .int .u8 224, .int .u8 224] rfl (by (try simp only [List.map_toArray, List.map_cons, List.map_nil]); first | done | rfl | (simp only [List.length_drop, List.length_take]; rfl)) ?_; (with_reducible refine (rundleref01_in.calls a0 a1 224 224 true _ A11.out).mono ?_); rintro e w' ⟨rfl, ⟨nd, rfl⟩⟩; refine ⟨_, rfl, ?_⟩) | (go_at_call 80; (with_reducible refine (rundleref01_in.calls a0 (wrap64 (a1 + 1)) 160 191 false _ A13.out).mono ?_); rintro e w' ⟨rfl, ⟨nd, rfl⟩⟩) | (go_at_call 80; (with_reducible refine (rundleref01_in.calls a0 a1 225 236 false _ A15.out).mono ?_); rintro e w' ⟨rfl, ⟨nd, rfl⟩⟩) | (go_at_call 80; (with_reducible refine (rundleref01_in.calls a0 a1 237 237 false _ A29.out).mono ?_); rintro e w' ⟨rfl, ⟨nd, rfl⟩⟩) | (go_at_call 80; (with_reducible refine (rundleref01_in.calls a0 a1 238 239 false _ A36.out).mono ?_); rintro e w' ⟨rfl, ⟨nd, rfl⟩⟩))
                      go_meet
                      case rel => exact ⟨_, (false), (by first | rfl | (simp; done) | (simp [*]; done)), H', ⟨by have := HJ4.out; first | omega | exact Nat.le_refl _⟩, by repeat (first | exact Drawn0.refl _ | apply Drawn0.step)⟩
            · replace c12 := Bool.eq_false_iff.mpr c12
              subst c12
              have H1 : ((rundleref01_in.f a0 a1 225 236).bind fun t176 => (if t176 = true then ((rundleref01_in.f a0 (wrap64 (a1 + 1)) 128 191).bind fun t177 => (if t177 = true then (rundleref01_Width.j1 kj4 a0 a1 true) else ((rundleref01_in.f a0 a1 237 237).bind fun t178 => (if t178 = true then ((rundleref01_in.f a0 (wrap64 (a1 + 1)) 128 159).bind fun t179 => (if t179 = true then (rundleref01_Width.j1 kj4 a0 a1 true) else ((rundleref01_in.f a0 a1 238 239).bind fun t180 => (if t180 = true then ((rundleref01_in.f a0 (wrap64 (a1 + 1)) 128 191).bind fun t181 => (rundleref01_Width.j1 kj4 a0 a1 t181)) else (rundleref01_Width.j1 kj4 a0 a1 false))))) else ((rundleref01_in.f a0 a1 238 239).bind fun t182 => (if t182 = true then ((rundleref01_in.f a0 (wrap64 (a1 + 1)) 128 191).bind fun t183 => (rundleref01_Width.j1 kj4 a0 a1 t183)) else (rundleref01_Width.j1 kj4 a0 a1 false))))))) else ((rundleref01_in.f a0 a1 237 237).bind fun t184 => (if t184 = true then ((rundleref01_in.f a0 (wrap64 (a1 + 1)) 128 159).bind fun t185 => (if t185 = true then (rundleref01_Width.j1 kj4 a0 a1 true) else ((rundleref01_in.f a0 a1 238 239).bind fun t186 => (if t186 = true then ((rundleref01_in.f a0 (wrap64 (a1 + 1)) 128 191).bind fun t187 => (rundleref01_Width.j1 kj4 a0 a1 t187)) else (rundleref01_Width.j1 kj4 a0 a1 false))))) else ((rundleref01_in.f a0 a1 238 239).bind fun t188 => (if t188 = true then ((rundleref01_in.f a0 (wrap64 (a1 + 1)) 128 191).bind fun t189 => (rundleref01_Width.j1 kj4 a0 a1 t189)) else (rundleref01_Width.j1 kj4 a0 a1 false))))))) = some r := by rw [if_neg (show ¬ (false = true) by decide)] at H; exact H
              clear H
              have H := H1
              clear H1
              replace H := Option.bind_eq_some_iff.mp H
              obtain ⟨t176, A390, H⟩ := H
              replace H : (if t176 = true then ((rundleref01_in.f a0 (wrap64 (a1 + 1)) 128 191).bind fun t177 => (if t177 = true then (rundleref01_Width.j1 kj4 a0 a1 true) else ((rundleref01_in.f a0 a1 237 237).bind fun t178 => (if t178 = true then ((rundleref01_in.f a0 (wrap64 (a1 + 1)) 128 159).bind fun t179 => (if t179 = true then (rundleref01_Width.j1 kj4 a0 a1 true) else ((rundleref01_in.f a0 a1 238 239).bind fun t180 => (if t180 = true then ((rundleref01_in.f a0 (wrap64 (a1 + 1)) 128 191).bind fun t181 => (rundleref01_Width.j1 kj4 a0 a1 t181)) else (rundleref01_Width.j1 kj4 a0 a1 false))))) else ((rundleref01_in.f a0 a1 238 239).bind fun t182 => (if t182 = true then ((rundleref01_in.f a0 (wrap64 (a1 + 1)) 128 191).bind fun t183 => (rundleref01_Width.j1 kj4 a0 a1 t183)) else (rundleref01_Width.j1 kj4 a0 a1 false))))))) else ((rundleref01_in.f a0 a1 237 237).bind fun t184 => (if t184 = true then ((rundleref01_in.f a0 (wrap64 (a1 + 1)) 128 159).bind fun t185 => (if t185 = true then (rundleref01_Width.j1 kj4 a0 a1 true) else ((rundleref01_in.f a0 a1 238 239).bind fun t186 => (if t186 = true then ((rundleref01_in.f a0 (wrap64 (a1 + 1)) 128 191).bind fun t187 => (rundleref01_Width.j1 kj4 a0 a1 t187)) else (rundleref01_Width.j1 kj4 a0 a1 false))))) else ((rundleref01_in.f a0 a1 238 239).bind fun t188 => (if t188 = true then ((rundleref01_in.f a0 (wrap64 (a1 + 1)) 128 191).bind fun t189 => (rundleref01_Width.j1 kj4 a0 a1 t189)) else (rundleref01_Width.j1 kj4 a0 a1 false)))))) = some r := H
              have A39 := Aside0.mk A390
              clear A390
              by_cases c40 : t176 = true
              · subst c40
                have H1 : ((rundleref01_in.f a0 (wrap64 (a1 + 1)) 128 191).bind fun t177 => (if t177 = true then (rundleref01_Width.j1 kj4 a0 a1 true) else ((rundleref01_in.f a0 a1 237 237).bind fun t178 => (if t178 = true then ((rundleref01_in.f a0 (wrap64 (a1 + 1)) 128 159).bind fun t179 => (if t179 = true then (rundleref01_Width.j1 kj4 a0 a1 true) else ((rundleref01_in.f a0 a1 238 239).bind fun t180 => (if t180 = true then ((rundleref01_in.f a0 (wrap64 (a1 + 1)) 128 191).bind fun t181 => (rundleref01_Width.j1 kj4 a0 a1 t181)) else (rundleref01_Width.j1 kj4 a0 a1 false))))) else ((rundleref01_in.f a0 a1 238 239).bind fun t182 => (if t182 = true then ((rundleref01_in.f a0 (wrap64 (a1 + 1)) 128 191).bind fun t183 => (rundleref01_Width.j1 kj4 a0 a1 t183)) else (rundleref01_Width.j1 kj4 a0 a1 false))))))) = some r := by rw [if_pos rfl] at H; exact H
                clear H
                have H := H1
                clear H1
                replace H := Option.bind_eq_some_iff.mp H
                obtain ⟨t177, A410, H⟩ := H
                replace H : (if t177 = true then (rundleref01_Width.j1 kj4 a0 a1 true) else ((rundleref01_in.f a0 a1 237 237).bind fun t178 => (if t178 = true then ((rundleref01_in.f a0 (wrap64 (a1 + 1)) 128 159).bind fun t179 => (if t179 = true then (rundleref01_Width.j1 kj4 a0 a1 true) else ((rundleref01_in.f a0 a1 238 239).bind fun t180 => (if t180 = true then ((rundleref01_in.f a0 (wrap64 (a1 + 1)) 128 191).bind fun t181 => (rundleref01_Width.j1 kj4 a0 a1 t181)) else (rundleref01_Width.j1 kj4 a0 a1 false))))) else ((rundleref01_in.f a0 a1 238 239).bind fun t182 => (if t182 = true then ((rundleref01_in.f a0 (wrap64 (a1 + 1)) 128 191).bind fun t183 => (rundleref01_Width.j1 kj4 a0 a1 t183)) else (rundleref01_Width.j1 kj4 a0 a1 false)))))) = some r := H
                have A41 := Aside0.mk A410
                clear A410
                by_cases c42 : t177 = true
                · subst c42
                  have H1 : (rundleref01_Width.j1 kj4 a0 a1 true) = some r := by rw [if_pos rfl] at H; exact H
                  clear H
                  have H := H1
                  clear H1
                  have H' := Aside0.mk H
                  clear H
                  go_wp2_with (first | ((with_reducible refine gate_callee (f := 80) rfl ?_); refine goesL_ (some 21) rfl rfl Tryz.func80 (by kernel_rfl) rfl #[.string a0, .int .i64 a1, .int .u8 224, .int .u8 224] rfl (by (try simp only [List.map_toArray, List.map_cons, List.map_nil]); first | done | rfl | (simp only [List.length_drop, List.length_take]; rfl)) ?_; (with_reducible refine (rundleref01_in.calls a0 a1 224 224 false _ A11.out).mono ?_); rintro e w' ⟨rfl, ⟨nd, rfl⟩⟩; refine ⟨_, rfl, ?_⟩) | (go_at_call 80; (with_reducible refine (rundleref01_in.calls a0 a1 225 236 true _ A39.out).mono ?_); rintro e w' ⟨rfl, ⟨nd, rfl⟩⟩) | (go_at_call 80; (with_reducible refine (rundleref01_in.calls a0 (wrap64 (a1 + 1)) 128 191 true _ A41.out).mono ?_); rintro e w' ⟨rfl, ⟨nd, rfl⟩⟩))
                  go_meet
                  case rel => exact ⟨_, (true), (by first | rfl | (simp; done) | (simp [*]; done)), H', ⟨by have := HJ4.out; first | omega | exact Nat.le_refl _⟩, by repeat (first | exact Drawn0.refl _ | apply Drawn0.step)⟩
                · replace c42 := Bool.eq_false_iff.mpr c42
                  subst c42
                  have H1 : ((rundleref01_in.f a0 a1 237 237).bind fun t178 => (if t178 = true then ((rundleref01_in.f a0 (wrap64 (a1 + 1)) 128 159).bind fun t179 => (if t179 = true then (rundleref01_Width.j1 kj4 a0 a1 true) else ((rundleref01_in.f a0 a1 238 239).bind fun t180 => (if t180 = true then ((rundleref01_in.f a0 (wrap64 (a1 + 1)) 128 191).bind fun t181 => (rundleref01_Width.j1 kj4 a0 a1 t181)) else (rundleref01_Width.j1 kj4 a0 a1 false))))) else ((rundleref01_in.f a0 a1 238 239).bind fun t182 => (if t182 = true then ((rundleref01_in.f a0 (wrap64 (a1 + 1)) 128 191).bind fun t183 => (rundleref01_Width.j1 kj4 a0 a1 t183)) else (rundleref01_Width.j1 kj4 a0 a1 false))))) = some r := by rw [if_neg (show ¬ (false = true) by decide)] at H; exact H
                  clear H
                  have H := H1
                  clear H1
                  replace H := Option.bind_eq_some_iff.mp H
                  obtain ⟨t178, A430, H⟩ := H
                  replace H : (if t178 = true then ((rundleref01_in.f a0 (wrap64 (a1 + 1)) 128 159).bind fun t179 => (if t179 = true then (rundleref01_Width.j1 kj4 a0 a1 true) else ((rundleref01_in.f a0 a1 238 239).bind fun t180 => (if t180 = true then ((rundleref01_in.f a0 (wrap64 (a1 + 1)) 128 191).bind fun t181 => (rundleref01_Width.j1 kj4 a0 a1 t181)) else (rundleref01_Width.j1 kj4 a0 a1 false))))) else ((rundleref01_in.f a0 a1 238 239).bind fun t182 => (if t182 = true then ((rundleref01_in.f a0 (wrap64 (a1 + 1)) 128 191).bind fun t183 => (rundleref01_Width.j1 kj4 a0 a1 t183)) else (rundleref01_Width.j1 kj4 a0 a1 false)))) = some r := H
                  have A43 := Aside0.mk A430
                  clear A430
                  by_cases c44 : t178 = true
                  · subst c44
                    have H1 : ((rundleref01_in.f a0 (wrap64 (a1 + 1)) 128 159).bind fun t179 => (if t179 = true then (rundleref01_Width.j1 kj4 a0 a1 true) else ((rundleref01_in.f a0 a1 238 239).bind fun t180 => (if t180 = true then ((rundleref01_in.f a0 (wrap64 (a1 + 1)) 128 191).bind fun t181 => (rundleref01_Width.j1 kj4 a0 a1 t181)) else (rundleref01_Width.j1 kj4 a0 a1 false))))) = some r := by rw [if_pos rfl] at H; exact H
                    clear H
                    have H := H1
                    clear H1
                    replace H := Option.bind_eq_some_iff.mp H
                    obtain ⟨t179, A450, H⟩ := H
                    replace H : (if t179 = true then (rundleref01_Width.j1 kj4 a0 a1 true) else ((rundleref01_in.f a0 a1 238 239).bind fun t180 => (if t180 = true then ((rundleref01_in.f a0 (wrap64 (a1 + 1)) 128 191).bind fun t181 => (rundleref01_Width.j1 kj4 a0 a1 t181)) else (rundleref01_Width.j1 kj4 a0 a1 false)))) = some r := H
                    have A45 := Aside0.mk A450
                    clear A450
                    by_cases c46 : t179 = true
                    · subst c46
                      have H1 : (rundleref01_Width.j1 kj4 a0 a1 true) = some r := by rw [if_pos rfl] at H; exact H
                      clear H
                      have H := H1
                      clear H1
                      have H' := Aside0.mk H
                      clear H
                      go_wp2_with (first | ((with_reducible refine gate_callee (f := 80) rfl ?_); refine goesL_ (some 21) rfl rfl Tryz.func80 (by kernel_rfl) rfl #[.string a0, .int .i64 a1, .int .u8 224, .int .u8 224] rfl (by (try simp only [List.map_toArray, List.map_cons, List.map_nil]); first | done | rfl | (simp only [List.length_drop, List.length_take]; rfl)) ?_; (with_reducible refine (rundleref01_in.calls a0 a1 224 224 false _ A11.out).mono ?_); rintro e w' ⟨rfl, ⟨nd, rfl⟩⟩; refine ⟨_, rfl, ?_⟩) | (go_at_call 80; (with_reducible refine (rundleref01_in.calls a0 a1 225 236 true _ A39.out).mono ?_); rintro e w' ⟨rfl, ⟨nd, rfl⟩⟩) | (go_at_call 80; (with_reducible refine (rundleref01_in.calls a0 (wrap64 (a1 + 1)) 128 191 false _ A41.out).mono ?_); rintro e w' ⟨rfl, ⟨nd, rfl⟩⟩) | (go_at_call 80; (with_reducible refine (rundleref01_in.calls a0 a1 237 237 true _ A43.out).mono ?_); rintro e w' ⟨rfl, ⟨nd, rfl⟩⟩) | (go_at_call 80; (with_reducible refine (rundleref01_in.calls a0 (wrap64 (a1 + 1)) 128 159 true _ A45.out).mono ?_); rintro e w' ⟨rfl, ⟨nd, rfl⟩⟩))
                      go_meet
                      case rel => exact ⟨_, (true), (by first | rfl | (simp; done) | (simp [*]; done)), H', ⟨by have := HJ4.out; first | omega | exact Nat.le_refl _⟩, by repeat (first | exact Drawn0.refl _ | apply Drawn0.step)⟩
                    · replace c46 := Bool.eq_false_iff.mpr c46
                      subst c46
                      have H1 : ((rundleref01_in.f a0 a1 238 239).bind fun t180 => (if t180 = true then ((rundleref01_in.f a0 (wrap64 (a1 + 1)) 128 191).bind fun t181 => (rundleref01_Width.j1 kj4 a0 a1 t181)) else (rundleref01_Width.j1 kj4 a0 a1 false))) = some r := by rw [if_neg (show ¬ (false = true) by decide)] at H; exact H
                      clear H
                      have H := H1
                      clear H1
                      replace H := Option.bind_eq_some_iff.mp H
                      obtain ⟨t180, A470, H⟩ := H
                      replace H : (if t180 = true then ((rundleref01_in.f a0 (wrap64 (a1 + 1)) 128 191).bind fun t181 => (rundleref01_Width.j1 kj4 a0 a1 t181)) else (rundleref01_Width.j1 kj4 a0 a1 false)) = some r := H
                      have A47 := Aside0.mk A470
                      clear A470
                      by_cases c48 : t180 = true
                      · subst c48
                        have H1 : ((rundleref01_in.f a0 (wrap64 (a1 + 1)) 128 191).bind fun t181 => (rundleref01_Width.j1 kj4 a0 a1 t181)) = some r := by rw [if_pos rfl] at H; exact H
                        clear H
                        have H := H1
                        clear H1
                        replace H := Option.bind_eq_some_iff.mp H
                        obtain ⟨t181, A490, H⟩ := H
                        replace H : (rundleref01_Width.j1 kj4 a0 a1 t181) = some r := H
                        have A49 := Aside0.mk A490
                        clear A490
                        have H' := Aside0.mk H
                        clear H
                        go_wp2_with (first | ((with_reducible refine gate_callee (f := 80) rfl ?_); refine goesL_ (some 21) rfl rfl Tryz.func80 (by kernel_rfl) rfl #[.string a0, .int .i64 a1, .int .u8 224, .int .u8 224] rfl (by (try simp only [List.map_toArray, List.map_cons, List.map_nil]); first | done | rfl | (simp only [List.length_drop, List.length_take]; rfl)) ?_; (with_reducible refine (rundleref01_in.calls a0 a1 224 224 false _ A11.out).mono ?_); rintro e w' ⟨rfl, ⟨nd, rfl⟩⟩; refine ⟨_, rfl, ?_⟩) | (go_at_call 80; (with_reducible refine (rundleref01_in.calls a0 a1 225 236 true _ A39.out).mono ?_); rintro e w' ⟨rfl, ⟨nd, rfl⟩⟩) | (go_at_call 80; (with_reducible refine (rundleref01_in.calls a0 (wrap64 (a1 + 1)) 128 191 false _ A41.out).mono ?_); rintro e w' ⟨rfl, ⟨nd, rfl⟩⟩) | (go_at_call 80; (with_reducible refine (rundleref01_in.calls a0 a1 237 237 true _ A43.out).mono ?_); rintro e w' ⟨rfl, ⟨nd, rfl⟩⟩) | (go_at_call 80; (with_reducible refine (rundleref01_in.calls a0 (wrap64 (a1 + 1)) 128 159 false _ A45.out).mono ?_); rintro e w' ⟨rfl, ⟨nd, rfl⟩⟩) | (go_at_call 80; (with_reducible refine (rundleref01_in.calls a0 a1 238 239 true _ A47.out).mono ?_); rintro e w' ⟨rfl, ⟨nd, rfl⟩⟩) | (go_at_call 80; (with_reducible refine (rundleref01_in.calls a0 (wrap64 (a1 + 1)) 128 191 t181 _ A49.out).mono ?_); rintro e w' ⟨rfl, ⟨nd, rfl⟩⟩))
                        go_meet
                        case rel => exact ⟨_, (t181), (by first | rfl | (simp; done) | (simp [*]; done) | (simp; first | exact Option.some.inj (A49.out.symm.trans A17.out) | exact Option.some.inj (A49.out.symm.trans A41.out))), H', ⟨by have := HJ4.out; first | omega | exact Nat.le_refl _⟩, by repeat (first | exact Drawn0.refl _ | apply Drawn0.step)⟩
                      · replace c48 := Bool.eq_false_iff.mpr c48
                        subst c48
                        have H1 : (rundleref01_Width.j1 kj4 a0 a1 false) = some r := by rw [if_neg (show ¬ (false = true) by decide)] at H; exact H
                        clear H
                        have H := H1
                        clear H1
                        have H' := Aside0.mk H
                        clear H
                        go_wp2_with (first | ((with_reducible refine gate_callee (f := 80) rfl ?_); refine goesL_ (some 21) rfl rfl Tryz.func80 (by kernel_rfl) rfl #[.string a0, .int .i64 a1, .int .u8 224, .int .u8 224] rfl (by (try simp only [List.map_toArray, List.map_cons, List.map_nil]); first | done | rfl | (simp only [List.length_drop, List.length_take]; rfl)) ?_; (with_reducible refine (rundleref01_in.calls a0 a1 224 224 false _ A11.out).mono ?_); rintro e w' ⟨rfl, ⟨nd, rfl⟩⟩; refine ⟨_, rfl, ?_⟩) | (go_at_call 80; (with_reducible refine (rundleref01_in.calls a0 a1 225 236 true _ A39.out).mono ?_); rintro e w' ⟨rfl, ⟨nd, rfl⟩⟩) | (go_at_call 80; (with_reducible refine (rundleref01_in.calls a0 (wrap64 (a1 + 1)) 128 191 false _ A41.out).mono ?_); rintro e w' ⟨rfl, ⟨nd, rfl⟩⟩) | (go_at_call 80; (with_reducible refine (rundleref01_in.calls a0 a1 237 237 true _ A43.out).mono ?_); rintro e w' ⟨rfl, ⟨nd, rfl⟩⟩) | (go_at_call 80; (with_reducible refine (rundleref01_in.calls a0 (wrap64 (a1 + 1)) 128 159 false _ A45.out).mono ?_); rintro e w' ⟨rfl, ⟨nd, rfl⟩⟩) | (go_at_call 80; (with_reducible refine (rundleref01_in.calls a0 a1 238 239 false _ A47.out).mono ?_); rintro e w' ⟨rfl, ⟨nd, rfl⟩⟩))
                        go_meet
                        case rel => exact ⟨_, (false), (by first | rfl | (simp; done) | (simp [*]; done)), H', ⟨by have := HJ4.out; first | omega | exact Nat.le_refl _⟩, by repeat (first | exact Drawn0.refl _ | apply Drawn0.step)⟩
                  · replace c44 := Bool.eq_false_iff.mpr c44
                    subst c44
                    have H1 : ((rundleref01_in.f a0 a1 238 239).bind fun t182 => (if t182 = true then ((rundleref01_in.f a0 (wrap64 (a1 + 1)) 128 191).bind fun t183 => (rundleref01_Width.j1 kj4 a0 a1 t183)) else (rundleref01_Width.j1 kj4 a0 a1 false))) = some r := by rw [if_neg (show ¬ (false = true) by decide)] at H; exact H
                    clear H
                    have H := H1
                    clear H1
                    replace H := Option.bind_eq_some_iff.mp H
                    obtain ⟨t182, A500, H⟩ := H
                    replace H : (if t182 = true then ((rundleref01_in.f a0 (wrap64 (a1 + 1)) 128 191).bind fun t183 => (rundleref01_Width.j1 kj4 a0 a1 t183)) else (rundleref01_Width.j1 kj4 a0 a1 false)) = some r := H
                    have A50 := Aside0.mk A500
                    clear A500
                    by_cases c51 : t182 = true
                    · subst c51
                      have H1 : ((rundleref01_in.f a0 (wrap64 (a1 + 1)) 128 191).bind fun t183 => (rundleref01_Width.j1 kj4 a0 a1 t183)) = some r := by rw [if_pos rfl] at H; exact H
                      clear H
                      have H := H1
                      clear H1
                      replace H := Option.bind_eq_some_iff.mp H
                      obtain ⟨t183, A520, H⟩ := H
                      replace H : (rundleref01_Width.j1 kj4 a0 a1 t183) = some r := H
                      have A52 := Aside0.mk A520
                      clear A520
                      have H' := Aside0.mk H
                      clear H
                      go_wp2_with (first | ((with_reducible refine gate_callee (f := 80) rfl ?_); refine goesL_ (some 21) rfl rfl Tryz.func80 (by kernel_rfl) rfl #[.string a0, .int .i64 a1, .int .u8 224, .int .u8 224] rfl (by (try simp only [List.map_toArray, List.map_cons, List.map_nil]); first | done | rfl | (simp only [List.length_drop, List.length_take]; rfl)) ?_; (with_reducible refine (rundleref01_in.calls a0 a1 224 224 false _ A11.out).mono ?_); rintro e w' ⟨rfl, ⟨nd, rfl⟩⟩; refine ⟨_, rfl, ?_⟩) | (go_at_call 80; (with_reducible refine (rundleref01_in.calls a0 a1 225 236 true _ A39.out).mono ?_); rintro e w' ⟨rfl, ⟨nd, rfl⟩⟩) | (go_at_call 80; (with_reducible refine (rundleref01_in.calls a0 (wrap64 (a1 + 1)) 128 191 false _ A41.out).mono ?_); rintro e w' ⟨rfl, ⟨nd, rfl⟩⟩) | (go_at_call 80; (with_reducible refine (rundleref01_in.calls a0 a1 237 237 false _ A43.out).mono ?_); rintro e w' ⟨rfl, ⟨nd, rfl⟩⟩) | (go_at_call 80; (with_reducible refine (rundleref01_in.calls a0 a1 238 239 true _ A50.out).mono ?_); rintro e w' ⟨rfl, ⟨nd, rfl⟩⟩) | (go_at_call 80; (with_reducible refine (rundleref01_in.calls a0 (wrap64 (a1 + 1)) 128 191 t183 _ A52.out).mono ?_); rintro e w' ⟨rfl, ⟨nd, rfl⟩⟩))
                      go_meet
                      case rel => exact ⟨_, (t183), (by first | rfl | (simp; done) | (simp [*]; done) | (simp; first | exact Option.some.inj (A52.out.symm.trans A17.out) | exact Option.some.inj (A52.out.symm.trans A41.out))), H', ⟨by have := HJ4.out; first | omega | exact Nat.le_refl _⟩, by repeat (first | exact Drawn0.refl _ | apply Drawn0.step)⟩
                    · replace c51 := Bool.eq_false_iff.mpr c51
                      subst c51
                      have H1 : (rundleref01_Width.j1 kj4 a0 a1 false) = some r := by rw [if_neg (show ¬ (false = true) by decide)] at H; exact H
                      clear H
                      have H := H1
                      clear H1
                      have H' := Aside0.mk H
                      clear H
                      go_wp2_with (first | ((with_reducible refine gate_callee (f := 80) rfl ?_); refine goesL_ (some 21) rfl rfl Tryz.func80 (by kernel_rfl) rfl #[.string a0, .int .i64 a1, .int .u8 224, .int .u8 224] rfl (by (try simp only [List.map_toArray, List.map_cons, List.map_nil]); first | done | rfl | (simp only [List.length_drop, List.length_take]; rfl)) ?_; (with_reducible refine (rundleref01_in.calls a0 a1 224 224 false _ A11.out).mono ?_); rintro e w' ⟨rfl, ⟨nd, rfl⟩⟩; refine ⟨_, rfl, ?_⟩) | (go_at_call 80; (with_reducible refine (rundleref01_in.calls a0 a1 225 236 true _ A39.out).mono ?_); rintro e w' ⟨rfl, ⟨nd, rfl⟩⟩) | (go_at_call 80; (with_reducible refine (rundleref01_in.calls a0 (wrap64 (a1 + 1)) 128 191 false _ A41.out).mono ?_); rintro e w' ⟨rfl, ⟨nd, rfl⟩⟩) | (go_at_call 80; (with_reducible refine (rundleref01_in.calls a0 a1 237 237 false _ A43.out).mono ?_); rintro e w' ⟨rfl, ⟨nd, rfl⟩⟩) | (go_at_call 80; (with_reducible refine (rundleref01_in.calls a0 a1 238 239 false _ A50.out).mono ?_); rintro e w' ⟨rfl, ⟨nd, rfl⟩⟩))
                      go_meet
                      case rel => exact ⟨_, (false), (by first | rfl | (simp; done) | (simp [*]; done)), H', ⟨by have := HJ4.out; first | omega | exact Nat.le_refl _⟩, by repeat (first | exact Drawn0.refl _ | apply Drawn0.step)⟩
              · replace c40 := Bool.eq_false_iff.mpr c40
                subst c40
                have H1 : ((rundleref01_in.f a0 a1 237 237).bind fun t184 => (if t184 = true then ((rundleref01_in.f a0 (wrap64 (a1 + 1)) 128 159).bind fun t185 => (if t185 = true then (rundleref01_Width.j1 kj4 a0 a1 true) else ((rundleref01_in.f a0 a1 238 239).bind fun t186 => (if t186 = true then ((rundleref01_in.f a0 (wrap64 (a1 + 1)) 128 191).bind fun t187 => (rundleref01_Width.j1 kj4 a0 a1 t187)) else (rundleref01_Width.j1 kj4 a0 a1 false))))) else ((rundleref01_in.f a0 a1 238 239).bind fun t188 => (if t188 = true then ((rundleref01_in.f a0 (wrap64 (a1 + 1)) 128 191).bind fun t189 => (rundleref01_Width.j1 kj4 a0 a1 t189)) else (rundleref01_Width.j1 kj4 a0 a1 false))))) = some r := by rw [if_neg (show ¬ (false = true) by decide)] at H; exact H
                clear H
                have H := H1
                clear H1
                replace H := Option.bind_eq_some_iff.mp H
                obtain ⟨t184, A530, H⟩ := H
                replace H : (if t184 = true then ((rundleref01_in.f a0 (wrap64 (a1 + 1)) 128 159).bind fun t185 => (if t185 = true then (rundleref01_Width.j1 kj4 a0 a1 true) else ((rundleref01_in.f a0 a1 238 239).bind fun t186 => (if t186 = true then ((rundleref01_in.f a0 (wrap64 (a1 + 1)) 128 191).bind fun t187 => (rundleref01_Width.j1 kj4 a0 a1 t187)) else (rundleref01_Width.j1 kj4 a0 a1 false))))) else ((rundleref01_in.f a0 a1 238 239).bind fun t188 => (if t188 = true then ((rundleref01_in.f a0 (wrap64 (a1 + 1)) 128 191).bind fun t189 => (rundleref01_Width.j1 kj4 a0 a1 t189)) else (rundleref01_Width.j1 kj4 a0 a1 false)))) = some r := H
                have A53 := Aside0.mk A530
                clear A530
                by_cases c54 : t184 = true
                · subst c54
                  have H1 : ((rundleref01_in.f a0 (wrap64 (a1 + 1)) 128 159).bind fun t185 => (if t185 = true then (rundleref01_Width.j1 kj4 a0 a1 true) else ((rundleref01_in.f a0 a1 238 239).bind fun t186 => (if t186 = true then ((rundleref01_in.f a0 (wrap64 (a1 + 1)) 128 191).bind fun t187 => (rundleref01_Width.j1 kj4 a0 a1 t187)) else (rundleref01_Width.j1 kj4 a0 a1 false))))) = some r := by rw [if_pos rfl] at H; exact H
                  clear H
                  have H := H1
                  clear H1
                  replace H := Option.bind_eq_some_iff.mp H
                  obtain ⟨t185, A550, H⟩ := H
                  replace H : (if t185 = true then (rundleref01_Width.j1 kj4 a0 a1 true) else ((rundleref01_in.f a0 a1 238 239).bind fun t186 => (if t186 = true then ((rundleref01_in.f a0 (wrap64 (a1 + 1)) 128 191).bind fun t187 => (rundleref01_Width.j1 kj4 a0 a1 t187)) else (rundleref01_Width.j1 kj4 a0 a1 false)))) = some r := H
                  have A55 := Aside0.mk A550
                  clear A550
                  by_cases c56 : t185 = true
                  · subst c56
                    have H1 : (rundleref01_Width.j1 kj4 a0 a1 true) = some r := by rw [if_pos rfl] at H; exact H
                    clear H
                    have H := H1
                    clear H1
                    have H' := Aside0.mk H
                    clear H
                    go_wp2_with (first | ((with_reducible refine gate_callee (f := 80) rfl ?_); refine goesL_ (some 21) rfl rfl Tryz.func80 (by kernel_rfl) rfl #[.string a0, .int .i64 a1, .int .u8 224, .int .u8 224] rfl (by (try simp only [List.map_toArray, List.map_cons, List.map_nil]); first | done | rfl | (simp only [List.length_drop, List.length_take]; rfl)) ?_; (with_reducible refine (rundleref01_in.calls a0 a1 224 224 false _ A11.out).mono ?_); rintro e w' ⟨rfl, ⟨nd, rfl⟩⟩; refine ⟨_, rfl, ?_⟩) | (go_at_call 80; (with_reducible refine (rundleref01_in.calls a0 a1 225 236 false _ A39.out).mono ?_); rintro e w' ⟨rfl, ⟨nd, rfl⟩⟩) | (go_at_call 80; (with_reducible refine (rundleref01_in.calls a0 a1 237 237 true _ A53.out).mono ?_); rintro e w' ⟨rfl, ⟨nd, rfl⟩⟩) | (go_at_call 80; (with_reducible refine (rundleref01_in.calls a0 (wrap64 (a1 + 1)) 128 159 true _ A55.out).mono ?_); rintro e w' ⟨rfl, ⟨nd, rfl⟩⟩))
                    go_meet
                    case rel => exact ⟨_, (true), (by first | rfl | (simp; done) | (simp [*]; done)), H', ⟨by have := HJ4.out; first | omega | exact Nat.le_refl _⟩, by repeat (first | exact Drawn0.refl _ | apply Drawn0.step)⟩
                  · replace c56 := Bool.eq_false_iff.mpr c56
                    subst c56
                    have H1 : ((rundleref01_in.f a0 a1 238 239).bind fun t186 => (if t186 = true then ((rundleref01_in.f a0 (wrap64 (a1 + 1)) 128 191).bind fun t187 => (rundleref01_Width.j1 kj4 a0 a1 t187)) else (rundleref01_Width.j1 kj4 a0 a1 false))) = some r := by rw [if_neg (show ¬ (false = true) by decide)] at H; exact H
                    clear H
                    have H := H1
                    clear H1
                    replace H := Option.bind_eq_some_iff.mp H
                    obtain ⟨t186, A570, H⟩ := H
                    replace H : (if t186 = true then ((rundleref01_in.f a0 (wrap64 (a1 + 1)) 128 191).bind fun t187 => (rundleref01_Width.j1 kj4 a0 a1 t187)) else (rundleref01_Width.j1 kj4 a0 a1 false)) = some r := H
                    have A57 := Aside0.mk A570
                    clear A570
                    by_cases c58 : t186 = true
                    · subst c58
                      have H1 : ((rundleref01_in.f a0 (wrap64 (a1 + 1)) 128 191).bind fun t187 => (rundleref01_Width.j1 kj4 a0 a1 t187)) = some r := by rw [if_pos rfl] at H; exact H
                      clear H
                      have H := H1
                      clear H1
                      replace H := Option.bind_eq_some_iff.mp H
                      obtain ⟨t187, A590, H⟩ := H
                      replace H : (rundleref01_Width.j1 kj4 a0 a1 t187) = some r := H
                      have A59 := Aside0.mk A590
                      clear A590
                      have H' := Aside0.mk H
                      clear H
                      go_wp2_with (first | ((with_reducible refine gate_callee (f := 80) rfl ?_); refine goesL_ (some 21) rfl rfl Tryz.func80 (by kernel_rfl) rfl #[.string a0, .int .i64 a1, .int .u8 224, .int .u8 224] rfl (by (try simp only [List.map_toArray, List.map_cons, List.map_nil]); first | done | rfl | (simp only [List.length_drop, List.length_take]; rfl)) ?_; (with_reducible refine (rundleref01_in.calls a0 a1 224 224 false _ A11.out).mono ?_); rintro e w' ⟨rfl, ⟨nd, rfl⟩⟩; refine ⟨_, rfl, ?_⟩) | (go_at_call 80; (with_reducible refine (rundleref01_in.calls a0 a1 225 236 false _ A39.out).mono ?_); rintro e w' ⟨rfl, ⟨nd, rfl⟩⟩) | (go_at_call 80; (with_reducible refine (rundleref01_in.calls a0 a1 237 237 true _ A53.out).mono ?_); rintro e w' ⟨rfl, ⟨nd, rfl⟩⟩) | (go_at_call 80; (with_reducible refine (rundleref01_in.calls a0 (wrap64 (a1 + 1)) 128 159 false _ A55.out).mono ?_); rintro e w' ⟨rfl, ⟨nd, rfl⟩⟩) | (go_at_call 80; (with_reducible refine (rundleref01_in.calls a0 a1 238 239 true _ A57.out).mono ?_); rintro e w' ⟨rfl, ⟨nd, rfl⟩⟩) | (go_at_call 80; (with_reducible refine (rundleref01_in.calls a0 (wrap64 (a1 + 1)) 128 191 t187 _ A59.out).mono ?_); rintro e w' ⟨rfl, ⟨nd, rfl⟩⟩))
                      go_meet
                      case rel => exact ⟨_, (t187), (by first | rfl | (simp; done) | (simp [*]; done) | (simp; first | exact Option.some.inj (A59.out.symm.trans A17.out) | exact Option.some.inj (A59.out.symm.trans A41.out))), H', ⟨by have := HJ4.out; first | omega | exact Nat.le_refl _⟩, by repeat (first | exact Drawn0.refl _ | apply Drawn0.step)⟩
                    · replace c58 := Bool.eq_false_iff.mpr c58
                      subst c58
                      have H1 : (rundleref01_Width.j1 kj4 a0 a1 false) = some r := by rw [if_neg (show ¬ (false = true) by decide)] at H; exact H
                      clear H
                      have H := H1
                      clear H1
                      have H' := Aside0.mk H
                      clear H
                      go_wp2_with (first | ((with_reducible refine gate_callee (f := 80) rfl ?_); refine goesL_ (some 21) rfl rfl Tryz.func80 (by kernel_rfl) rfl #[.string a0, .int .i64 a1, .int .u8 224, .int .u8 224] rfl (by (try simp only [List.map_toArray, List.map_cons, List.map_nil]); first | done | rfl | (simp only [List.length_drop, List.length_take]; rfl)) ?_; (with_reducible refine (rundleref01_in.calls a0 a1 224 224 false _ A11.out).mono ?_); rintro e w' ⟨rfl, ⟨nd, rfl⟩⟩; refine ⟨_, rfl, ?_⟩) | (go_at_call 80; (with_reducible refine (rundleref01_in.calls a0 a1 225 236 false _ A39.out).mono ?_); rintro e w' ⟨rfl, ⟨nd, rfl⟩⟩) | (go_at_call 80; (with_reducible refine (rundleref01_in.calls a0 a1 237 237 true _ A53.out).mono ?_); rintro e w' ⟨rfl, ⟨nd, rfl⟩⟩) | (go_at_call 80; (with_reducible refine (rundleref01_in.calls a0 (wrap64 (a1 + 1)) 128 159 false _ A55.out).mono ?_); rintro e w' ⟨rfl, ⟨nd, rfl⟩⟩) | (go_at_call 80; (with_reducible refine (rundleref01_in.calls a0 a1 238 239 false _ A57.out).mono ?_); rintro e w' ⟨rfl, ⟨nd, rfl⟩⟩))
                      go_meet
                      case rel => exact ⟨_, (false), (by first | rfl | (simp; done) | (simp [*]; done)), H', ⟨by have := HJ4.out; first | omega | exact Nat.le_refl _⟩, by repeat (first | exact Drawn0.refl _ | apply Drawn0.step)⟩
                · replace c54 := Bool.eq_false_iff.mpr c54
                  subst c54
                  have H1 : ((rundleref01_in.f a0 a1 238 239).bind fun t188 => (if t188 = true then ((rundleref01_in.f a0 (wrap64 (a1 + 1)) 128 191).bind fun t189 => (rundleref01_Width.j1 kj4 a0 a1 t189)) else (rundleref01_Width.j1 kj4 a0 a1 false))) = some r := by rw [if_neg (show ¬ (false = true) by decide)] at H; exact H
                  clear H
                  have H := H1
                  clear H1
                  replace H := Option.bind_eq_some_iff.mp H
                  obtain ⟨t188, A600, H⟩ := H
                  replace H : (if t188 = true then ((rundleref01_in.f a0 (wrap64 (a1 + 1)) 128 191).bind fun t189 => (rundleref01_Width.j1 kj4 a0 a1 t189)) else (rundleref01_Width.j1 kj4 a0 a1 false)) = some r := H
                  have A60 := Aside0.mk A600
                  clear A600
                  by_cases c61 : t188 = true
                  · subst c61
                    have H1 : ((rundleref01_in.f a0 (wrap64 (a1 + 1)) 128 191).bind fun t189 => (rundleref01_Width.j1 kj4 a0 a1 t189)) = some r := by rw [if_pos rfl] at H; exact H
                    clear H
                    have H := H1
                    clear H1
                    replace H := Option.bind_eq_some_iff.mp H
                    obtain ⟨t189, A620, H⟩ := H
                    replace H : (rundleref01_Width.j1 kj4 a0 a1 t189) = some r := H
                    have A62 := Aside0.mk A620
                    clear A620
                    have H' := Aside0.mk H
                    clear H
                    go_wp2_with (first | ((with_reducible refine gate_callee (f := 80) rfl ?_); refine goesL_ (some 21) rfl rfl Tryz.func80 (by kernel_rfl) rfl #[.string a0, .int .i64 a1, .int .u8 224, .int .u8 224] rfl (by (try simp only [List.map_toArray, List.map_cons, List.map_nil]); first | done | rfl | (simp only [List.length_drop, List.length_take]; rfl)) ?_; (with_reducible refine (rundleref01_in.calls a0 a1 224 224 false _ A11.out).mono ?_); rintro e w' ⟨rfl, ⟨nd, rfl⟩⟩; refine ⟨_, rfl, ?_⟩) | (go_at_call 80; (with_reducible refine (rundleref01_in.calls a0 a1 225 236 false _ A39.out).mono ?_); rintro e w' ⟨rfl, ⟨nd, rfl⟩⟩) | (go_at_call 80; (with_reducible refine (rundleref01_in.calls a0 a1 237 237 false _ A53.out).mono ?_); rintro e w' ⟨rfl, ⟨nd, rfl⟩⟩) | (go_at_call 80; (with_reducible refine (rundleref01_in.calls a0 a1 238 239 true _ A60.out).mono ?_); rintro e w' ⟨rfl, ⟨nd, rfl⟩⟩) | (go_at_call 80; (with_reducible refine (rundleref01_in.calls a0 (wrap64 (a1 + 1)) 128 191 t189 _ A62.out).mono ?_); rintro e w' ⟨rfl, ⟨nd, rfl⟩⟩))
                    go_meet
                    case rel => exact ⟨_, (t189), (by first | rfl | (simp; done) | (simp [*]; done) | (simp; first | exact Option.some.inj (A62.out.symm.trans A17.out) | exact Option.some.inj (A62.out.symm.trans A41.out))), H', ⟨by have := HJ4.out; first | omega | exact Nat.le_refl _⟩, by repeat (first | exact Drawn0.refl _ | apply Drawn0.step)⟩
                  · replace c61 := Bool.eq_false_iff.mpr c61
                    subst c61
                    have H1 : (rundleref01_Width.j1 kj4 a0 a1 false) = some r := by rw [if_neg (show ¬ (false = true) by decide)] at H; exact H
                    clear H
                    have H := H1
                    clear H1
                    have H' := Aside0.mk H
                    clear H
                    go_wp2_with (first | ((with_reducible refine gate_callee (f := 80) rfl ?_); refine goesL_ (some 21) rfl rfl Tryz.func80 (by kernel_rfl) rfl #[.string a0, .int .i64 a1, .int .u8 224, .int .u8 224] rfl (by (try simp only [List.map_toArray, List.map_cons, List.map_nil]); first | done | rfl | (simp only [List.length_drop, List.length_take]; rfl)) ?_; (with_reducible refine (rundleref01_in.calls a0 a1 224 224 false _ A11.out).mono ?_); rintro e w' ⟨rfl, ⟨nd, rfl⟩⟩; refine ⟨_, rfl, ?_⟩) | (go_at_call 80; (with_reducible refine (rundleref01_in.calls a0 a1 225 236 false _ A39.out).mono ?_); rintro e w' ⟨rfl, ⟨nd, rfl⟩⟩) | (go_at_call 80; (with_reducible refine (rundleref01_in.calls a0 a1 237 237 false _ A53.out).mono ?_); rintro e w' ⟨rfl, ⟨nd, rfl⟩⟩) | (go_at_call 80; (with_reducible refine (rundleref01_in.calls a0 a1 238 239 false _ A60.out).mono ?_); rintro e w' ⟨rfl, ⟨nd, rfl⟩⟩))
                    go_meet
                    case rel => exact ⟨_, (false), (by first | rfl | (simp; done) | (simp [*]; done)), H', ⟨by have := HJ4.out; first | omega | exact Nat.le_refl _⟩, by repeat (first | exact Drawn0.refl _ | apply Drawn0.step)⟩
          case rest =>
            clear HC10
            try clear c1
            try clear c2
            try clear p2
            try clear c3
            try clear c4
            try clear c5
            try clear c6
            try clear p6
            try clear c7
            try clear c8
            try clear c9
            try clear c12
            try clear c14
            try clear c16
            try clear c18
            try clear c20
            try clear c22
            try clear c24
            try clear c27
            try clear c30
            try clear c32
            try clear c34
            try clear c37
            try clear c40
            try clear c42
            try clear c44
            try clear c46
            try clear c48
            try clear c51
            try clear c54
            try clear c56
            try clear c58
            try clear c61
            try clear p2
            try clear p6
            obtain ⟨kq, x5_9, rfl, HA, HJ9, ⟨mc9, rfl⟩⟩ := hcut
            cases kq with
            | zero => exact absurd HA.out (by simp [rundleref01_Width.j1])
            | succ kj9 =>
              have H := HA.out
              clear HA
              simp only [rundleref01_Width.j1] at H
              have HC63 := Aside0.mk H
              clear H
              go_upto_region 6 with (fail)
              go_cut [67] (fun v67 wc => ∃ (kq : Nat) (x67_62 : Bool), v67 = .bool x67_62 ∧ Aside0 (rundleref01_Width.j2 kq a0 a1 x67_62 = some r) ∧ Aside0 (kq ≤ kj9) ∧ Drawn0 w wc)
              case first =>
                have H := HC63.out
                clear HC63
                by_cases c64 : x5_9 = true
                · subst c64
                  have H1 : ((rundleref01_in.f a0 (wrap64 (a1 + 2)) 128 191).bind fun t190 => (rundleref01_Width.j2 kj9 a0 a1 t190)) = some r := by rw [if_pos rfl] at H; exact H
                  clear H
                  have H := H1
                  clear H1
                  replace H := Option.bind_eq_some_iff.mp H
                  obtain ⟨t190, A650, H⟩ := H
                  replace H : (rundleref01_Width.j2 kj9 a0 a1 t190) = some r := H
                  have A65 := Aside0.mk A650
                  clear A650
                  have H' := Aside0.mk H
                  clear H
                  go_wp2_with (first | (go_at_call 80; (with_reducible refine (rundleref01_in.calls a0 (wrap64 (a1 + 2)) 128 191 t190 _ A65.out).mono ?_); rintro e w' ⟨rfl, ⟨nd, rfl⟩⟩))
                  go_meet
                  case rel => exact ⟨_, (t190), (by first | rfl | (simp; done) | (simp [*]; done) | (simp; first | exact Option.some.inj (A65.out.symm.trans A17.out) | exact Option.some.inj (A65.out.symm.trans A41.out))), H', ⟨by have := HJ4.out; have := HJ9.out; first | omega | exact Nat.le_refl _⟩, by repeat (first | exact Drawn0.refl _ | apply Drawn0.step)⟩
                · replace c64 := Bool.eq_false_iff.mpr c64
                  subst c64
                  have H1 : (rundleref01_Width.j2 kj9 a0 a1 false) = some r := by rw [if_neg (show ¬ (false = true) by decide)] at H; exact H
                  clear H
                  have H := H1
                  clear H1
                  have H' := Aside0.mk H
                  clear H
                  go_wp2
                  go_meet
                  case rel => exact ⟨_, (false), (by first | rfl | (simp; done) | (simp [*]; done)), H', ⟨by have := HJ4.out; have := HJ9.out; first | omega | exact Nat.le_refl _⟩, by repeat (first | exact Drawn0.refl _ | apply Drawn0.step)⟩
              case rest =>
                clear HC63
                try clear c1
                try clear c2
                try clear p2
                try clear c3
                try clear c4
                try clear c5
                try clear c6
                try clear p6
                try clear c7
                try clear c8
                try clear c9
                try clear c12
                try clear c14
                try clear c16
                try clear c18
                try clear c20
                try clear c22
                try clear c24
                try clear c27
                try clear c30
                try clear c32
                try clear c34
                try clear c37
                try clear c40
                try clear c42
                try clear c44
                try clear c46
                try clear c48
                try clear c51
                try clear c54
                try clear c56
                try clear c58
                try clear c61
                try clear c64
                try clear p64
                try clear p2
                try clear p6
                obtain ⟨kq, x67_62, rfl, HA, HJ62, ⟨mc62, rfl⟩⟩ := hcut
                cases kq with
                | zero => exact absurd HA.out (by simp [rundleref01_Width.j2])
                | succ kj62 =>
                  have H := HA.out
                  clear HA
                  simp only [rundleref01_Width.j2] at H
                  by_cases c66 : x67_62 = true
                  · subst c66
                    have H1 : (some 3) = some r := by rw [if_pos rfl] at H; exact H
                    clear H
                    have H := H1
                    clear H1
                    obtain rfl := Option.some.inj H
                    go_wp2
                    go_ret
                    exact ⟨by first | rfl | (simp; done) | (simp [*]; done), by repeat (first | exact Drawn0.refl _ | apply Drawn0.step)⟩
                  · replace c66 := Bool.eq_false_iff.mpr c66
                    subst c66
                    have H1 : ((rundleref01_in.f a0 a1 240 240).bind fun t191 => (if t191 = true then ((rundleref01_in.f a0 (wrap64 (a1 + 1)) 144 191).bind fun t192 => (if t192 = true then (rundleref01_Width.j3 kj62 a0 a1 true) else ((rundleref01_in.f a0 a1 241 243).bind fun t193 => (if t193 = true then ((rundleref01_in.f a0 (wrap64 (a1 + 1)) 128 191).bind fun t194 => (if t194 = true then (rundleref01_Width.j3 kj62 a0 a1 true) else ((rundleref01_in.f a0 a1 244 244).bind fun t195 => (if t195 = true then ((rundleref01_in.f a0 (wrap64 (a1 + 1)) 128 143).bind fun t196 => (rundleref01_Width.j3 kj62 a0 a1 t196)) else (rundleref01_Width.j3 kj62 a0 a1 false))))) else ((rundleref01_in.f a0 a1 244 244).bind fun t197 => (if t197 = true then ((rundleref01_in.f a0 (wrap64 (a1 + 1)) 128 143).bind fun t198 => (rundleref01_Width.j3 kj62 a0 a1 t198)) else (rundleref01_Width.j3 kj62 a0 a1 false))))))) else ((rundleref01_in.f a0 a1 241 243).bind fun t199 => (if t199 = true then ((rundleref01_in.f a0 (wrap64 (a1 + 1)) 128 191).bind fun t200 => (if t200 = true then (rundleref01_Width.j3 kj62 a0 a1 true) else ((rundleref01_in.f a0 a1 244 244).bind fun t201 => (if t201 = true then ((rundleref01_in.f a0 (wrap64 (a1 + 1)) 128 143).bind fun t202 => (rundleref01_Width.j3 kj62 a0 a1 t202)) else (rundleref01_Width.j3 kj62 a0 a1 false))))) else ((rundleref01_in.f a0 a1 244 244).bind fun t203 => (if t203 = true then ((rundleref01_in.f a0 (wrap64 (a1 + 1)) 128 143).bind fun t204 => (rundleref01_Width.j3 kj62 a0 a1 t204)) else (rundleref01_Width.j3 kj62 a0 a1 false))))))) = some r := by rw [if_neg (show ¬ (false = true) by decide)] at H; exact H
                    clear H
                    have H := H1
                    clear H1
                    have HC67 := Aside0.mk H
                    clear H
                    go_upto_region 8 with (fail)
                    go_cut [6] (fun v6 wc => ∃ (kq : Nat) (x6_66 : Bool), v6 = .bool x6_66 ∧ Aside0 (rundleref01_Width.j3 kq a0 a1 x6_66 = some r) ∧ Aside0 (kq ≤ kj62) ∧ Drawn0 w wc)
                    case first =>
                      have H := HC67.out
                      clear HC67
                      replace H := Option.bind_eq_some_iff.mp H
                      obtain ⟨t191, A680, H⟩ := H
                      replace H : (if t191 = true then ((rundleref01_in.f a0 (wrap64 (a1 + 1)) 144 191).bind fun t192 => (if t192 = true then (rundleref01_Width.j3 kj62 a0 a1 true) else ((rundleref01_in.f a0 a1 241 243).bind fun t193 => (if t193 = true then ((rundleref01_in.f a0 (wrap64 (a1 + 1)) 128 191).bind fun t194 => (if t194 = true then (rundleref01_Width.j3 kj62 a0 a1 true) else ((rundleref01_in.f a0 a1 244 244).bind fun t195 => (if t195 = true then ((rundleref01_in.f a0 (wrap64 (a1 + 1)) 128 143).bind fun t196 => (rundleref01_Width.j3 kj62 a0 a1 t196)) else (rundleref01_Width.j3 kj62 a0 a1 false))))) else ((rundleref01_in.f a0 a1 244 244).bind fun t197 => (if t197 = true then ((rundleref01_in.f a0 (wrap64 (a1 + 1)) 128 143).bind fun t198 => (rundleref01_Width.j3 kj62 a0 a1 t198)) else (rundleref01_Width.j3 kj62 a0 a1 false))))))) else ((rundleref01_in.f a0 a1 241 243).bind fun t199 => (if t199 = true then ((rundleref01_in.f a0 (wrap64 (a1 + 1)) 128 191).bind fun t200 => (if t200 = true then (rundleref01_Width.j3 kj62 a0 a1 true) else ((rundleref01_in.f a0 a1 244 244).bind fun t201 => (if t201 = true then ((rundleref01_in.f a0 (wrap64 (a1 + 1)) 128 143).bind fun t202 => (rundleref01_Width.j3 kj62 a0 a1 t202)) else (rundleref01_Width.j3 kj62 a0 a1 false))))) else ((rundleref01_in.f a0 a1 244 244).bind fun t203 => (if t203 = true then ((rundleref01_in.f a0 (wrap64 (a1 + 1)) 128 143).bind fun t204 => (rundleref01_Width.j3 kj62 a0 a1 t204)) else (rundleref01_Width.j3 kj62 a0 a1 false)))))) = some r := H
                      have A68 := Aside0.mk A680
                      clear A680
                      by_cases c69 : t191 = true
                      · subst c69
                        have H1 : ((rundleref01_in.f a0 (wrap64 (a1 + 1)) 144 191).bind fun t192 => (if t192 = true then (rundleref01_Width.j3 kj62 a0 a1 true) else ((rundleref01_in.f a0 a1 241 243).bind fun t193 => (if t193 = true then ((rundleref01_in.f a0 (wrap64 (a1 + 1)) 128 191).bind fun t194 => (if t194 = true then (rundleref01_Width.j3 kj62 a0 a1 true) else ((rundleref01_in.f a0 a1 244 244).bind fun t195 => (if t195 = true then ((rundleref01_in.f a0 (wrap64 (a1 + 1)) 128 143).bind fun t196 => (rundleref01_Width.j3 kj62 a0 a1 t196)) else (rundleref01_Width.j3 kj62 a0 a1 false))))) else ((rundleref01_in.f a0 a1 244 244).bind fun t197 => (if t197 = true then ((rundleref01_in.f a0 (wrap64 (a1 + 1)) 128 143).bind fun t198 => (rundleref01_Width.j3 kj62 a0 a1 t198)) else (rundleref01_Width.j3 kj62 a0 a1 false))))))) = some r := by rw [if_pos rfl] at H; exact H
                        clear H
                        have H := H1
                        clear H1
                        replace H := Option.bind_eq_some_iff.mp H
                        obtain ⟨t192, A700, H⟩ := H
                        replace H : (if t192 = true then (rundleref01_Width.j3 kj62 a0 a1 true) else ((rundleref01_in.f a0 a1 241 243).bind fun t193 => (if t193 = true then ((rundleref01_in.f a0 (wrap64 (a1 + 1)) 128 191).bind fun t194 => (if t194 = true then (rundleref01_Width.j3 kj62 a0 a1 true) else ((rundleref01_in.f a0 a1 244 244).bind fun t195 => (if t195 = true then ((rundleref01_in.f a0 (wrap64 (a1 + 1)) 128 143).bind fun t196 => (rundleref01_Width.j3 kj62 a0 a1 t196)) else (rundleref01_Width.j3 kj62 a0 a1 false))))) else ((rundleref01_in.f a0 a1 244 244).bind fun t197 => (if t197 = true then ((rundleref01_in.f a0 (wrap64 (a1 + 1)) 128 143).bind fun t198 => (rundleref01_Width.j3 kj62 a0 a1 t198)) else (rundleref01_Width.j3 kj62 a0 a1 false)))))) = some r := H
                        have A70 := Aside0.mk A700
                        clear A700
                        by_cases c71 : t192 = true
                        · subst c71
                          have H1 : (rundleref01_Width.j3 kj62 a0 a1 true) = some r := by rw [if_pos rfl] at H; exact H
                          clear H
                          have H := H1
                          clear H1
                          have H' := Aside0.mk H
                          clear H
                          go_wp2_with (first | ((with_reducible refine gate_callee (f := 80) rfl ?_); refine goesL_ (some 70) rfl rfl Tryz.func80 (by kernel_rfl) rfl #[.string a0, .int .i64 a1, .int .u8 240, .int .u8 240] rfl (by (try simp only [List.map_toArray, List.map_cons, List.map_nil]); first | done | rfl | (simp only [List.length_drop, List.length_take]; rfl)) ?_; (with_reducible refine (rundleref01_in.calls a0 a1 240 240 true _ A68.out).mono ?_); rintro e w' ⟨rfl, ⟨nd, rfl⟩⟩; refine ⟨_, rfl, ?_⟩) | (go_at_call 80; (with_reducible refine (rundleref01_in.calls a0 (wrap64 (a1 + 1)) 144 191 true _ A70.out).mono ?_); rintro e w' ⟨rfl, ⟨nd, rfl⟩⟩))
                          go_meet
                          case rel => exact ⟨_, (true), (by first | rfl | (simp; done) | (simp [*]; done)), H', ⟨by have := HJ4.out; have := HJ9.out; have := HJ62.out; first | omega | exact Nat.le_refl _⟩, by repeat (first | exact Drawn0.refl _ | apply Drawn0.step)⟩
                        · replace c71 := Bool.eq_false_iff.mpr c71
                          subst c71
                          have H1 : ((rundleref01_in.f a0 a1 241 243).bind fun t193 => (if t193 = true then ((rundleref01_in.f a0 (wrap64 (a1 + 1)) 128 191).bind fun t194 => (if t194 = true then (rundleref01_Width.j3 kj62 a0 a1 true) else ((rundleref01_in.f a0 a1 244 244).bind fun t195 => (if t195 = true then ((rundleref01_in.f a0 (wrap64 (a1 + 1)) 128 143).bind fun t196 => (rundleref01_Width.j3 kj62 a0 a1 t196)) else (rundleref01_Width.j3 kj62 a0 a1 false))))) else ((rundleref01_in.f a0 a1 244 244).bind fun t197 => (if t197 = true then ((rundleref01_in.f a0 (wrap64 (a1 + 1)) 128 143).bind fun t198 => (rundleref01_Width.j3 kj62 a0 a1 t198)) else (rundleref01_Width.j3 kj62 a0 a1 false))))) = some r := by rw [if_neg (show ¬ (false = true) by decide)] at H; exact H
                          clear H
                          have H := H1
                          clear H1
                          replace H := Option.bind_eq_some_iff.mp H
                          obtain ⟨t193, A720, H⟩ := H
                          replace H : (if t193 = true then ((rundleref01_in.f a0 (wrap64 (a1 + 1)) 128 191).bind fun t194 => (if t194 = true then (rundleref01_Width.j3 kj62 a0 a1 true) else ((rundleref01_in.f a0 a1 244 244).bind fun t195 => (if t195 = true then ((rundleref01_in.f a0 (wrap64 (a1 + 1)) 128 143).bind fun t196 => (rundleref01_Width.j3 kj62 a0 a1 t196)) else (rundleref01_Width.j3 kj62 a0 a1 false))))) else ((rundleref01_in.f a0 a1 244 244).bind fun t197 => (if t197 = true then ((rundleref01_in.f a0 (wrap64 (a1 + 1)) 128 143).bind fun t198 => (rundleref01_Width.j3 kj62 a0 a1 t198)) else (rundleref01_Width.j3 kj62 a0 a1 false)))) = some r := H
                          have A72 := Aside0.mk A720
                          clear A720
                          by_cases c73 : t193 = true
                          · subst c73
                            have H1 : ((rundleref01_in.f a0 (wrap64 (a1 + 1)) 128 191).bind fun t194 => (if t194 = true then (rundleref01_Width.j3 kj62 a0 a1 true) else ((rundleref01_in.f a0 a1 244 244).bind fun t195 => (if t195 = true then ((rundleref01_in.f a0 (wrap64 (a1 + 1)) 128 143).bind fun t196 => (rundleref01_Width.j3 kj62 a0 a1 t196)) else (rundleref01_Width.j3 kj62 a0 a1 false))))) = some r := by rw [if_pos rfl] at H; exact H
                            clear H
                            have H := H1
                            clear H1
                            replace H := Option.bind_eq_some_iff.mp H
                            obtain ⟨t194, A740, H⟩ := H
                            replace H : (if t194 = true then (rundleref01_Width.j3 kj62 a0 a1 true) else ((rundleref01_in.f a0 a1 244 244).bind fun t195 => (if t195 = true then ((rundleref01_in.f a0 (wrap64 (a1 + 1)) 128 143).bind fun t196 => (rundleref01_Width.j3 kj62 a0 a1 t196)) else (rundleref01_Width.j3 kj62 a0 a1 false)))) = some r := H
                            have A74 := Aside0.mk A740
                            clear A740
                            by_cases c75 : t194 = true
                            · subst c75
                              have H1 : (rundleref01_Width.j3 kj62 a0 a1 true) = some r := by rw [if_pos rfl] at H; exact H
                              clear H
                              have H := H1
                              clear H1
                              have H' := Aside0.mk H
                              clear H
                              go_wp2_with (first | ((with_reducible refine gate_callee (f := 80) rfl ?_); refine goesL_ (some 70) rfl rfl Tryz.func80 (by kernel_rfl) rfl #[.string a0, .int .i64 a1, .int .u8 240, .int .u8 240] rfl (by (try simp only [List.map_toArray, List.map_cons, List.map_nil]); first | done | rfl | (simp only [List.length_drop, List.length_take]; rfl)) ?_; (with_reducible refine (rundleref01_in.calls a0 a1 240 240 true _ A68.out).mono ?_); rintro e w' ⟨rfl, ⟨nd, rfl⟩⟩; refine ⟨_, rfl, ?_⟩) | (go_at_call 80; (with_reducible refine (rundleref01_in.calls a0 (wrap64 (a1 + 1)) 144 191 false _ A70.out).mono ?_); rintro e w' ⟨rfl, ⟨nd, rfl⟩⟩) | (go_at_call 80; (with_reducible refine (rundleref01_in.calls a0 a1 241 243 true _ A72.out).mono ?_); rintro e w' ⟨rfl, ⟨nd, rfl⟩⟩) | (go_at_call 80; (with_reducible refine (rundleref01_in.calls a0 (wrap64 (a1 + 1)) 128 191 true _ A74.out).mono ?_); rintro e w' ⟨rfl, ⟨nd, rfl⟩⟩))
                              go_meet
                              case rel => exact ⟨_, (true), (by first | rfl | (simp; done) | (simp [*]; done)), H', ⟨by have := HJ4.out; have := HJ9.out; have := HJ62.out; first | omega | exact Nat.le_refl _⟩, by repeat (first | exact Drawn0.refl _ | apply Drawn0.step)⟩
                            · replace c75 := Bool.eq_false_iff.mpr c75
                              subst c75
                              have H1 : ((rundleref01_in.f a0 a1 244 244).bind fun t195 => (if t195 = true then ((rundleref01_in.f a0 (wrap64 (a1 + 1)) 128 143).bind fun t196 => (rundleref01_Width.j3 kj62 a0 a1 t196)) else (rundleref01_Width.j3 kj62 a0 a1 false))) = some r := by rw [if_neg (show ¬ (false = true) by decide)] at H; exact H
                              clear H
                              have H := H1
                              clear H1
                              replace H := Option.bind_eq_some_iff.mp H
                              obtain ⟨t195, A760, H⟩ := H
                              replace H : (if t195 = true then ((rundleref01_in.f a0 (wrap64 (a1 + 1)) 128 143).bind fun t196 => (rundleref01_Width.j3 kj62 a0 a1 t196)) else (rundleref01_Width.j3 kj62 a0 a1 false)) = some r := H
                              have A76 := Aside0.mk A760
                              clear A760
                              by_cases c77 : t195 = true
                              · subst c77
                                have H1 : ((rundleref01_in.f a0 (wrap64 (a1 + 1)) 128 143).bind fun t196 => (rundleref01_Width.j3 kj62 a0 a1 t196)) = some r := by rw [if_pos rfl] at H; exact H
                                clear H
                                have H := H1
                                clear H1
                                replace H := Option.bind_eq_some_iff.mp H
                                obtain ⟨t196, A780, H⟩ := H
                                replace H : (rundleref01_Width.j3 kj62 a0 a1 t196) = some r := H
                                have A78 := Aside0.mk A780
                                clear A780
                                have H' := Aside0.mk H
                                clear H
                                go_wp2_with (first | ((with_reducible refine gate_callee (f := 80) rfl ?_); refine goesL_ (some 70) rfl rfl Tryz.func80 (by kernel_rfl) rfl #[.string a0, .int .i64 a1, .int .u8 240, .int .u8 240] rfl (by (try simp only [List.map_toArray, List.map_cons, List.map_nil]); first | done | rfl | (simp only [List.length_drop, List.length_take]; rfl)) ?_; (with_reducible refine (rundleref01_in.calls a0 a1 240 240 true _ A68.out).mono ?_); rintro e w' ⟨rfl, ⟨nd, rfl⟩⟩; refine ⟨_, rfl, ?_⟩) | (go_at_call 80; (with_reducible refine (rundleref01_in.calls a0 (wrap64 (a1 + 1)) 144 191 false _ A70.out).mono ?_); rintro e w' ⟨rfl, ⟨nd, rfl⟩⟩) | (go_at_call 80; (with_reducible refine (rundleref01_in.calls a0 a1 241 243 true _ A72.out).mono ?_); rintro e w' ⟨rfl, ⟨nd, rfl⟩⟩) | (go_at_call 80; (with_reducible refine (rundleref01_in.calls a0 (wrap64 (a1 + 1)) 128 191 false _ A74.out).mono ?_); rintro e w' ⟨rfl, ⟨nd, rfl⟩⟩) | (go_at_call 80; (with_reducible refine (rundleref01_in.calls a0 a1 244 244 true _ A76.out).mono ?_); rintro e w' ⟨rfl, ⟨nd, rfl⟩⟩) | (go_at_call 80; (with_reducible refine (rundleref01_in.calls a0 (wrap64 (a1 + 1)) 128 143 t196 _ A78.out).mono ?_); rintro e w' ⟨rfl, ⟨nd, rfl⟩⟩))
                                go_meet
                                case rel => exact ⟨_, (t196), (by first | rfl | (simp; done) | (simp [*]; done) | (simp; first | exact Option.some.inj (A78.out.symm.trans A17.out) | exact Option.some.inj (A78.out.symm.trans A41.out))), H', ⟨by have := HJ4.out; have := HJ9.out; have := HJ62.out; first | omega | exact Nat.le_refl _⟩, by repeat (first | exact Drawn0.refl _ | apply Drawn0.step)⟩
                              · replace c77 := Bool.eq_false_iff.mpr c77
                                subst c77
                                have H1 : (rundleref01_Width.j3 kj62 a0 a1 false) = some r := by rw [if_neg (show ¬ (false = true) by decide)] at H; exact H
                                clear H
                                have H := H1
                                clear H1
                                have H' := Aside0.mk H
                                clear H
                                go_wp2_with (first | ((with_reducible refine gate_callee (f := 80) rfl ?_); refine goesL_ (some 70) rfl rfl Tryz.func80 (by kernel_rfl) rfl #[.string a0, .int .i64 a1, .int .u8 240, .int .u8 240] rfl (by (try simp only [List.map_toArray, List.map_cons, List.map_nil]); first | done | rfl | (simp only [List.length_drop, List.length_take]; rfl)) ?_; (with_reducible refine (rundleref01_in.calls a0 a1 240 240 true _ A68.out).mono ?_); rintro e w' ⟨rfl, ⟨nd, rfl⟩⟩; refine ⟨_, rfl, ?_⟩) | (go_at_call 80; (with_reducible refine (rundleref01_in.calls a0 (wrap64 (a1 + 1)) 144 191 false _ A70.out).mono ?_); rintro e w' ⟨rfl, ⟨nd, rfl⟩⟩) | (go_at_call 80; (with_reducible refine (rundleref01_in.calls a0 a1 241 243 true _ A72.out).mono ?_); rintro e w' ⟨rfl, ⟨nd, rfl⟩⟩) | (go_at_call 80; (with_reducible refine (rundleref01_in.calls a0 (wrap64 (a1 + 1)) 128 191 false _ A74.out).mono ?_); rintro e w' ⟨rfl, ⟨nd, rfl⟩⟩) | (go_at_call 80; (with_reducible refine (rundleref01_in.calls a0 a1 244 244 false _ A76.out).mono ?_); rintro e w' ⟨rfl, ⟨nd, rfl⟩⟩))
                                go_meet
                                case rel => exact ⟨_, (false), (by first | rfl | (simp; done) | (simp [*]; done)), H', ⟨by have := HJ4.out; have := HJ9.out; have := HJ62.out; first | omega | exact Nat.le_refl _⟩, by repeat (first | exact Drawn0.refl _ | apply Drawn0.step)⟩
                          · replace c73 := Bool.eq_false_iff.mpr c73
                            subst c73
                            have H1 : ((rundleref01_in.f a0 a1 244 244).bind fun t197 => (if t197 = true then ((rundleref01_in.f a0 (wrap64 (a1 + 1)) 128 143).bind fun t198 => (rundleref01_Width.j3 kj62 a0 a1 t198)) else (rundleref01_Width.j3 kj62 a0 a1 false))) = some r := by rw [if_neg (show ¬ (false = true) by decide)] at H; exact H
                            clear H
                            have H := H1
                            clear H1
                            replace H := Option.bind_eq_some_iff.mp H
                            obtain ⟨t197, A790, H⟩ := H
                            replace H : (if t197 = true then ((rundleref01_in.f a0 (wrap64 (a1 + 1)) 128 143).bind fun t198 => (rundleref01_Width.j3 kj62 a0 a1 t198)) else (rundleref01_Width.j3 kj62 a0 a1 false)) = some r := H
                            have A79 := Aside0.mk A790
                            clear A790
                            by_cases c80 : t197 = true
                            · subst c80
                              have H1 : ((rundleref01_in.f a0 (wrap64 (a1 + 1)) 128 143).bind fun t198 => (rundleref01_Width.j3 kj62 a0 a1 t198)) = some r := by rw [if_pos rfl] at H; exact H
                              clear H
                              have H := H1
                              clear H1
                              replace H := Option.bind_eq_some_iff.mp H
                              obtain ⟨t198, A810, H⟩ := H
                              replace H : (rundleref01_Width.j3 kj62 a0 a1 t198) = some r := H
                              have A81 := Aside0.mk A810
                              clear A810
                              have H' := Aside0.mk H
                              clear H
                              go_wp2_with (first | ((with_reducible refine gate_callee (f := 80) rfl ?_); refine goesL_ (some 70) rfl rfl Tryz.func80 (by kernel_rfl) rfl #[.string a0, .int .i64 a1, .int .u8 240, .int .u8 240] rfl (by (try simp only [List.map_toArray, List.map_cons, List.map_nil]); first | done | rfl | (simp only [List.length_drop, List.length_take]; rfl)) ?_; (with_reducible refine (rundleref01_in.calls a0 a1 240 240 true _ A68.out).mono ?_); rintro e w' ⟨rfl, ⟨nd, rfl⟩⟩; refine ⟨_, rfl, ?_⟩) | (go_at_call 80; (with_reducible refine (rundleref01_in.calls a0 (wrap64 (a1 + 1)) 144 191 false _ A70.out).mono ?_); rintro e w' ⟨rfl, ⟨nd, rfl⟩⟩) | (go_at_call 80; (with_reducible refine (rundleref01_in.calls a0 a1 241 243 false _ A72.out).mono ?_); rintro e w' ⟨rfl, ⟨nd, rfl⟩⟩) | (go_at_call 80; (with_reducible refine (rundleref01_in.calls a0 a1 244 244 true _ A79.out).mono ?_); rintro e w' ⟨rfl, ⟨nd, rfl⟩⟩) | (go_at_call 80; (with_reducible refine (rundleref01_in.calls a0 (wrap64 (a1 + 1)) 128 143 t198 _ A81.out).mono ?_); rintro e w' ⟨rfl, ⟨nd, rfl⟩⟩))
                              go_meet
                              case rel => exact ⟨_, (t198), (by first | rfl | (simp; done) | (simp [*]; done) | (simp; first | exact Option.some.inj (A81.out.symm.trans A17.out) | exact Option.some.inj (A81.out.symm.trans A41.out))), H', ⟨by have := HJ4.out; have := HJ9.out; have := HJ62.out; first | omega | exact Nat.le_refl _⟩, by repeat (first | exact Drawn0.refl _ | apply Drawn0.step)⟩
                            · replace c80 := Bool.eq_false_iff.mpr c80
                              subst c80
                              have H1 : (rundleref01_Width.j3 kj62 a0 a1 false) = some r := by rw [if_neg (show ¬ (false = true) by decide)] at H; exact H
                              clear H
                              have H := H1
                              clear H1
                              have H' := Aside0.mk H
                              clear H
                              go_wp2_with (first | ((with_reducible refine gate_callee (f := 80) rfl ?_); refine goesL_ (some 70) rfl rfl Tryz.func80 (by kernel_rfl) rfl #[.string a0, .int .i64 a1, .int .u8 240, .int .u8 240] rfl (by (try simp only [List.map_toArray, List.map_cons, List.map_nil]); first | done | rfl | (simp only [List.length_drop, List.length_take]; rfl)) ?_; (with_reducible refine (rundleref01_in.calls a0 a1 240 240 true _ A68.out).mono ?_); rintro e w' ⟨rfl, ⟨nd, rfl⟩⟩; refine ⟨_, rfl, ?_⟩) | (go_at_call 80; (with_reducible refine (rundleref01_in.calls a0 (wrap64 (a1 + 1)) 144 191 false _ A70.out).mono ?_); rintro e w' ⟨rfl, ⟨nd, rfl⟩⟩) | (go_at_call 80; (with_reducible refine (rundleref01_in.calls a0 a1 241 243 false _ A72.out).mono ?_); rintro e w' ⟨rfl, ⟨nd, rfl⟩⟩) | (go_at_call 80; (with_reducible refine (rundleref01_in.calls a0 a1 244 244 false _ A79.out).mono ?_); rintro e w' ⟨rfl, ⟨nd, rfl⟩⟩))
                              go_meet
                              case rel => exact ⟨_, (false), (by first | rfl | (simp; done) | (simp [*]; done)), H', ⟨by have := HJ4.out; have := HJ9.out; have := HJ62.out; first | omega | exact Nat.le_refl _⟩, by repeat (first | exact Drawn0.refl _ | apply Drawn0.step)⟩
                      · replace c69 := Bool.eq_false_iff.mpr c69
                        subst c69
                        have H1 : ((rundleref01_in.f a0 a1 241 243).bind fun t199 => (if t199 = true then ((rundleref01_in.f a0 (wrap64 (a1 + 1)) 128 191).bind fun t200 => (if t200 = true then (rundleref01_Width.j3 kj62 a0 a1 true) else ((rundleref01_in.f a0 a1 244 244).bind fun t201 => (if t201 = true then ((rundleref01_in.f a0 (wrap64 (a1 + 1)) 128 143).bind fun t202 => (rundleref01_Width.j3 kj62 a0 a1 t202)) else (rundleref01_Width.j3 kj62 a0 a1 false))))) else ((rundleref01_in.f a0 a1 244 244).bind fun t203 => (if t203 = true then ((rundleref01_in.f a0 (wrap64 (a1 + 1)) 128 143).bind fun t204 => (rundleref01_Width.j3 kj62 a0 a1 t204)) else (rundleref01_Width.j3 kj62 a0 a1 false))))) = some r := by rw [if_neg (show ¬ (false = true) by decide)] at H; exact H
                        clear H
                        have H := H1
                        clear H1
                        replace H := Option.bind_eq_some_iff.mp H
                        obtain ⟨t199, A820, H⟩ := H
                        replace H : (if t199 = true then ((rundleref01_in.f a0 (wrap64 (a1 + 1)) 128 191).bind fun t200 => (if t200 = true then (rundleref01_Width.j3 kj62 a0 a1 true) else ((rundleref01_in.f a0 a1 244 244).bind fun t201 => (if t201 = true then ((rundleref01_in.f a0 (wrap64 (a1 + 1)) 128 143).bind fun t202 => (rundleref01_Width.j3 kj62 a0 a1 t202)) else (rundleref01_Width.j3 kj62 a0 a1 false))))) else ((rundleref01_in.f a0 a1 244 244).bind fun t203 => (if t203 = true then ((rundleref01_in.f a0 (wrap64 (a1 + 1)) 128 143).bind fun t204 => (rundleref01_Width.j3 kj62 a0 a1 t204)) else (rundleref01_Width.j3 kj62 a0 a1 false)))) = some r := H
                        have A82 := Aside0.mk A820
                        clear A820
                        by_cases c83 : t199 = true
                        · subst c83
                          have H1 : ((rundleref01_in.f a0 (wrap64 (a1 + 1)) 128 191).bind fun t200 => (if t200 = true then (rundleref01_Width.j3 kj62 a0 a1 true) else ((rundleref01_in.f a0 a1 244 244).bind fun t201 => (if t201 = true then ((rundleref01_in.f a0 (wrap64 (a1 + 1)) 128 143).bind fun t202 => (rundleref01_Width.j3 kj62 a0 a1 t202)) else (rundleref01_Width.j3 kj62 a0 a1 false))))) = some r := by rw [if_pos rfl] at H; exact H
                          clear H
                          have H := H1
                          clear H1
                          replace H := Option.bind_eq_some_iff.mp H
                          obtain ⟨t200, A840, H⟩ := H
                          replace H : (if t200 = true then (rundleref01_Width.j3 kj62 a0 a1 true) else ((rundleref01_in.f a0 a1 244 244).bind fun t201 => (if t201 = true then ((rundleref01_in.f a0 (wrap64 (a1 + 1)) 128 143).bind fun t202 => (rundleref01_Width.j3 kj62 a0 a1 t202)) else (rundleref01_Width.j3 kj62 a0 a1 false)))) = some r := H
                          have A84 := Aside0.mk A840
                          clear A840
                          by_cases c85 : t200 = true
                          · subst c85
                            have H1 : (rundleref01_Width.j3 kj62 a0 a1 true) = some r := by rw [if_pos rfl] at H; exact H
                            clear H
                            have H := H1
                            clear H1
                            have H' := Aside0.mk H
                            clear H
                            go_wp2_with (first | ((with_reducible refine gate_callee (f := 80) rfl ?_); refine goesL_ (some 70) rfl rfl Tryz.func80 (by kernel_rfl) rfl #[.string a0, .int .i64 a1, .int .u8 240, .int .u8 240] rfl (by (try simp only [List.map_toArray, List.map_cons, List.map_nil]); first | done | rfl | (simp only [List.length_drop, List.length_take]; rfl)) ?_; (with_reducible refine (rundleref01_in.calls a0 a1 240 240 false _ A68.out).mono ?_); rintro e w' ⟨rfl, ⟨nd, rfl⟩⟩; refine ⟨_, rfl, ?_⟩) | (go_at_call 80; (with_reducible refine (rundleref01_in.calls a0 a1 241 243 true _ A82.out).mono ?_); rintro e w' ⟨rfl, ⟨nd, rfl⟩⟩) | (go_at_call 80; (with_reducible refine (rundleref01_in.calls a0 (wrap64 (a1 + 1)) 128 191 true _ A84.out).mono ?_); rintro e w' ⟨rfl, ⟨nd, rfl⟩⟩))
                            go_meet
                            case rel => exact ⟨_, (true), (by first | rfl | (simp; done) | (simp [*]; done)), H', ⟨by have := HJ4.out; have := HJ9.out; have := HJ62.out; first | omega | exact Nat.le_refl _⟩, by repeat (first | exact Drawn0.refl _ | apply Drawn0.step)⟩
                          · replace c85 := Bool.eq_false_iff.mpr c85
                            subst c85
                            have H1 : ((rundleref01_in.f a0 a1 244 244).bind fun t201 => (if t201 = true then ((rundleref01_in.f a0 (wrap64 (a1 + 1)) 128 143).bind fun t202 => (rundleref01_Width.j3 kj62 a0 a1 t202)) else (rundleref01_Width.j3 kj62 a0 a1 false))) = some r := by rw [if_neg (show ¬ (false = true) by decide)] at H; exact H
                            clear H
                            have H := H1
                            clear H1
                            replace H := Option.bind_eq_some_iff.mp H
                            obtain ⟨t201, A860, H⟩ := H
                            replace H : (if t201 = true then ((rundleref01_in.f a0 (wrap64 (a1 + 1)) 128 143).bind fun t202 => (rundleref01_Width.j3 kj62 a0 a1 t202)) else (rundleref01_Width.j3 kj62 a0 a1 false)) = some r := H
                            have A86 := Aside0.mk A860
                            clear A860
                            by_cases c87 : t201 = true
                            · subst c87
                              have H1 : ((rundleref01_in.f a0 (wrap64 (a1 + 1)) 128 143).bind fun t202 => (rundleref01_Width.j3 kj62 a0 a1 t202)) = some r := by rw [if_pos rfl] at H; exact H
                              clear H
                              have H := H1
                              clear H1
                              replace H := Option.bind_eq_some_iff.mp H
                              obtain ⟨t202, A880, H⟩ := H
                              replace H : (rundleref01_Width.j3 kj62 a0 a1 t202) = some r := H
                              have A88 := Aside0.mk A880
                              clear A880
                              have H' := Aside0.mk H
                              clear H
                              go_wp2_with (first | ((with_reducible refine gate_callee (f := 80) rfl ?_); refine goesL_ (some 70) rfl rfl Tryz.func80 (by kernel_rfl) rfl #[.string a0, .int .i64 a1, .int .u8 240, .int .u8 240] rfl (by (try simp only [List.map_toArray, List.map_cons, List.map_nil]); first | done | rfl | (simp only [List.length_drop, List.length_take]; rfl)) ?_; (with_reducible refine (rundleref01_in.calls a0 a1 240 240 false _ A68.out).mono ?_); rintro e w' ⟨rfl, ⟨nd, rfl⟩⟩; refine ⟨_, rfl, ?_⟩) | (go_at_call 80; (with_reducible refine (rundleref01_in.calls a0 a1 241 243 true _ A82.out).mono ?_); rintro e w' ⟨rfl, ⟨nd, rfl⟩⟩) | (go_at_call 80; (with_reducible refine (rundleref01_in.calls a0 (wrap64 (a1 + 1)) 128 191 false _ A84.out).mono ?_); rintro e w' ⟨rfl, ⟨nd, rfl⟩⟩) | (go_at_call 80; (with_reducible refine (rundleref01_in.calls a0 a1 244 244 true _ A86.out).mono ?_); rintro e w' ⟨rfl, ⟨nd, rfl⟩⟩) | (go_at_call 80; (with_reducible refine (rundleref01_in.calls a0 (wrap64 (a1 + 1)) 128 143 t202 _ A88.out).mono ?_); rintro e w' ⟨rfl, ⟨nd, rfl⟩⟩))
                              go_meet
                              case rel => exact ⟨_, (t202), (by first | rfl | (simp; done) | (simp [*]; done) | (simp; first | exact Option.some.inj (A88.out.symm.trans A17.out) | exact Option.some.inj (A88.out.symm.trans A41.out))), H', ⟨by have := HJ4.out; have := HJ9.out; have := HJ62.out; first | omega | exact Nat.le_refl _⟩, by repeat (first | exact Drawn0.refl _ | apply Drawn0.step)⟩
                            · replace c87 := Bool.eq_false_iff.mpr c87
                              subst c87
                              have H1 : (rundleref01_Width.j3 kj62 a0 a1 false) = some r := by rw [if_neg (show ¬ (false = true) by decide)] at H; exact H
                              clear H
                              have H := H1
                              clear H1
                              have H' := Aside0.mk H
                              clear H
                              go_wp2_with (first | ((with_reducible refine gate_callee (f := 80) rfl ?_); refine goesL_ (some 70) rfl rfl Tryz.func80 (by kernel_rfl) rfl #[.string a0, .int .i64 a1, .int .u8 240, .int .u8 240] rfl (by (try simp only [List.map_toArray, List.map_cons, List.map_nil]); first | done | rfl | (simp only [List.length_drop, List.length_take]; rfl)) ?_; (with_reducible refine (rundleref01_in.calls a0 a1 240 240 false _ A68.out).mono ?_); rintro e w' ⟨rfl, ⟨nd, rfl⟩⟩; refine ⟨_, rfl, ?_⟩) | (go_at_call 80; (with_reducible refine (rundleref01_in.calls a0 a1 241 243 true _ A82.out).mono ?_); rintro e w' ⟨rfl, ⟨nd, rfl⟩⟩) | (go_at_call 80; (with_reducible refine (rundleref01_in.calls a0 (wrap64 (a1 + 1)) 128 191 false _ A84.out).mono ?_); rintro e w' ⟨rfl, ⟨nd, rfl⟩⟩) | (go_at_call 80; (with_reducible refine (rundleref01_in.calls a0 a1 244 244 false _ A86.out).mono ?_); rintro e w' ⟨rfl, ⟨nd, rfl⟩⟩))
                              go_meet
                              case rel => exact ⟨_, (false), (by first | rfl | (simp; done) | (simp [*]; done)), H', ⟨by have := HJ4.out; have := HJ9.out; have := HJ62.out; first | omega | exact Nat.le_refl _⟩, by repeat (first | exact Drawn0.refl _ | apply Drawn0.step)⟩
                        · replace c83 := Bool.eq_false_iff.mpr c83
                          subst c83
                          have H1 : ((rundleref01_in.f a0 a1 244 244).bind fun t203 => (if t203 = true then ((rundleref01_in.f a0 (wrap64 (a1 + 1)) 128 143).bind fun t204 => (rundleref01_Width.j3 kj62 a0 a1 t204)) else (rundleref01_Width.j3 kj62 a0 a1 false))) = some r := by rw [if_neg (show ¬ (false = true) by decide)] at H; exact H
                          clear H
                          have H := H1
                          clear H1
                          replace H := Option.bind_eq_some_iff.mp H
                          obtain ⟨t203, A890, H⟩ := H
                          replace H : (if t203 = true then ((rundleref01_in.f a0 (wrap64 (a1 + 1)) 128 143).bind fun t204 => (rundleref01_Width.j3 kj62 a0 a1 t204)) else (rundleref01_Width.j3 kj62 a0 a1 false)) = some r := H
                          have A89 := Aside0.mk A890
                          clear A890
                          by_cases c90 : t203 = true
                          · subst c90
                            have H1 : ((rundleref01_in.f a0 (wrap64 (a1 + 1)) 128 143).bind fun t204 => (rundleref01_Width.j3 kj62 a0 a1 t204)) = some r := by rw [if_pos rfl] at H; exact H
                            clear H
                            have H := H1
                            clear H1
                            replace H := Option.bind_eq_some_iff.mp H
                            obtain ⟨t204, A910, H⟩ := H
                            replace H : (rundleref01_Width.j3 kj62 a0 a1 t204) = some r := H
                            have A91 := Aside0.mk A910
                            clear A910
                            have H' := Aside0.mk H
                            clear H
                            go_wp2_with (first | ((with_reducible refine gate_callee (f := 80) rfl ?_); refine goesL_ (some 70) rfl rfl Tryz.func80 (by kernel_rfl) rfl #[.string a0, .int .i64 a1, .int .u8 240, .int .u8 240] rfl (by (try simp only [List.map_toArray, List.map_cons, List.map_nil]); first | done | rfl | (simp only [List.length_drop, List.length_take]; rfl)) ?_; (with_reducible refine (rundleref01_in.calls a0 a1 240 240 false _ A68.out).mono ?_); rintro e w' ⟨rfl, ⟨nd, rfl⟩⟩; refine ⟨_, rfl, ?_⟩) | (go_at_call 80; (with_reducible refine (rundleref01_in.calls a0 a1 241 243 false _ A82.out).mono ?_); rintro e w' ⟨rfl, ⟨nd, rfl⟩⟩) | (go_at_call 80; (with_reducible refine (rundleref01_in.calls a0 a1 244 244 true _ A89.out).mono ?_); rintro e w' ⟨rfl, ⟨nd, rfl⟩⟩) | (go_at_call 80; (with_reducible refine (rundleref01_in.calls a0 (wrap64 (a1 + 1)) 128 143 t204 _ A91.out).mono ?_); rintro e w' ⟨rfl, ⟨nd, rfl⟩⟩))
                            go_meet
                            case rel => exact ⟨_, (t204), (by first | rfl | (simp; done) | (simp [*]; done) | (simp; first | exact Option.some.inj (A91.out.symm.trans A17.out) | exact Option.some.inj (A91.out.symm.trans A41.out))), H', ⟨by have := HJ4.out; have := HJ9.out; have := HJ62.out; first | omega | exact Nat.le_refl _⟩, by repeat (first | exact Drawn0.refl _ | apply Drawn0.step)⟩
                          · replace c90 := Bool.eq_false_iff.mpr c90
                            subst c90
                            have H1 : (rundleref01_Width.j3 kj62 a0 a1 false) = some r := by rw [if_neg (show ¬ (false = true) by decide)] at H; exact H
                            clear H
                            have H := H1
                            clear H1
                            have H' := Aside0.mk H
                            clear H
                            go_wp2_with (first | ((with_reducible refine gate_callee (f := 80) rfl ?_); refine goesL_ (some 70) rfl rfl Tryz.func80 (by kernel_rfl) rfl #[.string a0, .int .i64 a1, .int .u8 240, .int .u8 240] rfl (by (try simp only [List.map_toArray, List.map_cons, List.map_nil]); first | done | rfl | (simp only [List.length_drop, List.length_take]; rfl)) ?_; (with_reducible refine (rundleref01_in.calls a0 a1 240 240 false _ A68.out).mono ?_); rintro e w' ⟨rfl, ⟨nd, rfl⟩⟩; refine ⟨_, rfl, ?_⟩) | (go_at_call 80; (with_reducible refine (rundleref01_in.calls a0 a1 241 243 false _ A82.out).mono ?_); rintro e w' ⟨rfl, ⟨nd, rfl⟩⟩) | (go_at_call 80; (with_reducible refine (rundleref01_in.calls a0 a1 244 244 false _ A89.out).mono ?_); rintro e w' ⟨rfl, ⟨nd, rfl⟩⟩))
                            go_meet
                            case rel => exact ⟨_, (false), (by first | rfl | (simp; done) | (simp [*]; done)), H', ⟨by have := HJ4.out; have := HJ9.out; have := HJ62.out; first | omega | exact Nat.le_refl _⟩, by repeat (first | exact Drawn0.refl _ | apply Drawn0.step)⟩
                    case rest =>
                      clear HC67
                      try clear c1
                      try clear c2
                      try clear p2
                      try clear c3
                      try clear c4
                      try clear c5
                      try clear c6
                      try clear p6
                      try clear c7
                      try clear c8
                      try clear c9
                      try clear c12
                      try clear c14
                      try clear c16
                      try clear c18
                      try clear c20
                      try clear c22
                      try clear c24
                      try clear c27
                      try clear c30
                      try clear c32
                      try clear c34
                      try clear c37
                      try clear c40
                      try clear c42
                      try clear c44
                      try clear c46
                      try clear c48
                      try clear c51
                      try clear c54
                      try clear c56
                      try clear c58
                      try clear c61
                      try clear c62
                      try clear c64
                      try clear p64
                      try clear c66
                      try clear c69
                      try clear c71
                      try clear c73
                      try clear c75
                      try clear c77
                      try clear c80
                      try clear c83
                      try clear c85
                      try clear c87
                      try clear c90
                      try clear p2
                      try clear p6
                      try clear p64
                      obtain ⟨kq, x6_66, rfl, HA, HJ66, ⟨mc66, rfl⟩⟩ := hcut
                      cases kq with
                      | zero => exact absurd HA.out (by simp [rundleref01_Width.j3])
                      | succ kj66 =>
                        have H := HA.out
                        clear HA
                        simp only [rundleref01_Width.j3] at H
                        by_cases c92 : x6_66 = true
                        · subst c92
                          have H1 : ((rundleref01_in.f a0 (wrap64 (a1 + 2)) 128 191).bind fun t205 => (if t205 = true then ((rundleref01_in.f a0 (wrap64 (a1 + 3)) 128 191).bind fun t206 => (if t206 = true then (some 4) else (some 0))) else (some 0))) = some r := by rw [if_pos rfl] at H; exact H
                          clear H
                          have H := H1
                          clear H1
                          replace H := Option.bind_eq_some_iff.mp H
                          obtain ⟨t205, A930, H⟩ := H
                          replace H : (if t205 = true then ((rundleref01_in.f a0 (wrap64 (a1 + 3)) 128 191).bind fun t206 => (if t206 = true then (some 4) else (some 0))) else (some 0)) = some r := H
                          have A93 := Aside0.mk A930
                          clear A930
                          by_cases c94 : t205 = true
                          · subst c94
                            have H1 : ((rundleref01_in.f a0 (wrap64 (a1 + 3)) 128 191).bind fun t206 => (if t206 = true then (some 4) else (some 0))) = some r := by rw [if_pos rfl] at H; exact H
                            clear H
                            have H := H1
                            clear H1
                            replace H := Option.bind_eq_some_iff.mp H
                            obtain ⟨t206, A950, H⟩ := H
                            replace H : (if t206 = true then (some 4) else (some 0)) = some r := H
                            have A95 := Aside0.mk A950
                            clear A950
                            by_cases c96 : t206 = true
                            · subst c96
                              have H1 : (some 4) = some r := by rw [if_pos rfl] at H; exact H
                              clear H
                              have H := H1
                              clear H1
                              obtain rfl := Option.some.inj H
                              go_wp2_with (first | (go_at_call 80; (with_reducible refine (rundleref01_in.calls a0 (wrap64 (a1 + 2)) 128 191 true _ A93.out).mono ?_); rintro e w' ⟨rfl, ⟨nd, rfl⟩⟩) | (go_at_call 80; (with_reducible refine (rundleref01_in.calls a0 (wrap64 (a1 + 3)) 128 191 true _ A95.out).mono ?_); rintro e w' ⟨rfl, ⟨nd, rfl⟩⟩))
                              go_ret
                              exact ⟨by first | rfl | (simp; done) | (simp [*]; done), by repeat (first | exact Drawn0.refl _ | apply Drawn0.step)⟩
                            · replace c96 := Bool.eq_false_iff.mpr c96
                              subst c96
                              have H1 : (some 0) = some r := by rw [if_neg (show ¬ (false = true) by decide)] at H; exact H
                              clear H
                              have H := H1
                              clear H1
                              obtain rfl := Option.some.inj H
                              go_wp2_with (first | (go_at_call 80; (with_reducible refine (rundleref01_in.calls a0 (wrap64 (a1 + 2)) 128 191 true _ A93.out).mono ?_); rintro e w' ⟨rfl, ⟨nd, rfl⟩⟩) | (go_at_call 80; (with_reducible refine (rundleref01_in.calls a0 (wrap64 (a1 + 3)) 128 191 false _ A95.out).mono ?_); rintro e w' ⟨rfl, ⟨nd, rfl⟩⟩))
                              go_ret
                              exact ⟨by first | rfl | (simp; done) | (simp [*]; done), by repeat (first | exact Drawn0.refl _ | apply Drawn0.step)⟩
                          · replace c94 := Bool.eq_false_iff.mpr c94
                            subst c94
                            have H1 : (some 0) = some r := by rw [if_neg (show ¬ (false = true) by decide)] at H; exact H
                            clear H
                            have H := H1
                            clear H1
                            obtain rfl := Option.some.inj H
                            go_wp2_with (first | (go_at_call 80; (with_reducible refine (rundleref01_in.calls a0 (wrap64 (a1 + 2)) 128 191 false _ A93.out).mono ?_); rintro e w' ⟨rfl, ⟨nd, rfl⟩⟩))
                            go_ret
                            exact ⟨by first | rfl | (simp; done) | (simp [*]; done), by repeat (first | exact Drawn0.refl _ | apply Drawn0.step)⟩
                        · replace c92 := Bool.eq_false_iff.mpr c92
                          subst c92
                          have H1 : (some 0) = some r := by rw [if_neg (show ¬ (false = true) by decide)] at H; exact H
                          clear H
                          have H := H1
                          clear H1
                          obtain rfl := Option.some.inj H
                          go_wp2
                          go_ret
                          exact ⟨by first | rfl | (simp; done) | (simp [*]; done), by repeat (first | exact Drawn0.refl _ | apply Drawn0.step)⟩

end Go.Proofs.YtlkbeddlmbghkaaGreatDoor.PR
