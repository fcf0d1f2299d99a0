/- script's reader: number, name, text. -/
import Derived.Test.YtlkbeddlmbghkaaDoorScR
namespace Go.Proofs.YtlkbeddlmbghkaaDoor.PR
open Go Go.Proofs Go.RowKit Go.Proofs.YtlkbeddlmbghkaaDoorW.PrintWords Go.Proofs.YtlkbeddlmbghkaaDoorW.PrintLast Go.Proofs.YtlkbeddlmbghkaaDoorW.PrintMore
attribute [local go_sem] Wd.one Wd.run_store
set_option linter.unusedVariables false
set_option linter.unusedSimpArgs false
set_option maxRecDepth 100000

theorem mustNumber_at (b : Wd) (w : World) : Calls Tryd.prog 28 #[.agg #[Wd.v b]] w fun e w' => Below w.heap.size w w' ∧ ((∃ n, b = .num n ∧ e = .returned (.int .i64 n)) ∨ ((∀ n, b ≠ .num n) ∧ Pan e)) := by
  by_cases h : ∃ n, b = .num n
  · obtain ⟨n, rfl⟩ := h
    exact (mustNumber_calls n w).mono fun e w' ⟨he, hb⟩ => ⟨hb, .inl ⟨n, rfl, he⟩⟩
  · have h2 : ∀ n, b ≠ .num n := fun n e => h ⟨n, e⟩
    exact (MustNumber_bad b h2 w).mono fun e w' ⟨he, hb⟩ => ⟨hb, .inr ⟨h2, he⟩⟩
theorem mustName_at (b : Wd) (w : World) : Calls Tryd.prog 30 #[.agg #[Wd.v b]] w fun e w' => Below w.heap.size w w' ∧ ((∃ s, b = .name s ∧ e = .returned (.string s)) ∨ ((∀ s, b ≠ .name s) ∧ Pan e)) := by
  by_cases h : ∃ n, b = .name n
  · obtain ⟨n, rfl⟩ := h
    exact (mustName_calls n w).mono fun e w' ⟨he, hb⟩ => ⟨hb, .inl ⟨n, rfl, he⟩⟩
  · have h2 : ∀ n, b ≠ .name n := fun n e => h ⟨n, e⟩
    exact (MustName_bad b h2 w).mono fun e w' ⟨he, hb⟩ => ⟨hb, .inr ⟨h2, he⟩⟩
theorem mustText_at (b : Wd) (w : World) : Calls Tryd.prog 31 #[.agg #[Wd.v b]] w fun e w' => Below w.heap.size w w' ∧ ((∃ s, b = .text s ∧ e = .returned (.string s)) ∨ ((∀ s, b ≠ .text s) ∧ Pan e)) := by
  by_cases h : ∃ n, b = .text n
  · obtain ⟨n, rfl⟩ := h
    exact (mustText_calls n w).mono fun e w' ⟨he, hb⟩ => ⟨hb, .inl ⟨n, rfl, he⟩⟩
  · have h2 : ∀ n, b ≠ .text n := fun n e => h ⟨n, e⟩
    exact (MustText_bad b h2 w).mono fun e w' ⟨he, hb⟩ => ⟨hb, .inr ⟨h2, he⟩⟩

theorem next_at (g : Nat) (ws : List Wd) (w : World) (h : RdAt g w ws) :
    Calls Tryd.prog 100 #[.pointer (some ⟨g, 0, none⟩)] w fun e w' => Fr g w w' ∧ ((∃ b r, ws = b :: r ∧ e = .returned (.agg #[Wd.v b]) ∧ RdAt g w' r) ∨ (ws = [] ∧ Pan e)) := by
  cases ws with
  | nil => exact (next_empty g w h).mono fun e w' ⟨he, hf⟩ => ⟨hf, .inr ⟨rfl, he⟩⟩
  | cons b r => exact (next_cons g b r w h).mono fun e w' ⟨he, hr, hf⟩ => ⟨hf, .inl ⟨b, r, rfl, he, hr⟩⟩

theorem number_at (g : Nat) (ws : List Wd) (w : World) (h : RdAt g w ws) :
    Calls Tryd.prog 88 #[.pointer (some ⟨g, 0, none⟩)] w fun e w' => Fr g w w' ∧ ((∃ x r, ws = .num x :: r ∧ e = .returned (.int .i64 x) ∧ RdAt g w' r) ∨ ((∀ x r, ws ≠ .num x :: r) ∧ Pan e)) := by
  have hu := Tryd.underlying42
  have hlt := h.lt
  have H := Aside0.mk h
  clear h
  go_enter Tryd.func88, Tryd.ntmps88
  go_wp2_with (fail)
  refine (next_at g ws w H.out).mono ?_
  rintro e w1 ⟨hf, ⟨b, r, rfl, rfl, hr⟩ | ⟨rfl, u, pv, rfl⟩⟩
  · have HF := Aside0.mk hf
    have HR := Aside0.mk hr
    clear hf hr
    go_wp2_with (fail)
    refine (mustNumber_at b _).mono ?_
    rintro e w2 ⟨hb, ⟨x, rfl, rfl⟩ | ⟨hno, u, pv, rfl⟩⟩
    · have HB := Aside0.mk hb
      clear hb
      go_wp2_with (fail)
      go_ret
      have h1 := HF.out.1.size
      exact ⟨HF.out.trans (Fr.of (Nat.le_of_lt HR.out.lt) HB.out), .inl ⟨x, r, rfl, rfl, HR.out.move (HB.out.mono (Nat.le_of_lt HR.out.lt)) (HB.out.block g HR.out.lt)⟩⟩
    · exact ⟨rfl, HF.out.trans (Fr.of (Nat.le_of_lt HR.out.lt) hb), .inr ⟨fun x r' he => hno x (List.cons.inj he).1, ⟨_, _, rfl⟩⟩⟩
  · exact ⟨rfl, hf, .inr ⟨fun x r' he => (by cases he), ⟨_, _, rfl⟩⟩⟩

theorem name_at (g : Nat) (ws : List Wd) (w : World) (h : RdAt g w ws) :
    Calls Tryd.prog 87 #[.pointer (some ⟨g, 0, none⟩)] w fun e w' => Fr g w w' ∧ ((∃ x r, ws = .name x :: r ∧ e = .returned (.string x) ∧ RdAt g w' r) ∨ ((∀ x r, ws ≠ .name x :: r) ∧ Pan e)) := by
  have hu := Tryd.underlying42
  have hlt := h.lt
  have H := Aside0.mk h
  clear h
  go_enter Tryd.func87, Tryd.ntmps87
  go_wp2_with (fail)
  refine (next_at g ws w H.out).mono ?_
  rintro e w1 ⟨hf, ⟨b, r, rfl, rfl, hr⟩ | ⟨rfl, u, pv, rfl⟩⟩
  · have HF := Aside0.mk hf
    have HR := Aside0.mk hr
    clear hf hr
    go_wp2_with (fail)
    refine (mustName_at b _).mono ?_
    rintro e w2 ⟨hb, ⟨x, rfl, rfl⟩ | ⟨hno, u, pv, rfl⟩⟩
    · have HB := Aside0.mk hb
      clear hb
      go_wp2_with (fail)
      go_ret
      have h1 := HF.out.1.size
      exact ⟨HF.out.trans (Fr.of (Nat.le_of_lt HR.out.lt) HB.out), .inl ⟨x, r, rfl, rfl, HR.out.move (HB.out.mono (Nat.le_of_lt HR.out.lt)) (HB.out.block g HR.out.lt)⟩⟩
    · exact ⟨rfl, HF.out.trans (Fr.of (Nat.le_of_lt HR.out.lt) hb), .inr ⟨fun x r' he => hno x (List.cons.inj he).1, ⟨_, _, rfl⟩⟩⟩
  · exact ⟨rfl, hf, .inr ⟨fun x r' he => (by cases he), ⟨_, _, rfl⟩⟩⟩

theorem text_at (g : Nat) (ws : List Wd) (w : World) (h : RdAt g w ws) :
    Calls Tryd.prog 102 #[.pointer (some ⟨g, 0, none⟩)] w fun e w' => Fr g w w' ∧ ((∃ x r, ws = .text x :: r ∧ e = .returned (.string x) ∧ RdAt g w' r) ∨ ((∀ x r, ws ≠ .text x :: r) ∧ Pan e)) := by
  have hu := Tryd.underlying42
  have hlt := h.lt
  have H := Aside0.mk h
  clear h
  go_enter Tryd.func102, Tryd.ntmps102
  go_wp2_with (fail)
  refine (next_at g ws w H.out).mono ?_
  rintro e w1 ⟨hf, ⟨b, r, rfl, rfl, hr⟩ | ⟨rfl, u, pv, rfl⟩⟩
  · have HF := Aside0.mk hf
    have HR := Aside0.mk hr
    clear hf hr
    go_wp2_with (fail)
    refine (mustText_at b _).mono ?_
    rintro e w2 ⟨hb, ⟨x, rfl, rfl⟩ | ⟨hno, u, pv, rfl⟩⟩
    · have HB := Aside0.mk hb
      clear hb
      go_wp2_with (fail)
      go_ret
      have h1 := HF.out.1.size
      exact ⟨HF.out.trans (Fr.of (Nat.le_of_lt HR.out.lt) HB.out), .inl ⟨x, r, rfl, rfl, HR.out.move (HB.out.mono (Nat.le_of_lt HR.out.lt)) (HB.out.block g HR.out.lt)⟩⟩
    · exact ⟨rfl, HF.out.trans (Fr.of (Nat.le_of_lt HR.out.lt) hb), .inr ⟨fun x r' he => hno x (List.cons.inj he).1, ⟨_, _, rfl⟩⟩⟩
  · exact ⟨rfl, hf, .inr ⟨fun x r' he => (by cases he), ⟨_, _, rfl⟩⟩⟩
end Go.Proofs.YtlkbeddlmbghkaaDoor.PR
