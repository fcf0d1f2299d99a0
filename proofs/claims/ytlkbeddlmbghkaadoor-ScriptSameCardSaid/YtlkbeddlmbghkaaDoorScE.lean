/- script's reader: entries. -/
import Derived.Test.YtlkbeddlmbghkaaDoorScS
import Derived.Test.YtlkbeddlmbghkaaDoorPRx1
namespace Go.Proofs.YtlkbeddlmbghkaaDoor.PR
open Go Go.Proofs Go.RowKit Go.Proofs.YtlkbeddlmbghkaaDoorW.PrintWords Go.Proofs.YtlkbeddlmbghkaaDoorW.PrintLast Go.Proofs.YtlkbeddlmbghkaaDoorW.PrintMore
attribute [local go_sem] Wd.one Wd.run_store
set_option linter.unusedVariables false
set_option linter.unusedSimpArgs false
set_option maxRecDepth 100000

/-- What becomes of keys, up to the end. -/
def entsS : List Wd → Option (List S53)
  | [] => some []
  | .text a :: .text b :: r => (entsS r).map fun L => ⟨a, b, false⟩ :: L
  | .name s :: .text a :: r => if s.toList = [103, 111, 110, 101] then (entsS r).map fun L => ⟨a, ⟨#[]⟩, true⟩ :: L else none
  | _ => none

theorem Fr.below {g : Nat} {a b c : World} (h : Fr g a b) (hg : g < a.heap.size) (k : Below a.heap.size b c) : Fr g a c :=
  ⟨h.1.trans (k.mono (Nat.le_of_lt hg)), fun i hi hne => (k.block i hi).trans (h.2 i hi hne)⟩
theorem RdAt.base {g : Nat} {a w w' : World} {ws : List Wd} (h : RdAt g w ws) (hg : g < a.heap.size) (k : Below a.heap.size w w') : RdAt g w' ws :=
  h.move (k.mono (Nat.le_of_lt hg)) (k.block g hg)
theorem R_fr {α : Type} {d : Kd α} {e g base : Nat} {w w' : World} {ok : Nat → Prop} {v : Value} {xs : List α} (h : d.R e w base ok v xs) (hb : g < base) (hf : Fr g w w') : d.R e w' base ok v xs :=
  Kd.R_mono (Kd.R_step (Kd.R_bound h) (fun k hk hlt => hf.2 k hlt (by have := hk.2.1; omega))) (fun _ hk => hk.1)
theorem map_snoc (xs : List S53) (x : S53) (o : Option (List S53)) : ((o.map fun L => x :: L).map fun L => xs ++ L) = o.map fun L => (xs ++ [x]) ++ L := by
  cases o <;> simp

set_option maxHeartbeats 4000000 in
theorem entries_at (g : Nat) (ws : List Wd) (hl : ws.length ≤ 1000000) (w : World) (h : RdAt g w ws) :
    Calls Tryd.prog 103 #[.pointer (some ⟨g, 0, none⟩)] w fun e w' => Fr g w w' ∧
      ((∃ L v, entsS ws = some L ∧ e = .returned v ∧ RdAt g w' [] ∧ k53.R 53 w' w.heap.size (fun _ => True) v L) ∨ (entsS ws = none ∧ Pan e)) := by
  have hu := Tryd.underlying42
  have hu117 := Tryd.underlying117
  have hu33 := Tryd.underlying33
  have hu53 := Tryd.underlying53
  have hu136 := Tryd.underlying136
  have hlt := h.lt
  have HG : Aside0 (g < w.heap.size) := ⟨hlt⟩
  have HL := Aside0.mk hl
  have H := Aside0.mk h
  clear h hl hlt
  go_enter Tryd.func103, Tryd.ntmps103
  go_wp2_with (fail)
  go_loopg [3] (ws.length) (fun kq v3 w' => ∃ (xs : List S53) (rs : List Wd), Aside0 (rs.length = kq) ∧ Aside0 (entsS ws = (entsS rs).map fun L => xs ++ L) ∧ Aside0 (xs.length + rs.length ≤ ws.length) ∧ Aside0 (RdAt g w' rs) ∧ Aside0 (k53.R 53 w' w.heap.size (fun _ => True) v3 xs) ∧ Aside0 (Fr g w w'))
  case atStart =>
    exact ⟨[], ws, ⟨rfl⟩, ⟨by cases entsS ws <;> rfl⟩, ⟨by simp⟩, H, ⟨Kd.R_nil _ _ _ _ _⟩, ⟨Fr.refl _ _⟩⟩
  case round =>
    obtain ⟨xs, rs, HN, HS, HLe, HR, HO, HF⟩ := hrel
    obtain ⟨A, c, hg, hn, hcells⟩ := HR.out
    have hlt := blk_lt hg
    have HLt := Aside0.mk hlt
    clear hlt hcells hn
    cases rs with
    | nil =>
      have hc : wr.cell? ⟨g, 0, none⟩ = some (.slice A 0 c) := (blk_cell hg 0).trans rfl
      clear hg
      go_wp2_with (fail)
      go_ret
      exact ⟨HF.out, .inl ⟨xs, _, by rw [HS.out]; simp [entsS], rfl, HR.out, HO.out⟩⟩
    | cons b r =>
      obtain ⟨n, hlen⟩ : ∃ n, r.length = n := ⟨_, rfl⟩
      have hc : wr.cell? ⟨g, 0, none⟩ = some (.slice A (n + 1) c) := by rw [← hlen]; exact (blk_cell hg 0).trans rfl
      have d1 : (0 < ((n + 1 : Nat) : Int)) = True := eq_true (by omega)
      have d2 : (0 < (n : Int) + 1) = True := eq_true (by omega)
      clear hg
      have HLn := Aside0.mk hlen
      clear hlen
      go_wp2_with (fail)
      refine (next_at g (b :: r) wr HR.out).mono ?_
      rintro e w2 ⟨hf2, ⟨b', r', he, rfl, hr2⟩ | ⟨he, u, pv, rfl⟩⟩
      case inr => cases he
      obtain ⟨rfl, rfl⟩ := List.cons.inj he
      clear he hc
      have HO2 := Aside0.mk (R_fr HO.out HG.out hf2)
      have HF2 := Aside0.mk (HF.out.trans hf2)
      have HR2 := Aside0.mk hr2
      clear hf2 hr2 HO HF HR HLt
      go_wp2_with (fail)
      refine (box_Kind.calls b (kindW b) _ rfl).mono ?_
      rintro e w3 ⟨rfl, hb3⟩
      have HB3 : Aside0 (Below w2.heap.size w2 w3) := ⟨((Below.refl w2.heap.size w2).alloc (Nat.le_refl _) (.cells #[Wd.v b] 42)).trans (hb3.mono (by rw [World.size_alloc]; omega))⟩
      have B4 : Aside0 (w3.heap[w2.heap.size]? = some (.cells #[Wd.v b] 42 (0, 0))) := ⟨blk_below (blk_new w2 (.cells #[Wd.v b] 42)) hb3⟩
      clear hb3
      have k4 : w3.cell? ⟨w2.heap.size, 0, none⟩ = some (Wd.v b) := (blk_cell B4.out 0).trans rfl
      have l2 := HR2.out.lt
      have O3 := Aside0.mk (Kd.R_below HO2.out HB3.out)
      have R3 : Aside0 (RdAt g w3 r) := ⟨HR2.out.fr HB3.out⟩
      have F3 : Aside0 (Fr g w w3) := ⟨HF2.out.trans (Fr.ofB l2 HB3.out)⟩
      clear HB3 B4 HO2 HR2 HF2 l2
      cases b with
      | text s =>
        simp only [kindW]
        go_wp2_with (fail)
        refine (mustText_calls s w3).mono ?_
        rintro e w4 ⟨rfl, hb⟩
        have O4 := Aside0.mk (Kd.R_below O3.out hb)
        have R4 : Aside0 (RdAt g w4 r) := ⟨R3.out.fr hb⟩
        have F4 : Aside0 (Fr g w w4) := ⟨F3.out.trans (Fr.ofB R3.out.lt hb)⟩
        clear hb k4 O3 R3 F3
        go_wp2_with (fail)
        refine (text_at g r w4 R4.out).mono ?_
        rintro e w5 ⟨hf5, ⟨s2, r2, rfl, rfl, hr5⟩ | ⟨hno, u, pv, rfl⟩⟩
        case inr =>
          refine ⟨rfl, F4.out.trans hf5, .inr ⟨?_, ⟨_, _, rfl⟩⟩⟩
          rw [HS.out]
          cases r with
          | nil => rfl
          | cons b r =>
            cases b with
            | text a => exact absurd rfl (hno a r)
            | nil => rfl
            | num n => rfl
            | name s => rfl
        have O5 := Aside0.mk (R_fr O4.out HG.out hf5)
        have F5 := Aside0.mk (F4.out.trans hf5)
        have R5 := Aside0.mk hr5
        clear hf5 hr5 O4 F4 R4
        go_wp2_with ((with_reducible refine gate_builtin (b := .append) (xs := #[.tmp 16, .tmp 22]) rfl ?_); (try (refine gate_guard (by rfl) ?_; dsimp only)); at_builtin; refine Kd.R_append k53 (w0 := w5) w.heap.size rfl (.tmp 16) (.tmp 22) 44 53 (.agg #[(.string ⟨#[]⟩), (.string ⟨#[]⟩), (.bool false)]) 40 rfl Tryd.underlying44 info53 rfl (by decide) (by omega) _ xs (⟨s, s2, false⟩ : S53) [.string s, .string s2, .bool false] (fun _ => True) (fun _ => False) rfl rfl ?aP (fun _ hk => hk.elim) (fun _ _ => trivial) O5.out (Below.refl _ _) (Nat.le_trans (Nat.le_of_lt_succ (Nat.lt_succ_of_le F5.out.1.size)) (Nat.le_refl _)) ?aL ?_; (case aP => exact k53_mkM _ _ _ _); (case aL => have h1 := HLe.out; have h2 := HL.out; simp only [List.length_cons] at h1; omega); intro v6 w6 ho hb hg hat; have O6 := Aside0.mk ho; have B6 := Aside0.mk hb; clear ho hb hg hat O5)
        go_roundg r2.length
        case measure => have h1 := HN.out; simp only [List.length_cons] at h1; omega
        case rel => exact ⟨xs ++ [⟨s, s2, false⟩], r2, ⟨rfl⟩, ⟨by rw [HS.out, ← map_snoc]; rfl⟩, ⟨by have h1 := HLe.out; simp only [List.length_cons, List.length_append, List.length_nil] at h1 ⊢; omega⟩, ⟨R5.out.base HG.out B6.out⟩, O6, ⟨F5.out.below HG.out B6.out⟩⟩
      | name s =>
        simp only [kindW]
        go_wp2_with (fail)
        refine (mustName_calls s w3).mono ?_
        rintro e w4 ⟨rfl, hb⟩
        have O4 := Aside0.mk (Kd.R_below O3.out hb)
        have R4 : Aside0 (RdAt g w4 r) := ⟨R3.out.fr hb⟩
        have F4 : Aside0 (Fr g w w4) := ⟨F3.out.trans (Fr.ofB R3.out.lt hb)⟩
        clear hb k4 O3 R3 F3
        by_cases hs : s.toList = [103, 111, 110, 101]
        · have hs1 : (s.toList == [103, 111, 110, 101]) = true := by rw [hs]; rfl
          have hs2 : (s.toList != [103, 111, 110, 101]) = false := by rw [hs]; rfl
          have HSg := Aside0.mk hs
          clear hs
          go_wp2_with (fail)
          refine (text_at g r w4 R4.out).mono ?_
          rintro e w5 ⟨hf5, ⟨s2, r2, rfl, rfl, hr5⟩ | ⟨hno, u, pv, rfl⟩⟩
          case inr =>
            refine ⟨rfl, F4.out.trans hf5, .inr ⟨?_, ⟨_, _, rfl⟩⟩⟩
            rw [HS.out]
            cases r with
            | nil => rfl
            | cons b r =>
              cases b with
              | text a => exact absurd rfl (hno a r)
              | nil => rfl
              | num n => rfl
              | name s => rfl
          have O5 := Aside0.mk (R_fr O4.out HG.out hf5)
          have F5 := Aside0.mk (F4.out.trans hf5)
          have R5 := Aside0.mk hr5
          clear hf5 hr5 O4 F4 R4
          go_wp2_with ((with_reducible refine gate_builtin (b := .append) (xs := #[.tmp 29, .tmp 33]) rfl ?_); (try (refine gate_guard (by rfl) ?_; dsimp only)); at_builtin; refine Kd.R_append k53 (w0 := w5) w.heap.size rfl (.tmp 29) (.tmp 33) 44 53 (.agg #[(.string ⟨#[]⟩), (.string ⟨#[]⟩), (.bool false)]) 40 rfl Tryd.underlying44 info53 rfl (by decide) (by omega) _ xs (⟨s2, ⟨#[]⟩, true⟩ : S53) [.string s2, .string ⟨#[]⟩, .bool true] (fun _ => True) (fun _ => False) rfl rfl ?aP (fun _ hk => hk.elim) (fun _ _ => trivial) O5.out (Below.refl _ _) (Nat.le_trans (Nat.le_of_lt_succ (Nat.lt_succ_of_le F5.out.1.size)) (Nat.le_refl _)) ?aL ?_; (case aP => exact k53_mkM _ _ _ _); (case aL => have h1 := HLe.out; have h2 := HL.out; simp only [List.length_cons] at h1; omega); intro v6 w6 ho hb hg hat; have O6 := Aside0.mk ho; have B6 := Aside0.mk hb; clear ho hb hg hat O5)
          go_roundg r2.length
          case measure => have h1 := HN.out; simp only [List.length_cons] at h1; omega
          case rel => exact ⟨xs ++ [⟨s2, ⟨#[]⟩, true⟩], r2, ⟨rfl⟩, ⟨by rw [HS.out, ← map_snoc, entsS, if_pos HSg.out]⟩, ⟨by have h1 := HLe.out; simp only [List.length_cons, List.length_append, List.length_nil] at h1 ⊢; omega⟩, ⟨R5.out.base HG.out B6.out⟩, O6, ⟨F5.out.below HG.out B6.out⟩⟩
        · have hs1 : (s.toList == [103, 111, 110, 101]) = false := beq_eq_false_iff_ne.2 hs
          have hs2 : (s.toList != [103, 111, 110, 101]) = true := bne_iff_ne.2 hs
          have HSg := Aside0.mk hs
          clear hs
          go_wp2_with (fail)
          refine ⟨rfl, F4.out, .inr ⟨?_, ⟨_, _, rfl⟩⟩⟩
          rw [HS.out]
          cases r with
          | nil => rfl
          | cons b r =>
            cases b with
            | text a => rw [entsS, if_neg HSg.out]; rfl
            | nil => rfl
            | num n => rfl
            | name s => rfl
      | nil =>
        simp only [kindW, Wd.v]
        go_wp2_with (fail)
        refine (MustName_bad .nil (fun x h => by cases h) w3).mono ?_
        rintro e w4 ⟨⟨u, pv, rfl⟩, hb⟩
        exact ⟨rfl, F3.out.trans (Fr.ofB R3.out.lt hb), .inr ⟨by rw [HS.out]; rfl, ⟨_, _, rfl⟩⟩⟩
      | num n =>
        simp only [kindW, Wd.v]
        go_wp2_with (fail)
        refine (MustName_bad (.num n) (fun x h => by cases h) w3).mono ?_
        rintro e w4 ⟨⟨u, pv, rfl⟩, hb⟩
        exact ⟨rfl, F3.out.trans (Fr.ofB R3.out.lt hb), .inr ⟨by rw [HS.out]; rfl, ⟨_, _, rfl⟩⟩⟩
end Go.Proofs.YtlkbeddlmbghkaaDoor.PR
