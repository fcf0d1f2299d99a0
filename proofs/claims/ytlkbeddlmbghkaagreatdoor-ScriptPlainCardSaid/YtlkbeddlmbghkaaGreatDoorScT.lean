/- script's reader: step. -/
import Derived.Test.YtlkbeddlmbghkaaGreatDoorScC
namespace Go.Proofs.YtlkbeddlmbghkaaGreatDoor.PR
open Go Go.Proofs Go.RowKit Go.Proofs.YtlkbeddlmbghkaaGreatDoorW.PrintWords Go.Proofs.YtlkbeddlmbghkaaGreatDoorW.PrintLast Go.Proofs.YtlkbeddlmbghkaaGreatDoorW.PrintMore
attribute [local go_sem] Wd.one Wd.run_store
set_option linter.unusedVariables false
set_option linter.unusedSimpArgs false
set_option maxRecDepth 100000

def stepV (x : S58) (v : Value) : Array Value := #[.int .i64 x.f0, .int .i64 x.f1, .int .i64 x.f2, .int .i64 x.f3.f0, .string x.f3.f1, .string x.f3.f2, v, .string x.f3.f4, .string x.f3.f5, .bool x.f3.f6, .int .i64 x.f3.f7, .int .i64 x.f3.f8, .int .i64 x.f3.f9, .int .i64 x.f3.f10]
/-- A step's head, and the words behind it. -/
def stepH : List Wd → Option (S58 × List Wd)
 | .name s :: r =>
  if s.toList = [98, 101, 103, 105, 110] then (nu r).bind fun c => (callS c.2).bind fun y => some (⟨1, c.1, 0, y.1⟩, y.2)
  else if s.toList = [114, 117, 110] then (nu r).bind fun c => (callS c.2).bind fun y => some (⟨2, c.1, 0, y.1⟩, y.2)
  else if s.toList = [115, 116, 101, 112] then (nu r).bind fun c => (nu c.2).bind fun n => some (⟨3, c.1, n.1, z52⟩, n.2)
  else if s.toList = [97, 108, 108] then some (⟨4, 0, 0, z52⟩, r)
  else none
 | _ => none
/-- A step. -/
def stepS (ws : List Wd) : Option S58 := (stepH ws).bind fun y => if y.2 = [] ∧ ¬ (y.1.f0 = 3 ∧ (y.1.f2 < 1 ∨ 100000 < y.1.f2)) then some y.1 else none
def StepPost (g : Nat) (w : World) (ws : List Wd) (e : Ending) (w' : World) : Prop :=
 Fr g w w' ∧ ((∃ x v, stepS ws = some x ∧ e = .returned (.agg (stepV x v)) ∧ k93.R 93 w' w.heap.size (fun _ => True) v x.f3.f3) ∨ (stepS ws = none ∧ Pan e))
/-- The state of a walk through step. -/
def St8 (g : Nat) (w : World) (ws : List Wd) (qs cs : Array Value) (a : World) : Prop :=
 RdAt g a ws ∧ Fr g w a ∧ a.heap[w.heap.size]? = some (.cells qs 58 (0, 0)) ∧ a.heap[w.heap.size + 1]? = some (.cells cs 58 (0, 0))
theorem St8.step {g : Nat} {w : World} {ws ws' : List Wd} {qs cs : Array Value} {a b : World} (h : St8 g w ws qs cs a) (hg : g < w.heap.size) (hr : RdAt g b ws') (hf : Fr g a b) : St8 g w ws' qs cs b :=
 ⟨hr, h.2.1.trans hf, hf.blk (Nat.ne_of_gt hg) h.2.2.1, hf.blk (Nat.ne_of_gt (Nat.lt_succ_of_lt hg)) h.2.2.2⟩
theorem St8.put {g : Nat} {w : World} {ws : List Wd} {qs cs : Array Value} {a : World} (h : St8 g w ws qs cs a) (hg : g < w.heap.size) (i : Nat) (u : Value) (cs' : Array Value) (e : cs.setIfInBounds i u = cs') : St8 g w ws qs cs' (a.setCell ⟨w.heap.size + 1, i, none⟩ u) :=
 ⟨h.1.set (Nat.lt_succ_of_lt hg) i u, h.2.1.put (Nat.le_succ _) hg i u, (Below.heap_setCell a ⟨w.heap.size + 1, i, none⟩ u _ (Nat.ne_of_lt (Nat.lt_succ_self _))).trans h.2.2.1, blk_put h.2.2.2 i u e⟩
theorem St8.putQ {g : Nat} {w : World} {ws : List Wd} {qs cs : Array Value} {a : World} (h : St8 g w ws qs cs a) (hg : g < w.heap.size) (i : Nat) (u : Value) (qs' : Array Value) (e : qs.setIfInBounds i u = qs') : St8 g w ws qs' cs (a.setCell ⟨w.heap.size, i, none⟩ u) :=
 ⟨h.1.set hg i u, h.2.1.put (Nat.le_refl _) hg i u, blk_put h.2.2.1 i u e, (Below.heap_setCell a ⟨w.heap.size, i, none⟩ u _ (Nat.ne_of_gt (Nat.lt_succ_self _))).trans h.2.2.2⟩
theorem R_put {n p : Nat} {b : World} {v : Value} {L : List S93} (h : k93.R 93 b n (fun _ => True) v L) (hp : p < n) (i : Nat) (u : Value) : k93.R 93 (b.setCell ⟨p, i, none⟩ u) n (fun _ => True) v L :=
 Kd.R_mono (Kd.R_far (p := ⟨p, i, none⟩) (Kd.R_bound h) (fun k hk => by have := hk.2.1; show k ≠ p; omega) u) (fun _ _ => trivial)
theorem name_nil {ws : List Wd} (hno : ∀ x r, ws ≠ .name x :: r) : stepS ws = none := by
 cases ws with
 | nil => rfl
 | cons b r =>
  cases b with
  | name s => exact absurd rfl (hno s r)
  | nil => rfl
  | num n => rfl
  | text s => rfl

set_option maxHeartbeats 8000000 in
theorem step_at (g : Nat) (ws : List Wd) (hl : ws.length ≤ 1000000) (w : World) (h : RdAt g w ws) (hg3 : 0 < g) (hk : KAt w) :
  Calls Tryz.prog 68 #[.pointer (some ⟨g, 0, none⟩)] w fun e w' => StepPost g w ws e w' := by
 have hu48 := Tryz.underlying58
 have hu46 := Tryz.underlying52
 have hu117 := Tryz.underlying121
 have hu33 := Tryz.underlying23
 have hu136 := Tryz.underlying150
 have H := Aside0.mk h
 have HG : Aside0 (g < w.heap.size) := ⟨h.lt⟩
 have HK := Aside0.mk hk
 have HL := Aside0.mk hl
 clear h hk hl
 go_enter Tryz.func68, Tryz.ntmps68
 go_wp2_with (fail)
 have S0 : Aside0 (St8 g w ws #[.int .i64 0, .int .i64 0, .int .i64 0, .int .i64 0, .string ⟨#[]⟩, .string ⟨#[]⟩, .slice none 0 0, .string ⟨#[]⟩, .string ⟨#[]⟩, .bool false, .int .i64 0, .int .i64 0, .int .i64 0, .int .i64 0] #[.int .i64 0, .int .i64 0, .int .i64 0, .int .i64 0, .string ⟨#[]⟩, .string ⟨#[]⟩, .slice none 0 0, .string ⟨#[]⟩, .string ⟨#[]⟩, .bool false, .int .i64 0, .int .i64 0, .int .i64 0, .int .i64 0] ((w.alloc (.cells #[.int .i64 0, .int .i64 0, .int .i64 0, .int .i64 0, .string ⟨#[]⟩, .string ⟨#[]⟩, .slice none 0 0, .string ⟨#[]⟩, .string ⟨#[]⟩, .bool false, .int .i64 0, .int .i64 0, .int .i64 0, .int .i64 0] 58)).alloc (.cells #[.int .i64 0, .int .i64 0, .int .i64 0, .int .i64 0, .string ⟨#[]⟩, .string ⟨#[]⟩, .slice none 0 0, .string ⟨#[]⟩, .string ⟨#[]⟩, .bool false, .int .i64 0, .int .i64 0, .int .i64 0, .int .i64 0] 58))) := ⟨(H.out.alloc _).alloc _, Fr.alloc HG.out (Fr.alloc HG.out (Fr.refl _ _) _) _, blk_alloc (blk_new _ _) _, by have h1 := blk_new (w.alloc (.cells #[.int .i64 0, .int .i64 0, .int .i64 0, .int .i64 0, .string ⟨#[]⟩, .string ⟨#[]⟩, .slice none 0 0, .string ⟨#[]⟩, .string ⟨#[]⟩, .bool false, .int .i64 0, .int .i64 0, .int .i64 0, .int .i64 0] 58)) (.cells #[.int .i64 0, .int .i64 0, .int .i64 0, .int .i64 0, .string ⟨#[]⟩, .string ⟨#[]⟩, .slice none 0 0, .string ⟨#[]⟩, .string ⟨#[]⟩, .bool false, .int .i64 0, .int .i64 0, .int .i64 0, .int .i64 0] 58); rw [World.size_alloc] at h1; exact h1⟩
 refine (name_at g ws _ S0.out.1).mono ?_
 rintro e w2 ⟨hf, ⟨s, r, rfl, rfl, hr⟩ | ⟨hno, u, pv, rfl⟩⟩
 case inr => exact ⟨rfl, S0.out.2.1.trans hf, .inr ⟨name_nil hno, _, _, rfl⟩⟩
 have S1 := Aside0.mk (S0.out.step HG.out hr hf)
 have K1 : Aside0 (KAt w2) := ⟨HK.out.fr hg3 S1.out.2.1⟩
 clear hf hr
 by_cases h0 : s.toList = [98, 101, 103, 105, 110]
 ·
  have a0 : (s.toList == [98, 101, 103, 105, 110]) = true := by rw [h0]; rfl
  have HS0 := Aside0.mk h0
  clear h0
  go_wp2_with (fail)
  refine (number_at g r _ S1.out.1).mono ?_
  rintro e w3 ⟨hf, ⟨c, r3, rfl, rfl, hr⟩ | ⟨hno, u, pv, rfl⟩⟩
  case inr => exact ⟨rfl, S1.out.2.1.trans hf, .inr ⟨by simp [stepS, stepH, HS0.out, nu_none hno], _, _, rfl⟩⟩
  have S2 := Aside0.mk (S1.out.step HG.out hr hf)
  have K2 : Aside0 (KAt w3) := ⟨HK.out.fr hg3 S2.out.2.1⟩
  clear hf hr
  go_wp2_with (fail)
  refine (call_at g r3 (by have h1 := HL.out; simp only [List.length_cons] at h1; omega) _ S2.out.1 hg3 K2.out).mono ?_
  rintro e w4 ⟨hf, ⟨y, r4, v, hcs, rfl, hr, ho⟩ | ⟨hno, u, pv, rfl⟩⟩
  case inr => exact ⟨rfl, S2.out.2.1.trans hf, .inr ⟨by simp [stepS, stepH, HS0.out, nu_num, hno], _, _, rfl⟩⟩
  obtain ⟨A, cc, ev⟩ := Kd.R_slice ho
  subst ev
  have S3 := Aside0.mk (S2.out.step HG.out hr hf)
  have HC := Aside0.mk hcs
  have hsz : w.heap.size + 1 < w3.heap.size := blk_lt S2.out.2.2.2
  have O3 := Aside0.mk (Kd.R_lower (base' := w.heap.size + 2) ho hsz)
  clear hf hr ho hcs hsz
  simp only [callV]
  have c0 : w4.cell? ⟨w.heap.size + 1, 0, none⟩ = some (.int .i64 0) := (blk_cell S3.out.2.2.2 0).trans rfl
  have d0 : w4.frozen? ⟨w.heap.size + 1, 0, none⟩ = false := blk_frozen S3.out.2.2.2 0
  have c1 : w4.cell? ⟨w.heap.size + 1, 1, none⟩ = some (.int .i64 0) := (blk_cell S3.out.2.2.2 1).trans rfl
  have d1 : w4.frozen? ⟨w.heap.size + 1, 1, none⟩ = false := blk_frozen S3.out.2.2.2 1
  have c2 : w4.cell? ⟨w.heap.size + 1, 2, none⟩ = some (.int .i64 0) := (blk_cell S3.out.2.2.2 2).trans rfl
  have d2 : w4.frozen? ⟨w.heap.size + 1, 2, none⟩ = false := blk_frozen S3.out.2.2.2 2
  have c3 : w4.cell? ⟨w.heap.size + 1, 3, none⟩ = some (.int .i64 0) := (blk_cell S3.out.2.2.2 3).trans rfl
  have d3 : w4.frozen? ⟨w.heap.size + 1, 3, none⟩ = false := blk_frozen S3.out.2.2.2 3
  have c4 : w4.cell? ⟨w.heap.size + 1, 4, none⟩ = some (.string ⟨#[]⟩) := (blk_cell S3.out.2.2.2 4).trans rfl
  have d4 : w4.frozen? ⟨w.heap.size + 1, 4, none⟩ = false := blk_frozen S3.out.2.2.2 4
  have c5 : w4.cell? ⟨w.heap.size + 1, 5, none⟩ = some (.string ⟨#[]⟩) := (blk_cell S3.out.2.2.2 5).trans rfl
  have d5 : w4.frozen? ⟨w.heap.size + 1, 5, none⟩ = false := blk_frozen S3.out.2.2.2 5
  have c6 : w4.cell? ⟨w.heap.size + 1, 6, none⟩ = some (.slice none 0 0) := (blk_cell S3.out.2.2.2 6).trans rfl
  have d6 : w4.frozen? ⟨w.heap.size + 1, 6, none⟩ = false := blk_frozen S3.out.2.2.2 6
  have c7 : w4.cell? ⟨w.heap.size + 1, 7, none⟩ = some (.string ⟨#[]⟩) := (blk_cell S3.out.2.2.2 7).trans rfl
  have d7 : w4.frozen? ⟨w.heap.size + 1, 7, none⟩ = false := blk_frozen S3.out.2.2.2 7
  have c8 : w4.cell? ⟨w.heap.size + 1, 8, none⟩ = some (.string ⟨#[]⟩) := (blk_cell S3.out.2.2.2 8).trans rfl
  have d8 : w4.frozen? ⟨w.heap.size + 1, 8, none⟩ = false := blk_frozen S3.out.2.2.2 8
  have c9 : w4.cell? ⟨w.heap.size + 1, 9, none⟩ = some (.bool false) := (blk_cell S3.out.2.2.2 9).trans rfl
  have d9 : w4.frozen? ⟨w.heap.size + 1, 9, none⟩ = false := blk_frozen S3.out.2.2.2 9
  have c10 : w4.cell? ⟨w.heap.size + 1, 10, none⟩ = some (.int .i64 0) := (blk_cell S3.out.2.2.2 10).trans rfl
  have d10 : w4.frozen? ⟨w.heap.size + 1, 10, none⟩ = false := blk_frozen S3.out.2.2.2 10
  have c11 : w4.cell? ⟨w.heap.size + 1, 11, none⟩ = some (.int .i64 0) := (blk_cell S3.out.2.2.2 11).trans rfl
  have d11 : w4.frozen? ⟨w.heap.size + 1, 11, none⟩ = false := blk_frozen S3.out.2.2.2 11
  have c12 : w4.cell? ⟨w.heap.size + 1, 12, none⟩ = some (.int .i64 0) := (blk_cell S3.out.2.2.2 12).trans rfl
  have d12 : w4.frozen? ⟨w.heap.size + 1, 12, none⟩ = false := blk_frozen S3.out.2.2.2 12
  have c13 : w4.cell? ⟨w.heap.size + 1, 13, none⟩ = some (.int .i64 0) := (blk_cell S3.out.2.2.2 13).trans rfl
  have d13 : w4.frozen? ⟨w.heap.size + 1, 13, none⟩ = false := blk_frozen S3.out.2.2.2 13
  go_upto_region 12 with (fail)
  clear c0 d0 c1 d1 c2 d2 c3 d3 c4 d4 c5 d5 c6 d6 c7 d7 c8 d8 c9 d9 c10 d10 c11 d11 c12 d12 c13 d13
  have hF := S3.out
  replace hF := hF.put HG.out 0 (.int .i64 1) #[.int .i64 1, .int .i64 0, .int .i64 0, .int .i64 0, .string ⟨#[]⟩, .string ⟨#[]⟩, .slice none 0 0, .string ⟨#[]⟩, .string ⟨#[]⟩, .bool false, .int .i64 0, .int .i64 0, .int .i64 0, .int .i64 0] rfl
  replace hF := hF.put HG.out 1 (.int .i64 c) #[.int .i64 1, .int .i64 c, .int .i64 0, .int .i64 0, .string ⟨#[]⟩, .string ⟨#[]⟩, .slice none 0 0, .string ⟨#[]⟩, .string ⟨#[]⟩, .bool false, .int .i64 0, .int .i64 0, .int .i64 0, .int .i64 0] rfl
  replace hF := hF.put HG.out 2 (.int .i64 0) #[.int .i64 1, .int .i64 c, .int .i64 0, .int .i64 0, .string ⟨#[]⟩, .string ⟨#[]⟩, .slice none 0 0, .string ⟨#[]⟩, .string ⟨#[]⟩, .bool false, .int .i64 0, .int .i64 0, .int .i64 0, .int .i64 0] rfl
  replace hF := hF.put HG.out 3 (.int .i64 y.f0) #[.int .i64 1, .int .i64 c, .int .i64 0, .int .i64 y.f0, .string ⟨#[]⟩, .string ⟨#[]⟩, .slice none 0 0, .string ⟨#[]⟩, .string ⟨#[]⟩, .bool false, .int .i64 0, .int .i64 0, .int .i64 0, .int .i64 0] rfl
  replace hF := hF.put HG.out 4 (.string y.f1) #[.int .i64 1, .int .i64 c, .int .i64 0, .int .i64 y.f0, .string y.f1, .string ⟨#[]⟩, .slice none 0 0, .string ⟨#[]⟩, .string ⟨#[]⟩, .bool false, .int .i64 0, .int .i64 0, .int .i64 0, .int .i64 0] rfl
  replace hF := hF.put HG.out 5 (.string y.f2) #[.int .i64 1, .int .i64 c, .int .i64 0, .int .i64 y.f0, .string y.f1, .string y.f2, .slice none 0 0, .string ⟨#[]⟩, .string ⟨#[]⟩, .bool false, .int .i64 0, .int .i64 0, .int .i64 0, .int .i64 0] rfl
  replace hF := hF.put HG.out 6 (.slice A y.f3.length cc) #[.int .i64 1, .int .i64 c, .int .i64 0, .int .i64 y.f0, .string y.f1, .string y.f2, .slice A y.f3.length cc, .string ⟨#[]⟩, .string ⟨#[]⟩, .bool false, .int .i64 0, .int .i64 0, .int .i64 0, .int .i64 0] rfl
  replace hF := hF.put HG.out 7 (.string y.f4) #[.int .i64 1, .int .i64 c, .int .i64 0, .int .i64 y.f0, .string y.f1, .string y.f2, .slice A y.f3.length cc, .string y.f4, .string ⟨#[]⟩, .bool false, .int .i64 0, .int .i64 0, .int .i64 0, .int .i64 0] rfl
  replace hF := hF.put HG.out 8 (.string y.f5) #[.int .i64 1, .int .i64 c, .int .i64 0, .int .i64 y.f0, .string y.f1, .string y.f2, .slice A y.f3.length cc, .string y.f4, .string y.f5, .bool false, .int .i64 0, .int .i64 0, .int .i64 0, .int .i64 0] rfl
  replace hF := hF.put HG.out 9 (.bool y.f6) #[.int .i64 1, .int .i64 c, .int .i64 0, .int .i64 y.f0, .string y.f1, .string y.f2, .slice A y.f3.length cc, .string y.f4, .string y.f5, .bool y.f6, .int .i64 0, .int .i64 0, .int .i64 0, .int .i64 0] rfl
  replace hF := hF.put HG.out 10 (.int .i64 y.f7) #[.int .i64 1, .int .i64 c, .int .i64 0, .int .i64 y.f0, .string y.f1, .string y.f2, .slice A y.f3.length cc, .string y.f4, .string y.f5, .bool y.f6, .int .i64 y.f7, .int .i64 0, .int .i64 0, .int .i64 0] rfl
  replace hF := hF.put HG.out 11 (.int .i64 y.f8) #[.int .i64 1, .int .i64 c, .int .i64 0, .int .i64 y.f0, .string y.f1, .string y.f2, .slice A y.f3.length cc, .string y.f4, .string y.f5, .bool y.f6, .int .i64 y.f7, .int .i64 y.f8, .int .i64 0, .int .i64 0] rfl
  replace hF := hF.put HG.out 12 (.int .i64 y.f9) #[.int .i64 1, .int .i64 c, .int .i64 0, .int .i64 y.f0, .string y.f1, .string y.f2, .slice A y.f3.length cc, .string y.f4, .string y.f5, .bool y.f6, .int .i64 y.f7, .int .i64 y.f8, .int .i64 y.f9, .int .i64 0] rfl
  replace hF := hF.put HG.out 13 (.int .i64 y.f10) #[.int .i64 1, .int .i64 c, .int .i64 0, .int .i64 y.f0, .string y.f1, .string y.f2, .slice A y.f3.length cc, .string y.f4, .string y.f5, .bool y.f6, .int .i64 y.f7, .int .i64 y.f8, .int .i64 y.f9, .int .i64 y.f10] rfl
  have hR := O3.out
  replace hR := R_put hR (Nat.lt_succ_self _) 0 (.int .i64 1)
  replace hR := R_put hR (Nat.lt_succ_self _) 1 (.int .i64 c)
  replace hR := R_put hR (Nat.lt_succ_self _) 2 (.int .i64 0)
  replace hR := R_put hR (Nat.lt_succ_self _) 3 (.int .i64 y.f0)
  replace hR := R_put hR (Nat.lt_succ_self _) 4 (.string y.f1)
  replace hR := R_put hR (Nat.lt_succ_self _) 5 (.string y.f2)
  replace hR := R_put hR (Nat.lt_succ_self _) 6 (.slice A y.f3.length cc)
  replace hR := R_put hR (Nat.lt_succ_self _) 7 (.string y.f4)
  replace hR := R_put hR (Nat.lt_succ_self _) 8 (.string y.f5)
  replace hR := R_put hR (Nat.lt_succ_self _) 9 (.bool y.f6)
  replace hR := R_put hR (Nat.lt_succ_self _) 10 (.int .i64 y.f7)
  replace hR := R_put hR (Nat.lt_succ_self _) 11 (.int .i64 y.f8)
  replace hR := R_put hR (Nat.lt_succ_self _) 12 (.int .i64 y.f9)
  replace hR := R_put hR (Nat.lt_succ_self _) 13 (.int .i64 y.f10)
  generalize World.setCell _ ⟨w.heap.size + 1, 13, none⟩ (.int .i64 y.f10) = wz at *
  have S4 := Aside0.mk hF
  have O4 := Aside0.mk (Kd.R_lower hR (Nat.le_succ _))
  clear hF hR S3 O3
  cases r4 with
  | cons b rr =>
   obtain ⟨A0, c0, hg, hn, hcells⟩ := S4.out.1
   obtain ⟨m, hlen⟩ : ∃ m, rr.length = m := ⟨_, rfl⟩
   have hc : wz.cell? ⟨g, 0, none⟩ = some (.slice A0 (m + 1) c0) := by rw [← hlen]; exact (blk_cell hg 0).trans rfl
   have q1 : (0 < ((m + 1 : Nat) : Int)) = True := eq_true (by omega)
   have q2 : (0 < (m : Int) + 1) = True := eq_true (by omega)
   have q3 : decide (0 < (m : Int) + 1) = true := decide_eq_true (by omega)
   clear hg hn hcells hlen
   go_wp2_with (fail)
   exact ⟨rfl, S4.out.2.1, .inr ⟨by simp [stepS, stepH, HS0.out, HC.out, nu_num], _, _, rfl⟩⟩
  | nil =>
   obtain ⟨A0, c0, hg, hn, hcells⟩ := S4.out.1
   have hc : wz.cell? ⟨g, 0, none⟩ = some (.slice A0 0 c0) := (blk_cell hg 0).trans rfl
   clear hg hn hcells
   have c0 : wz.cell? ⟨w.heap.size + 1, 0, none⟩ = some (.int .i64 1) := (blk_cell S4.out.2.2.2 0).trans rfl
   have c1 : wz.cell? ⟨w.heap.size + 1, 1, none⟩ = some (.int .i64 c) := (blk_cell S4.out.2.2.2 1).trans rfl
   have c2 : wz.cell? ⟨w.heap.size + 1, 2, none⟩ = some (.int .i64 0) := (blk_cell S4.out.2.2.2 2).trans rfl
   have c3 : wz.cell? ⟨w.heap.size + 1, 3, none⟩ = some (.int .i64 y.f0) := (blk_cell S4.out.2.2.2 3).trans rfl
   have c4 : wz.cell? ⟨w.heap.size + 1, 4, none⟩ = some (.string y.f1) := (blk_cell S4.out.2.2.2 4).trans rfl
   have c5 : wz.cell? ⟨w.heap.size + 1, 5, none⟩ = some (.string y.f2) := (blk_cell S4.out.2.2.2 5).trans rfl
   have c6 : wz.cell? ⟨w.heap.size + 1, 6, none⟩ = some (.slice A y.f3.length cc) := (blk_cell S4.out.2.2.2 6).trans rfl
   have c7 : wz.cell? ⟨w.heap.size + 1, 7, none⟩ = some (.string y.f4) := (blk_cell S4.out.2.2.2 7).trans rfl
   have c8 : wz.cell? ⟨w.heap.size + 1, 8, none⟩ = some (.string y.f5) := (blk_cell S4.out.2.2.2 8).trans rfl
   have c9 : wz.cell? ⟨w.heap.size + 1, 9, none⟩ = some (.bool y.f6) := (blk_cell S4.out.2.2.2 9).trans rfl
   have c10 : wz.cell? ⟨w.heap.size + 1, 10, none⟩ = some (.int .i64 y.f7) := (blk_cell S4.out.2.2.2 10).trans rfl
   have c11 : wz.cell? ⟨w.heap.size + 1, 11, none⟩ = some (.int .i64 y.f8) := (blk_cell S4.out.2.2.2 11).trans rfl
   have c12 : wz.cell? ⟨w.heap.size + 1, 12, none⟩ = some (.int .i64 y.f9) := (blk_cell S4.out.2.2.2 12).trans rfl
   have c13 : wz.cell? ⟨w.heap.size + 1, 13, none⟩ = some (.int .i64 y.f10) := (blk_cell S4.out.2.2.2 13).trans rfl
   have d0 : wz.cell? ⟨w.heap.size, 0, none⟩ = some (.int .i64 0) := (blk_cell S4.out.2.2.1 0).trans rfl
   have e0 : wz.frozen? ⟨w.heap.size, 0, none⟩ = false := blk_frozen S4.out.2.2.1 0
   have d1 : wz.cell? ⟨w.heap.size, 1, none⟩ = some (.int .i64 0) := (blk_cell S4.out.2.2.1 1).trans rfl
   have e1 : wz.frozen? ⟨w.heap.size, 1, none⟩ = false := blk_frozen S4.out.2.2.1 1
   have d2 : wz.cell? ⟨w.heap.size, 2, none⟩ = some (.int .i64 0) := (blk_cell S4.out.2.2.1 2).trans rfl
   have e2 : wz.frozen? ⟨w.heap.size, 2, none⟩ = false := blk_frozen S4.out.2.2.1 2
   have d3 : wz.cell? ⟨w.heap.size, 3, none⟩ = some (.int .i64 0) := (blk_cell S4.out.2.2.1 3).trans rfl
   have e3 : wz.frozen? ⟨w.heap.size, 3, none⟩ = false := blk_frozen S4.out.2.2.1 3
   have d4 : wz.cell? ⟨w.heap.size, 4, none⟩ = some (.string ⟨#[]⟩) := (blk_cell S4.out.2.2.1 4).trans rfl
   have e4 : wz.frozen? ⟨w.heap.size, 4, none⟩ = false := blk_frozen S4.out.2.2.1 4
   have d5 : wz.cell? ⟨w.heap.size, 5, none⟩ = some (.string ⟨#[]⟩) := (blk_cell S4.out.2.2.1 5).trans rfl
   have e5 : wz.frozen? ⟨w.heap.size, 5, none⟩ = false := blk_frozen S4.out.2.2.1 5
   have d6 : wz.cell? ⟨w.heap.size, 6, none⟩ = some (.slice none 0 0) := (blk_cell S4.out.2.2.1 6).trans rfl
   have e6 : wz.frozen? ⟨w.heap.size, 6, none⟩ = false := blk_frozen S4.out.2.2.1 6
   have d7 : wz.cell? ⟨w.heap.size, 7, none⟩ = some (.string ⟨#[]⟩) := (blk_cell S4.out.2.2.1 7).trans rfl
   have e7 : wz.frozen? ⟨w.heap.size, 7, none⟩ = false := blk_frozen S4.out.2.2.1 7
   have d8 : wz.cell? ⟨w.heap.size, 8, none⟩ = some (.string ⟨#[]⟩) := (blk_cell S4.out.2.2.1 8).trans rfl
   have e8 : wz.frozen? ⟨w.heap.size, 8, none⟩ = false := blk_frozen S4.out.2.2.1 8
   have d9 : wz.cell? ⟨w.heap.size, 9, none⟩ = some (.bool false) := (blk_cell S4.out.2.2.1 9).trans rfl
   have e9 : wz.frozen? ⟨w.heap.size, 9, none⟩ = false := blk_frozen S4.out.2.2.1 9
   have d10 : wz.cell? ⟨w.heap.size, 10, none⟩ = some (.int .i64 0) := (blk_cell S4.out.2.2.1 10).trans rfl
   have e10 : wz.frozen? ⟨w.heap.size, 10, none⟩ = false := blk_frozen S4.out.2.2.1 10
   have d11 : wz.cell? ⟨w.heap.size, 11, none⟩ = some (.int .i64 0) := (blk_cell S4.out.2.2.1 11).trans rfl
   have e11 : wz.frozen? ⟨w.heap.size, 11, none⟩ = false := blk_frozen S4.out.2.2.1 11
   have d12 : wz.cell? ⟨w.heap.size, 12, none⟩ = some (.int .i64 0) := (blk_cell S4.out.2.2.1 12).trans rfl
   have e12 : wz.frozen? ⟨w.heap.size, 12, none⟩ = false := blk_frozen S4.out.2.2.1 12
   have d13 : wz.cell? ⟨w.heap.size, 13, none⟩ = some (.int .i64 0) := (blk_cell S4.out.2.2.1 13).trans rfl
   have e13 : wz.frozen? ⟨w.heap.size, 13, none⟩ = false := blk_frozen S4.out.2.2.1 13
   go_wp2_with (fail)
   have hF := S4.out
   replace hF := hF.putQ HG.out 0 (.int .i64 1) #[.int .i64 1, .int .i64 0, .int .i64 0, .int .i64 0, .string ⟨#[]⟩, .string ⟨#[]⟩, .slice none 0 0, .string ⟨#[]⟩, .string ⟨#[]⟩, .bool false, .int .i64 0, .int .i64 0, .int .i64 0, .int .i64 0] rfl
   replace hF := hF.putQ HG.out 1 (.int .i64 c) #[.int .i64 1, .int .i64 c, .int .i64 0, .int .i64 0, .string ⟨#[]⟩, .string ⟨#[]⟩, .slice none 0 0, .string ⟨#[]⟩, .string ⟨#[]⟩, .bool false, .int .i64 0, .int .i64 0, .int .i64 0, .int .i64 0] rfl
   replace hF := hF.putQ HG.out 2 (.int .i64 0) #[.int .i64 1, .int .i64 c, .int .i64 0, .int .i64 0, .string ⟨#[]⟩, .string ⟨#[]⟩, .slice none 0 0, .string ⟨#[]⟩, .string ⟨#[]⟩, .bool false, .int .i64 0, .int .i64 0, .int .i64 0, .int .i64 0] rfl
   replace hF := hF.putQ HG.out 3 (.int .i64 y.f0) #[.int .i64 1, .int .i64 c, .int .i64 0, .int .i64 y.f0, .string ⟨#[]⟩, .string ⟨#[]⟩, .slice none 0 0, .string ⟨#[]⟩, .string ⟨#[]⟩, .bool false, .int .i64 0, .int .i64 0, .int .i64 0, .int .i64 0] rfl
   replace hF := hF.putQ HG.out 4 (.string y.f1) #[.int .i64 1, .int .i64 c, .int .i64 0, .int .i64 y.f0, .string y.f1, .string ⟨#[]⟩, .slice none 0 0, .string ⟨#[]⟩, .string ⟨#[]⟩, .bool false, .int .i64 0, .int .i64 0, .int .i64 0, .int .i64 0] rfl
   replace hF := hF.putQ HG.out 5 (.string y.f2) #[.int .i64 1, .int .i64 c, .int .i64 0, .int .i64 y.f0, .string y.f1, .string y.f2, .slice none 0 0, .string ⟨#[]⟩, .string ⟨#[]⟩, .bool false, .int .i64 0, .int .i64 0, .int .i64 0, .int .i64 0] rfl
   replace hF := hF.putQ HG.out 6 (.slice A y.f3.length cc) #[.int .i64 1, .int .i64 c, .int .i64 0, .int .i64 y.f0, .string y.f1, .string y.f2, .slice A y.f3.length cc, .string ⟨#[]⟩, .string ⟨#[]⟩, .bool false, .int .i64 0, .int .i64 0, .int .i64 0, .int .i64 0] rfl
   replace hF := hF.putQ HG.out 7 (.string y.f4) #[.int .i64 1, .int .i64 c, .int .i64 0, .int .i64 y.f0, .string y.f1, .string y.f2, .slice A y.f3.length cc, .string y.f4, .string ⟨#[]⟩, .bool false, .int .i64 0, .int .i64 0, .int .i64 0, .int .i64 0] rfl
   replace hF := hF.putQ HG.out 8 (.string y.f5) #[.int .i64 1, .int .i64 c, .int .i64 0, .int .i64 y.f0, .string y.f1, .string y.f2, .slice A y.f3.length cc, .string y.f4, .string y.f5, .bool false, .int .i64 0, .int .i64 0, .int .i64 0, .int .i64 0] rfl
   replace hF := hF.putQ HG.out 9 (.bool y.f6) #[.int .i64 1, .int .i64 c, .int .i64 0, .int .i64 y.f0, .string y.f1, .string y.f2, .slice A y.f3.length cc, .string y.f4, .string y.f5, .bool y.f6, .int .i64 0, .int .i64 0, .int .i64 0, .int .i64 0] rfl
   replace hF := hF.putQ HG.out 10 (.int .i64 y.f7) #[.int .i64 1, .int .i64 c, .int .i64 0, .int .i64 y.f0, .string y.f1, .string y.f2, .slice A y.f3.length cc, .string y.f4, .string y.f5, .bool y.f6, .int .i64 y.f7, .int .i64 0, .int .i64 0, .int .i64 0] rfl
   replace hF := hF.putQ HG.out 11 (.int .i64 y.f8) #[.int .i64 1, .int .i64 c, .int .i64 0, .int .i64 y.f0, .string y.f1, .string y.f2, .slice A y.f3.length cc, .string y.f4, .string y.f5, .bool y.f6, .int .i64 y.f7, .int .i64 y.f8, .int .i64 0, .int .i64 0] rfl
   replace hF := hF.putQ HG.out 12 (.int .i64 y.f9) #[.int .i64 1, .int .i64 c, .int .i64 0, .int .i64 y.f0, .string y.f1, .string y.f2, .slice A y.f3.length cc, .string y.f4, .string y.f5, .bool y.f6, .int .i64 y.f7, .int .i64 y.f8, .int .i64 y.f9, .int .i64 0] rfl
   replace hF := hF.putQ HG.out 13 (.int .i64 y.f10) #[.int .i64 1, .int .i64 c, .int .i64 0, .int .i64 y.f0, .string y.f1, .string y.f2, .slice A y.f3.length cc, .string y.f4, .string y.f5, .bool y.f6, .int .i64 y.f7, .int .i64 y.f8, .int .i64 y.f9, .int .i64 y.f10] rfl
   have hR := O4.out
   replace hR := R_put hR (Nat.lt_succ_self _) 0 (.int .i64 1)
   replace hR := R_put hR (Nat.lt_succ_self _) 1 (.int .i64 c)
   replace hR := R_put hR (Nat.lt_succ_self _) 2 (.int .i64 0)
   replace hR := R_put hR (Nat.lt_succ_self _) 3 (.int .i64 y.f0)
   replace hR := R_put hR (Nat.lt_succ_self _) 4 (.string y.f1)
   replace hR := R_put hR (Nat.lt_succ_self _) 5 (.string y.f2)
   replace hR := R_put hR (Nat.lt_succ_self _) 6 (.slice A y.f3.length cc)
   replace hR := R_put hR (Nat.lt_succ_self _) 7 (.string y.f4)
   replace hR := R_put hR (Nat.lt_succ_self _) 8 (.string y.f5)
   replace hR := R_put hR (Nat.lt_succ_self _) 9 (.bool y.f6)
   replace hR := R_put hR (Nat.lt_succ_self _) 10 (.int .i64 y.f7)
   replace hR := R_put hR (Nat.lt_succ_self _) 11 (.int .i64 y.f8)
   replace hR := R_put hR (Nat.lt_succ_self _) 12 (.int .i64 y.f9)
   replace hR := R_put hR (Nat.lt_succ_self _) 13 (.int .i64 y.f10)
   refine bodyPost_ret (results_c1 rfl _ _ w.heap.size 58 _ (0, 0) _ rfl hF.2.2.1 hu48 rfl (by kernel_rfl)) rfl ?_
   exact ⟨hF.2.1, .inl ⟨(⟨1, c, 0, y⟩ : S58), .slice A y.f3.length cc, by simp [stepS, stepH, HS0.out, HC.out, nu_num], rfl, Kd.R_lower hR (Nat.le_succ _)⟩⟩
 have a0 : (s.toList == [98, 101, 103, 105, 110]) = false := beq_eq_false_iff_ne.2 h0
 have HS0 := Aside0.mk h0
 clear h0
 by_cases h1 : s.toList = [114, 117, 110]
 ·
  have a1 : (s.toList == [114, 117, 110]) = true := by rw [h1]; rfl
  have HS1 := Aside0.mk h1
  clear h1
  go_wp2_with (fail)
  refine (number_at g r _ S1.out.1).mono ?_
  rintro e w3 ⟨hf, ⟨c, r3, rfl, rfl, hr⟩ | ⟨hno, u, pv, rfl⟩⟩
  case inr => exact ⟨rfl, S1.out.2.1.trans hf, .inr ⟨by simp [stepS, stepH, HS0.out, HS1.out, nu_none hno], _, _, rfl⟩⟩
  have S2 := Aside0.mk (S1.out.step HG.out hr hf)
  have K2 : Aside0 (KAt w3) := ⟨HK.out.fr hg3 S2.out.2.1⟩
  clear hf hr
  go_wp2_with (fail)
  refine (call_at g r3 (by have h1 := HL.out; simp only [List.length_cons] at h1; omega) _ S2.out.1 hg3 K2.out).mono ?_
  rintro e w4 ⟨hf, ⟨y, r4, v, hcs, rfl, hr, ho⟩ | ⟨hno, u, pv, rfl⟩⟩
  case inr => exact ⟨rfl, S2.out.2.1.trans hf, .inr ⟨by simp [stepS, stepH, HS0.out, HS1.out, nu_num, hno], _, _, rfl⟩⟩
  obtain ⟨A, cc, ev⟩ := Kd.R_slice ho
  subst ev
  have S3 := Aside0.mk (S2.out.step HG.out hr hf)
  have HC := Aside0.mk hcs
  have hsz : w.heap.size + 1 < w3.heap.size := blk_lt S2.out.2.2.2
  have O3 := Aside0.mk (Kd.R_lower (base' := w.heap.size + 2) ho hsz)
  clear hf hr ho hcs hsz
  simp only [callV]
  have c0 : w4.cell? ⟨w.heap.size + 1, 0, none⟩ = some (.int .i64 0) := (blk_cell S3.out.2.2.2 0).trans rfl
  have d0 : w4.frozen? ⟨w.heap.size + 1, 0, none⟩ = false := blk_frozen S3.out.2.2.2 0
  have c1 : w4.cell? ⟨w.heap.size + 1, 1, none⟩ = some (.int .i64 0) := (blk_cell S3.out.2.2.2 1).trans rfl
  have d1 : w4.frozen? ⟨w.heap.size + 1, 1, none⟩ = false := blk_frozen S3.out.2.2.2 1
  have c2 : w4.cell? ⟨w.heap.size + 1, 2, none⟩ = some (.int .i64 0) := (blk_cell S3.out.2.2.2 2).trans rfl
  have d2 : w4.frozen? ⟨w.heap.size + 1, 2, none⟩ = false := blk_frozen S3.out.2.2.2 2
  have c3 : w4.cell? ⟨w.heap.size + 1, 3, none⟩ = some (.int .i64 0) := (blk_cell S3.out.2.2.2 3).trans rfl
  have d3 : w4.frozen? ⟨w.heap.size + 1, 3, none⟩ = false := blk_frozen S3.out.2.2.2 3
  have c4 : w4.cell? ⟨w.heap.size + 1, 4, none⟩ = some (.string ⟨#[]⟩) := (blk_cell S3.out.2.2.2 4).trans rfl
  have d4 : w4.frozen? ⟨w.heap.size + 1, 4, none⟩ = false := blk_frozen S3.out.2.2.2 4
  have c5 : w4.cell? ⟨w.heap.size + 1, 5, none⟩ = some (.string ⟨#[]⟩) := (blk_cell S3.out.2.2.2 5).trans rfl
  have d5 : w4.frozen? ⟨w.heap.size + 1, 5, none⟩ = false := blk_frozen S3.out.2.2.2 5
  have c6 : w4.cell? ⟨w.heap.size + 1, 6, none⟩ = some (.slice none 0 0) := (blk_cell S3.out.2.2.2 6).trans rfl
  have d6 : w4.frozen? ⟨w.heap.size + 1, 6, none⟩ = false := blk_frozen S3.out.2.2.2 6
  have c7 : w4.cell? ⟨w.heap.size + 1, 7, none⟩ = some (.string ⟨#[]⟩) := (blk_cell S3.out.2.2.2 7).trans rfl
  have d7 : w4.frozen? ⟨w.heap.size + 1, 7, none⟩ = false := blk_frozen S3.out.2.2.2 7
  have c8 : w4.cell? ⟨w.heap.size + 1, 8, none⟩ = some (.string ⟨#[]⟩) := (blk_cell S3.out.2.2.2 8).trans rfl
  have d8 : w4.frozen? ⟨w.heap.size + 1, 8, none⟩ = false := blk_frozen S3.out.2.2.2 8
  have c9 : w4.cell? ⟨w.heap.size + 1, 9, none⟩ = some (.bool false) := (blk_cell S3.out.2.2.2 9).trans rfl
  have d9 : w4.frozen? ⟨w.heap.size + 1, 9, none⟩ = false := blk_frozen S3.out.2.2.2 9
  have c10 : w4.cell? ⟨w.heap.size + 1, 10, none⟩ = some (.int .i64 0) := (blk_cell S3.out.2.2.2 10).trans rfl
  have d10 : w4.frozen? ⟨w.heap.size + 1, 10, none⟩ = false := blk_frozen S3.out.2.2.2 10
  have c11 : w4.cell? ⟨w.heap.size + 1, 11, none⟩ = some (.int .i64 0) := (blk_cell S3.out.2.2.2 11).trans rfl
  have d11 : w4.frozen? ⟨w.heap.size + 1, 11, none⟩ = false := blk_frozen S3.out.2.2.2 11
  have c12 : w4.cell? ⟨w.heap.size + 1, 12, none⟩ = some (.int .i64 0) := (blk_cell S3.out.2.2.2 12).trans rfl
  have d12 : w4.frozen? ⟨w.heap.size + 1, 12, none⟩ = false := blk_frozen S3.out.2.2.2 12
  have c13 : w4.cell? ⟨w.heap.size + 1, 13, none⟩ = some (.int .i64 0) := (blk_cell S3.out.2.2.2 13).trans rfl
  have d13 : w4.frozen? ⟨w.heap.size + 1, 13, none⟩ = false := blk_frozen S3.out.2.2.2 13
  go_upto_region 12 with (fail)
  clear c0 d0 c1 d1 c2 d2 c3 d3 c4 d4 c5 d5 c6 d6 c7 d7 c8 d8 c9 d9 c10 d10 c11 d11 c12 d12 c13 d13
  have hF := S3.out
  replace hF := hF.put HG.out 0 (.int .i64 2) #[.int .i64 2, .int .i64 0, .int .i64 0, .int .i64 0, .string ⟨#[]⟩, .string ⟨#[]⟩, .slice none 0 0, .string ⟨#[]⟩, .string ⟨#[]⟩, .bool false, .int .i64 0, .int .i64 0, .int .i64 0, .int .i64 0] rfl
  replace hF := hF.put HG.out 1 (.int .i64 c) #[.int .i64 2, .int .i64 c, .int .i64 0, .int .i64 0, .string ⟨#[]⟩, .string ⟨#[]⟩, .slice none 0 0, .string ⟨#[]⟩, .string ⟨#[]⟩, .bool false, .int .i64 0, .int .i64 0, .int .i64 0, .int .i64 0] rfl
  replace hF := hF.put HG.out 2 (.int .i64 0) #[.int .i64 2, .int .i64 c, .int .i64 0, .int .i64 0, .string ⟨#[]⟩, .string ⟨#[]⟩, .slice none 0 0, .string ⟨#[]⟩, .string ⟨#[]⟩, .bool false, .int .i64 0, .int .i64 0, .int .i64 0, .int .i64 0] rfl
  replace hF := hF.put HG.out 3 (.int .i64 y.f0) #[.int .i64 2, .int .i64 c, .int .i64 0, .int .i64 y.f0, .string ⟨#[]⟩, .string ⟨#[]⟩, .slice none 0 0, .string ⟨#[]⟩, .string ⟨#[]⟩, .bool false, .int .i64 0, .int .i64 0, .int .i64 0, .int .i64 0] rfl
  replace hF := hF.put HG.out 4 (.string y.f1) #[.int .i64 2, .int .i64 c, .int .i64 0, .int .i64 y.f0, .string y.f1, .string ⟨#[]⟩, .slice none 0 0, .string ⟨#[]⟩, .string ⟨#[]⟩, .bool false, .int .i64 0, .int .i64 0, .int .i64 0, .int .i64 0] rfl
  replace hF := hF.put HG.out 5 (.string y.f2) #[.int .i64 2, .int .i64 c, .int .i64 0, .int .i64 y.f0, .string y.f1, .string y.f2, .slice none 0 0, .string ⟨#[]⟩, .string ⟨#[]⟩, .bool false, .int .i64 0, .int .i64 0, .int .i64 0, .int .i64 0] rfl
  replace hF := hF.put HG.out 6 (.slice A y.f3.length cc) #[.int .i64 2, .int .i64 c, .int .i64 0, .int .i64 y.f0, .string y.f1, .string y.f2, .slice A y.f3.length cc, .string ⟨#[]⟩, .string ⟨#[]⟩, .bool false, .int .i64 0, .int .i64 0, .int .i64 0, .int .i64 0] rfl
  replace hF := hF.put HG.out 7 (.string y.f4) #[.int .i64 2, .int .i64 c, .int .i64 0, .int .i64 y.f0, .string y.f1, .string y.f2, .slice A y.f3.length cc, .string y.f4, .string ⟨#[]⟩, .bool false, .int .i64 0, .int .i64 0, .int .i64 0, .int .i64 0] rfl
  replace hF := hF.put HG.out 8 (.string y.f5) #[.int .i64 2, .int .i64 c, .int .i64 0, .int .i64 y.f0, .string y.f1, .string y.f2, .slice A y.f3.length cc, .string y.f4, .string y.f5, .bool false, .int .i64 0, .int .i64 0, .int .i64 0, .int .i64 0] rfl
  replace hF := hF.put HG.out 9 (.bool y.f6) #[.int .i64 2, .int .i64 c, .int .i64 0, .int .i64 y.f0, .string y.f1, .string y.f2, .slice A y.f3.length cc, .string y.f4, .string y.f5, .bool y.f6, .int .i64 0, .int .i64 0, .int .i64 0, .int .i64 0] rfl
  replace hF := hF.put HG.out 10 (.int .i64 y.f7) #[.int .i64 2, .int .i64 c, .int .i64 0, .int .i64 y.f0, .string y.f1, .string y.f2, .slice A y.f3.length cc, .string y.f4, .string y.f5, .bool y.f6, .int .i64 y.f7, .int .i64 0, .int .i64 0, .int .i64 0] rfl
  replace hF := hF.put HG.out 11 (.int .i64 y.f8) #[.int .i64 2, .int .i64 c, .int .i64 0, .int .i64 y.f0, .string y.f1, .string y.f2, .slice A y.f3.length cc, .string y.f4, .string y.f5, .bool y.f6, .int .i64 y.f7, .int .i64 y.f8, .int .i64 0, .int .i64 0] rfl
  replace hF := hF.put HG.out 12 (.int .i64 y.f9) #[.int .i64 2, .int .i64 c, .int .i64 0, .int .i64 y.f0, .string y.f1, .string y.f2, .slice A y.f3.length cc, .string y.f4, .string y.f5, .bool y.f6, .int .i64 y.f7, .int .i64 y.f8, .int .i64 y.f9, .int .i64 0] rfl
  replace hF := hF.put HG.out 13 (.int .i64 y.f10) #[.int .i64 2, .int .i64 c, .int .i64 0, .int .i64 y.f0, .string y.f1, .string y.f2, .slice A y.f3.length cc, .string y.f4, .string y.f5, .bool y.f6, .int .i64 y.f7, .int .i64 y.f8, .int .i64 y.f9, .int .i64 y.f10] rfl
  have hR := O3.out
  replace hR := R_put hR (Nat.lt_succ_self _) 0 (.int .i64 2)
  replace hR := R_put hR (Nat.lt_succ_self _) 1 (.int .i64 c)
  replace hR := R_put hR (Nat.lt_succ_self _) 2 (.int .i64 0)
  replace hR := R_put hR (Nat.lt_succ_self _) 3 (.int .i64 y.f0)
  replace hR := R_put hR (Nat.lt_succ_self _) 4 (.string y.f1)
  replace hR := R_put hR (Nat.lt_succ_self _) 5 (.string y.f2)
  replace hR := R_put hR (Nat.lt_succ_self _) 6 (.slice A y.f3.length cc)
  replace hR := R_put hR (Nat.lt_succ_self _) 7 (.string y.f4)
  replace hR := R_put hR (Nat.lt_succ_self _) 8 (.string y.f5)
  replace hR := R_put hR (Nat.lt_succ_self _) 9 (.bool y.f6)
  replace hR := R_put hR (Nat.lt_succ_self _) 10 (.int .i64 y.f7)
  replace hR := R_put hR (Nat.lt_succ_self _) 11 (.int .i64 y.f8)
  replace hR := R_put hR (Nat.lt_succ_self _) 12 (.int .i64 y.f9)
  replace hR := R_put hR (Nat.lt_succ_self _) 13 (.int .i64 y.f10)
  generalize World.setCell _ ⟨w.heap.size + 1, 13, none⟩ (.int .i64 y.f10) = wz at *
  have S4 := Aside0.mk hF
  have O4 := Aside0.mk (Kd.R_lower hR (Nat.le_succ _))
  clear hF hR S3 O3
  cases r4 with
  | cons b rr =>
   obtain ⟨A0, c0, hg, hn, hcells⟩ := S4.out.1
   obtain ⟨m, hlen⟩ : ∃ m, rr.length = m := ⟨_, rfl⟩
   have hc : wz.cell? ⟨g, 0, none⟩ = some (.slice A0 (m + 1) c0) := by rw [← hlen]; exact (blk_cell hg 0).trans rfl
   have q1 : (0 < ((m + 1 : Nat) : Int)) = True := eq_true (by omega)
   have q2 : (0 < (m : Int) + 1) = True := eq_true (by omega)
   have q3 : decide (0 < (m : Int) + 1) = true := decide_eq_true (by omega)
   clear hg hn hcells hlen
   go_wp2_with (fail)
   exact ⟨rfl, S4.out.2.1, .inr ⟨by simp [stepS, stepH, HS0.out, HS1.out, HC.out, nu_num], _, _, rfl⟩⟩
  | nil =>
   obtain ⟨A0, c0, hg, hn, hcells⟩ := S4.out.1
   have hc : wz.cell? ⟨g, 0, none⟩ = some (.slice A0 0 c0) := (blk_cell hg 0).trans rfl
   clear hg hn hcells
   have c0 : wz.cell? ⟨w.heap.size + 1, 0, none⟩ = some (.int .i64 2) := (blk_cell S4.out.2.2.2 0).trans rfl
   have c1 : wz.cell? ⟨w.heap.size + 1, 1, none⟩ = some (.int .i64 c) := (blk_cell S4.out.2.2.2 1).trans rfl
   have c2 : wz.cell? ⟨w.heap.size + 1, 2, none⟩ = some (.int .i64 0) := (blk_cell S4.out.2.2.2 2).trans rfl
   have c3 : wz.cell? ⟨w.heap.size + 1, 3, none⟩ = some (.int .i64 y.f0) := (blk_cell S4.out.2.2.2 3).trans rfl
   have c4 : wz.cell? ⟨w.heap.size + 1, 4, none⟩ = some (.string y.f1) := (blk_cell S4.out.2.2.2 4).trans rfl
   have c5 : wz.cell? ⟨w.heap.size + 1, 5, none⟩ = some (.string y.f2) := (blk_cell S4.out.2.2.2 5).trans rfl
   have c6 : wz.cell? ⟨w.heap.size + 1, 6, none⟩ = some (.slice A y.f3.length cc) := (blk_cell S4.out.2.2.2 6).trans rfl
   have c7 : wz.cell? ⟨w.heap.size + 1, 7, none⟩ = some (.string y.f4) := (blk_cell S4.out.2.2.2 7).trans rfl
   have c8 : wz.cell? ⟨w.heap.size + 1, 8, none⟩ = some (.string y.f5) := (blk_cell S4.out.2.2.2 8).trans rfl
   have c9 : wz.cell? ⟨w.heap.size + 1, 9, none⟩ = some (.bool y.f6) := (blk_cell S4.out.2.2.2 9).trans rfl
   have c10 : wz.cell? ⟨w.heap.size + 1, 10, none⟩ = some (.int .i64 y.f7) := (blk_cell S4.out.2.2.2 10).trans rfl
   have c11 : wz.cell? ⟨w.heap.size + 1, 11, none⟩ = some (.int .i64 y.f8) := (blk_cell S4.out.2.2.2 11).trans rfl
   have c12 : wz.cell? ⟨w.heap.size + 1, 12, none⟩ = some (.int .i64 y.f9) := (blk_cell S4.out.2.2.2 12).trans rfl
   have c13 : wz.cell? ⟨w.heap.size + 1, 13, none⟩ = some (.int .i64 y.f10) := (blk_cell S4.out.2.2.2 13).trans rfl
   have d0 : wz.cell? ⟨w.heap.size, 0, none⟩ = some (.int .i64 0) := (blk_cell S4.out.2.2.1 0).trans rfl
   have e0 : wz.frozen? ⟨w.heap.size, 0, none⟩ = false := blk_frozen S4.out.2.2.1 0
   have d1 : wz.cell? ⟨w.heap.size, 1, none⟩ = some (.int .i64 0) := (blk_cell S4.out.2.2.1 1).trans rfl
   have e1 : wz.frozen? ⟨w.heap.size, 1, none⟩ = false := blk_frozen S4.out.2.2.1 1
   have d2 : wz.cell? ⟨w.heap.size, 2, none⟩ = some (.int .i64 0) := (blk_cell S4.out.2.2.1 2).trans rfl
   have e2 : wz.frozen? ⟨w.heap.size, 2, none⟩ = false := blk_frozen S4.out.2.2.1 2
   have d3 : wz.cell? ⟨w.heap.size, 3, none⟩ = some (.int .i64 0) := (blk_cell S4.out.2.2.1 3).trans rfl
   have e3 : wz.frozen? ⟨w.heap.size, 3, none⟩ = false := blk_frozen S4.out.2.2.1 3
   have d4 : wz.cell? ⟨w.heap.size, 4, none⟩ = some (.string ⟨#[]⟩) := (blk_cell S4.out.2.2.1 4).trans rfl
   have e4 : wz.frozen? ⟨w.heap.size, 4, none⟩ = false := blk_frozen S4.out.2.2.1 4
   have d5 : wz.cell? ⟨w.heap.size, 5, none⟩ = some (.string ⟨#[]⟩) := (blk_cell S4.out.2.2.1 5).trans rfl
   have e5 : wz.frozen? ⟨w.heap.size, 5, none⟩ = false := blk_frozen S4.out.2.2.1 5
   have d6 : wz.cell? ⟨w.heap.size, 6, none⟩ = some (.slice none 0 0) := (blk_cell S4.out.2.2.1 6).trans rfl
   have e6 : wz.frozen? ⟨w.heap.size, 6, none⟩ = false := blk_frozen S4.out.2.2.1 6
   have d7 : wz.cell? ⟨w.heap.size, 7, none⟩ = some (.string ⟨#[]⟩) := (blk_cell S4.out.2.2.1 7).trans rfl
   have e7 : wz.frozen? ⟨w.heap.size, 7, none⟩ = false := blk_frozen S4.out.2.2.1 7
   have d8 : wz.cell? ⟨w.heap.size, 8, none⟩ = some (.string ⟨#[]⟩) := (blk_cell S4.out.2.2.1 8).trans rfl
   have e8 : wz.frozen? ⟨w.heap.size, 8, none⟩ = false := blk_frozen S4.out.2.2.1 8
   have d9 : wz.cell? ⟨w.heap.size, 9, none⟩ = some (.bool false) := (blk_cell S4.out.2.2.1 9).trans rfl
   have e9 : wz.frozen? ⟨w.heap.size, 9, none⟩ = false := blk_frozen S4.out.2.2.1 9
   have d10 : wz.cell? ⟨w.heap.size, 10, none⟩ = some (.int .i64 0) := (blk_cell S4.out.2.2.1 10).trans rfl
   have e10 : wz.frozen? ⟨w.heap.size, 10, none⟩ = false := blk_frozen S4.out.2.2.1 10
   have d11 : wz.cell? ⟨w.heap.size, 11, none⟩ = some (.int .i64 0) := (blk_cell S4.out.2.2.1 11).trans rfl
   have e11 : wz.frozen? ⟨w.heap.size, 11, none⟩ = false := blk_frozen S4.out.2.2.1 11
   have d12 : wz.cell? ⟨w.heap.size, 12, none⟩ = some (.int .i64 0) := (blk_cell S4.out.2.2.1 12).trans rfl
   have e12 : wz.frozen? ⟨w.heap.size, 12, none⟩ = false := blk_frozen S4.out.2.2.1 12
   have d13 : wz.cell? ⟨w.heap.size, 13, none⟩ = some (.int .i64 0) := (blk_cell S4.out.2.2.1 13).trans rfl
   have e13 : wz.frozen? ⟨w.heap.size, 13, none⟩ = false := blk_frozen S4.out.2.2.1 13
   go_wp2_with (fail)
   have hF := S4.out
   replace hF := hF.putQ HG.out 0 (.int .i64 2) #[.int .i64 2, .int .i64 0, .int .i64 0, .int .i64 0, .string ⟨#[]⟩, .string ⟨#[]⟩, .slice none 0 0, .string ⟨#[]⟩, .string ⟨#[]⟩, .bool false, .int .i64 0, .int .i64 0, .int .i64 0, .int .i64 0] rfl
   replace hF := hF.putQ HG.out 1 (.int .i64 c) #[.int .i64 2, .int .i64 c, .int .i64 0, .int .i64 0, .string ⟨#[]⟩, .string ⟨#[]⟩, .slice none 0 0, .string ⟨#[]⟩, .string ⟨#[]⟩, .bool false, .int .i64 0, .int .i64 0, .int .i64 0, .int .i64 0] rfl
   replace hF := hF.putQ HG.out 2 (.int .i64 0) #[.int .i64 2, .int .i64 c, .int .i64 0, .int .i64 0, .string ⟨#[]⟩, .string ⟨#[]⟩, .slice none 0 0, .string ⟨#[]⟩, .string ⟨#[]⟩, .bool false, .int .i64 0, .int .i64 0, .int .i64 0, .int .i64 0] rfl
   replace hF := hF.putQ HG.out 3 (.int .i64 y.f0) #[.int .i64 2, .int .i64 c, .int .i64 0, .int .i64 y.f0, .string ⟨#[]⟩, .string ⟨#[]⟩, .slice none 0 0, .string ⟨#[]⟩, .string ⟨#[]⟩, .bool false, .int .i64 0, .int .i64 0, .int .i64 0, .int .i64 0] rfl
   replace hF := hF.putQ HG.out 4 (.string y.f1) #[.int .i64 2, .int .i64 c, .int .i64 0, .int .i64 y.f0, .string y.f1, .string ⟨#[]⟩, .slice none 0 0, .string ⟨#[]⟩, .string ⟨#[]⟩, .bool false, .int .i64 0, .int .i64 0, .int .i64 0, .int .i64 0] rfl
   replace hF := hF.putQ HG.out 5 (.string y.f2) #[.int .i64 2, .int .i64 c, .int .i64 0, .int .i64 y.f0, .string y.f1, .string y.f2, .slice none 0 0, .string ⟨#[]⟩, .string ⟨#[]⟩, .bool false, .int .i64 0, .int .i64 0, .int .i64 0, .int .i64 0] rfl
   replace hF := hF.putQ HG.out 6 (.slice A y.f3.length cc) #[.int .i64 2, .int .i64 c, .int .i64 0, .int .i64 y.f0, .string y.f1, .string y.f2, .slice A y.f3.length cc, .string ⟨#[]⟩, .string ⟨#[]⟩, .bool false, .int .i64 0, .int .i64 0, .int .i64 0, .int .i64 0] rfl
   replace hF := hF.putQ HG.out 7 (.string y.f4) #[.int .i64 2, .int .i64 c, .int .i64 0, .int .i64 y.f0, .string y.f1, .string y.f2, .slice A y.f3.length cc, .string y.f4, .string ⟨#[]⟩, .bool false, .int .i64 0, .int .i64 0, .int .i64 0, .int .i64 0] rfl
   replace hF := hF.putQ HG.out 8 (.string y.f5) #[.int .i64 2, .int .i64 c, .int .i64 0, .int .i64 y.f0, .string y.f1, .string y.f2, .slice A y.f3.length cc, .string y.f4, .string y.f5, .bool false, .int .i64 0, .int .i64 0, .int .i64 0, .int .i64 0] rfl
   replace hF := hF.putQ HG.out 9 (.bool y.f6) #[.int .i64 2, .int .i64 c, .int .i64 0, .int .i64 y.f0, .string y.f1, .string y.f2, .slice A y.f3.length cc, .string y.f4, .string y.f5, .bool y.f6, .int .i64 0, .int .i64 0, .int .i64 0, .int .i64 0] rfl
   replace hF := hF.putQ HG.out 10 (.int .i64 y.f7) #[.int .i64 2, .int .i64 c, .int .i64 0, .int .i64 y.f0, .string y.f1, .string y.f2, .slice A y.f3.length cc, .string y.f4, .string y.f5, .bool y.f6, .int .i64 y.f7, .int .i64 0, .int .i64 0, .int .i64 0] rfl
   replace hF := hF.putQ HG.out 11 (.int .i64 y.f8) #[.int .i64 2, .int .i64 c, .int .i64 0, .int .i64 y.f0, .string y.f1, .string y.f2, .slice A y.f3.length cc, .string y.f4, .string y.f5, .bool y.f6, .int .i64 y.f7, .int .i64 y.f8, .int .i64 0, .int .i64 0] rfl
   replace hF := hF.putQ HG.out 12 (.int .i64 y.f9) #[.int .i64 2, .int .i64 c, .int .i64 0, .int .i64 y.f0, .string y.f1, .string y.f2, .slice A y.f3.length cc, .string y.f4, .string y.f5, .bool y.f6, .int .i64 y.f7, .int .i64 y.f8, .int .i64 y.f9, .int .i64 0] rfl
   replace hF := hF.putQ HG.out 13 (.int .i64 y.f10) #[.int .i64 2, .int .i64 c, .int .i64 0, .int .i64 y.f0, .string y.f1, .string y.f2, .slice A y.f3.length cc, .string y.f4, .string y.f5, .bool y.f6, .int .i64 y.f7, .int .i64 y.f8, .int .i64 y.f9, .int .i64 y.f10] rfl
   have hR := O4.out
   replace hR := R_put hR (Nat.lt_succ_self _) 0 (.int .i64 2)
   replace hR := R_put hR (Nat.lt_succ_self _) 1 (.int .i64 c)
   replace hR := R_put hR (Nat.lt_succ_self _) 2 (.int .i64 0)
   replace hR := R_put hR (Nat.lt_succ_self _) 3 (.int .i64 y.f0)
   replace hR := R_put hR (Nat.lt_succ_self _) 4 (.string y.f1)
   replace hR := R_put hR (Nat.lt_succ_self _) 5 (.string y.f2)
   replace hR := R_put hR (Nat.lt_succ_self _) 6 (.slice A y.f3.length cc)
   replace hR := R_put hR (Nat.lt_succ_self _) 7 (.string y.f4)
   replace hR := R_put hR (Nat.lt_succ_self _) 8 (.string y.f5)
   replace hR := R_put hR (Nat.lt_succ_self _) 9 (.bool y.f6)
   replace hR := R_put hR (Nat.lt_succ_self _) 10 (.int .i64 y.f7)
   replace hR := R_put hR (Nat.lt_succ_self _) 11 (.int .i64 y.f8)
   replace hR := R_put hR (Nat.lt_succ_self _) 12 (.int .i64 y.f9)
   replace hR := R_put hR (Nat.lt_succ_self _) 13 (.int .i64 y.f10)
   refine bodyPost_ret (results_c1 rfl _ _ w.heap.size 58 _ (0, 0) _ rfl hF.2.2.1 hu48 rfl (by kernel_rfl)) rfl ?_
   exact ⟨hF.2.1, .inl ⟨(⟨2, c, 0, y⟩ : S58), .slice A y.f3.length cc, by simp [stepS, stepH, HS0.out, HS1.out, HC.out, nu_num], rfl, Kd.R_lower hR (Nat.le_succ _)⟩⟩
 have a1 : (s.toList == [114, 117, 110]) = false := beq_eq_false_iff_ne.2 h1
 have HS1 := Aside0.mk h1
 clear h1
 by_cases h2 : s.toList = [115, 116, 101, 112]
 ·
  have a2 : (s.toList == [115, 116, 101, 112]) = true := by rw [h2]; rfl
  have HS2 := Aside0.mk h2
  clear h2
  go_wp2_with (fail)
  refine (number_at g r _ S1.out.1).mono ?_
  rintro e w3 ⟨hf, ⟨c, r3, rfl, rfl, hr⟩ | ⟨hno, u, pv, rfl⟩⟩
  case inr => exact ⟨rfl, S1.out.2.1.trans hf, .inr ⟨by simp [stepS, stepH, HS0.out, HS1.out, HS2.out, nu_none hno], _, _, rfl⟩⟩
  have S2 := Aside0.mk (S1.out.step HG.out hr hf)
  clear hf hr
  go_wp2_with (fail)
  refine (number_at g r3 _ S2.out.1).mono ?_
  rintro e w4 ⟨hf, ⟨n, r4, rfl, rfl, hr⟩ | ⟨hno, u, pv, rfl⟩⟩
  case inr => exact ⟨rfl, S2.out.2.1.trans hf, .inr ⟨by simp [stepS, stepH, HS0.out, HS1.out, HS2.out, nu_num, nu_none hno], _, _, rfl⟩⟩
  have S3 := Aside0.mk (S2.out.step HG.out hr hf)
  clear hf hr
  have c0 : w4.cell? ⟨w.heap.size + 1, 0, none⟩ = some (.int .i64 0) := (blk_cell S3.out.2.2.2 0).trans rfl
  have d0 : w4.frozen? ⟨w.heap.size + 1, 0, none⟩ = false := blk_frozen S3.out.2.2.2 0
  have c1 : w4.cell? ⟨w.heap.size + 1, 1, none⟩ = some (.int .i64 0) := (blk_cell S3.out.2.2.2 1).trans rfl
  have d1 : w4.frozen? ⟨w.heap.size + 1, 1, none⟩ = false := blk_frozen S3.out.2.2.2 1
  have c2 : w4.cell? ⟨w.heap.size + 1, 2, none⟩ = some (.int .i64 0) := (blk_cell S3.out.2.2.2 2).trans rfl
  have d2 : w4.frozen? ⟨w.heap.size + 1, 2, none⟩ = false := blk_frozen S3.out.2.2.2 2
  have c3 : w4.cell? ⟨w.heap.size + 1, 3, none⟩ = some (.int .i64 0) := (blk_cell S3.out.2.2.2 3).trans rfl
  have d3 : w4.frozen? ⟨w.heap.size + 1, 3, none⟩ = false := blk_frozen S3.out.2.2.2 3
  have c4 : w4.cell? ⟨w.heap.size + 1, 4, none⟩ = some (.string ⟨#[]⟩) := (blk_cell S3.out.2.2.2 4).trans rfl
  have d4 : w4.frozen? ⟨w.heap.size + 1, 4, none⟩ = false := blk_frozen S3.out.2.2.2 4
  have c5 : w4.cell? ⟨w.heap.size + 1, 5, none⟩ = some (.string ⟨#[]⟩) := (blk_cell S3.out.2.2.2 5).trans rfl
  have d5 : w4.frozen? ⟨w.heap.size + 1, 5, none⟩ = false := blk_frozen S3.out.2.2.2 5
  have c6 : w4.cell? ⟨w.heap.size + 1, 6, none⟩ = some (.slice none 0 0) := (blk_cell S3.out.2.2.2 6).trans rfl
  have d6 : w4.frozen? ⟨w.heap.size + 1, 6, none⟩ = false := blk_frozen S3.out.2.2.2 6
  have c7 : w4.cell? ⟨w.heap.size + 1, 7, none⟩ = some (.string ⟨#[]⟩) := (blk_cell S3.out.2.2.2 7).trans rfl
  have d7 : w4.frozen? ⟨w.heap.size + 1, 7, none⟩ = false := blk_frozen S3.out.2.2.2 7
  have c8 : w4.cell? ⟨w.heap.size + 1, 8, none⟩ = some (.string ⟨#[]⟩) := (blk_cell S3.out.2.2.2 8).trans rfl
  have d8 : w4.frozen? ⟨w.heap.size + 1, 8, none⟩ = false := blk_frozen S3.out.2.2.2 8
  have c9 : w4.cell? ⟨w.heap.size + 1, 9, none⟩ = some (.bool false) := (blk_cell S3.out.2.2.2 9).trans rfl
  have d9 : w4.frozen? ⟨w.heap.size + 1, 9, none⟩ = false := blk_frozen S3.out.2.2.2 9
  have c10 : w4.cell? ⟨w.heap.size + 1, 10, none⟩ = some (.int .i64 0) := (blk_cell S3.out.2.2.2 10).trans rfl
  have d10 : w4.frozen? ⟨w.heap.size + 1, 10, none⟩ = false := blk_frozen S3.out.2.2.2 10
  have c11 : w4.cell? ⟨w.heap.size + 1, 11, none⟩ = some (.int .i64 0) := (blk_cell S3.out.2.2.2 11).trans rfl
  have d11 : w4.frozen? ⟨w.heap.size + 1, 11, none⟩ = false := blk_frozen S3.out.2.2.2 11
  have c12 : w4.cell? ⟨w.heap.size + 1, 12, none⟩ = some (.int .i64 0) := (blk_cell S3.out.2.2.2 12).trans rfl
  have d12 : w4.frozen? ⟨w.heap.size + 1, 12, none⟩ = false := blk_frozen S3.out.2.2.2 12
  have c13 : w4.cell? ⟨w.heap.size + 1, 13, none⟩ = some (.int .i64 0) := (blk_cell S3.out.2.2.2 13).trans rfl
  have d13 : w4.frozen? ⟨w.heap.size + 1, 13, none⟩ = false := blk_frozen S3.out.2.2.2 13
  go_upto_region 12 with (fail)
  clear c0 d0 c1 d1 c2 d2 c3 d3 c4 d4 c5 d5 c6 d6 c7 d7 c8 d8 c9 d9 c10 d10 c11 d11 c12 d12 c13 d13
  have hF := S3.out
  replace hF := hF.put HG.out 0 (.int .i64 3) #[.int .i64 3, .int .i64 0, .int .i64 0, .int .i64 0, .string ⟨#[]⟩, .string ⟨#[]⟩, .slice none 0 0, .string ⟨#[]⟩, .string ⟨#[]⟩, .bool false, .int .i64 0, .int .i64 0, .int .i64 0, .int .i64 0] rfl
  replace hF := hF.put HG.out 1 (.int .i64 c) #[.int .i64 3, .int .i64 c, .int .i64 0, .int .i64 0, .string ⟨#[]⟩, .string ⟨#[]⟩, .slice none 0 0, .string ⟨#[]⟩, .string ⟨#[]⟩, .bool false, .int .i64 0, .int .i64 0, .int .i64 0, .int .i64 0] rfl
  replace hF := hF.put HG.out 2 (.int .i64 n) #[.int .i64 3, .int .i64 c, .int .i64 n, .int .i64 0, .string ⟨#[]⟩, .string ⟨#[]⟩, .slice none 0 0, .string ⟨#[]⟩, .string ⟨#[]⟩, .bool false, .int .i64 0, .int .i64 0, .int .i64 0, .int .i64 0] rfl
  replace hF := hF.put HG.out 3 (.int .i64 0) #[.int .i64 3, .int .i64 c, .int .i64 n, .int .i64 0, .string ⟨#[]⟩, .string ⟨#[]⟩, .slice none 0 0, .string ⟨#[]⟩, .string ⟨#[]⟩, .bool false, .int .i64 0, .int .i64 0, .int .i64 0, .int .i64 0] rfl
  replace hF := hF.put HG.out 4 (.string ⟨#[]⟩) #[.int .i64 3, .int .i64 c, .int .i64 n, .int .i64 0, .string ⟨#[]⟩, .string ⟨#[]⟩, .slice none 0 0, .string ⟨#[]⟩, .string ⟨#[]⟩, .bool false, .int .i64 0, .int .i64 0, .int .i64 0, .int .i64 0] rfl
  replace hF := hF.put HG.out 5 (.string ⟨#[]⟩) #[.int .i64 3, .int .i64 c, .int .i64 n, .int .i64 0, .string ⟨#[]⟩, .string ⟨#[]⟩, .slice none 0 0, .string ⟨#[]⟩, .string ⟨#[]⟩, .bool false, .int .i64 0, .int .i64 0, .int .i64 0, .int .i64 0] rfl
  replace hF := hF.put HG.out 6 (.slice none 0 0) #[.int .i64 3, .int .i64 c, .int .i64 n, .int .i64 0, .string ⟨#[]⟩, .string ⟨#[]⟩, .slice none 0 0, .string ⟨#[]⟩, .string ⟨#[]⟩, .bool false, .int .i64 0, .int .i64 0, .int .i64 0, .int .i64 0] rfl
  replace hF := hF.put HG.out 7 (.string ⟨#[]⟩) #[.int .i64 3, .int .i64 c, .int .i64 n, .int .i64 0, .string ⟨#[]⟩, .string ⟨#[]⟩, .slice none 0 0, .string ⟨#[]⟩, .string ⟨#[]⟩, .bool false, .int .i64 0, .int .i64 0, .int .i64 0, .int .i64 0] rfl
  replace hF := hF.put HG.out 8 (.string ⟨#[]⟩) #[.int .i64 3, .int .i64 c, .int .i64 n, .int .i64 0, .string ⟨#[]⟩, .string ⟨#[]⟩, .slice none 0 0, .string ⟨#[]⟩, .string ⟨#[]⟩, .bool false, .int .i64 0, .int .i64 0, .int .i64 0, .int .i64 0] rfl
  replace hF := hF.put HG.out 9 (.bool false) #[.int .i64 3, .int .i64 c, .int .i64 n, .int .i64 0, .string ⟨#[]⟩, .string ⟨#[]⟩, .slice none 0 0, .string ⟨#[]⟩, .string ⟨#[]⟩, .bool false, .int .i64 0, .int .i64 0, .int .i64 0, .int .i64 0] rfl
  replace hF := hF.put HG.out 10 (.int .i64 0) #[.int .i64 3, .int .i64 c, .int .i64 n, .int .i64 0, .string ⟨#[]⟩, .string ⟨#[]⟩, .slice none 0 0, .string ⟨#[]⟩, .string ⟨#[]⟩, .bool false, .int .i64 0, .int .i64 0, .int .i64 0, .int .i64 0] rfl
  replace hF := hF.put HG.out 11 (.int .i64 0) #[.int .i64 3, .int .i64 c, .int .i64 n, .int .i64 0, .string ⟨#[]⟩, .string ⟨#[]⟩, .slice none 0 0, .string ⟨#[]⟩, .string ⟨#[]⟩, .bool false, .int .i64 0, .int .i64 0, .int .i64 0, .int .i64 0] rfl
  replace hF := hF.put HG.out 12 (.int .i64 0) #[.int .i64 3, .int .i64 c, .int .i64 n, .int .i64 0, .string ⟨#[]⟩, .string ⟨#[]⟩, .slice none 0 0, .string ⟨#[]⟩, .string ⟨#[]⟩, .bool false, .int .i64 0, .int .i64 0, .int .i64 0, .int .i64 0] rfl
  replace hF := hF.put HG.out 13 (.int .i64 0) #[.int .i64 3, .int .i64 c, .int .i64 n, .int .i64 0, .string ⟨#[]⟩, .string ⟨#[]⟩, .slice none 0 0, .string ⟨#[]⟩, .string ⟨#[]⟩, .bool false, .int .i64 0, .int .i64 0, .int .i64 0, .int .i64 0] rfl
  generalize World.setCell _ ⟨w.heap.size + 1, 13, none⟩ (.int .i64 0) = wz at *
  have S4 := Aside0.mk hF
  clear hF S3
  cases r4 with
  | cons b rr =>
   obtain ⟨A0, c0, hg, hn, hcells⟩ := S4.out.1
   obtain ⟨m, hlen⟩ : ∃ m, rr.length = m := ⟨_, rfl⟩
   have hc : wz.cell? ⟨g, 0, none⟩ = some (.slice A0 (m + 1) c0) := by rw [← hlen]; exact (blk_cell hg 0).trans rfl
   have q1 : (0 < ((m + 1 : Nat) : Int)) = True := eq_true (by omega)
   have q2 : (0 < (m : Int) + 1) = True := eq_true (by omega)
   have q3 : decide (0 < (m : Int) + 1) = true := decide_eq_true (by omega)
   clear hg hn hcells hlen
   go_wp2_with (fail)
   exact ⟨rfl, S4.out.2.1, .inr ⟨by simp [stepS, stepH, HS0.out, HS1.out, HS2.out, nu_num], _, _, rfl⟩⟩
  | nil =>
   obtain ⟨A0, c0, hg, hn, hcells⟩ := S4.out.1
   have hc : wz.cell? ⟨g, 0, none⟩ = some (.slice A0 0 c0) := (blk_cell hg 0).trans rfl
   clear hg hn hcells
   have c0' : wz.cell? ⟨w.heap.size + 1, 0, none⟩ = some (.int .i64 3) := (blk_cell S4.out.2.2.2 0).trans rfl
   have c2' : wz.cell? ⟨w.heap.size + 1, 2, none⟩ = some (.int .i64 n) := (blk_cell S4.out.2.2.2 2).trans rfl
   by_cases hn1 : n < 1
   ·
    have q1 : (n < 1) = True := eq_true hn1
    have q2 : decide (n < 1) = true := decide_eq_true hn1
    go_wp2_with (fail)
    exact ⟨rfl, S4.out.2.1, .inr ⟨by simp [stepS, stepH, HS0.out, HS1.out, HS2.out, nu_num, hn1]; intro hq; omega, _, _, rfl⟩⟩
   ·
    have q1 : (n < 1) = False := eq_false hn1
    have q2 : decide (n < 1) = false := decide_eq_false hn1
    by_cases hn2 : 100000 < n
    ·
     have q3 : (100000 < n) = True := eq_true hn2
     have q4 : decide (100000 < n) = true := decide_eq_true hn2
     go_wp2_with (fail)
     exact ⟨rfl, S4.out.2.1, .inr ⟨by simp [stepS, stepH, HS0.out, HS1.out, HS2.out, nu_num, hn2], _, _, rfl⟩⟩
    ·
     have q3 : (100000 < n) = False := eq_false hn2
     have q4 : decide (100000 < n) = false := decide_eq_false hn2
     clear c0' c2'
     have c0 : wz.cell? ⟨w.heap.size + 1, 0, none⟩ = some (.int .i64 3) := (blk_cell S4.out.2.2.2 0).trans rfl
     have c1 : wz.cell? ⟨w.heap.size + 1, 1, none⟩ = some (.int .i64 c) := (blk_cell S4.out.2.2.2 1).trans rfl
     have c2 : wz.cell? ⟨w.heap.size + 1, 2, none⟩ = some (.int .i64 n) := (blk_cell S4.out.2.2.2 2).trans rfl
     have c3 : wz.cell? ⟨w.heap.size + 1, 3, none⟩ = some (.int .i64 0) := (blk_cell S4.out.2.2.2 3).trans rfl
     have c4 : wz.cell? ⟨w.heap.size + 1, 4, none⟩ = some (.string ⟨#[]⟩) := (blk_cell S4.out.2.2.2 4).trans rfl
     have c5 : wz.cell? ⟨w.heap.size + 1, 5, none⟩ = some (.string ⟨#[]⟩) := (blk_cell S4.out.2.2.2 5).trans rfl
     have c6 : wz.cell? ⟨w.heap.size + 1, 6, none⟩ = some (.slice none 0 0) := (blk_cell S4.out.2.2.2 6).trans rfl
     have c7 : wz.cell? ⟨w.heap.size + 1, 7, none⟩ = some (.string ⟨#[]⟩) := (blk_cell S4.out.2.2.2 7).trans rfl
     have c8 : wz.cell? ⟨w.heap.size + 1, 8, none⟩ = some (.string ⟨#[]⟩) := (blk_cell S4.out.2.2.2 8).trans rfl
     have c9 : wz.cell? ⟨w.heap.size + 1, 9, none⟩ = some (.bool false) := (blk_cell S4.out.2.2.2 9).trans rfl
     have c10 : wz.cell? ⟨w.heap.size + 1, 10, none⟩ = some (.int .i64 0) := (blk_cell S4.out.2.2.2 10).trans rfl
     have c11 : wz.cell? ⟨w.heap.size + 1, 11, none⟩ = some (.int .i64 0) := (blk_cell S4.out.2.2.2 11).trans rfl
     have c12 : wz.cell? ⟨w.heap.size + 1, 12, none⟩ = some (.int .i64 0) := (blk_cell S4.out.2.2.2 12).trans rfl
     have c13 : wz.cell? ⟨w.heap.size + 1, 13, none⟩ = some (.int .i64 0) := (blk_cell S4.out.2.2.2 13).trans rfl
     have d0 : wz.cell? ⟨w.heap.size, 0, none⟩ = some (.int .i64 0) := (blk_cell S4.out.2.2.1 0).trans rfl
     have e0 : wz.frozen? ⟨w.heap.size, 0, none⟩ = false := blk_frozen S4.out.2.2.1 0
     have d1 : wz.cell? ⟨w.heap.size, 1, none⟩ = some (.int .i64 0) := (blk_cell S4.out.2.2.1 1).trans rfl
     have e1 : wz.frozen? ⟨w.heap.size, 1, none⟩ = false := blk_frozen S4.out.2.2.1 1
     have d2 : wz.cell? ⟨w.heap.size, 2, none⟩ = some (.int .i64 0) := (blk_cell S4.out.2.2.1 2).trans rfl
     have e2 : wz.frozen? ⟨w.heap.size, 2, none⟩ = false := blk_frozen S4.out.2.2.1 2
     have d3 : wz.cell? ⟨w.heap.size, 3, none⟩ = some (.int .i64 0) := (blk_cell S4.out.2.2.1 3).trans rfl
     have e3 : wz.frozen? ⟨w.heap.size, 3, none⟩ = false := blk_frozen S4.out.2.2.1 3
     have d4 : wz.cell? ⟨w.heap.size, 4, none⟩ = some (.string ⟨#[]⟩) := (blk_cell S4.out.2.2.1 4).trans rfl
     have e4 : wz.frozen? ⟨w.heap.size, 4, none⟩ = false := blk_frozen S4.out.2.2.1 4
     have d5 : wz.cell? ⟨w.heap.size, 5, none⟩ = some (.string ⟨#[]⟩) := (blk_cell S4.out.2.2.1 5).trans rfl
     have e5 : wz.frozen? ⟨w.heap.size, 5, none⟩ = false := blk_frozen S4.out.2.2.1 5
     have d6 : wz.cell? ⟨w.heap.size, 6, none⟩ = some (.slice none 0 0) := (blk_cell S4.out.2.2.1 6).trans rfl
     have e6 : wz.frozen? ⟨w.heap.size, 6, none⟩ = false := blk_frozen S4.out.2.2.1 6
     have d7 : wz.cell? ⟨w.heap.size, 7, none⟩ = some (.string ⟨#[]⟩) := (blk_cell S4.out.2.2.1 7).trans rfl
     have e7 : wz.frozen? ⟨w.heap.size, 7, none⟩ = false := blk_frozen S4.out.2.2.1 7
     have d8 : wz.cell? ⟨w.heap.size, 8, none⟩ = some (.string ⟨#[]⟩) := (blk_cell S4.out.2.2.1 8).trans rfl
     have e8 : wz.frozen? ⟨w.heap.size, 8, none⟩ = false := blk_frozen S4.out.2.2.1 8
     have d9 : wz.cell? ⟨w.heap.size, 9, none⟩ = some (.bool false) := (blk_cell S4.out.2.2.1 9).trans rfl
     have e9 : wz.frozen? ⟨w.heap.size, 9, none⟩ = false := blk_frozen S4.out.2.2.1 9
     have d10 : wz.cell? ⟨w.heap.size, 10, none⟩ = some (.int .i64 0) := (blk_cell S4.out.2.2.1 10).trans rfl
     have e10 : wz.frozen? ⟨w.heap.size, 10, none⟩ = false := blk_frozen S4.out.2.2.1 10
     have d11 : wz.cell? ⟨w.heap.size, 11, none⟩ = some (.int .i64 0) := (blk_cell S4.out.2.2.1 11).trans rfl
     have e11 : wz.frozen? ⟨w.heap.size, 11, none⟩ = false := blk_frozen S4.out.2.2.1 11
     have d12 : wz.cell? ⟨w.heap.size, 12, none⟩ = some (.int .i64 0) := (blk_cell S4.out.2.2.1 12).trans rfl
     have e12 : wz.frozen? ⟨w.heap.size, 12, none⟩ = false := blk_frozen S4.out.2.2.1 12
     have d13 : wz.cell? ⟨w.heap.size, 13, none⟩ = some (.int .i64 0) := (blk_cell S4.out.2.2.1 13).trans rfl
     have e13 : wz.frozen? ⟨w.heap.size, 13, none⟩ = false := blk_frozen S4.out.2.2.1 13
     go_wp2_with (fail)
     have hF := S4.out
     replace hF := hF.putQ HG.out 0 (.int .i64 3) #[.int .i64 3, .int .i64 0, .int .i64 0, .int .i64 0, .string ⟨#[]⟩, .string ⟨#[]⟩, .slice none 0 0, .string ⟨#[]⟩, .string ⟨#[]⟩, .bool false, .int .i64 0, .int .i64 0, .int .i64 0, .int .i64 0] rfl
     replace hF := hF.putQ HG.out 1 (.int .i64 c) #[.int .i64 3, .int .i64 c, .int .i64 0, .int .i64 0, .string ⟨#[]⟩, .string ⟨#[]⟩, .slice none 0 0, .string ⟨#[]⟩, .string ⟨#[]⟩, .bool false, .int .i64 0, .int .i64 0, .int .i64 0, .int .i64 0] rfl
     replace hF := hF.putQ HG.out 2 (.int .i64 n) #[.int .i64 3, .int .i64 c, .int .i64 n, .int .i64 0, .string ⟨#[]⟩, .string ⟨#[]⟩, .slice none 0 0, .string ⟨#[]⟩, .string ⟨#[]⟩, .bool false, .int .i64 0, .int .i64 0, .int .i64 0, .int .i64 0] rfl
     replace hF := hF.putQ HG.out 3 (.int .i64 0) #[.int .i64 3, .int .i64 c, .int .i64 n, .int .i64 0, .string ⟨#[]⟩, .string ⟨#[]⟩, .slice none 0 0, .string ⟨#[]⟩, .string ⟨#[]⟩, .bool false, .int .i64 0, .int .i64 0, .int .i64 0, .int .i64 0] rfl
     replace hF := hF.putQ HG.out 4 (.string ⟨#[]⟩) #[.int .i64 3, .int .i64 c, .int .i64 n, .int .i64 0, .string ⟨#[]⟩, .string ⟨#[]⟩, .slice none 0 0, .string ⟨#[]⟩, .string ⟨#[]⟩, .bool false, .int .i64 0, .int .i64 0, .int .i64 0, .int .i64 0] rfl
     replace hF := hF.putQ HG.out 5 (.string ⟨#[]⟩) #[.int .i64 3, .int .i64 c, .int .i64 n, .int .i64 0, .string ⟨#[]⟩, .string ⟨#[]⟩, .slice none 0 0, .string ⟨#[]⟩, .string ⟨#[]⟩, .bool false, .int .i64 0, .int .i64 0, .int .i64 0, .int .i64 0] rfl
     replace hF := hF.putQ HG.out 6 (.slice none 0 0) #[.int .i64 3, .int .i64 c, .int .i64 n, .int .i64 0, .string ⟨#[]⟩, .string ⟨#[]⟩, .slice none 0 0, .string ⟨#[]⟩, .string ⟨#[]⟩, .bool false, .int .i64 0, .int .i64 0, .int .i64 0, .int .i64 0] rfl
     replace hF := hF.putQ HG.out 7 (.string ⟨#[]⟩) #[.int .i64 3, .int .i64 c, .int .i64 n, .int .i64 0, .string ⟨#[]⟩, .string ⟨#[]⟩, .slice none 0 0, .string ⟨#[]⟩, .string ⟨#[]⟩, .bool false, .int .i64 0, .int .i64 0, .int .i64 0, .int .i64 0] rfl
     replace hF := hF.putQ HG.out 8 (.string ⟨#[]⟩) #[.int .i64 3, .int .i64 c, .int .i64 n, .int .i64 0, .string ⟨#[]⟩, .string ⟨#[]⟩, .slice none 0 0, .string ⟨#[]⟩, .string ⟨#[]⟩, .bool false, .int .i64 0, .int .i64 0, .int .i64 0, .int .i64 0] rfl
     replace hF := hF.putQ HG.out 9 (.bool false) #[.int .i64 3, .int .i64 c, .int .i64 n, .int .i64 0, .string ⟨#[]⟩, .string ⟨#[]⟩, .slice none 0 0, .string ⟨#[]⟩, .string ⟨#[]⟩, .bool false, .int .i64 0, .int .i64 0, .int .i64 0, .int .i64 0] rfl
     replace hF := hF.putQ HG.out 10 (.int .i64 0) #[.int .i64 3, .int .i64 c, .int .i64 n, .int .i64 0, .string ⟨#[]⟩, .string ⟨#[]⟩, .slice none 0 0, .string ⟨#[]⟩, .string ⟨#[]⟩, .bool false, .int .i64 0, .int .i64 0, .int .i64 0, .int .i64 0] rfl
     replace hF := hF.putQ HG.out 11 (.int .i64 0) #[.int .i64 3, .int .i64 c, .int .i64 n, .int .i64 0, .string ⟨#[]⟩, .string ⟨#[]⟩, .slice none 0 0, .string ⟨#[]⟩, .string ⟨#[]⟩, .bool false, .int .i64 0, .int .i64 0, .int .i64 0, .int .i64 0] rfl
     replace hF := hF.putQ HG.out 12 (.int .i64 0) #[.int .i64 3, .int .i64 c, .int .i64 n, .int .i64 0, .string ⟨#[]⟩, .string ⟨#[]⟩, .slice none 0 0, .string ⟨#[]⟩, .string ⟨#[]⟩, .bool false, .int .i64 0, .int .i64 0, .int .i64 0, .int .i64 0] rfl
     replace hF := hF.putQ HG.out 13 (.int .i64 0) #[.int .i64 3, .int .i64 c, .int .i64 n, .int .i64 0, .string ⟨#[]⟩, .string ⟨#[]⟩, .slice none 0 0, .string ⟨#[]⟩, .string ⟨#[]⟩, .bool false, .int .i64 0, .int .i64 0, .int .i64 0, .int .i64 0] rfl
     refine bodyPost_ret (results_c1 rfl _ _ w.heap.size 58 _ (0, 0) _ rfl hF.2.2.1 hu48 rfl (by kernel_rfl)) rfl ?_
     exact ⟨hF.2.1, .inl ⟨(⟨3, c, n, z52⟩ : S58), .slice none 0 0, by simp [stepS, stepH, HS0.out, HS1.out, HS2.out, nu_num, hn1, hn2], rfl, Kd.R_nil _ _ _ _ _⟩⟩
 have a2 : (s.toList == [115, 116, 101, 112]) = false := beq_eq_false_iff_ne.2 h2
 have HS2 := Aside0.mk h2
 clear h2
 by_cases h3 : s.toList = [97, 108, 108]
 ·
  have a3 : (s.toList == [97, 108, 108]) = true := by rw [h3]; rfl
  have HS3 := Aside0.mk h3
  clear h3
  have c0 : w2.cell? ⟨w.heap.size + 1, 0, none⟩ = some (.int .i64 0) := (blk_cell S1.out.2.2.2 0).trans rfl
  have d0 : w2.frozen? ⟨w.heap.size + 1, 0, none⟩ = false := blk_frozen S1.out.2.2.2 0
  have c1 : w2.cell? ⟨w.heap.size + 1, 1, none⟩ = some (.int .i64 0) := (blk_cell S1.out.2.2.2 1).trans rfl
  have d1 : w2.frozen? ⟨w.heap.size + 1, 1, none⟩ = false := blk_frozen S1.out.2.2.2 1
  have c2 : w2.cell? ⟨w.heap.size + 1, 2, none⟩ = some (.int .i64 0) := (blk_cell S1.out.2.2.2 2).trans rfl
  have d2 : w2.frozen? ⟨w.heap.size + 1, 2, none⟩ = false := blk_frozen S1.out.2.2.2 2
  have c3 : w2.cell? ⟨w.heap.size + 1, 3, none⟩ = some (.int .i64 0) := (blk_cell S1.out.2.2.2 3).trans rfl
  have d3 : w2.frozen? ⟨w.heap.size + 1, 3, none⟩ = false := blk_frozen S1.out.2.2.2 3
  have c4 : w2.cell? ⟨w.heap.size + 1, 4, none⟩ = some (.string ⟨#[]⟩) := (blk_cell S1.out.2.2.2 4).trans rfl
  have d4 : w2.frozen? ⟨w.heap.size + 1, 4, none⟩ = false := blk_frozen S1.out.2.2.2 4
  have c5 : w2.cell? ⟨w.heap.size + 1, 5, none⟩ = some (.string ⟨#[]⟩) := (blk_cell S1.out.2.2.2 5).trans rfl
  have d5 : w2.frozen? ⟨w.heap.size + 1, 5, none⟩ = false := blk_frozen S1.out.2.2.2 5
  have c6 : w2.cell? ⟨w.heap.size + 1, 6, none⟩ = some (.slice none 0 0) := (blk_cell S1.out.2.2.2 6).trans rfl
  have d6 : w2.frozen? ⟨w.heap.size + 1, 6, none⟩ = false := blk_frozen S1.out.2.2.2 6
  have c7 : w2.cell? ⟨w.heap.size + 1, 7, none⟩ = some (.string ⟨#[]⟩) := (blk_cell S1.out.2.2.2 7).trans rfl
  have d7 : w2.frozen? ⟨w.heap.size + 1, 7, none⟩ = false := blk_frozen S1.out.2.2.2 7
  have c8 : w2.cell? ⟨w.heap.size + 1, 8, none⟩ = some (.string ⟨#[]⟩) := (blk_cell S1.out.2.2.2 8).trans rfl
  have d8 : w2.frozen? ⟨w.heap.size + 1, 8, none⟩ = false := blk_frozen S1.out.2.2.2 8
  have c9 : w2.cell? ⟨w.heap.size + 1, 9, none⟩ = some (.bool false) := (blk_cell S1.out.2.2.2 9).trans rfl
  have d9 : w2.frozen? ⟨w.heap.size + 1, 9, none⟩ = false := blk_frozen S1.out.2.2.2 9
  have c10 : w2.cell? ⟨w.heap.size + 1, 10, none⟩ = some (.int .i64 0) := (blk_cell S1.out.2.2.2 10).trans rfl
  have d10 : w2.frozen? ⟨w.heap.size + 1, 10, none⟩ = false := blk_frozen S1.out.2.2.2 10
  have c11 : w2.cell? ⟨w.heap.size + 1, 11, none⟩ = some (.int .i64 0) := (blk_cell S1.out.2.2.2 11).trans rfl
  have d11 : w2.frozen? ⟨w.heap.size + 1, 11, none⟩ = false := blk_frozen S1.out.2.2.2 11
  have c12 : w2.cell? ⟨w.heap.size + 1, 12, none⟩ = some (.int .i64 0) := (blk_cell S1.out.2.2.2 12).trans rfl
  have d12 : w2.frozen? ⟨w.heap.size + 1, 12, none⟩ = false := blk_frozen S1.out.2.2.2 12
  have c13 : w2.cell? ⟨w.heap.size + 1, 13, none⟩ = some (.int .i64 0) := (blk_cell S1.out.2.2.2 13).trans rfl
  have d13 : w2.frozen? ⟨w.heap.size + 1, 13, none⟩ = false := blk_frozen S1.out.2.2.2 13
  go_upto_region 12 with (fail)
  clear c0 d0 c1 d1 c2 d2 c3 d3 c4 d4 c5 d5 c6 d6 c7 d7 c8 d8 c9 d9 c10 d10 c11 d11 c12 d12 c13 d13
  have hF := S1.out
  replace hF := hF.put HG.out 0 (.int .i64 4) #[.int .i64 4, .int .i64 0, .int .i64 0, .int .i64 0, .string ⟨#[]⟩, .string ⟨#[]⟩, .slice none 0 0, .string ⟨#[]⟩, .string ⟨#[]⟩, .bool false, .int .i64 0, .int .i64 0, .int .i64 0, .int .i64 0] rfl
  replace hF := hF.put HG.out 1 (.int .i64 0) #[.int .i64 4, .int .i64 0, .int .i64 0, .int .i64 0, .string ⟨#[]⟩, .string ⟨#[]⟩, .slice none 0 0, .string ⟨#[]⟩, .string ⟨#[]⟩, .bool false, .int .i64 0, .int .i64 0, .int .i64 0, .int .i64 0] rfl
  replace hF := hF.put HG.out 2 (.int .i64 0) #[.int .i64 4, .int .i64 0, .int .i64 0, .int .i64 0, .string ⟨#[]⟩, .string ⟨#[]⟩, .slice none 0 0, .string ⟨#[]⟩, .string ⟨#[]⟩, .bool false, .int .i64 0, .int .i64 0, .int .i64 0, .int .i64 0] rfl
  replace hF := hF.put HG.out 3 (.int .i64 0) #[.int .i64 4, .int .i64 0, .int .i64 0, .int .i64 0, .string ⟨#[]⟩, .string ⟨#[]⟩, .slice none 0 0, .string ⟨#[]⟩, .string ⟨#[]⟩, .bool false, .int .i64 0, .int .i64 0, .int .i64 0, .int .i64 0] rfl
  replace hF := hF.put HG.out 4 (.string ⟨#[]⟩) #[.int .i64 4, .int .i64 0, .int .i64 0, .int .i64 0, .string ⟨#[]⟩, .string ⟨#[]⟩, .slice none 0 0, .string ⟨#[]⟩, .string ⟨#[]⟩, .bool false, .int .i64 0, .int .i64 0, .int .i64 0, .int .i64 0] rfl
  replace hF := hF.put HG.out 5 (.string ⟨#[]⟩) #[.int .i64 4, .int .i64 0, .int .i64 0, .int .i64 0, .string ⟨#[]⟩, .string ⟨#[]⟩, .slice none 0 0, .string ⟨#[]⟩, .string ⟨#[]⟩, .bool false, .int .i64 0, .int .i64 0, .int .i64 0, .int .i64 0] rfl
  replace hF := hF.put HG.out 6 (.slice none 0 0) #[.int .i64 4, .int .i64 0, .int .i64 0, .int .i64 0, .string ⟨#[]⟩, .string ⟨#[]⟩, .slice none 0 0, .string ⟨#[]⟩, .string ⟨#[]⟩, .bool false, .int .i64 0, .int .i64 0, .int .i64 0, .int .i64 0] rfl
  replace hF := hF.put HG.out 7 (.string ⟨#[]⟩) #[.int .i64 4, .int .i64 0, .int .i64 0, .int .i64 0, .string ⟨#[]⟩, .string ⟨#[]⟩, .slice none 0 0, .string ⟨#[]⟩, .string ⟨#[]⟩, .bool false, .int .i64 0, .int .i64 0, .int .i64 0, .int .i64 0] rfl
  replace hF := hF.put HG.out 8 (.string ⟨#[]⟩) #[.int .i64 4, .int .i64 0, .int .i64 0, .int .i64 0, .string ⟨#[]⟩, .string ⟨#[]⟩, .slice none 0 0, .string ⟨#[]⟩, .string ⟨#[]⟩, .bool false, .int .i64 0, .int .i64 0, .int .i64 0, .int .i64 0] rfl
  replace hF := hF.put HG.out 9 (.bool false) #[.int .i64 4, .int .i64 0, .int .i64 0, .int .i64 0, .string ⟨#[]⟩, .string ⟨#[]⟩, .slice none 0 0, .string ⟨#[]⟩, .string ⟨#[]⟩, .bool false, .int .i64 0, .int .i64 0, .int .i64 0, .int .i64 0] rfl
  replace hF := hF.put HG.out 10 (.int .i64 0) #[.int .i64 4, .int .i64 0, .int .i64 0, .int .i64 0, .string ⟨#[]⟩, .string ⟨#[]⟩, .slice none 0 0, .string ⟨#[]⟩, .string ⟨#[]⟩, .bool false, .int .i64 0, .int .i64 0, .int .i64 0, .int .i64 0] rfl
  replace hF := hF.put HG.out 11 (.int .i64 0) #[.int .i64 4, .int .i64 0, .int .i64 0, .int .i64 0, .string ⟨#[]⟩, .string ⟨#[]⟩, .slice none 0 0, .string ⟨#[]⟩, .string ⟨#[]⟩, .bool false, .int .i64 0, .int .i64 0, .int .i64 0, .int .i64 0] rfl
  replace hF := hF.put HG.out 12 (.int .i64 0) #[.int .i64 4, .int .i64 0, .int .i64 0, .int .i64 0, .string ⟨#[]⟩, .string ⟨#[]⟩, .slice none 0 0, .string ⟨#[]⟩, .string ⟨#[]⟩, .bool false, .int .i64 0, .int .i64 0, .int .i64 0, .int .i64 0] rfl
  replace hF := hF.put HG.out 13 (.int .i64 0) #[.int .i64 4, .int .i64 0, .int .i64 0, .int .i64 0, .string ⟨#[]⟩, .string ⟨#[]⟩, .slice none 0 0, .string ⟨#[]⟩, .string ⟨#[]⟩, .bool false, .int .i64 0, .int .i64 0, .int .i64 0, .int .i64 0] rfl
  generalize World.setCell _ ⟨w.heap.size + 1, 13, none⟩ (.int .i64 0) = wz at *
  have S4 := Aside0.mk hF
  clear hF S1 K1
  cases r with
  | cons b rr =>
   obtain ⟨A0, c0, hg, hn, hcells⟩ := S4.out.1
   obtain ⟨m, hlen⟩ : ∃ m, rr.length = m := ⟨_, rfl⟩
   have hc : wz.cell? ⟨g, 0, none⟩ = some (.slice A0 (m + 1) c0) := by rw [← hlen]; exact (blk_cell hg 0).trans rfl
   have q1 : (0 < ((m + 1 : Nat) : Int)) = True := eq_true (by omega)
   have q2 : (0 < (m : Int) + 1) = True := eq_true (by omega)
   have q3 : decide (0 < (m : Int) + 1) = true := decide_eq_true (by omega)
   clear hg hn hcells hlen
   go_wp2_with (fail)
   exact ⟨rfl, S4.out.2.1, .inr ⟨by simp [stepS, stepH, HS0.out, HS1.out, HS2.out, HS3.out, nu_num], _, _, rfl⟩⟩
  | nil =>
   obtain ⟨A0, c0, hg, hn, hcells⟩ := S4.out.1
   have hc : wz.cell? ⟨g, 0, none⟩ = some (.slice A0 0 c0) := (blk_cell hg 0).trans rfl
   clear hg hn hcells
   have c0 : wz.cell? ⟨w.heap.size + 1, 0, none⟩ = some (.int .i64 4) := (blk_cell S4.out.2.2.2 0).trans rfl
   have c1 : wz.cell? ⟨w.heap.size + 1, 1, none⟩ = some (.int .i64 0) := (blk_cell S4.out.2.2.2 1).trans rfl
   have c2 : wz.cell? ⟨w.heap.size + 1, 2, none⟩ = some (.int .i64 0) := (blk_cell S4.out.2.2.2 2).trans rfl
   have c3 : wz.cell? ⟨w.heap.size + 1, 3, none⟩ = some (.int .i64 0) := (blk_cell S4.out.2.2.2 3).trans rfl
   have c4 : wz.cell? ⟨w.heap.size + 1, 4, none⟩ = some (.string ⟨#[]⟩) := (blk_cell S4.out.2.2.2 4).trans rfl
   have c5 : wz.cell? ⟨w.heap.size + 1, 5, none⟩ = some (.string ⟨#[]⟩) := (blk_cell S4.out.2.2.2 5).trans rfl
   have c6 : wz.cell? ⟨w.heap.size + 1, 6, none⟩ = some (.slice none 0 0) := (blk_cell S4.out.2.2.2 6).trans rfl
   have c7 : wz.cell? ⟨w.heap.size + 1, 7, none⟩ = some (.string ⟨#[]⟩) := (blk_cell S4.out.2.2.2 7).trans rfl
   have c8 : wz.cell? ⟨w.heap.size + 1, 8, none⟩ = some (.string ⟨#[]⟩) := (blk_cell S4.out.2.2.2 8).trans rfl
   have c9 : wz.cell? ⟨w.heap.size + 1, 9, none⟩ = some (.bool false) := (blk_cell S4.out.2.2.2 9).trans rfl
   have c10 : wz.cell? ⟨w.heap.size + 1, 10, none⟩ = some (.int .i64 0) := (blk_cell S4.out.2.2.2 10).trans rfl
   have c11 : wz.cell? ⟨w.heap.size + 1, 11, none⟩ = some (.int .i64 0) := (blk_cell S4.out.2.2.2 11).trans rfl
   have c12 : wz.cell? ⟨w.heap.size + 1, 12, none⟩ = some (.int .i64 0) := (blk_cell S4.out.2.2.2 12).trans rfl
   have c13 : wz.cell? ⟨w.heap.size + 1, 13, none⟩ = some (.int .i64 0) := (blk_cell S4.out.2.2.2 13).trans rfl
   have d0 : wz.cell? ⟨w.heap.size, 0, none⟩ = some (.int .i64 0) := (blk_cell S4.out.2.2.1 0).trans rfl
   have e0 : wz.frozen? ⟨w.heap.size, 0, none⟩ = false := blk_frozen S4.out.2.2.1 0
   have d1 : wz.cell? ⟨w.heap.size, 1, none⟩ = some (.int .i64 0) := (blk_cell S4.out.2.2.1 1).trans rfl
   have e1 : wz.frozen? ⟨w.heap.size, 1, none⟩ = false := blk_frozen S4.out.2.2.1 1
   have d2 : wz.cell? ⟨w.heap.size, 2, none⟩ = some (.int .i64 0) := (blk_cell S4.out.2.2.1 2).trans rfl
   have e2 : wz.frozen? ⟨w.heap.size, 2, none⟩ = false := blk_frozen S4.out.2.2.1 2
   have d3 : wz.cell? ⟨w.heap.size, 3, none⟩ = some (.int .i64 0) := (blk_cell S4.out.2.2.1 3).trans rfl
   have e3 : wz.frozen? ⟨w.heap.size, 3, none⟩ = false := blk_frozen S4.out.2.2.1 3
   have d4 : wz.cell? ⟨w.heap.size, 4, none⟩ = some (.string ⟨#[]⟩) := (blk_cell S4.out.2.2.1 4).trans rfl
   have e4 : wz.frozen? ⟨w.heap.size, 4, none⟩ = false := blk_frozen S4.out.2.2.1 4
   have d5 : wz.cell? ⟨w.heap.size, 5, none⟩ = some (.string ⟨#[]⟩) := (blk_cell S4.out.2.2.1 5).trans rfl
   have e5 : wz.frozen? ⟨w.heap.size, 5, none⟩ = false := blk_frozen S4.out.2.2.1 5
   have d6 : wz.cell? ⟨w.heap.size, 6, none⟩ = some (.slice none 0 0) := (blk_cell S4.out.2.2.1 6).trans rfl
   have e6 : wz.frozen? ⟨w.heap.size, 6, none⟩ = false := blk_frozen S4.out.2.2.1 6
   have d7 : wz.cell? ⟨w.heap.size, 7, none⟩ = some (.string ⟨#[]⟩) := (blk_cell S4.out.2.2.1 7).trans rfl
   have e7 : wz.frozen? ⟨w.heap.size, 7, none⟩ = false := blk_frozen S4.out.2.2.1 7
   have d8 : wz.cell? ⟨w.heap.size, 8, none⟩ = some (.string ⟨#[]⟩) := (blk_cell S4.out.2.2.1 8).trans rfl
   have e8 : wz.frozen? ⟨w.heap.size, 8, none⟩ = false := blk_frozen S4.out.2.2.1 8
   have d9 : wz.cell? ⟨w.heap.size, 9, none⟩ = some (.bool false) := (blk_cell S4.out.2.2.1 9).trans rfl
   have e9 : wz.frozen? ⟨w.heap.size, 9, none⟩ = false := blk_frozen S4.out.2.2.1 9
   have d10 : wz.cell? ⟨w.heap.size, 10, none⟩ = some (.int .i64 0) := (blk_cell S4.out.2.2.1 10).trans rfl
   have e10 : wz.frozen? ⟨w.heap.size, 10, none⟩ = false := blk_frozen S4.out.2.2.1 10
   have d11 : wz.cell? ⟨w.heap.size, 11, none⟩ = some (.int .i64 0) := (blk_cell S4.out.2.2.1 11).trans rfl
   have e11 : wz.frozen? ⟨w.heap.size, 11, none⟩ = false := blk_frozen S4.out.2.2.1 11
   have d12 : wz.cell? ⟨w.heap.size, 12, none⟩ = some (.int .i64 0) := (blk_cell S4.out.2.2.1 12).trans rfl
   have e12 : wz.frozen? ⟨w.heap.size, 12, none⟩ = false := blk_frozen S4.out.2.2.1 12
   have d13 : wz.cell? ⟨w.heap.size, 13, none⟩ = some (.int .i64 0) := (blk_cell S4.out.2.2.1 13).trans rfl
   have e13 : wz.frozen? ⟨w.heap.size, 13, none⟩ = false := blk_frozen S4.out.2.2.1 13
   go_wp2_with (fail)
   have hF := S4.out
   replace hF := hF.putQ HG.out 0 (.int .i64 4) #[.int .i64 4, .int .i64 0, .int .i64 0, .int .i64 0, .string ⟨#[]⟩, .string ⟨#[]⟩, .slice none 0 0, .string ⟨#[]⟩, .string ⟨#[]⟩, .bool false, .int .i64 0, .int .i64 0, .int .i64 0, .int .i64 0] rfl
   replace hF := hF.putQ HG.out 1 (.int .i64 0) #[.int .i64 4, .int .i64 0, .int .i64 0, .int .i64 0, .string ⟨#[]⟩, .string ⟨#[]⟩, .slice none 0 0, .string ⟨#[]⟩, .string ⟨#[]⟩, .bool false, .int .i64 0, .int .i64 0, .int .i64 0, .int .i64 0] rfl
   replace hF := hF.putQ HG.out 2 (.int .i64 0) #[.int .i64 4, .int .i64 0, .int .i64 0, .int .i64 0, .string ⟨#[]⟩, .string ⟨#[]⟩, .slice none 0 0, .string ⟨#[]⟩, .string ⟨#[]⟩, .bool false, .int .i64 0, .int .i64 0, .int .i64 0, .int .i64 0] rfl
   replace hF := hF.putQ HG.out 3 (.int .i64 0) #[.int .i64 4, .int .i64 0, .int .i64 0, .int .i64 0, .string ⟨#[]⟩, .string ⟨#[]⟩, .slice none 0 0, .string ⟨#[]⟩, .string ⟨#[]⟩, .bool false, .int .i64 0, .int .i64 0, .int .i64 0, .int .i64 0] rfl
   replace hF := hF.putQ HG.out 4 (.string ⟨#[]⟩) #[.int .i64 4, .int .i64 0, .int .i64 0, .int .i64 0, .string ⟨#[]⟩, .string ⟨#[]⟩, .slice none 0 0, .string ⟨#[]⟩, .string ⟨#[]⟩, .bool false, .int .i64 0, .int .i64 0, .int .i64 0, .int .i64 0] rfl
   replace hF := hF.putQ HG.out 5 (.string ⟨#[]⟩) #[.int .i64 4, .int .i64 0, .int .i64 0, .int .i64 0, .string ⟨#[]⟩, .string ⟨#[]⟩, .slice none 0 0, .string ⟨#[]⟩, .string ⟨#[]⟩, .bool false, .int .i64 0, .int .i64 0, .int .i64 0, .int .i64 0] rfl
   replace hF := hF.putQ HG.out 6 (.slice none 0 0) #[.int .i64 4, .int .i64 0, .int .i64 0, .int .i64 0, .string ⟨#[]⟩, .string ⟨#[]⟩, .slice none 0 0, .string ⟨#[]⟩, .string ⟨#[]⟩, .bool false, .int .i64 0, .int .i64 0, .int .i64 0, .int .i64 0] rfl
   replace hF := hF.putQ HG.out 7 (.string ⟨#[]⟩) #[.int .i64 4, .int .i64 0, .int .i64 0, .int .i64 0, .string ⟨#[]⟩, .string ⟨#[]⟩, .slice none 0 0, .string ⟨#[]⟩, .string ⟨#[]⟩, .bool false, .int .i64 0, .int .i64 0, .int .i64 0, .int .i64 0] rfl
   replace hF := hF.putQ HG.out 8 (.string ⟨#[]⟩) #[.int .i64 4, .int .i64 0, .int .i64 0, .int .i64 0, .string ⟨#[]⟩, .string ⟨#[]⟩, .slice none 0 0, .string ⟨#[]⟩, .string ⟨#[]⟩, .bool false, .int .i64 0, .int .i64 0, .int .i64 0, .int .i64 0] rfl
   replace hF := hF.putQ HG.out 9 (.bool false) #[.int .i64 4, .int .i64 0, .int .i64 0, .int .i64 0, .string ⟨#[]⟩, .string ⟨#[]⟩, .slice none 0 0, .string ⟨#[]⟩, .string ⟨#[]⟩, .bool false, .int .i64 0, .int .i64 0, .int .i64 0, .int .i64 0] rfl
   replace hF := hF.putQ HG.out 10 (.int .i64 0) #[.int .i64 4, .int .i64 0, .int .i64 0, .int .i64 0, .string ⟨#[]⟩, .string ⟨#[]⟩, .slice none 0 0, .string ⟨#[]⟩, .string ⟨#[]⟩, .bool false, .int .i64 0, .int .i64 0, .int .i64 0, .int .i64 0] rfl
   replace hF := hF.putQ HG.out 11 (.int .i64 0) #[.int .i64 4, .int .i64 0, .int .i64 0, .int .i64 0, .string ⟨#[]⟩, .string ⟨#[]⟩, .slice none 0 0, .string ⟨#[]⟩, .string ⟨#[]⟩, .bool false, .int .i64 0, .int .i64 0, .int .i64 0, .int .i64 0] rfl
   replace hF := hF.putQ HG.out 12 (.int .i64 0) #[.int .i64 4, .int .i64 0, .int .i64 0, .int .i64 0, .string ⟨#[]⟩, .string ⟨#[]⟩, .slice none 0 0, .string ⟨#[]⟩, .string ⟨#[]⟩, .bool false, .int .i64 0, .int .i64 0, .int .i64 0, .int .i64 0] rfl
   replace hF := hF.putQ HG.out 13 (.int .i64 0) #[.int .i64 4, .int .i64 0, .int .i64 0, .int .i64 0, .string ⟨#[]⟩, .string ⟨#[]⟩, .slice none 0 0, .string ⟨#[]⟩, .string ⟨#[]⟩, .bool false, .int .i64 0, .int .i64 0, .int .i64 0, .int .i64 0] rfl
   refine bodyPost_ret (results_c1 rfl _ _ w.heap.size 58 _ (0, 0) _ rfl hF.2.2.1 hu48 rfl (by kernel_rfl)) rfl ?_
   exact ⟨hF.2.1, .inl ⟨(⟨4, 0, 0, z52⟩ : S58), .slice none 0 0, by simp [stepS, stepH, HS0.out, HS1.out, HS2.out, HS3.out, nu_num], rfl, Kd.R_nil _ _ _ _ _⟩⟩
 have a3 : (s.toList == [97, 108, 108]) = false := beq_eq_false_iff_ne.2 h3
 have HS3 := Aside0.mk h3
 clear h3
 go_wp2_with (fail)
 exact ⟨rfl, S1.out.2.1, .inr ⟨by simp [stepS, stepH, HS0.out, HS1.out, HS2.out, HS3.out], _, _, rfl⟩⟩
end Go.Proofs.YtlkbeddlmbghkaaGreatDoor.PR
