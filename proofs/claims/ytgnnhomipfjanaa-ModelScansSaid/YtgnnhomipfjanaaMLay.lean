/- rundlelaw24.lay over lists alone: the model of the changes that may be, and what the document has of them. -/
import Derived.Test.YtgnnhomipfjanaaPMx4
import Derived.Test.YtgnnhomipfjanaaMLong
namespace Go.Proofs.Ytgnnhomipfjanaa.PM
open Go Go.Proofs Go.RowKit Go.Proofs.YtgnnhomipfjanaaW.PrintWords Go.Proofs.YtgnnhomipfjanaaW.PrintLast Go.Proofs.YtgnnhomipfjanaaW.PrintMore

/-- The changes that may be, of changes that come one behind the other. -/
def layC : Int → List S78 → List S78
  | _, [] => []
  | last, u :: t => if last < u.f0 ∧ Good u.f1 then u :: layC u.f0 t else layC last t
def msOf (cs : List S78) : List S112 := cs.map fun c => ⟨c.f0, sortE c.f1⟩
def entW (v : Int) (es : List S37) : List S109 := es.map fun e => ⟨v, e.f0, e.f1, e.f2⟩
def wsOf (cs : List S78) : List S109 := cs.flatMap fun c => entW c.f0 c.f1
def lastC (cs : List S78) : Int := match cs.getLast? with | some c => c.f0 | none => 0
def r104 (es : List S37) : List S104 := es.map fun e => ⟨e.f0, e.f1, e.f2⟩

theorem lastC_snoc (cs : List S78) (u : S78) : lastC (cs ++ [u]) = u.f0 := by unfold lastC; simp
theorem lastE_ms (cs : List S78) : lastE (msOf cs) = lastC cs := by
  rcases List.eq_nil_or_concat cs with rfl | ⟨t, u, rfl⟩
  · rfl
  · rw [List.concat_eq_append, lastC_snoc]
    unfold lastE msOf
    rw [if_neg (by simp)]
    simp
theorem rd104_at (l : List S104) (i : Nat) (h : i < l.length) : rd_T104 l (i : Int) = l[i] := by unfold rd_T104; simp [h]

theorem refAdd_loop (v : Int) (es : List S104) (he : es.length ≤ 100000) : ∀ (d j : Nat), es.length - j = d → j ≤ es.length → ∀ x : List S109, x.length + es.length ≤ 1000000 + j → Ev (fun k => rundleref24_Add.l0 k v es x (j : Int)) (x ++ (es.drop j).map fun e => ⟨v, e.f0, e.f1, e.f2⟩)
  | 0, j, hd, hj, x, hx => Ev.step (f := fun _ => some (x ++ (es.drop j).map fun e => ⟨v, e.f0, e.f1, e.f2⟩)) (fun k => by
      simp only [rundleref24_Add.l0]; rw [if_neg (by omega), List.drop_of_length_le (by omega)]; simp) (Ev.now _)
  | d + 1, j, hd, hj, x, hx => by
    have hjl : j < es.length := by omega
    have ih := refAdd_loop v es he d (j + 1) (by omega) (by omega) (x ++ [⟨v, es[j].f0, es[j].f1, es[j].f2⟩]) (by rw [List.length_append, List.length_singleton]; omega)
    refine Ev.step (fun k => ?_) (by rw [List.drop_eq_getElem_cons hjl, List.map_cons]; rw [List.append_assoc] at ih; exact ih)
    simp only [rundleref24_Add.l0]
    rw [if_pos (by omega), if_pos (by omega), if_pos (by omega), rd104_at _ j hjl, wr1 j (by omega)]
theorem refAdd_says (l : List S109) (v : Int) (es : List S37) (he : es.length ≤ 100000) (hl : l.length + es.length ≤ 1000000) : Ev (fun k => rundleref24_Add.f k l v (r104 es)) (l ++ entW v es) := by
  have h := refAdd_loop v (r104 es) (by unfold r104; rw [List.length_map]; exact he) _ 0 rfl (Nat.zero_le _) l (by unfold r104; rw [List.length_map]; omega)
  refine Ev.congr (fun k => ?_) (by rw [List.drop_zero] at h; unfold entW; have e : (r104 es).map (fun e => (⟨v, e.f0, e.f1, e.f2⟩ : S109)) = es.map fun e => ⟨v, e.f0, e.f1, e.f2⟩ := by (unfold r104; rw [List.map_map]; rfl)
                                    rw [e] at h; exact h)
  show rundleref24_Add.f k l v (r104 es) = _
  unfold rundleref24_Add.f
  simp only [Option.bind_some, List.length_nil, List.nil_append]
  rw [if_pos (by omega)]
  rfl

section
variable (x0 : List S78) (i : Nat) (hi : i < x0.length)
/-- Behind the row's own copy: what is told. -/
theorem lay_l1 (x6 : List S109) (x7 : Int) (x11 : Int) (ms nw : List S112) (r : List S112 × List S109 × Bool)
    (next : Ev (fun k => if x0[i].f0 ≤ x7 then rundlelaw24_lay.j2 k x0 x6 x7 (i : Int) x11 10 ms nw else rundlelaw24_lay.j2 k x0 x6 x7 (i : Int) x11 (if Good x0[i].f1 then 0 else 1) ms nw) r) (hg : x0[i].f1.length < 3518437208883) :
    ∀ (d j : Nat) (x9 : List S37), x9.length ≤ 100000 → x9.length - j = d → j ≤ x9.length → Ev (fun k => rundlelaw24_lay.l1 k x0 x6 x7 (i : Int) x9 x11 (j : Int) ms nw) r
  | 0, j, x9, h9, hd, hj => by
    obtain ⟨K, hK⟩ := next
    refine ⟨max K 6000 + 1, fun k hk => ?_⟩
    obtain ⟨k, rfl⟩ : ∃ k', k = k' + 1 := ⟨k - 1, by omega⟩
    have hk2 := hK k (by omega)
    simp only [rundlelaw24_lay.l1]
    rw [if_neg (by omega), if_pos (by omega), if_pos (by omega), rd78_at x0 i hi, check_says _ k (by omega) hg]
    simp only [Option.bind_some]
    rw [← hk2]
    split <;> (congr 1; try (split <;> simp_all))
  | d + 1, j, x9, h9, hd, hj => by
    have ih := lay_l1 x6 x7 x11 ms nw r next hg d (j + 1) (x9.set j z37) (by simpa using h9) (by simp; omega) (by simp; omega)
    refine Ev.step (fun k => ?_) ih
    simp only [rundlelaw24_lay.l1]
    rw [if_pos (by omega), if_pos (by omega), wr1 j (by omega), Int.toNat_natCast]
    rfl
theorem lay_l2 (x6 : List S109) (x7 : Int) (ms : List S112) (r : List S112 × List S109 × Bool) (hs : x0[i].f1.length ≤ 500) (h6 : x6.length ≤ 100000) (h40 : x0.length ≤ 40)
    (next : Ev (fun k => rundlelaw24_lay.l0 k x0 (x6 ++ entW x7 x0[i].f1) x7 ((i + 1 : Nat) : Int) ms) r) :
    ∀ (d j : Nat), x0[i].f1.length - j = d → j ≤ x0[i].f1.length → Ev (fun k => rundlelaw24_lay.l2 k x0 x6 x7 (i : Int) (r104 (x0[i].f1.take j)) (j : Int) ms) r
  | 0, j, hd, hj => by
    have h := refAdd_says x6 x7 x0[i].f1 (by omega) (by omega)
    have e : x0[i].f1.take j = x0[i].f1 := List.take_of_length_le (by omega)
    refine Ev.step (f := fun k => (rundleref24_Add.f k x6 x7 (r104 x0[i].f1)).bind fun t => rundlelaw24_lay.l0 k x0 t x7 ((i + 1 : Nat) : Int) ms) (fun k => ?_) (Ev.bind h next)
    simp only [rundlelaw24_lay.l2]
    rw [if_pos (by omega), if_pos (by omega), rd78_at x0 i hi, if_neg (by omega), e, wr1 i (by omega)]
  | d + 1, j, hd, hj => by
    have hjl : j < x0[i].f1.length := by omega
    have ih := lay_l2 x6 x7 ms r hs h6 h40 next d (j + 1) (by omega) (by omega)
    have e : r104 (x0[i].f1.take (j + 1)) = r104 (x0[i].f1.take j) ++ [⟨x0[i].f1[j].f0, x0[i].f1[j].f1, x0[i].f1[j].f2⟩] := by
      rw [List.take_succ_eq_append_getElem hjl]; unfold r104; rw [List.map_append]; rfl
    rw [e] at ih
    refine Ev.step (fun k => ?_) ih
    simp only [rundlelaw24_lay.l2]
    rw [if_pos (by omega), if_pos (by omega), rd78_at x0 i hi, if_pos (by omega), if_pos (by omega), if_pos (by unfold r104; rw [List.length_map, List.length_take]; omega), rd37_at _ j hjl, wr1 j (by omega)]
end

/-- How much the changes are, at most. -/
def Bnd (cs : List S78) (i : Nat) : Prop := cs.length ≤ i ∧ (wsOf cs).length ≤ 500 * i
theorem Bnd.snoc {cs : List S78} {i : Nat} {u : S78} (h : Bnd cs i) (hu : u.f1.length ≤ 500) : Bnd (cs ++ [u]) (i + 1) := by
  obtain ⟨h1, h2⟩ := h
  refine ⟨by simp; omega, ?_⟩
  unfold wsOf at *
  rw [List.flatMap_append, List.length_append]
  have e : (List.flatMap (fun c : S78 => entW c.f0 c.f1) [u]).length = u.f1.length := by simp [entW]
  omega
theorem Bnd.skip {cs : List S78} {i : Nat} (h : Bnd cs i) : Bnd cs (i + 1) := ⟨by have := h.1; omega, by have := h.2; omega⟩
theorem wsOf_snoc (cs : List S78) (u : S78) : wsOf (cs ++ [u]) = wsOf cs ++ entW u.f0 u.f1 := by unfold wsOf; rw [List.flatMap_append]; simp
theorem msOf_snoc (cs : List S78) (u : S78) : msOf (cs ++ [u]) = msOf cs ++ [⟨u.f0, sortE u.f1⟩] := by unfold msOf; rw [List.map_append]; rfl

theorem lay_out (x0 : List S78) (hS : Small x0) : ∀ (d i : Nat), x0.length - i = d → i ≤ x0.length → ∀ cs : List S78, Bnd cs i →
    Ev (fun k => rundlelaw24_lay.l0 k x0 (wsOf cs) (lastC cs) (i : Int) (msOf cs)) (msOf (cs ++ layC (lastC cs) (x0.drop i)), wsOf (cs ++ layC (lastC cs) (x0.drop i)), true)
  | 0, i, hd, hi, cs, hb => Ev.step (f := fun _ => some (msOf (cs ++ layC (lastC cs) (x0.drop i)), wsOf (cs ++ layC (lastC cs) (x0.drop i)), true)) (fun k => by
      simp only [rundlelaw24_lay.l0]; rw [if_neg (by omega), List.drop_of_length_le (by omega)]; simp [layC]) (Ev.now _)
  | d + 1, i, hd, hi, cs, hb => by
    have hil : i < x0.length := by omega
    have h40 := hS.1
    have hu := hS.2 _ (List.getElem_mem hil)
    have hul := hu.1
    have hbl := hb.1
    have hbw := hb.2
    have hmsl : (msOf cs).length < 1000000000000 := by unfold msOf; rw [List.length_map]; omega
    have hlast := last_says (msOf cs) hmsl
    rw [lastE_ms] at hlast
    rw [List.drop_eq_getElem_cons hil]
    -- the step up to the own row
    have start : ∀ r, Ev (fun k => rundlelaw24_lay.l1 k x0 (wsOf cs) (lastC cs) (i : Int) x0[i].f1 (addE (msOf cs) x0[i].f0 x0[i].f1).2 ((0 : Nat) : Int) (msOf cs) (addE (msOf cs) x0[i].f0 x0[i].f1).1) r →
        Ev (fun k => rundlelaw24_lay.l0 k x0 (wsOf cs) (lastC cs) (i : Int) (msOf cs)) r := fun r h => by
      refine Ev.step (fun k => ?_) h
      simp only [rundlelaw24_lay.l0]
      rw [if_pos (by omega), Option.bind_some, if_pos (by omega), rd78_at x0 i hil, List.length_nil, if_pos (by omega), Option.bind_some, List.nil_append]
      unfold model_Add.f
      rw [if_pos ⟨hmsl, by omega⟩]
      rfl
    refine start _ (lay_l1 x0 i hil _ _ _ _ _ _ ?_ (by omega) _ 0 _ (by omega) rfl (Nat.zero_le _))
    have j3 : ∀ (v : Int) (nw : List S112) (r : List S112 × List S109 × Bool), Ev (fun k => rundlelaw24_lay.j3 k x0 (wsOf cs) (lastC cs) (i : Int) v false (msOf cs) nw) r → Ev (fun k => rundlelaw24_lay.j2 k x0 (wsOf cs) (lastC cs) (i : Int) v v (msOf cs) nw) r := fun v nw r h => by
      refine Ev.step (fun k => ?_) h
      simp only [rundlelaw24_lay.j2]
      rw [if_pos trivial, hlast, Option.bind_some]
      simp
    have refused : ∀ v : Int, v ≠ 0 → Ev (fun k => rundlelaw24_lay.j2 k x0 (wsOf cs) (lastC cs) (i : Int) v v (msOf cs) []) (msOf (cs ++ layC (lastC cs) (x0.drop (i + 1))), wsOf (cs ++ layC (lastC cs) (x0.drop (i + 1))), true) := fun v hv => by
      refine j3 _ _ _ (Ev.step (fun k => ?_) (lay_out x0 hS d (i + 1) (by omega) (by omega) cs hb.skip))
      simp only [rundlelaw24_lay.j3]
      rw [if_neg (by simp), if_neg hv, if_pos (by simp), wr1 i (by omega)]
    unfold addE
    rw [lastE_ms]
    by_cases hv : x0[i].f0 ≤ lastC cs
    · have e : layC (lastC cs) (x0[i] :: x0.drop (i + 1)) = layC (lastC cs) (x0.drop (i + 1)) := by rw [layC, if_neg (fun h => by have := h.1; omega)]
      rw [e, if_pos hv]
      refine Ev.congr (fun k => ?_) (refused 10 (by omega))
      show (if x0[i].f0 ≤ lastC cs then _ else _) = _
      rw [if_pos hv]
    · rw [if_neg hv]
      by_cases hg : Good x0[i].f1
      · have e : layC (lastC cs) (x0[i] :: x0.drop (i + 1)) = x0[i] :: layC x0[i].f0 (x0.drop (i + 1)) := by rw [layC, if_pos ⟨by omega, hg⟩]
        rw [e, if_pos hg]
        have ih := lay_out x0 hS d (i + 1) (by omega) (by omega) (cs ++ [x0[i]]) (hb.snoc hul)
        rw [lastC_snoc, List.append_assoc, List.singleton_append, wsOf_snoc, msOf_snoc] at ih
        have h2 := lay_l2 x0 i hil (wsOf cs) x0[i].f0 _ _ hul (by omega) h40 ih _ 0 rfl (Nat.zero_le _)
        refine Ev.congr (f := fun k => rundlelaw24_lay.j2 k x0 (wsOf cs) (lastC cs) (i : Int) 0 0 (msOf cs) (msOf cs ++ [⟨x0[i].f0, sortE x0[i].f1⟩])) (fun k => ?_) (j3 0 (msOf cs ++ [⟨x0[i].f0, sortE x0[i].f1⟩]) _ (Ev.step (fun k => ?_) h2))
        · show (if x0[i].f0 ≤ lastC cs then _ else _) = _
          rw [if_neg hv, if_pos hg]
        · simp only [rundlelaw24_lay.j3]
          rw [if_neg (by simp), if_pos trivial, if_pos (by omega), if_pos (by omega), rd78_at x0 i hil]
          rfl
      · have e : layC (lastC cs) (x0[i] :: x0.drop (i + 1)) = layC (lastC cs) (x0.drop (i + 1)) := by rw [layC, if_neg (fun h => hg h.2)]
        rw [e, if_neg hg]
        refine Ev.congr (fun k => ?_) (refused 1 (by omega))
        show (if x0[i].f0 ≤ lastC cs then _ else _) = _
        rw [if_neg hv, if_neg hg]

theorem lay_says (x0 : List S78) (hS : Small x0) : Ev (fun k => rundlelaw24_lay.f k x0) (msOf (layC 0 x0), wsOf (layC 0 x0), true) :=
  lay_out x0 hS _ 0 rfl (Nat.zero_le _) [] ⟨Nat.zero_le _, Nat.zero_le _⟩
end Go.Proofs.Ytgnnhomipfjanaa.PM
