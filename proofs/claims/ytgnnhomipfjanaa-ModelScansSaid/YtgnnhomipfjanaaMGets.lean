/- What a key is at a version, over lists alone: the program's and the document's are one; ModelGets. -/
import Derived.Test.YtgnnhomipfjanaaPMx5
import Derived.Test.YtgnnhomipfjanaaMLay
namespace Go.Proofs.Ytgnnhomipfjanaa.PM
open Go Go.Proofs Go.RowKit Go.Proofs.YtgnnhomipfjanaaW.PrintWords Go.Proofs.YtgnnhomipfjanaaW.PrintLast Go.Proofs.YtgnnhomipfjanaaW.PrintMore

theorem rd109_at (l : List S109) (i : Nat) (h : i < l.length) : rd_T109 l (i : Int) = l[i] := by unfold rd_T109; simp [h]
def refStep (v : Int) (kk : ByteArray) (st : ByteArray × Int) (c : S109) : ByteArray × Int := if c.f0 ≤ v ∧ (c.f1.toList == kk.toList) = true then (if c.f3 = true then (⟨#[]⟩, 0) else (c.f2, 1)) else st
theorem refGet_loop (ws : List S109) (v : Int) (kk : ByteArray) (hl : ws.length ≤ 1000000) : ∀ (d i : Nat), ws.length - i = d → i ≤ ws.length → ∀ st : ByteArray × Int, Ev (fun k => rundleref19_Get.l0 k ws v kk st.1 st.2 (i : Int)) ((ws.drop i).foldl (refStep v kk) st)
  | 0, i, hd, hi, st => Ev.step (f := fun _ => some ((ws.drop i).foldl (refStep v kk) st)) (fun k => by
      simp only [rundleref19_Get.l0]; rw [if_neg (by omega), List.drop_of_length_le (by omega)]; rfl) (Ev.now _)
  | d + 1, i, hd, hi, st => by
    have hil : i < ws.length := by omega
    have ih := refGet_loop ws v kk hl d (i + 1) (by omega) (by omega) (refStep v kk st ws[i])
    rw [List.drop_eq_getElem_cons hil, List.foldl_cons]
    have j1 : ∀ b : Bool, (b = true ↔ ws[i].f0 ≤ v ∧ (ws[i].f1.toList == kk.toList) = true) → Ev (fun k => rundleref19_Get.j1 k ws v kk st.1 st.2 (i : Int) b) ((ws.drop (i + 1)).foldl (refStep v kk) (refStep v kk st ws[i])) := fun b hb => by
      refine Ev.step (fun k => ?_) ih
      simp only [rundleref19_Get.j1]
      by_cases hbt : b = true
      · have hh := hb.1 hbt
        rw [if_pos hbt, if_pos (by omega), if_pos (by omega), rd109_at ws i hil, wr1 i (by omega)]
        unfold refStep
        rw [if_pos hh]
        by_cases hg : ws[i].f3 = true
        · rw [if_pos hg, if_pos hg]
        · rw [if_neg hg, if_neg hg]
      · rw [if_neg hbt, wr1 i (by omega)]
        unfold refStep
        rw [if_neg (fun h => hbt (hb.2 h))]
    by_cases hv : ws[i].f0 ≤ v
    · refine Ev.step (fun k => ?_) (j1 (ws[i].f1.toList == kk.toList) ⟨fun h => ⟨hv, h⟩, fun h => h.2⟩)
      simp only [rundleref19_Get.l0]
      rw [if_pos (by omega), if_pos (by omega), rd109_at ws i hil, if_pos hv]
    · refine Ev.step (fun k => ?_) (j1 false ⟨(fun h => by cases h), fun h => absurd h.1 hv⟩)
      simp only [rundleref19_Get.l0]
      rw [if_pos (by omega), if_pos (by omega), rd109_at ws i hil, if_neg hv]
def refGetE (ws : List S109) (v : Int) (kk : ByteArray) : ByteArray × Int := ws.foldl (refStep v kk) (⟨#[]⟩, 0)
theorem refGet_says (ws : List S109) (v : Int) (kk : ByteArray) (hl : ws.length ≤ 1000000) : Ev (fun k => rundleref19_Get.f k ws v kk) (refGetE ws v kk) := refGet_loop ws v kk hl _ 0 rfl (Nat.zero_le _) (⟨#[]⟩, 0)

/-- What an entry says of a key's value. -/
def valE (e : S37) : ByteArray × Int := if e.f2 = true then (⟨#[]⟩, 0) else (e.f1, 1)
def hitC (v : Int) (kk : ByteArray) (c : S78) : Option S37 := if v < c.f0 then none else lookE c.f1 kk
theorem ref_ent (v : Int) (kk : ByteArray) (cv : Int) : ∀ (es : List S37), Lone es → ∀ st, (entW cv es).foldl (refStep v kk) st = match (if v < cv then none else lookE es kk) with | some e => valE e | none => st
  | [], _, st => by unfold entW lookE; split <;> simp_all
  | x :: t, hl, st => by
    have hl' : Lone t := (List.pairwise_cons.1 hl).2
    have hx := (List.pairwise_cons.1 hl).1
    show (entW cv t).foldl (refStep v kk) (refStep v kk st ⟨cv, x.f0, x.f1, x.f2⟩) = _
    rw [ref_ent v kk cv t hl']
    by_cases hv : v < cv
    · rw [if_pos hv, if_pos hv]
      show refStep v kk st ⟨cv, x.f0, x.f1, x.f2⟩ = st
      unfold refStep
      rw [if_neg (fun h => by have : cv ≤ v := h.1; omega)]
    · rw [if_neg hv, if_neg hv]
      by_cases hk : (x.f0.toList == kk.toList) = true
      · have e1 : lookE (x :: t) kk = some x := by unfold lookE; simp only [List.find?_cons, hk]
        have e2 : lookE t kk = none := by
          unfold lookE
          rw [List.find?_eq_none]
          intro y hy hyk
          exact hx y hy (toList_inj ((beq_iff_eq.1 hk).trans (beq_iff_eq.1 hyk).symm))
        rw [e1, e2]
        show refStep v kk st ⟨cv, x.f0, x.f1, x.f2⟩ = valE x
        unfold refStep valE
        rw [if_pos ⟨by show cv ≤ v; omega, hk⟩]
      · have e1 : lookE (x :: t) kk = lookE t kk := by unfold lookE; simp only [List.find?_cons, Bool.eq_false_iff.2 hk]
        have e2 : refStep v kk st ⟨cv, x.f0, x.f1, x.f2⟩ = st := by unfold refStep; rw [if_neg (fun h => hk h.2)]
        rw [e1, e2]
theorem ref_all (v : Int) (kk : ByteArray) : ∀ (cs : List S78), (∀ c ∈ cs, Lone c.f1) → refGetE (wsOf cs) v kk = match cs.reverse.findSome? (hitC v kk) with | some e => valE e | none => (⟨#[]⟩, 0) := by
  intro cs
  suffices h : ∀ n (cs : List S78), cs.length = n → (∀ c ∈ cs, Lone c.f1) → refGetE (wsOf cs) v kk = match cs.reverse.findSome? (hitC v kk) with | some e => valE e | none => (⟨#[]⟩, 0) from h _ cs rfl
  intro n
  induction n with
  | zero => intro cs hn _; rw [List.length_eq_zero_iff.1 hn]; rfl
  | succ n ih =>
    intro cs hn hl
    rcases List.eq_nil_or_concat cs with rfl | ⟨t, u, rfl⟩
    · simp at hn
    · rw [List.concat_eq_append] at hl hn ⊢
      rw [wsOf_snoc]
      unfold refGetE at *
      rw [List.foldl_append, ref_ent v kk u.f0 u.f1 (hl u (by simp)), List.reverse_append, List.reverse_singleton, List.singleton_append, List.findSome?_cons]
      have e := ih t (by simpa using hn) (fun c hc => hl c (by simp [hc]))
      show (match hitC v kk u with | some e => valE e | none => _) = _
      cases hitC v kk u with
      | some e => rfl
      | none => exact e

theorem find_filter {α : Type} (p : α → Bool) (l : List α) : l.find? p = (l.filter p).head? := by
  induction l with
  | nil => rfl
  | cons x t ih =>
    by_cases h : p x = true
    · rw [List.find?_cons_of_pos h, List.filter_cons_of_pos h]; rfl
    · rw [List.find?_cons_of_neg h, List.filter_cons_of_neg h, ih]
theorem look_sort (l : List S37) (kk : ByteArray) : lookE (sortE l) kk = lookE l kk := by
  have h : ∀ m : List S37, lookE m kk = (m.filter (Srt.eqv ltE ⟨kk, kk, false⟩)).head? := fun m => by
    unfold lookE
    rw [find_filter]
    congr 1
    refine List.filter_congr fun x _ => ?_
    rw [Bool.eq_iff_iff, beq_iff_eq, eqvE_iff]
    exact ⟨fun e => (toList_inj e).symm, fun e => by rw [← e]⟩
  rw [h, h, sortE_same l]
theorem hit_ms (v : Int) (kk : ByteArray) (c : S78) : hitE v kk ⟨c.f0, sortE c.f1⟩ = hitC v kk c := by
  unfold hitE hitC
  rw [look_sort]
theorem entry_ms (cs : List S78) (v : Int) (kk : ByteArray) : entryE (msOf cs) v kk = cs.reverse.findSome? (hitC v kk) := by
  unfold entryE msOf
  rw [← List.map_reverse, List.findSome?_map]
  congr 1
  funext c
  exact hit_ms v kk c

theorem layC_good : ∀ (l : List S78) (last : Int), ∀ c ∈ layC last l, Good c.f1 ∧ c ∈ l
  | [], _ => by simp [layC]
  | u :: t, last => by
    intro c hc
    rw [layC] at hc
    by_cases h : last < u.f0 ∧ Good u.f1
    · rw [if_pos h] at hc
      rcases List.mem_cons.1 hc with rfl | hc
      · exact ⟨h.2, by simp⟩
      · have := layC_good t u.f0 c hc; exact ⟨this.1, by simp [this.2]⟩
    · rw [if_neg h] at hc
      have := layC_good t last c hc; exact ⟨this.1, by simp [this.2]⟩
theorem layC_length (l : List S78) (last : Int) : (layC last l).length ≤ l.length := by
  induction l generalizing last with
  | nil => simp [layC]
  | cons u t ih =>
    rw [layC]
    split
    · have := ih u.f0; simp; omega
    · have := ih last; simp; omega
theorem ws_length (cs : List S78) (h : ∀ c ∈ cs, c.f1.length ≤ 500) : (wsOf cs).length ≤ 500 * cs.length := by
  induction cs with
  | nil => simp [wsOf]
  | cons u t ih =>
    have := ih (fun c hc => h c (by simp [hc]))
    have hu := h u (by simp)
    have e : (wsOf (u :: t)).length = u.f1.length + (wsOf t).length := by unfold wsOf entW; simp
    rw [e, List.length_cons]; omega
theorem small_ws {l : List S78} (hS : Small l) : (wsOf (layC 0 l)).length ≤ 20000 ∧ (msOf (layC 0 l)).length ≤ 40 := by
  have h1 := layC_length l 0
  have h2 := ws_length (layC 0 l) (fun c hc => (hS.2 c (layC_good l 0 c hc).2).1)
  have h3 := hS.1
  refine ⟨by omega, ?_⟩
  unfold msOf; rw [List.length_map]; omega

def getE (ms : List S112) (v : Int) (kk : ByteArray) : ByteArray × Bool := match entryE ms v kk with | some e => if e.f2 = true then (⟨#[]⟩, false) else (e.f1, true) | none => (⟨#[]⟩, false)
theorem get_says (ms : List S112) (v : Int) (kk : ByteArray) (h : ms.length < 1000000000000) : model_Get.f ms v kk = some (getE ms v kk) := by
  unfold model_Get.f model_entry.f getE
  rw [if_pos h, Option.bind_some]
  cases entryE ms v kk with
  | none => rfl
  | some e =>
    unfold entryR
    cases he : e.f2 <;> simp [he]
theorem get_ref (cs : List S78) (h : ∀ c ∈ cs, Lone c.f1) (v : Int) (kk : ByteArray) : (getE (msOf cs) v kk).1 = (refGetE (wsOf cs) v kk).1 ∧ (getE (msOf cs) v kk).2 = ((refGetE (wsOf cs) v kk).2 == 1) := by
  rw [ref_all v kk cs h]
  unfold getE
  rw [entry_ms]
  cases cs.reverse.findSome? (hitC v kk) with
  | none => exact ⟨rfl, rfl⟩
  | some e =>
    show _ = (valE e).1 ∧ _ = ((valE e).2 == 1)
    unfold valE
    cases he : e.f2 <;> simp [he]

set_option maxRecDepth 10000 in
theorem awake_says : rundlelaw24_awake.f = some true := by decide +kernel

theorem gets_j0 (l : List S78) (v : Int) (kk : ByteArray) (b : Bool) (h : b = false → Small l) : Ev (fun k => rundlelaw24_ModelGets.j0 k l v kk b) true := by
  cases hb : b with
  | true =>
    refine Ev.step (f := fun _ => some true) (fun k => ?_) (Ev.now _)
    simp only [rundlelaw24_ModelGets.j0]
    rw [if_pos trivial, awake_says]; rfl
  | false =>
    have hS := h hb
    have hw := small_ws hS
    have hg := get_ref (layC 0 l) (fun c hc => (layC_good l 0 c hc).1.2.2.2) v kk
    refine Ev.step (fun k => ?_) (Ev.bind (lay_says l hS) (f := fun k bt => (model_Get.f bt.1 v kk).bind fun g => (rundleref19_Get.f k bt.2.1 v kk).bind fun r => (if bt.2.2 = true then (if g.1.toList = r.1.toList then (some (g.2 == (r.2 == 1))) else (some false)) else (some false))) ?_)
    · simp only [rundlelaw24_ModelGets.j0]
      rw [if_neg (by simp)]
    · refine Ev.congr (f := fun k => (rundleref19_Get.f k (wsOf (layC 0 l)) v kk).bind fun r => some true) (fun k => ?_) (Ev.bind (refGet_says _ v kk (by omega)) (Ev.now _))
      show ((model_Get.f (msOf (layC 0 l)) v kk).bind _) = _
      rw [get_says _ v kk (by omega), Option.bind_some]
      cases hr : rundleref19_Get.f k (wsOf (layC 0 l)) v kk with
      | none => rfl
      | some r =>
        have e := refGet_says (wsOf (layC 0 l)) v kk (by omega)
        obtain ⟨K, hK⟩ := e
        have e2 := at_rounds (g := fun k => rundleref19_Get.f k (wsOf (layC 0 l)) v kk) (fun k => rundleref19_Get.mono _ _ _ k) (Nat.le_max_left k K) hr
        have e3 := hK (max k K) (Nat.le_max_right _ _)
        have e4 : r = refGetE (wsOf (layC 0 l)) v kk := Option.some.inj (e2.symm.trans e3)
        rw [Option.bind_some, Option.bind_some, if_pos rfl, e4, if_pos (by rw [hg.1]), hg.2]
        simp
theorem ModelGets_pure (l : List S78) (v : Int) (kk : ByteArray) : ∃ k, rundlelaw24_ModelGets.f k l v kk = some true := by
  obtain ⟨b, hb, hs⟩ := long_says l
  refine Ev.rounds (g := fun k => rundlelaw24_ModelGets.f k l v kk) (Ev.congr (f := fun k => (rundlelaw24_long.f k l).bind fun t => rundlelaw24_ModelGets.j0 k l v kk t) (fun k => ?_) (Ev.bind hb (gets_j0 l v kk b hs)))
  show rundlelaw24_ModelGets.f k l v kk = _
  unfold rundlelaw24_ModelGets.f
  rw [awake_says, Option.bind_some, if_pos rfl]
end Go.Proofs.Ytgnnhomipfjanaa.PM
