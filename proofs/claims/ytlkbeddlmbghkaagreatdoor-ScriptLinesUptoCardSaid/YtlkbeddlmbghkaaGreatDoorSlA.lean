/- The law ScriptLines: its plain parts: words whose other fields are not empty are read as if they were. -/
import Derived.Test.YtlkbeddlmbghkaaGreatDoorRL
import Derived.Test.YtlkbeddlmbghkaaGreatDoorSh1
import Derived.Test.YtlkbeddlmbghkaaGreatDoorPRx0
import Derived.Test.YtlkbeddlmbghkaaGreatDoorRows
import Derived.SizedLaws
import Derived.ChangeSlices
import Derived.Deep.Slices
import Derived.Deep.Fields
import Derived.ChangeSame
import Derived.Lib.SmallJoins
import Derived.OpenShut
import Derived.LaidMore
import Derived.LaidSub
import Derived.FnData
namespace Go.Proofs.YtlkbeddlmbghkaaGreatDoor.PR
open Go Go.Proofs Go.RowKit Go.Proofs.YtlkbeddlmbghkaaGreatDoorW.PrintWords Go.Proofs.YtlkbeddlmbghkaaGreatDoorW.PrintLast Go.Proofs.YtlkbeddlmbghkaaGreatDoorW.PrintMore Go.Proofs.YtlkbeddlmbghkaaGreatDoor.Lx
set_option linter.unusedVariables false
set_option linter.unusedSimpArgs false
set_option maxRecDepth 100000

abbrev SW := S46
def KindOk (x : SW) : Prop := x.f0 = 1 ∨ x.f0 = 2 ∨ x.f0 = 3
def wdOf (x : SW) : Wd := if x.f0 = 1 then .num x.f1 else if x.f0 = 2 then .name x.f2 else .text x.f2
def nm (x : SW) : SW := toW (wdOf x)
theorem nm_f0 {x : SW} (h : KindOk x) : (nm x).f0 = x.f0 := by
 unfold nm wdOf
 rcases h with h | h | h
 ·
  rw [if_pos h, h]; rfl
 ·
  rw [if_neg (by omega), if_pos h, h]; rfl
 ·
  rw [if_neg (by omega), if_neg (by omega), h]; rfl
theorem nm_f1 {x : SW} (h : x.f0 = 1) : (nm x).f1 = x.f1 := by unfold nm wdOf; rw [if_pos h]; rfl
theorem nm_f2 {x : SW} (h : x.f0 = 2 ∨ x.f0 = 3) : (nm x).f2 = x.f2 := by
 unfold nm wdOf
 rcases h with h | h
 ·
  rw [if_neg (by omega), if_pos h]; rfl
 ·
  rw [if_neg (by omega), if_neg (by omega)]; rfl
def AllK (l : List SW) : Prop := ∀ x ∈ l, KindOk x
theorem AllK.tail {a : SW} {t : List SW} (h : AllK (a :: t)) : AllK t := fun x hx => h x (List.mem_cons_of_mem _ hx)
theorem AllK.head {a : SW} {t : List SW} (h : AllK (a :: t)) : KindOk a := h a (by simp)
theorem formR_nm : ∀ (fs : List UInt8) (l : List SW), AllK l → formR fs (l.map nm) = formR fs l
 | [], l, _ => by cases l <;> rfl
 | f :: fs, [], _ => rfl
 | f :: fs, a :: t, h => by
  rw [List.map_cons, formR, formR, formR_nm fs t h.tail, nm_f0 h.head]
theorem entsR_nm : ∀ (n : Nat) (l : List SW), l.length ≤ n → AllK l → entsR (l.map nm) = entsR l
 | _, [], _, _ => rfl
 | _, [a], _, _ => rfl
 | 0, a :: b :: t, h, _ => by simp at h
 | n + 1, a :: b :: t, h, hk => by
  simp only [List.length_cons] at h
  have ih := entsR_nm n t (by omega) hk.tail.tail
  rw [List.map_cons, List.map_cons, entsR, entsR, ih, nm_f0 hk.head, nm_f0 hk.tail.head]
  by_cases h1 : b.f0 = 3
  ·
   rw [if_pos h1, if_pos h1, nm_f2 (.inr h1)]
   by_cases h2 : a.f0 = 3
   ·
    rw [if_pos h2, if_pos h2, nm_f2 (.inr h2)]
   ·
    rw [if_neg h2, if_neg h2]
    by_cases h3 : a.f0 = 2
    ·
     rw [nm_f2 (.inl h3)]
    ·
     rw [if_neg (fun h => h3 h.1), if_neg (fun h => h3 h.1)]
  ·
   rw [if_neg h1, if_neg h1]
theorem spanR_nm (x : S52) (l : List SW) (hk : AllK l) : spanR x (l.map nm) = spanR x l := by
 match l, hk with
 | [], _ => rfl
 | [a], _ => rfl
 | [a, b], _ => rfl
 | [a, b, c], hk =>
  have ha := hk.head
  have hb := hk.tail.head
  have hc := hk.tail.tail.head
  show spanR x [nm a, nm b, nm c] = spanR x [a, b, c]
  unfold spanR
  dsimp only
  rw [nm_f0 ha, nm_f0 hb, nm_f0 hc]
  by_cases h1 : a.f0 = 3 ∧ c.f0 = 1
  ·
   rw [if_pos h1, if_pos h1, nm_f2 (.inr h1.1), nm_f1 h1.2]
   by_cases h2 : b.f0 = 3
   ·
    rw [if_pos h2, if_pos h2, nm_f2 (.inr h2)]
   ·
    rw [if_neg h2, if_neg h2]
    by_cases h3 : b.f0 = 2
    ·
     rw [nm_f2 (.inl h3)]
    ·
     rw [if_neg (fun h => h3 h.1), if_neg (fun h => h3 h.1)]
  ·
   rw [if_neg h1, if_neg h1]
 | a :: b :: c :: d :: t, _ => rfl
theorem form_n {a : SW} {fs : List UInt8} {t : List SW} (h : formR (110 :: fs) (a :: t) = true) : a.f0 = 1 ∧ formR fs t = true := by
 rw [formR, Bool.and_eq_true] at h
 exact ⟨by simpa using h.1, h.2⟩
theorem form_t {a : SW} {fs : List UInt8} {t : List SW} (h : formR (116 :: fs) (a :: t) = true) : a.f0 = 3 ∧ formR fs t = true := by
 rw [formR, Bool.and_eq_true] at h
 exact ⟨by simpa using h.1, h.2⟩
theorem argsR_nm (k : Int) (r : List SW) (hk : AllK r) : argsR k (r.map nm) = argsR k r := by
 have hf := fun fs => formR_nm fs r hk
 by_cases h1 : k = 1
 ·
  subst h1
  unfold argsR
  rw [if_pos rfl, if_pos rfl]
  match r, hk, hf with
  | [], _, _ => rfl
  | [a], hk, hf =>
   have e := hf [116]
   simp only [List.map_cons, List.map_nil] at e ⊢
   rw [e]
   by_cases h : formR [116] [a] = true
   ·
    rw [if_pos h, if_pos h, nm_f2 (.inr (form_t h).1)]
   ·
    rw [if_neg h, if_neg h]
  | a :: b :: t, _, _ => rfl
 by_cases h2 : k = 2
 ·
  subst h2
  unfold argsR
  rw [if_neg h1, if_neg h1, if_pos rfl, if_pos rfl]
  match r, hk, hf with
  | [], _, _ => rfl
  | [a], _, _ => rfl
  | [a, b], _, _ => rfl
  | [a, b, c], _, _ => rfl
  | [a, b, c, d], hk, hf =>
   have e := hf [116, 116, 110, 110]
   simp only [List.map_cons, List.map_nil] at e ⊢
   rw [e]
   by_cases h : formR [116, 116, 110, 110] [a, b, c, d] = true
   ·
    have k1 := form_t h
    have k2 := form_t k1.2
    have k3 := form_n k2.2
    have k4 := form_n k3.2
    rw [if_pos h, if_pos h, nm_f2 (.inr k1.1), nm_f2 (.inr k2.1), nm_f1 k3.1, nm_f1 k4.1]
   ·
    rw [if_neg h, if_neg h]
  | a :: b :: c :: d :: e :: t, _, _ => rfl
 by_cases h3 : k = 3
 ·
  subst h3
  unfold argsR
  rw [if_neg h1, if_neg h1, if_neg h2, if_neg h2, if_pos rfl, if_pos rfl]
  match r, hk, hf with
  | [], _, _ => rfl
  | [a], _, _ => rfl
  | [a, b], _, _ => rfl
  | [a, b, c], hk, hf =>
   have e := hf [116, 110, 110]
   simp only [List.map_cons, List.map_nil] at e ⊢
   rw [e]
   by_cases h : formR [116, 110, 110] [a, b, c] = true
   ·
    have k1 := form_t h
    have k3 := form_n k1.2
    have k4 := form_n k3.2
    rw [if_pos h, if_pos h, nm_f2 (.inr k1.1), nm_f1 k3.1, nm_f1 k4.1]
   ·
    rw [if_neg h, if_neg h]
  | a :: b :: c :: d :: t, _, _ => rfl
 by_cases h4 : k = 4
 ·
  subst h4
  unfold argsR
  rw [if_neg h1, if_neg h1, if_neg h2, if_neg h2, if_neg h3, if_neg h3, if_pos rfl, if_pos rfl]
  match r, hk, hf with
  | [], _, _ => rfl
  | [a], _, _ => rfl
  | a :: b :: t, hk, hf =>
   have e := hf [110, 110]
   simp only [List.map_cons] at e ⊢
   rw [e, entsR_nm t.length t (Nat.le_refl _) hk.tail.tail]
   by_cases h : formR [110, 110] (a :: b :: t) = true
   ·
    have k3 := form_n h
    have k4 := form_n k3.2
    rw [if_pos h, if_pos h, nm_f1 k3.1, nm_f1 k4.1]
   ·
    rw [if_neg h, if_neg h]
 by_cases h5 : k = 5
 ·
  subst h5
  unfold argsR
  rw [if_neg h1, if_neg h1, if_neg h2, if_neg h2, if_neg h3, if_neg h3, if_neg h4, if_neg h4, if_pos rfl, if_pos rfl]
  exact spanR_nm _ r hk
 by_cases h6 : k = 6
 ·
  subst h6
  unfold argsR
  rw [if_neg h1, if_neg h1, if_neg h2, if_neg h2, if_neg h3, if_neg h3, if_neg h4, if_neg h4, if_neg h5, if_neg h5, if_pos rfl, if_pos rfl]
  cases r <;> simp
 by_cases h7 : k = 7
 ·
  subst h7
  unfold argsR
  rw [if_neg h1, if_neg h1, if_neg h2, if_neg h2, if_neg h3, if_neg h3, if_neg h4, if_neg h4, if_neg h5, if_neg h5, if_neg h6, if_neg h6, if_pos rfl, if_pos rfl]
  match r, hk, hf with
  | [], _, _ => rfl
  | [a], _, _ => rfl
  | [a, b], hk, hf =>
   have e := hf [110, 116]
   simp only [List.map_cons, List.map_nil] at e ⊢
   rw [e]
   by_cases h : formR [110, 116] [a, b] = true
   ·
    have k1 := form_n h
    have k3 := form_t k1.2
    rw [if_pos h, if_pos h, nm_f1 k1.1, nm_f2 (.inr k3.1)]
   ·
    rw [if_neg h, if_neg h]
  | a :: b :: c :: t, _, _ => rfl
 by_cases h8 : k = 8
 ·
  subst h8
  unfold argsR
  rw [if_neg h1, if_neg h1, if_neg h2, if_neg h2, if_neg h3, if_neg h3, if_neg h4, if_neg h4, if_neg h5, if_neg h5, if_neg h6, if_neg h6, if_neg h7, if_neg h7, if_pos rfl, if_pos rfl]
  match r, hk, hf with
  | [], _, _ => rfl
  | a :: t, hk, hf =>
   have e := hf [110]
   simp only [List.map_cons] at e ⊢
   rw [e]
   by_cases h : formR [110] (a :: t) = true
   ·
    rw [if_pos h, if_pos h, nm_f1 (form_n h).1]
    exact spanR_nm _ t hk.tail
   ·
    rw [if_neg h, if_neg h]
 by_cases h9 : k = 9
 ·
  subst h9
  unfold argsR
  rw [if_neg h1, if_neg h1, if_neg h2, if_neg h2, if_neg h3, if_neg h3, if_neg h4, if_neg h4, if_neg h5, if_neg h5, if_neg h6, if_neg h6, if_neg h7, if_neg h7, if_neg h8, if_neg h8, if_pos rfl, if_pos rfl]
  match r, hk, hf with
  | [], _, _ => rfl
  | [a], hk, hf =>
   have e := hf [110]
   simp only [List.map_cons, List.map_nil] at e ⊢
   rw [e]
   by_cases h : formR [110] [a] = true
   ·
    rw [if_pos h, if_pos h, nm_f1 (form_n h).1]
   ·
    rw [if_neg h, if_neg h]
  | a :: b :: t, _, _ => rfl
 by_cases h10 : k = 10
 ·
  subst h10
  unfold argsR
  rw [if_neg h1, if_neg h1, if_neg h2, if_neg h2, if_neg h3, if_neg h3, if_neg h4, if_neg h4, if_neg h5, if_neg h5, if_neg h6, if_neg h6, if_neg h7, if_neg h7, if_neg h8, if_neg h8, if_neg h9, if_neg h9, if_pos rfl, if_pos rfl]
  cases r <;> simp
 unfold argsR
 rw [if_neg h1, if_neg h1, if_neg h2, if_neg h2, if_neg h3, if_neg h3, if_neg h4, if_neg h4, if_neg h5, if_neg h5, if_neg h6, if_neg h6, if_neg h7, if_neg h7, if_neg h8, if_neg h8, if_neg h9, if_neg h9, if_neg h10, if_neg h10]
theorem callR_nm (l : List SW) (hk : AllK l) : callR (l.map nm) = callR l := by
 cases l with
 | nil => rfl
 | cons a r =>
  rw [List.map_cons, callR, callR, nm_f0 hk.head]
  by_cases h : a.f0 = 2
  ·
   rw [if_pos h, if_pos h, nm_f2 (.inl h), argsR_nm _ r hk.tail]
  ·
   rw [if_neg h, if_neg h]
end Go.Proofs.YtlkbeddlmbghkaaGreatDoor.PR

namespace Go.Proofs.YtlkbeddlmbghkaaGreatDoor.PR
open Go Go.Proofs Go.RowKit Go.Proofs.YtlkbeddlmbghkaaGreatDoorW.PrintWords Go.Proofs.YtlkbeddlmbghkaaGreatDoorW.PrintLast Go.Proofs.YtlkbeddlmbghkaaGreatDoorW.PrintMore Go.Proofs.YtlkbeddlmbghkaaGreatDoor.Lx
set_option linter.unusedVariables false
set_option linter.unusedSimpArgs false
set_option maxRecDepth 100000

theorem begR_cons (d : Int) (a : SW) (t : List SW) : begR d (a :: t) = (if formR [110] (a :: t) = true then (callR t).map fun x => (⟨d, a.f1, 0, x⟩ : S58) else none) := rfl
theorem stepR_two (a b : SW) : stepR [a, b] = (if formR [110, 110] [a, b] = true ∧ 1 ≤ b.f1 ∧ b.f1 ≤ 100000 then some (⟨3, a.f1, b.f1, zC⟩ : S58) else none) := rfl
theorem begR_nm (d : Int) (r : List SW) (hk : AllK r) : begR d (r.map nm) = begR d r := by
 cases r with
 | nil => rfl
 | cons a t =>
  have e := formR_nm [110] (a :: t) hk
  rw [List.map_cons] at e ⊢
  rw [begR_cons, begR_cons, e, callR_nm t hk.tail]
  by_cases h : formR [110] (a :: t) = true
  ·
   rw [if_pos h, if_pos h, nm_f1 (form_n h).1]
  ·
   rw [if_neg h, if_neg h]
theorem stepR_nm (r : List SW) (hk : AllK r) : stepR (r.map nm) = stepR r := by
 match r, hk with
 | [], _ => rfl
 | [a], _ => rfl
 | [a, b], hk =>
  have e := formR_nm [110, 110] [a, b] hk
  simp only [List.map_cons, List.map_nil] at e ⊢
  rw [stepR_two, stepR_two, e]
  by_cases h : formR [110, 110] [a, b] = true
  ·
   have k3 := form_n h
   have k4 := form_n k3.2
   rw [nm_f1 k3.1, nm_f1 k4.1]
  ·
   rw [if_neg (fun z => h z.1), if_neg (fun z => h z.1)]
 | a :: b :: c :: t, _ => rfl
theorem readR_all (h : SW) (r : List SW) (hm : h.f0 = 2) (h1 : ¬h.f2.toList = [98, 101, 103, 105, 110]) (h2 : ¬h.f2.toList = [114, 117, 110]) (h3 : ¬h.f2.toList = [115, 116, 101, 112]) : readR (h :: r) = if h.f2.toList = [97, 108, 108] then (if r = [] then some (⟨4, 0, 0, zC⟩ : S58) else none) else none := by
 rw [readR_cons, if_neg (by simp [hm]), if_neg h1, if_neg h2, if_neg h3]
theorem readR_kind (h : SW) (r : List SW) (hm : ¬h.f0 = 2) : readR (h :: r) = none := by
 rw [readR_cons, if_pos hm]
theorem readR_nm (l : List SW) (hk : AllK l) : readR (l.map nm) = readR l := by
 cases l with
 | nil => rfl
 | cons h r =>
  rw [List.map_cons]
  by_cases hm : h.f0 = 2
  ·
   have hm' : (nm h).f0 = 2 := by rw [nm_f0 hk.head, hm]
   have hf := nm_f2 (x := h) (.inl hm)
   by_cases h1 : h.f2.toList = [98, 101, 103, 105, 110]
   ·
    rw [readR_begin h r hm h1, readR_begin (nm h) _ hm' (by rw [hf]; exact h1), begR_nm 1 r hk.tail]
   by_cases h2 : h.f2.toList = [114, 117, 110]
   ·
    rw [readR_run h r hm h2, readR_run (nm h) _ hm' (by rw [hf]; exact h2), begR_nm 2 r hk.tail]
   by_cases h3 : h.f2.toList = [115, 116, 101, 112]
   ·
    rw [readR_step h r hm h3, readR_step (nm h) _ hm' (by rw [hf]; exact h3), stepR_nm r hk.tail]
   rw [readR_all h r hm h1 h2 h3, readR_all (nm h) _ hm' (by rw [hf]; exact h1) (by rw [hf]; exact h2) (by rw [hf]; exact h3), hf]
   cases r with
   | nil => rfl
   | cons a t => rw [List.map_cons, if_neg (List.cons_ne_nil (nm a) (t.map nm)), if_neg (List.cons_ne_nil a t)]
  ·
   rw [readR_kind h r hm, readR_kind (nm h) _ (by rw [nm_f0 hk.head]; exact hm)]
theorem nonil_wd (l : List SW) : NoNil (l.map wdOf) := by
 intro b hb
 obtain ⟨x, _, rfl⟩ := List.mem_map.1 hb
 unfold wdOf
 split
 ·
  intro h; cases h
 ·
  split
  ·
   intro h; cases h
  ·
   intro h; cases h
/-- The document's Read of any words is the program's step of what they hold. -/
theorem read_any (l : List SW) (hk : AllK l) : readR l = stepS (l.map wdOf) := by
 rw [← readR_nm l hk, ← read_same _ (nonil_wd l), List.map_map]
 rfl
/-- What the loop over the words makes of them. -/
def bsOf : List SW → List Wd
 | [] => []
 | x :: t => if x.f0 = 1 then .num x.f1 :: bsOf t else if x.f0 = 2 then .name x.f2 :: bsOf t else if x.f0 = 3 then .text x.f2 :: bsOf t else bsOf t
theorem bsOf_append : ∀ (a r : List SW), bsOf (a ++ r) = bsOf a ++ bsOf r
 | [], r => rfl
 | x :: a, r => by
  rw [List.cons_append, bsOf, bsOf, bsOf_append a r]
  repeat' split
  all_goals rfl
theorem bsOf_len : ∀ (l : List SW), (bsOf l).length ≤ l.length ∧ ((bsOf l).length = l.length → AllK l ∧ bsOf l = l.map wdOf)
 | [] => ⟨Nat.le_refl _, fun _ => ⟨fun x hx => (by cases hx), rfl⟩⟩
 | x :: t => by
  obtain ⟨h1, h2⟩ := bsOf_len t
  have key : ∀ b, KindOk x → wdOf x = b → bsOf (x :: t) = b :: bsOf t → (bsOf (x :: t)).length ≤ (x :: t).length ∧ ((bsOf (x :: t)).length = (x :: t).length → AllK (x :: t) ∧ bsOf (x :: t) = (x :: t).map wdOf) := by
   intro b hk hw hb
   rw [hb]
   simp only [List.length_cons]
   refine ⟨by omega, fun he => ?_⟩
   obtain ⟨h3, h4⟩ := h2 (by omega)
   refine ⟨fun y hy => ?_, by rw [List.map_cons, hw, h4]⟩
   rcases List.mem_cons.1 hy with rfl | hy
   ·
    exact hk
   ·
    exact h3 y hy
  by_cases k1 : x.f0 = 1
  ·
   exact key (.num x.f1) (.inl k1) (by unfold wdOf; rw [if_pos k1]) (by rw [bsOf, if_pos k1])
  by_cases k2 : x.f0 = 2
  ·
   exact key (.name x.f2) (.inr (.inl k2)) (by unfold wdOf; rw [if_neg k1, if_pos k2]) (by rw [bsOf, if_neg k1, if_pos k2])
  by_cases k3 : x.f0 = 3
  ·
   exact key (.text x.f2) (.inr (.inr k3)) (by unfold wdOf; rw [if_neg k1, if_neg k2]) (by rw [bsOf, if_neg k1, if_neg k2, if_pos k3])
  ·
   rw [bsOf, if_neg k1, if_neg k2, if_neg k3]
   refine ⟨Nat.le_trans h1 (by rw [List.length_cons]; omega), fun h => ?_⟩
   rw [List.length_cons] at h
   omega
/-- The program's lines of a line of words. -/
theorem sl_lines (ws : List Wd) (toks : List (List UInt8)) (h : showW ws = some toks) (hl : (Lib.join toks [32]).length ≤ 20000) (h0 : 0 < ws.length) :
  ∃ k, lex_Lines.f k ⟨(Lib.join toks [32]).toArray⟩ = some ([(⟨1, ws.map S49.mk⟩ : S39)], 0, 0) := by
 have hsz : (⟨(Lib.join toks [32]).toArray⟩ : ByteArray).size = (Lib.join toks [32]).length := by rw [Lib.size_eq]
 obtain ⟨k, hk⟩ := (lines_ev (⟨(Lib.join toks [32]).toArray⟩ : ByteArray) (by rw [hsz]; omega)).rounds
 refine ⟨k, ?_⟩
 rw [hk]
 have e : (⟨(Lib.join toks [32]).toArray⟩ : ByteArray).data.toList = Lib.join toks [32] := by simp
 rw [e, lines_show ws toks h hl, if_pos h0]
 rfl
theorem sl_parse (ws : List Wd) : parseL [(⟨1, ws.map S49.mk⟩ : S39)] [] = match stepS ws with
  | some x => ([x], 0, 0)
  | none => ([], 1, 7) := by
 have e : (ws.map S49.mk).map (fun b => b.f0) = ws := by rw [List.map_map]; exact List.map_id _
 rw [parseL]
 dsimp only
 rw [e]
 cases stepS ws <;> rfl
end Go.Proofs.YtlkbeddlmbghkaaGreatDoor.PR

namespace Go.Proofs.YtlkbeddlmbghkaaGreatDoor.PR
open Go Go.Proofs Go.RowKit Go.Proofs.YtlkbeddlmbghkaaGreatDoorW.PrintWords Go.Proofs.YtlkbeddlmbghkaaGreatDoorW.PrintLast Go.Proofs.YtlkbeddlmbghkaaGreatDoorW.PrintMore Go.Proofs.YtlkbeddlmbghkaaGreatDoor.Lx
attribute [local go_sem] Wd.one Wd.run_store
set_option linter.unusedVariables false
set_option linter.unusedSimpArgs false
set_option maxRecDepth 100000

set_option maxHeartbeats 8000000 in
theorem slines_long (A : Option Addr) (c : Nat) (l : List S46) (hc : l.length ≤ c) (w : World) (hT : TenAt w) (hk : KAt w) (h3 : 0 < w.heap.size) (hC : Kd.C k46 w A l.length l) (hs : ¬ l.length ≤ 60) :
  Calls Tryz.prog 5 #[.slice A l.length c] w fun e w' => e = .returned (.bool true) ∧ Below w.heap.size w w' := by
 have hu39 := Tryz.underlying39
 have hu58 := Tryz.underlying58
 have hu54 := Tryz.underlying54
 have hu46 := Tryz.underlying46
 have hu49 := Tryz.underlying49
 have hu52 := Tryz.underlying52
 have HK := Aside0.mk hk
 have H3 := Aside0.mk h3
 have HT := Aside0.mk hT
 have HC := Aside0.mk hC
 clear hk h3 hT hC
 go_enter Tryz.func5, Tryz.ntmps5
 have s1 : ((60 : Int) < (l.length : Int)) = True := eq_true (by omega)
 have s2 : decide ((60 : Int) < (l.length : Int)) = true := decide_eq_true (by omega)
 have s3 : (60 < l.length) = True := eq_true (by omega)
 go_wp2_with (fail)
 refine (awake_at w HK.out H3.out).mono ?_
 rintro e w1 ⟨rfl, hb1⟩
 have HB1 := Aside0.mk hb1
 clear hb1
 go_wp2_with (fail)
 refine (awake_at w1 (HK.out.mono H3.out HB1.out) (Nat.lt_of_lt_of_le H3.out HB1.out.size)).mono ?_
 rintro e w2 ⟨rfl, hb2⟩
 go_wp2_with (fail)
 go_ret
 exact ⟨rfl, HB1.out.trans (hb2.mono HB1.out.size)⟩
end Go.Proofs.YtlkbeddlmbghkaaGreatDoor.PR

namespace Go.Proofs.YtlkbeddlmbghkaaGreatDoor.PR
open Go Go.Proofs Go.RowKit Go.ChangeShapes Go.WideShapes Go.Deep Go.Joins Go.Proofs.YtlkbeddlmbghkaaGreatDoorW.PrintWords Go.Proofs.YtlkbeddlmbghkaaGreatDoorW.PrintLast Go.Proofs.YtlkbeddlmbghkaaGreatDoorW.PrintMore
set_option linter.unusedVariables false
set_option linter.unusedSimpArgs false

section
variable {H : Type} {enc : TypeId × Value → H} {P : Program} {W : World} {base : Nat} {spare : Nat → Bool} {held : Bool}

/-- A row of elements, each with its reading. -/
theorem open_recsR {α : Type} [Inhabited α] (d : Kd α) (Pr : α → DataW H → Prop) {t e : TypeId} {a : Option Addr} {len cap : Nat} {dt : DataW H} {ps : List MemPlace}
  (hu : P.underlying t = some (.slice e)) (hC : P.cellsOf e = d.sz)
  (hel : ∀ (n : Nat) (cs : List Value) y, DataW.trod enc P W base spare held n e cs = some y → ∃ x, d.K W x cs ∧ Pr x y.1)
  (h : DataW.Trod enc P W base spare held t (.slice a len cap) dt ps) :
  ∃ xs : List α, xs.length = len ∧ len ≤ cap ∧ cap ≤ maxLen ∧ d.C W a len xs ∧
   (dt = .nil ∧ xs = [] ∨ ∃ el sp, dt = .slice el sp ∧ ∀ x ∈ xs, ∃ y ∈ el, Pr x y) := by
 obtain ⟨fuel, hf⟩ := h
 rcases open_slice hu hf with ⟨hcs, hx⟩ | ⟨x, l, c, m, n, D, Pl, hcs, hb, hl, hm, hmm, hx, hi⟩
 ·
  simp [Value.cells] at hcs
  obtain ⟨rfl, rfl, rfl⟩ := hcs
  exact ⟨[], rfl, Nat.le_refl _, by decide, ⟨rfl, by omega, fun h => absurd h (by omega)⟩, .inl ⟨(Prod.mk.inj hx).1, rfl⟩⟩
 ·
  simp [Value.cells] at hcs
  obtain ⟨rfl, rfl, rfl⟩ := hcs
  obtain ⟨hx, _⟩ := Prod.mk.inj hx
  have hlm : len ≤ m := by rw [hmm]; split <;> omega
  have hall : ∀ i, i < len → ∃ y : α, ∃ cs, cs.length = d.sz ∧ (d.K W y cs ∧ Pr y (D i)) ∧ ∀ j u, cs[j]? = some u → W.cell? (x.add (i * d.sz + j)) = some u := by
   intro i hil
   obtain ⟨cs', hc, ht'⟩ := hi i (by omega)
   rw [hC] at hc
   obtain ⟨_, hcl, hat⟩ := World.cells?_some hc
   obtain ⟨y, hy⟩ := hel n cs' _ ht'
   refine ⟨y, cs', hcl, hy, fun j u hj => ?_⟩
   have hjl : j < d.sz := by rw [← hcl]; exact (List.getElem?_eq_some_iff.1 hj).1
   rw [← Go.Deep.add_add, hat j hjl, hj]
  obtain ⟨f, hf⟩ := choose_lt hall
  refine ⟨(List.range len).map f, by simp, hl, hm, ⟨by simp, by have : maxLen = 9223372036854775807 := rfl; omega, fun _ => ⟨x, rfl, fun j p hj => ?_⟩⟩, .inr ⟨_, _, hx, fun y hy => ?_⟩⟩
  ·
   have hjl : j < len := by have := (List.getElem?_eq_some_iff.1 hj).1; simpa using this
   have : p = f j := by simp [hjl] at hj; exact hj.symm
   subst this
   obtain ⟨cs, h1, h2, h3⟩ := hf j hjl
   exact ⟨cs, h1, h2.1, h3⟩
  ·
   obtain ⟨j, hj, rfl⟩ := List.mem_map.1 hy
   obtain ⟨cs, h1, h2, h3⟩ := hf j (List.mem_range.1 hj)
   exact ⟨D j, List.mem_map.2 ⟨j, hj, rfl⟩, h2.2⟩
end
theorem blk_part {H : Type} {d : DataW H} {l : List (DataW H)} (h : d ∈ l) : Rows.uptoBulk d ≤ Rows.uptoBulkAll l := by
 induction l with
 | nil => cases h
 | cons x r ih =>
  simp only [Rows.uptoBulkAll]
  cases List.mem_cons.1 h with
  | inl e => subst e; omega
  | inr e => have := ih e; omega
def InW {H : Type} (x : S46) (y : DataW H) : Prop := (-9223372036854775808 ≤ x.f1 ∧ x.f1 ≤ 9223372036854775807) ∧ x.f2.size ≤ Rows.uptoBulk y
instance instW : Inhabited S46 := ⟨⟨0, 0, ⟨#[]⟩⟩⟩
theorem open_word {H : Type} {enc : TypeId × Value → H} {P : Program} {W : World} {base : Nat} {spare : Nat → Bool} {held : Bool} {t : TypeId} {f0 f1 f2 : Field}
  (hs : P.underlying t = some (.struct #[f0, f1, f2])) (hone : oneCellFields P #[f0, f1, f2] = true) (hC : P.cellsOf t = 3)
  (h0 : P.underlying f0.type = some (.int .i64)) (h1 : P.underlying f1.type = some (.int .i64)) (h2 : P.underlying f2.type = some .string)
  (n : Nat) (cs : List Value) (y : DataW H × List MemPlace) (h : DataW.trod enc P W base spare held n t cs = some y) :
  ∃ (a b : Int) (c : ByteArray), cs = [.int .i64 a, .int .i64 b, .string c] ∧ (Lit.int .i64 b).wf = true ∧ c.size ≤ Rows.uptoBulk y.1 := by
 obtain ⟨ys, n', hn', hy, hlen, hyl, hf⟩ := DataW.trod_struct hs h
 rw [hC] at hlen
 have one : ∀ (j : Nat) (f : Field), #[f0, f1, f2][j]? = some f → ∀ (hj : j < cs.length), DataW.trod enc P W base spare held n' f.type [cs[j]] = ys[j]? := by
  intro j f hj hjl
  obtain ⟨ho, hk⟩ := hone_of hone j f hj
  have h1 := hf j f hj
  rw [ho, hk, List.drop_eq_getElem_cons hjl] at h1
  exact h1
 match cs, hlen, ys, hyl, hy, one with
 | [c0, c1, c2], _, [y0, y1, y2], _, hy, one =>
  obtain ⟨s0, q0, _, _⟩ := DataW.trod_int h0 (one 0 f0 rfl (Nat.succ_pos 2))
  obtain ⟨s1, q1, _, hw⟩ := DataW.trod_int h1 (one 1 f1 rfl (Nat.succ_lt_succ (Nat.succ_pos 1)))
  obtain ⟨s2, q2, r2, _⟩ := DataW.trod_string h2 (one 2 f2 rfl (Nat.succ_lt_succ (Nat.succ_lt_succ (Nat.succ_pos 0))))
  simp at q0 q1 q2
  subst q0; subst q1; subst q2
  refine ⟨_, _, _, rfl, hw, ?_⟩
  rw [hy]
  subst r2
  simp only [Rows.uptoBulk, Rows.uptoBulkAll, List.map_cons, List.map_nil, Array.length_toList]
  have : s2.size = s2.data.size := rfl
  omega
theorem elW {H : Type} {enc : TypeId × Value → H} {W : World} {base : Nat} {spare : Nat → Bool} {held : Bool} (n : Nat) (cs : List Value) (y : DataW H × List MemPlace) (h : DataW.trod enc Tryz.prog W base spare held n 46 cs = some y) :
  ∃ x, k46.K W x cs ∧ InW x y.1 := by
 obtain ⟨a, b, c, rfl, hw, hs⟩ := open_word Tryz.underlying46 (by kernel_rfl) (by kernel_rfl) (by kernel_rfl) (by kernel_rfl) (by kernel_rfl) n cs y h
 refine ⟨⟨a, b, c⟩, ⟨[.int .i64 a], [.int .i64 b, .string c], rfl, rfl, ⟨[.int .i64 b], [.string c], rfl, rfl, rfl⟩⟩, ?_, hs⟩
 have : IntKind.i64.min ≤ b ∧ b ≤ IntKind.i64.max := by simpa [Lit.wf] using hw
 simpa [IntKind.min, IntKind.max, IntKind.signed, IntKind.bits] using this
/-- What the bound gives of each word. -/
theorem words_bound {H : Type} {dt : DataW H} {xs : List S46} (h : dt = .nil ∧ xs = [] ∨ ∃ el sp, dt = .slice el sp ∧ ∀ x ∈ xs, ∃ y ∈ el, InW x y) (hb : Rows.uptoBulk dt ≤ 1048576) :
  ∀ x ∈ xs, (-9223372036854775808 ≤ x.f1 ∧ x.f1 ≤ 9223372036854775807) ∧ x.f2.size ≤ 1048576 := by
 intro x hx
 rcases h with ⟨_, rfl⟩ | ⟨el, sp, rfl, h⟩
 ·
  cases hx
 ·
  obtain ⟨y, hy, hw, hs⟩ := h x hx
  have h1 := blk_part hy
  simp only [Rows.uptoBulk] at hb
  exact ⟨hw, by omega⟩
end Go.Proofs.YtlkbeddlmbghkaaGreatDoor.PR
