/- The words of a line read by the document's forms are read as by the program's reader. -/
import Derived.Test.YtlkbeddlmbghkaaGreatDoorRCs
import Derived.Test.YtlkbeddlmbghkaaGreatDoorScT
namespace Go.Proofs.YtlkbeddlmbghkaaGreatDoor.PR
open Go Go.Proofs Go.RowKit Go.Proofs.YtlkbeddlmbghkaaGreatDoorW.PrintWords Go.Proofs.YtlkbeddlmbghkaaGreatDoorW.PrintLast Go.Proofs.YtlkbeddlmbghkaaGreatDoorW.PrintMore
set_option linter.unusedVariables false
set_option linter.unusedSimpArgs false

def NoNil (ws : List Wd) : Prop := ∀ b ∈ ws, b ≠ Wd.nil
theorem NoNil.tail {b : Wd} {ws : List Wd} (h : NoNil (b :: ws)) : NoNil ws := fun c hc => h c (List.mem_cons_of_mem _ hc)
theorem zC_eq : zC = z52 := rfl
/-- What is left over spoils a call. -/
def whole (o : Option (S52 × List Wd)) : Option S52 := o.bind fun y => if y.2 = [] then some y.1 else none

theorem ents_same : ∀ (n : Nat) (ws : List Wd), ws.length ≤ n → NoNil ws → entsR (ws.map toW) = entsS ws
 | _, [], _, _ => rfl
 | _, [b], _, h => by cases b <;> rfl
 | 0, _ :: _ :: _, hn, _ => by simp at hn
 | n + 1, a :: b :: t, hn, h => by
  have ih := ents_same n t (by simp at hn; omega) h.tail.tail
  have ha := h a (by simp)
  have hb := h b (by simp)
  cases b with
  | nil => exact absurd rfl hb
  | num m => cases a <;> simp [entsR, entsS, toW]
  | name s => cases a <;> simp [entsR, entsS, toW]
  | text s =>
   cases a with
   | nil => exact absurd rfl ha
   | num m => simp [entsR, entsS, toW]
   | text q => simp [entsR, entsS, toW, ih]
   | name q =>
    simp only [entsR, entsS, toW, List.map_cons]
    rw [ih]
    simp
theorem span_same (x : S52) (ws : List Wd) (h : NoNil ws) :
  spanR x (ws.map toW) = whole ((spanS x ws).bind fun y => (nu y.2).bind fun n => some ({ y.1 with f7 := n.1 }, n.2)) := by
 match ws, h with
 | [], _ => rfl
 | [a], _ => cases a <;> rfl
 | [a, b], h =>
  have ha := h a (by simp)
  have hb := h b (by simp)
  cases a <;> cases b <;> first | rfl | exact absurd rfl (by assumption) | (simp [spanR, spanS, toW, whole, nu]; try (split <;> simp_all [nu]))
 | [a, b, c], h =>
  have ha := h a (by simp)
  have hb := h b (by simp)
  have hc := h c (by simp)
  cases a <;> cases b <;> cases c <;> first | rfl | exact absurd rfl (by assumption) | (simp [spanR, spanS, toW, whole, nu]; try (split <;> simp_all [nu]))
 | a :: b :: c :: d :: t, h =>
  have ha := h a (by simp)
  have hb := h b (by simp)
  have hc := h c (by simp)
  cases a <;> cases b <;> cases c <;> first | rfl | exact absurd rfl (by assumption) | (simp [spanR, spanS, toW, whole, nu]; try (split <;> simp_all [nu]))
theorem args1_same (ws : List Wd) (h : NoNil ws) : argsR 1 (ws.map toW) = whole (getS ws) := by
 match ws, h with
 | [], _ => rfl
 | [a], h =>
  have ha := h a (by simp)
  cases a <;> first | rfl | exact absurd rfl (by assumption) | simp [argsR, callK, getS, putS, removeS, batchS, scanS, openS, snapgetS, snapscanS, closeS, collectS, tx, nu, whole, toW, formR, spanR, spanS, zC, z52]
 | a :: b :: t, h =>
  have ha := h a (by simp)
  cases a <;> first | rfl | exact absurd rfl (by assumption) | simp [argsR, callK, getS, putS, removeS, batchS, scanS, openS, snapgetS, snapscanS, closeS, collectS, tx, nu, whole, toW, formR, spanR, spanS, zC, z52]
theorem args2_same (ws : List Wd) (h : NoNil ws) : argsR 2 (ws.map toW) = whole (putS ws) := by
 match ws, h with
 | [], _ => rfl
 | [a], h =>
  have ha := h a (by simp)
  cases a <;> first | rfl | exact absurd rfl (by assumption) | simp [argsR, callK, getS, putS, removeS, batchS, scanS, openS, snapgetS, snapscanS, closeS, collectS, tx, nu, whole, toW, formR, spanR, spanS, zC, z52]
 | [a, b], h =>
  have ha := h a (by simp)
  have hb := h b (by simp)
  cases a <;> cases b <;> first | rfl | exact absurd rfl (by assumption) | simp [argsR, callK, getS, putS, removeS, batchS, scanS, openS, snapgetS, snapscanS, closeS, collectS, tx, nu, whole, toW, formR, spanR, spanS, zC, z52]
 | [a, b, c], h =>
  have ha := h a (by simp)
  have hb := h b (by simp)
  have hc := h c (by simp)
  cases a <;> cases b <;> cases c <;> first | rfl | exact absurd rfl (by assumption) | simp [argsR, callK, getS, putS, removeS, batchS, scanS, openS, snapgetS, snapscanS, closeS, collectS, tx, nu, whole, toW, formR, spanR, spanS, zC, z52]
 | [a, b, c, d], h =>
  have ha := h a (by simp)
  have hb := h b (by simp)
  have hc := h c (by simp)
  have hd := h d (by simp)
  cases a <;> cases b <;> cases c <;> cases d <;> first | rfl | exact absurd rfl (by assumption) | simp [argsR, callK, getS, putS, removeS, batchS, scanS, openS, snapgetS, snapscanS, closeS, collectS, tx, nu, whole, toW, formR, spanR, spanS, zC, z52]
 | a :: b :: c :: d :: e :: t, h =>
  have ha := h a (by simp)
  have hb := h b (by simp)
  have hc := h c (by simp)
  have hd := h d (by simp)
  cases a <;> cases b <;> cases c <;> cases d <;> first | rfl | exact absurd rfl (by assumption) | simp [argsR, callK, getS, putS, removeS, batchS, scanS, openS, snapgetS, snapscanS, closeS, collectS, tx, nu, whole, toW, formR, spanR, spanS, zC, z52]
theorem args3_same (ws : List Wd) (h : NoNil ws) : argsR 3 (ws.map toW) = whole (removeS ws) := by
 match ws, h with
 | [], _ => rfl
 | [a], h =>
  have ha := h a (by simp)
  cases a <;> first | rfl | exact absurd rfl (by assumption) | simp [argsR, callK, getS, putS, removeS, batchS, scanS, openS, snapgetS, snapscanS, closeS, collectS, tx, nu, whole, toW, formR, spanR, spanS, zC, z52]
 | [a, b], h =>
  have ha := h a (by simp)
  have hb := h b (by simp)
  cases a <;> cases b <;> first | rfl | exact absurd rfl (by assumption) | simp [argsR, callK, getS, putS, removeS, batchS, scanS, openS, snapgetS, snapscanS, closeS, collectS, tx, nu, whole, toW, formR, spanR, spanS, zC, z52]
 | [a, b, c], h =>
  have ha := h a (by simp)
  have hb := h b (by simp)
  have hc := h c (by simp)
  cases a <;> cases b <;> cases c <;> first | rfl | exact absurd rfl (by assumption) | simp [argsR, callK, getS, putS, removeS, batchS, scanS, openS, snapgetS, snapscanS, closeS, collectS, tx, nu, whole, toW, formR, spanR, spanS, zC, z52]
 | a :: b :: c :: d :: t, h =>
  have ha := h a (by simp)
  have hb := h b (by simp)
  have hc := h c (by simp)
  cases a <;> cases b <;> cases c <;> first | rfl | exact absurd rfl (by assumption) | simp [argsR, callK, getS, putS, removeS, batchS, scanS, openS, snapgetS, snapscanS, closeS, collectS, tx, nu, whole, toW, formR, spanR, spanS, zC, z52]
theorem args6_same (ws : List Wd) (h : NoNil ws) : argsR 6 (ws.map toW) = whole (openS ws) := by
 match ws, h with
 | [], _ => rfl
 | a :: t, h =>
  first | rfl | exact absurd rfl (by assumption) | simp [argsR, callK, getS, putS, removeS, batchS, scanS, openS, snapgetS, snapscanS, closeS, collectS, tx, nu, whole, toW, formR, spanR, spanS, zC, z52]
theorem args7_same (ws : List Wd) (h : NoNil ws) : argsR 7 (ws.map toW) = whole (snapgetS ws) := by
 match ws, h with
 | [], _ => rfl
 | [a], h =>
  have ha := h a (by simp)
  cases a <;> first | rfl | exact absurd rfl (by assumption) | simp [argsR, callK, getS, putS, removeS, batchS, scanS, openS, snapgetS, snapscanS, closeS, collectS, tx, nu, whole, toW, formR, spanR, spanS, zC, z52]
 | [a, b], h =>
  have ha := h a (by simp)
  have hb := h b (by simp)
  cases a <;> cases b <;> first | rfl | exact absurd rfl (by assumption) | simp [argsR, callK, getS, putS, removeS, batchS, scanS, openS, snapgetS, snapscanS, closeS, collectS, tx, nu, whole, toW, formR, spanR, spanS, zC, z52]
 | a :: b :: c :: t, h =>
  have ha := h a (by simp)
  have hb := h b (by simp)
  cases a <;> cases b <;> first | rfl | exact absurd rfl (by assumption) | simp [argsR, callK, getS, putS, removeS, batchS, scanS, openS, snapgetS, snapscanS, closeS, collectS, tx, nu, whole, toW, formR, spanR, spanS, zC, z52]
theorem args9_same (ws : List Wd) (h : NoNil ws) : argsR 9 (ws.map toW) = whole (closeS ws) := by
 match ws, h with
 | [], _ => rfl
 | [a], h =>
  have ha := h a (by simp)
  cases a <;> first | rfl | exact absurd rfl (by assumption) | simp [argsR, callK, getS, putS, removeS, batchS, scanS, openS, snapgetS, snapscanS, closeS, collectS, tx, nu, whole, toW, formR, spanR, spanS, zC, z52]
 | a :: b :: t, h =>
  have ha := h a (by simp)
  cases a <;> first | rfl | exact absurd rfl (by assumption) | simp [argsR, callK, getS, putS, removeS, batchS, scanS, openS, snapgetS, snapscanS, closeS, collectS, tx, nu, whole, toW, formR, spanR, spanS, zC, z52]
theorem args10_same (ws : List Wd) (h : NoNil ws) : argsR 10 (ws.map toW) = whole (collectS ws) := by
 match ws, h with
 | [], _ => rfl
 | a :: t, h =>
  first | rfl | exact absurd rfl (by assumption) | simp [argsR, callK, getS, putS, removeS, batchS, scanS, openS, snapgetS, snapscanS, closeS, collectS, tx, nu, whole, toW, formR, spanR, spanS, zC, z52]
theorem args4_same (ws : List Wd) (h : NoNil ws) : argsR 4 (ws.map toW) = whole (batchS ws) := by
 match ws, h with
 | [], _ => rfl
 | [a], _ => cases a <;> rfl
 | a :: b :: t, h =>
  have ha := h a (by simp)
  have hb := h b (by simp)
  have he := ents_same t.length t (Nat.le_refl _) h.tail.tail
  cases a <;> cases b <;> first | rfl | exact absurd rfl (by assumption) | skip
  all_goals
   simp only [argsR, batchS, nu, whole, toW, formR, List.map_cons, he, Option.bind_some]
   cases entsS t <;> simp [zC, z52]
theorem args_same (k : Int) (ws : List Wd) (h : NoNil ws) : argsR k (ws.map toW) = whole (callK k ws) := by
 by_cases h1 : k = 1
 ·
  subst h1; exact args1_same ws h
 by_cases h2 : k = 2
 ·
  subst h2; exact args2_same ws h
 by_cases h3 : k = 3
 ·
  subst h3; exact args3_same ws h
 by_cases h4 : k = 4
 ·
  subst h4; exact args4_same ws h
 by_cases h5 : k = 5
 ·
  subst h5; exact span_same { zC with f0 := 5 } ws h
 by_cases h6 : k = 6
 ·
  subst h6; exact args6_same ws h
 by_cases h7 : k = 7
 ·
  subst h7; exact args7_same ws h
 by_cases h8 : k = 8
 ·
  subst h8
  cases ws with
  | nil => rfl
  | cons a t =>
   have ha := h a (by simp)
   cases a with
   | nil => exact absurd rfl ha
   | text s => rfl
   | name s => rfl
   | num n => exact span_same { zC with f0 := 8, f8 := n } t h.tail
 by_cases h9 : k = 9
 ·
  subst h9; exact args9_same ws h
 by_cases h10 : k = 10
 ·
  subst h10; exact args10_same ws h
 unfold argsR callK
 simp only [h1, h2, h3, h4, h5, h6, h7, h8, h9, h10, if_false]
 rfl
theorem call_same (ws : List Wd) (h : NoNil ws) : callR (ws.map toW) = whole (callS ws) := by
 cases ws with
 | nil => rfl
 | cons b r =>
  have hb := h b (by simp)
  cases b with
  | nil => exact absurd rfl hb
  | num n => rfl
  | text s => rfl
  | name s =>
   show (if (2 : Int) = 2 then argsR (kindS s) (r.map toW) else none) = whole (callK (kindS s) r)
   rw [if_pos rfl, args_same _ _ h.tail]
theorem step_call (d : Int) (hd : d = 1 ∨ d = 2) (r : List Wd) (h : NoNil r) :
  (match r.map toW with | a :: t => if formR [110] (r.map toW) = true then (callR t).map fun x => (⟨d, a.f1, 0, x⟩ : S58) else none | [] => none) =
  (((nu r).bind fun c => (callS c.2).bind fun y => some ((⟨d, c.1, 0, y.1⟩ : S58), y.2)).bind fun y => if y.2 = [] ∧ ¬ (y.1.f0 = 3 ∧ (y.1.f2 < 1 ∨ 100000 < y.1.f2)) then some y.1 else none) := by
 cases r with
 | nil => rfl
 | cons a t =>
  have ha := h a (by simp)
  cases a with
  | nil => exact absurd rfl ha
  | text s => rfl
  | name s => rfl
  | num n =>
   have hc := call_same t h.tail
   simp only [List.map_cons, nu, Option.bind_some]
   rw [if_pos (show formR [110] (toW (Wd.num n) :: t.map toW) = true from rfl), hc]
   cases hs : callS t with
   | none => rfl
   | some y =>
    have hd3 : ¬ (d = 3) := by omega
    by_cases hy : y.2 = []
    ·
     simp [whole, hy, hd3, toW]
    ·
     simp [whole, hy, hd3, toW]
theorem read_same (ws : List Wd) (h : NoNil ws) : readR (ws.map toW) = stepS ws := by
 cases ws with
 | nil => rfl
 | cons b r =>
  have hb := h b (by simp)
  cases b with
  | nil => exact absurd rfl hb
  | num n => rfl
  | text s => rfl
  | name s =>
   have hr := h.tail
   unfold stepS stepH
   simp only [List.map_cons, readR, toW]
   rw [if_neg (by simp)]
   by_cases h1 : s.toList = [98, 101, 103, 105, 110]
   ·
    rw [if_pos h1, if_pos h1]
    exact step_call 1 (.inl rfl) r hr
   rw [if_neg h1, if_neg h1]
   by_cases h2 : s.toList = [114, 117, 110]
   ·
    rw [if_pos h2, if_pos h2]
    exact step_call 2 (.inr rfl) r hr
   rw [if_neg h2, if_neg h2]
   by_cases h3 : s.toList = [115, 116, 101, 112]
   ·
    rw [if_pos h3, if_pos h3]
    match r, hr with
    | [], _ => rfl
    | [a], hr => cases a <;> rfl
    | [a, c], hr =>
     have ha := hr a (by simp)
     have hc := hr c (by simp)
     cases a <;> cases c <;> first | rfl | exact absurd rfl (by assumption) | skip
     rename_i m n
     simp only [List.map_cons, List.map_nil, toW, nu, Option.bind_some]
     by_cases hn : 1 ≤ n ∧ n ≤ 100000
     ·
      rw [if_pos ⟨rfl, hn⟩, if_pos ⟨trivial, by rintro ⟨-, e⟩; omega⟩]
      rfl
     ·
      rw [if_neg (fun e => hn e.2), if_neg (by rintro ⟨-, e⟩; exact e ⟨trivial, by omega⟩)]
    | a :: c :: e :: t, hr =>
     have ha := hr a (by simp)
     have hc := hr c (by simp)
     cases a <;> cases c <;> first | rfl | exact absurd rfl (by assumption) | simp [toW, nu]
   rw [if_neg h3, if_neg h3]
   by_cases h4 : s.toList = [97, 108, 108]
   ·
    rw [if_pos h4, if_pos h4]
    cases r with
    | nil => rfl
    | cons a t => rfl
   rw [if_neg h4, if_neg h4]
   rfl
end Go.Proofs.YtlkbeddlmbghkaaGreatDoor.PR
