/- script.Line, plain: the words of a step, and what they are read as. -/
import Derived.Test.YtlkbeddlmbghkaaGreatDoorScT
import Derived.Test.YtlkbeddlmbghkaaGreatDoorScRe
namespace Go.Proofs.YtlkbeddlmbghkaaGreatDoor.PR
open Go Go.Proofs Go.RowKit Go.Proofs.YtlkbeddlmbghkaaGreatDoorW.PrintWords Go.Proofs.YtlkbeddlmbghkaaGreatDoorW.PrintLast Go.Proofs.YtlkbeddlmbghkaaGreatDoorW.PrintMore
set_option linter.unusedVariables false
set_option linter.unusedSimpArgs false
set_option maxRecDepth 100000

abbrev CallT := S52
abbrev StepT := S58
abbrev EntT := S93
/-- The words of entries. -/
def entW : List EntT → List Wd
 | [] => []
 | e :: t => if e.f2 = true then .name ⟨#[103, 111, 110, 101]⟩ :: .text e.f0 :: entW t else .text e.f0 :: .text e.f1 :: entW t
/-- The words of a span. -/
def spanW (x : CallT) : List Wd := if x.f6 = true then [.text x.f4, .name ⟨#[101, 110, 100]⟩] else [.text x.f4, .text x.f5]
/-- The name of a kind. -/
def nameL (k : Int) : ByteArray := if k < 1 ∨ 10 < k then ⟨#[]⟩ else kindsL.getD k.toNat ⟨#[]⟩
/-- The words behind a call's name. -/
def argsW (x : CallT) : List Wd :=
 if x.f0 = 1 then [.text x.f1]
 else if x.f0 = 2 then [.text x.f1, .text x.f2, .num x.f9, .num x.f10]
 else if x.f0 = 3 then [.text x.f1, .num x.f9, .num x.f10]
 else if x.f0 = 4 then .num x.f9 :: .num x.f10 :: entW x.f3
 else if x.f0 = 8 then .num x.f8 :: (spanW x ++ [.num x.f7])
 else if x.f0 = 5 then spanW x ++ [.num x.f7]
 else if x.f0 = 7 then [.num x.f8, .text x.f1]
 else if x.f0 = 9 then [.num x.f8]
 else []
def callW (x : CallT) : List Wd := .name (nameL x.f0) :: argsW x
/-- The words of a step; none where what is done is nothing that is. -/
def lineW (x : StepT) : Option (List Wd) :=
 if x.f0 = 1 then some (.name ⟨#[98, 101, 103, 105, 110]⟩ :: .num x.f1 :: callW x.f3)
 else if x.f0 = 2 then some (.name ⟨#[114, 117, 110]⟩ :: .num x.f1 :: callW x.f3)
 else if x.f0 = 3 then some [.name ⟨#[115, 116, 101, 112]⟩, .num x.f1, .num x.f2]
 else if x.f0 = 4 then some [.name ⟨#[97, 108, 108]⟩]
 else none
/-- An entry as it is read from its words. -/
def entN (e : EntT) : EntT := if e.f2 = true then ⟨e.f0, ⟨#[]⟩, true⟩ else ⟨e.f0, e.f1, false⟩
theorem ents_read : ∀ L : List EntT, entsS (entW L) = some (L.map entN)
 | [] => rfl
 | e :: t => by
  rw [entW]
  split
  ·
   rename_i h
   rw [entsS, if_pos (by decide +kernel), ents_read t, List.map_cons, entN, if_pos h]; rfl
  ·
   rename_i h
   rw [entsS, ents_read t, List.map_cons, entN, if_neg h]; rfl
/-- A span as it is read from its words, in a call. -/
def spanN (y x : CallT) : CallT := if x.f6 = true then { y with f4 := x.f4, f6 := true } else { y with f4 := x.f4, f5 := x.f5 }
theorem span_read (y x : CallT) (r : List Wd) : spanS y (spanW x ++ r) = some (spanN y x, r) := by
 unfold spanW spanN
 split
 ·
  show spanS y (.text x.f4 :: .name ⟨#[101, 110, 100]⟩ :: r) = _
  rw [spanS, if_pos (by decide +kernel)]
 ·
  rfl
/-- A call as it is read from its words. -/
def callN (x : CallT) : Option CallT :=
 if x.f0 = 1 then some { z52 with f0 := 1, f1 := x.f1 }
 else if x.f0 = 2 then some { z52 with f0 := 2, f1 := x.f1, f2 := x.f2, f9 := x.f9, f10 := x.f10 }
 else if x.f0 = 3 then some { z52 with f0 := 3, f1 := x.f1, f9 := x.f9, f10 := x.f10 }
 else if x.f0 = 4 then some { z52 with f0 := 4, f9 := x.f9, f10 := x.f10, f3 := x.f3.map entN }
 else if x.f0 = 5 then some { spanN { z52 with f0 := 5 } x with f7 := x.f7 }
 else if x.f0 = 6 then some { z52 with f0 := 6 }
 else if x.f0 = 7 then some { z52 with f0 := 7, f8 := x.f8, f1 := x.f1 }
 else if x.f0 = 8 then some { spanN { z52 with f0 := 8, f8 := x.f8 } x with f7 := x.f7 }
 else if x.f0 = 9 then some { z52 with f0 := 9, f8 := x.f8 }
 else if x.f0 = 10 then some { z52 with f0 := 10 }
 else none
theorem callK_4 (r : List Wd) : callK 4 r = batchS r := rfl
theorem callK_5 (r : List Wd) : callK 5 r = scanS r := rfl
theorem callK_8 (r : List Wd) : callK 8 r = snapscanS r := rfl
theorem call_read (x : CallT) : callS (callW x) = (callN x).map fun y => (y, []) := by
 show callK (kindS (nameL x.f0)) (argsW x) = _
 by_cases h : x.f0 < 1 ∨ 10 < x.f0
 ·
  rw [show nameL x.f0 = ⟨#[]⟩ by unfold nameL; rw [if_pos h], show kindS ⟨#[]⟩ = 0 by decide +kernel]
  unfold callK callN
  repeat rw [if_neg (by omega)]
  rfl
 ·
  have hk : x.f0 = 1 ∨ x.f0 = 2 ∨ x.f0 = 3 ∨ x.f0 = 4 ∨ x.f0 = 5 ∨ x.f0 = 6 ∨ x.f0 = 7 ∨ x.f0 = 8 ∨ x.f0 = 9 ∨ x.f0 = 10 := by omega
  rcases hk with e | e | e | e | e | e | e | e | e | e
  ·
   rw [e, show kindS (nameL 1) = 1 by decide +kernel]; unfold argsW callN; rw [if_pos e, if_pos e]; rfl
  ·
   rw [e, show kindS (nameL 2) = 2 by decide +kernel]; unfold argsW callN; rw [if_neg (by omega), if_pos e, if_neg (by omega), if_pos e]; rfl
  ·
   rw [e, show kindS (nameL 3) = 3 by decide +kernel]; unfold argsW callN; iterate 2 rw [if_neg (by omega)]
   rw [if_pos e]; iterate 2 rw [if_neg (by omega)]
   rw [if_pos e]; rfl
  ·
   rw [e, show kindS (nameL 4) = 4 by decide +kernel]
   have e1 : argsW x = .num x.f9 :: .num x.f10 :: entW x.f3 := by unfold argsW; rw [if_neg (by omega), if_neg (by omega), if_neg (by omega), if_pos e]
   have e2 : callN x = some { z52 with f0 := 4, f9 := x.f9, f10 := x.f10, f3 := x.f3.map entN } := by unfold callN; rw [if_neg (by omega), if_neg (by omega), if_neg (by omega), if_pos e]
   rw [e1, e2]
   rw [callK_4]
   unfold batchS
   rw [nu_num, Option.bind_some, nu_num, Option.bind_some, ents_read]
   rfl
  ·
   rw [e, show kindS (nameL 5) = 5 by decide +kernel]
   have e1 : argsW x = spanW x ++ [.num x.f7] := by unfold argsW; rw [if_neg (by omega), if_neg (by omega), if_neg (by omega), if_neg (by omega), if_neg (by omega), if_pos e]
   have e2 : callN x = some { spanN { z52 with f0 := 5 } x with f7 := x.f7 } := by unfold callN; rw [if_neg (by omega), if_neg (by omega), if_neg (by omega), if_neg (by omega), if_pos e]
   rw [e1, e2]
   rw [callK_5]
   unfold scanS
   rw [span_read, Option.bind_some, nu_num]
   rfl
  ·
   rw [e, show kindS (nameL 6) = 6 by decide +kernel]
   have e1 : argsW x = [] := by unfold argsW; repeat rw [if_neg (by omega)]
   have e2 : callN x = some { z52 with f0 := 6 } := by unfold callN; rw [if_neg (by omega), if_neg (by omega), if_neg (by omega), if_neg (by omega), if_neg (by omega), if_pos e]
   rw [e1, e2]; rfl
  ·
   rw [e, show kindS (nameL 7) = 7 by decide +kernel]
   have e1 : argsW x = [.num x.f8, .text x.f1] := by unfold argsW; rw [if_neg (by omega), if_neg (by omega), if_neg (by omega), if_neg (by omega), if_neg (by omega), if_neg (by omega), if_pos e]
   have e2 : callN x = some { z52 with f0 := 7, f8 := x.f8, f1 := x.f1 } := by unfold callN; rw [if_neg (by omega), if_neg (by omega), if_neg (by omega), if_neg (by omega), if_neg (by omega), if_neg (by omega), if_pos e]
   rw [e1, e2]; rfl
  ·
   rw [e, show kindS (nameL 8) = 8 by decide +kernel]
   have e1 : argsW x = .num x.f8 :: (spanW x ++ [.num x.f7]) := by unfold argsW; rw [if_neg (by omega), if_neg (by omega), if_neg (by omega), if_neg (by omega), if_pos e]
   have e2 : callN x = some { spanN { z52 with f0 := 8, f8 := x.f8 } x with f7 := x.f7 } := by unfold callN; rw [if_neg (by omega), if_neg (by omega), if_neg (by omega), if_neg (by omega), if_neg (by omega), if_neg (by omega), if_neg (by omega), if_pos e]
   rw [e1, e2]
   rw [callK_8]
   unfold snapscanS
   rw [nu_num, Option.bind_some, span_read, Option.bind_some, nu_num]
   rfl
  ·
   rw [e, show kindS (nameL 9) = 9 by decide +kernel]
   have e1 : argsW x = [.num x.f8] := by unfold argsW; rw [if_neg (by omega), if_neg (by omega), if_neg (by omega), if_neg (by omega), if_neg (by omega), if_neg (by omega), if_neg (by omega), if_pos e]
   have e2 : callN x = some { z52 with f0 := 9, f8 := x.f8 } := by unfold callN; rw [if_neg (by omega), if_neg (by omega), if_neg (by omega), if_neg (by omega), if_neg (by omega), if_neg (by omega), if_neg (by omega), if_neg (by omega), if_pos e]
   rw [e1, e2]; rfl
  ·
   rw [e, show kindS (nameL 10) = 10 by decide +kernel]
   have e1 : argsW x = [] := by unfold argsW; repeat rw [if_neg (by omega)]
   have e2 : callN x = some { z52 with f0 := 10 } := by unfold callN; rw [if_neg (by omega), if_neg (by omega), if_neg (by omega), if_neg (by omega), if_neg (by omega), if_neg (by omega), if_neg (by omega), if_neg (by omega), if_neg (by omega), if_pos e]
   rw [e1, e2]; rfl
theorem stepH_name (s : ByteArray) (r : List Wd) : stepH (.name s :: r) = (
  if s.toList = [98, 101, 103, 105, 110] then (nu r).bind fun c => (callS c.2).bind fun y => some ((⟨1, c.1, 0, y.1⟩ : StepT), y.2)
  else if s.toList = [114, 117, 110] then (nu r).bind fun c => (callS c.2).bind fun y => some ((⟨2, c.1, 0, y.1⟩ : StepT), y.2)
  else if s.toList = [115, 116, 101, 112] then (nu r).bind fun c => (nu c.2).bind fun n => some ((⟨3, c.1, n.1, z52⟩ : StepT), n.2)
  else if s.toList = [97, 108, 108] then some ((⟨4, 0, 0, z52⟩ : StepT), r)
  else none) := rfl
/-- A step as it is read from its words. -/
def stepN (x : StepT) : Option StepT :=
 if x.f0 = 1 then (callN x.f3).map fun y => ⟨1, x.f1, 0, y⟩
 else if x.f0 = 2 then (callN x.f3).map fun y => ⟨2, x.f1, 0, y⟩
 else if x.f0 = 3 then (if x.f2 < 1 ∨ 100000 < x.f2 then none else some ⟨3, x.f1, x.f2, z52⟩)
 else if x.f0 = 4 then some ⟨4, 0, 0, z52⟩
 else none
theorem step_read (x : StepT) : ((lineW x).bind stepS) = stepN x := by
 unfold lineW stepN
 by_cases h1 : x.f0 = 1
 ·
  rw [if_pos h1, if_pos h1, Option.bind_some]
  unfold stepS
  rw [stepH_name, if_pos (by decide +kernel), nu_num, Option.bind_some, call_read]
  cases callN x.f3 with
  | none => rfl
  | some y =>
   show (if ([] : List Wd) = [] ∧ ¬((1 : Int) = 3 ∧ ((0 : Int) < 1 ∨ 100000 < (0 : Int))) then some (⟨1, x.f1, 0, y⟩ : StepT) else none) = some ⟨1, x.f1, 0, y⟩
   rw [if_pos ⟨rfl, fun h => absurd h.1 (by decide)⟩]
 by_cases h2 : x.f0 = 2
 ·
  rw [if_neg h1, if_pos h2, if_neg h1, if_pos h2, Option.bind_some]
  unfold stepS
  rw [stepH_name, if_neg (by decide +kernel), if_pos (by decide +kernel), nu_num, Option.bind_some, call_read]
  cases callN x.f3 with
  | none => rfl
  | some y =>
   show (if ([] : List Wd) = [] ∧ ¬((2 : Int) = 3 ∧ ((0 : Int) < 1 ∨ 100000 < (0 : Int))) then some (⟨2, x.f1, 0, y⟩ : StepT) else none) = some ⟨2, x.f1, 0, y⟩
   rw [if_pos ⟨rfl, fun h => absurd h.1 (by decide)⟩]
 by_cases h3 : x.f0 = 3
 ·
  rw [if_neg h1, if_neg h2, if_pos h3, if_neg h1, if_neg h2, if_pos h3, Option.bind_some]
  unfold stepS
  rw [stepH_name, if_neg (by decide +kernel), if_neg (by decide +kernel), if_pos (by decide +kernel), nu_num, Option.bind_some, nu_num, Option.bind_some]
  show (if ([] : List Wd) = [] ∧ ¬((3 : Int) = 3 ∧ (x.f2 < 1 ∨ 100000 < x.f2)) then _ else _) = _
  by_cases hb : x.f2 < 1 ∨ 100000 < x.f2
  ·
   rw [if_neg (fun h => h.2 ⟨rfl, hb⟩), if_pos hb]
  ·
   rw [if_pos ⟨rfl, fun h => hb h.2⟩, if_neg hb]
 by_cases h4 : x.f0 = 4
 ·
  rw [if_neg h1, if_neg h2, if_neg h3, if_pos h4, if_neg h1, if_neg h2, if_neg h3, if_pos h4, Option.bind_some]
  unfold stepS
  rw [stepH_name, if_neg (by decide +kernel), if_neg (by decide +kernel), if_neg (by decide +kernel), if_pos (by decide +kernel), Option.bind_some]
  show (if ([] : List Wd) = [] ∧ ¬((4 : Int) = 3 ∧ _) then _ else _) = _
  rw [if_pos ⟨rfl, fun h => absurd h.1 (by decide)⟩]
 ·
  rw [if_neg h1, if_neg h2, if_neg h3, if_neg h4, if_neg h1, if_neg h2, if_neg h3, if_neg h4]; rfl
end Go.Proofs.YtlkbeddlmbghkaaGreatDoor.PR

namespace Go.Proofs.YtlkbeddlmbghkaaGreatDoor.PR
open Go Go.Proofs Go.RowKit Go.Proofs.YtlkbeddlmbghkaaGreatDoorW.PrintWords Go.Proofs.YtlkbeddlmbghkaaGreatDoorW.PrintLast Go.Proofs.YtlkbeddlmbghkaaGreatDoorW.PrintMore
attribute [local go_sem] Wd.one Wd.run_store
set_option linter.unusedVariables false
set_option linter.unusedSimpArgs false
set_option maxRecDepth 100000

/-- The words written so far lie behind g; o is the block of their row. -/
def WrAt (g : Nat) (o : Option Nat) (w : World) (L : List Wd) : Prop := ∃ v, w.heap[g]? = some (.cells #[v] 95 (0, 0)) ∧ v.ownBlock = o ∧ k49.R 49 w (g + 1) (fun _ => True) v (L.map S49.mk)
/-- All but the writer's own blocks stands. -/
def Fw (g : Nat) (o : Option Nat) (w w' : World) : Prop := Below g w w' ∧ ∀ i, i < w.heap.size → i ≠ g → some i ≠ o → w'.heap[i]? = w.heap[i]?
/-- The row's block is the one it was, or a new one. -/
def Gw (o o' : Option Nat) (w : World) : Prop := o' = o ∨ ∃ b, o' = some b ∧ w.heap.size ≤ b
theorem Fw.refl (g : Nat) (o : Option Nat) (w : World) : Fw g o w w := ⟨Below.refl _ _, fun _ _ _ _ => rfl⟩
theorem Fw.trans {g : Nat} {o o1 : Option Nat} {a b c : World} (h : Fw g o a b) (k : Fw g o1 b c) (hg : Gw o o1 a) : Fw g o a c :=
 ⟨h.1.trans k.1, fun i hi hne ho => (k.2 i (Nat.lt_of_lt_of_le hi h.1.size) hne (by
  rcases hg with rfl | ⟨b, rfl, hb⟩
  ·
   exact ho
  ·
   intro e; injection e with e; omega)).trans (h.2 i hi hne ho)⟩
theorem Gw.trans {o o1 o2 : Option Nat} {a b : World} (h : Gw o o1 a) (k : Gw o1 o2 b) (hs : a.heap.size ≤ b.heap.size) : Gw o o2 a := by
 rcases k with rfl | ⟨c, rfl, hc⟩
 ·
  exact h
 ·
  exact .inr ⟨c, rfl, Nat.le_trans hs hc⟩
theorem WrAt.lt {g : Nat} {o : Option Nat} {w : World} {L : List Wd} (h : WrAt g o w L) : g < w.heap.size := by
 obtain ⟨v, hg, _⟩ := h
 exact blk_lt hg
theorem WrAt.below {g : Nat} {o : Option Nat} {w w' : World} {L : List Wd} (h : WrAt g o w L) (hb : Below w.heap.size w w') : WrAt g o w' L := by
 obtain ⟨v, hg, ho, hR⟩ := h
 exact ⟨v, blk_below hg hb, ho, Kd.R_below hR hb⟩
theorem Fw.below {g : Nat} {o : Option Nat} {w w' : World} (hg : g ≤ w.heap.size) (hb : Below w.heap.size w w') : Fw g o w w' := ⟨hb.mono hg, fun i hi _ _ => hb.block i hi⟩
theorem wr_store {g : Nat} {o : Option Nat} {w0 w8 w1 : World} {v v1 : Value} {L : List Wd} {b : Wd} (hg : w0.heap[g]? = some (.cells #[v] 95 (0, 0))) (ho : v.ownBlock = o) (hS8 : Below w0.heap.size w0 w8) (ho1 : k49.R 49 w1 (g + 1) (fun _ => True) v1 (L.map S49.mk ++ [⟨b⟩])) (hb1 : Below (g + 1) w8 w1) (hg1 : w8.grownBy w1 v.ownBlock) (hat1 : v1.ownBlock = v.ownBlock ∨ ∃ b, v1.ownBlock = some b ∧ w8.heap.size ≤ b) :
  WrAt g v1.ownBlock (w1.setCell ⟨g, 0, none⟩ v1) (L ++ [b]) ∧ Fw g o w0 (w1.setCell ⟨g, 0, none⟩ v1) ∧ Gw o v1.ownBlock w0 := by
 have hlt : g < w0.heap.size := blk_lt hg
 have h8 : g < w8.heap.size := Nat.lt_of_lt_of_le hlt hS8.size
 have hgb : w1.heap[g]? = some (.cells #[v] 95 (0, 0)) := (hb1.block g (Nat.lt_succ_self g)).trans ((hS8.block g hlt).trans hg)
 subst ho
 refine ⟨⟨v1, blk_put hgb 0 v1 rfl, rfl, ?_⟩, ⟨?_, fun i hi hne hno => ?_⟩, ?_⟩
 ·
  rw [List.map_append]
  exact Kd.R_mono (Kd.R_step (Kd.R_bound ho1) (fun k hk _ => Below.heap_setCell w1 ⟨g, 0, none⟩ v1 k (by have := hk.2.1; show k ≠ g; omega))) (fun _ hk => hk.1)
 ·
  exact ((hS8.mono (Nat.le_of_lt hlt)).trans (hb1.mono (Nat.le_succ g))).trans ((Below.refl g w1).setCell (Nat.le_refl g) _)
 ·
  exact (Below.heap_setCell w1 ⟨g, 0, none⟩ v1 i hne).trans ((hg1.block i (Nat.lt_of_lt_of_le hi hS8.size) hno).trans (hS8.block i hi))
 ·
  rcases hat1 with h | ⟨b, h, hb⟩
  ·
   exact .inl h
  ·
   exact .inr ⟨b, h, Nat.le_trans hS8.size hb⟩
set_option maxHeartbeats 8000000 in
theorem wname_at (g : Nat) (o : Option Nat) (x : ByteArray) (L : List Wd) (hl : L.length ≤ 1000000) (w0 : World) (h : WrAt g o w0 L) :
  Calls Tryz.prog 48 #[.pointer (some ⟨g, 0, none⟩), .string x] w0 fun e w' => e = .returned (.tuple #[]) ∧ ∃ o', WrAt g o' w' (L ++ [.name x]) ∧ Fw g o w0 w' ∧ Gw o o' w0 := by
 have hu95 := Tryz.underlying95
 have hu49 := Tryz.underlying49
 have hlt := h.lt
 obtain ⟨v, hg, ho, hR⟩ := h
 have q0 : w0.cell? ⟨g, 0, none⟩ = some v := (blk_cell hg 0).trans rfl
 have hg := Aside0.mk hg
 have hR := Aside0.mk hR
 have HL := Aside0.mk hl
 clear hl
 go_enter Tryz.func48, Tryz.ntmps48
 go_upto_region 0 with (fail)
 refine start_ (n := 12) (S := fun w' => Below w0.heap.size w0 w') (ds := [8, 11]) #[false, false, false, false, false, false, false, false, false, false, false, false] (by kernel_rfl) rfl rfl (Below.refl _ _).drew (fun hHeld => ?_)
 generalize w0.drew = w9 at *
 refine pure_ (i := 0) (N := some 4) (v := ?_) (a' := ?_) #[true, false, false, false, false, false, false, false, false, false, false, false] rfl rfl (by kernel_rfl) (fun _ _ _ h => h) (Or.inl ⟨by rfl, ?_⟩) ?_ ?_
 rotate_left
 ·
  intro w'
  go_simp
  with_reducible rfl
 rotate_left
 ·
  simp only [Act.put, List.setIfInBounds_toArray, List.set_cons_zero, List.set_cons_succ, i64_w, i32_w]
  rfl
 refine pure_ (i := 1) (N := some 5) (v := ?_) (a' := ?_) #[true, true, false, false, false, false, false, false, false, false, false, false] rfl rfl (by kernel_rfl) (fun _ _ _ h => h) (Or.inl ⟨by rfl, ?_⟩) ?_ ?_
 rotate_left
 ·
  intro w'
  go_simp
  with_reducible rfl
 rotate_left
 ·
  simp only [Act.put, List.setIfInBounds_toArray, List.set_cons_zero, List.set_cons_succ, i64_w, i32_w]
  rfl
 refine pure_ (i := 2) (N := some 6) (v := ?_) (a' := ?_) #[true, true, true, false, false, false, false, false, false, false, false, false] rfl rfl (by kernel_rfl) (fun _ _ _ h => h) (Or.inl ⟨by rfl, ?_⟩) ?_ ?_
 rotate_left
 ·
  intro w'
  go_simp
  with_reducible rfl
 rotate_left
 ·
  simp only [Act.put, List.setIfInBounds_toArray, List.set_cons_zero, List.set_cons_succ, i64_w, i32_w]
  rfl
 refine pure_ (i := 3) (N := some 7) (v := ?_) (a' := ?_) #[true, true, true, true, false, false, false, false, false, false, false, false] rfl rfl (by kernel_rfl) (fun _ _ _ h => h) (Or.inl ⟨by rfl, ?_⟩) ?_ ?_
 rotate_left
 ·
  intro w'
  go_simp
  with_reducible rfl
 rotate_left
 ·
  simp only [Act.put, List.setIfInBounds_toArray, List.set_cons_zero, List.set_cons_succ, i64_w, i32_w]
  rfl
 refine take_ (i := 4) (N := some 8) (v := ?_) (a' := ?_) #[true, true, true, true, true, false, false, false, false, false, false, false] rfl rfl (by kernel_rfl) (fun _ _ _ h => h) (Or.inl ⟨by rfl, ?_⟩) hHeld ?_ ?_
 rotate_left
 ·
  intro w' hS
  have t0 := (hS.cell (World.block_lt_of_cell? w0 _ q0)).trans q0
  go_simp
  with_reducible rfl
 rotate_left
 ·
  simp only [Act.put, List.setIfInBounds_toArray, List.set_cons_zero, List.set_cons_succ, i64_w, i32_w]
  rfl
 refine pure_ (i := 5) (N := some 9) (v := ?_) (a' := ?_) #[true, true, true, true, true, true, false, false, false, false, false, false] rfl rfl (by kernel_rfl) (fun _ _ _ h => h) (Or.inl ⟨by rfl, ?_⟩) ?_ ?_
 rotate_left
 ·
  intro w'
  go_simp
  with_reducible rfl
 rotate_left
 ·
  simp only [Act.put, List.setIfInBounds_toArray, List.set_cons_zero, List.set_cons_succ, i64_w, i32_w]
  rfl
 refine one_ (i := 6) (N := some 10) #[true, true, true, true, true, true, true, false, false, false, false, false] rfl rfl (by kernel_rfl) (by decide) (fun K hK => ?_)
 go_simp
 refine (box_OfName.calls x _ w9 rfl).mono ?_
 rintro e w8 ⟨rfl, hb8⟩
 have hS8 := hHeld.trans (hb8.mono hHeld.size)
 dsimp only
 refine hK.out _ _ hS8 (fun hHeld8 => ?_)
 clear hK K
 refine one_ (i := 7) (N := some 11) #[true, true, true, true, true, true, true, true, false, false, false, false] rfl rfl (by kernel_rfl) (by decide) (fun K hK => ?_)
 refine value_ (w1 := ?_) (v := ?_) (by rfl) rfl ?_ ?_
 rotate_left 2
 ·
  go_simp
  constructor
  ·
   rfl
  ·
   rfl
 refine hK.out _ _ (hS8.trans (((Below.refl w8.heap.size w8).alloc (Nat.le_refl _) _).mono hS8.size)) (fun hHeld7 => ?_)
 clear hK K
 have hR8 := Kd.R_below hR.out hS8
 refine last_ (i := 8) (N := some 12) #[true, true, true, true, true, true, true, true, true, false, false, false] rfl rfl (by kernel_rfl) (by decide) (fun K hK => ?_)
 refine Kd.R_append_step k49 (w0 := w8) (g + 1) (by rfl) (.tmp 8) (.tmp 11) 23 49 (.agg #[.nilIface]) 16 rfl Tryz.underlying23 info49 rfl (by decide) (by omega) v (L.map S49.mk) ⟨.name x⟩ [Wd.v (.name x)] (fun _ => True) (fun _ => False) (by rfl) (by rfl) (k49_mkM _ _ _ _) (fun _ hk => hk.elim) (fun _ _ => trivial) hR8 (Below.refl _ _) (Nat.le_trans hlt (hS8.size)) (by rw [List.length_map]; have := HL.out; omega) ?_
 intro v1 w1 ho1 hb1 hg1 hat1
 obtain ⟨A1, c1, ev1⟩ := Kd.R_slice ho1
 subst ev1
 have ST := Aside0.mk (wr_store hg.out ho hS8 ho1 hb1 hg1 hat1)
 generalize (L.map S49.mk ++ [(⟨.name x⟩ : S49)]).length = n1 at *
 refine hK.out _ _ ?_
 clear hK K
 refine pure_ (i := 9) (N := some 13) (v := ?_) (a' := ?_) #[true, true, true, true, true, true, true, true, true, true, false, false] rfl rfl (by kernel_rfl) (fun _ _ _ h => h) (Or.inl ⟨by rfl, ?_⟩) ?_ ?_
 rotate_left
 ·
  intro w'
  go_simp
  with_reducible rfl
 rotate_left
 ·
  simp only [Act.put, List.setIfInBounds_toArray, List.set_cons_zero, List.set_cons_succ, i64_w, i32_w]
  rfl
 refine pure_ (i := 10) (N := some 14) (v := ?_) (a' := ?_) #[true, true, true, true, true, true, true, true, true, true, true, false] rfl rfl (by kernel_rfl) (fun _ _ _ h => h) (Or.inl ⟨by rfl, ?_⟩) ?_ ?_
 rotate_left
 ·
  intro w'
  go_simp
  with_reducible rfl
 rotate_left
 ·
  simp only [Act.put, List.setIfInBounds_toArray, List.set_cons_zero, List.set_cons_succ, i64_w, i32_w]
  rfl
 refine last_ (i := 11) (N := none) #[true, true, true, true, true, true, true, true, true, true, true, true] rfl rfl (by kernel_rfl) (by decide) (fun K hK => ?_)
 have hgb : w1.heap[g]? = some (.cells #[v] 95 (0, 0)) := (hb1.block g (by omega)).trans ((hS8.block g hlt).trans hg.out)
 have hp1 : w1.cell? ⟨g, 0, none⟩ = some v := (blk_cell hgb 0).trans rfl
 have hz1 : w1.frozen? ⟨g, 0, none⟩ = false := blk_frozen hgb 0
 refine skip_ (w1 := w1.setCell ⟨g, 0, none⟩ (.slice A1 n1 c1)) (by rfl) rfl ?_ ?_
 ·
  go_simp
 refine hK.out _ _ ?_
 clear hK K
 refine done_ (by kernel_rfl) ?_
 refine bodyPost_end (results_none rfl _ _ _) rfl ?_
 exact ⟨rfl, _, ST.out⟩
end Go.Proofs.YtlkbeddlmbghkaaGreatDoor.PR

namespace Go.Proofs.YtlkbeddlmbghkaaGreatDoor.PR
open Go Go.Proofs Go.RowKit Go.Proofs.YtlkbeddlmbghkaaGreatDoorW.PrintWords Go.Proofs.YtlkbeddlmbghkaaGreatDoorW.PrintLast Go.Proofs.YtlkbeddlmbghkaaGreatDoorW.PrintMore
attribute [local go_sem] Wd.one Wd.run_store
set_option linter.unusedVariables false
set_option linter.unusedSimpArgs false
set_option maxRecDepth 100000

set_option maxHeartbeats 8000000 in
theorem wnumbers_at (g : Nat) (o : Option Nat) (q : Nat) (t : TypeId) (cs : Array Value) (ns : List Int) (hn : ns.length ≤ 1000) (L : List Wd) (hl : L.length + ns.length ≤ 1000000) (w : World) (h : WrAt g o w L) (hq : w.heap[q]? = some (.cells cs t (0, 0))) (hcs : ∀ (i : Nat) (x : Int), ns[i]? = some x → cs[i]? = some (.int .i64 x)) (hqg : q ≠ g) (hqo : some q ≠ o) :
  Calls Tryz.prog 49 #[.pointer (some ⟨g, 0, none⟩), .slice (some ⟨q, 0, none⟩) ns.length ns.length] w fun e w' => e = .returned (.tuple #[]) ∧ ∃ o', WrAt g o' w' (L ++ ns.map Wd.num) ∧ Fw g o w w' ∧ Gw o o' w := by
 have hu95 := Tryz.underlying95
 have hu49 := Tryz.underlying49
 have H := Aside0.mk h
 have HQ := Aside0.mk hq
 have HCS := Aside0.mk hcs
 have HL0 := Aside0.mk hl
 have HN := Aside0.mk hn
 clear h hq hcs hl hn
 go_enter Tryz.func49, Tryz.ntmps49
 go_wp2_with (fail)
 go_loopg [8] (ns.length) (fun kq v8 w' => ∃ (i : Nat) (o1 : Option Nat), v8 = .int .i64 (i : Int) ∧ Aside0 (i + kq = ns.length) ∧ Aside0 (WrAt g o1 w' (L ++ (ns.take i).map Wd.num)) ∧ Aside0 (Fw g o w w') ∧ Aside0 (Gw o o1 w))
 case atStart => exact ⟨0, o, rfl, ⟨Nat.zero_add _⟩, ⟨by rw [List.take_zero, List.map_nil, List.append_nil]; exact H.out⟩, ⟨Fw.refl _ _ _⟩, ⟨.inl rfl⟩⟩
 case round =>
  obtain ⟨i, o1, rfl, HI, HWR, HF, HGW⟩ := hrel
  by_cases hlt0 : i < ns.length
  ·
   obtain ⟨k2, rfl⟩ : ∃ k2, gk = k2 + 1 := ⟨gk - 1, by have := HI.out; omega⟩
   have d1 : ((i : Int) < (ns.length : Int)) = True := eq_true (by omega)
   have d2 : decide ((i : Int) < (ns.length : Int)) = true := decide_eq_true (by omega)
   have d3 : (i < ns.length) = True := eq_true hlt0
   obtain ⟨i1, hi1⟩ : ∃ i1, i1 = i + 1 := ⟨_, rfl⟩
   have e10 : IntKind.i64.wrap ((i : Int) + 1) = (i1 : Int) := by have := HN.out; rw [i64_w]; unfold wrap64; omega
   have I1 := Aside0.mk hi1
   clear hi1
   obtain ⟨x, hx⟩ : ∃ x, ns[i]? = some x := ⟨_, List.getElem?_eq_getElem hlt0⟩
   have hq1 : wr.heap[q]? = some (.cells cs t (0, 0)) := (HF.out.2 q (blk_lt HQ.out) hqg hqo).trans HQ.out
   have hx0 : wr.cell? ⟨q, i, none⟩ = some (.int .i64 x) := (blk_cell hq1 i).trans (HCS.out i x hx)
   have htk : ns.take (i + 1) = ns.take i ++ [x] := by rw [List.take_add_one, hx]; rfl
   have HTK := Aside0.mk (show L ++ (ns.take (i + 1)).map Wd.num = (L ++ (ns.take i).map Wd.num) ++ [Wd.num x] by rw [htk, List.map_append, List.append_assoc]; rfl)
   have HL : Aside0 ((L ++ (ns.take i).map Wd.num).length ≤ 1000000) := ⟨by rw [List.length_append, List.length_map, List.length_take]; have := HL0.out; omega⟩
   clear htk hx hlt0 hq1
   generalize (L ++ (ns.take i).map Wd.num) = M at *
   go_upto_region 3 with (fail)
   have hlt := HWR.out.lt
   obtain ⟨v, hg, ho, hR⟩ := HWR.out
   have q0 : wr.cell? ⟨g, 0, none⟩ = some v := (blk_cell hg 0).trans rfl
   have hg := Aside0.mk hg
   have hR := Aside0.mk hR
   refine start_ (n := 12) (S := fun w' => Below wr.heap.size wr w') (ds := [8, 11]) #[false, false, false, false, false, false, false, false, false, false, false, false] (by kernel_rfl) rfl rfl (Below.refl _ _).drew (fun hHeld => ?_)
   generalize wr.drew = w9 at *
   refine pure_ (i := 0) (N := some 12) (v := ?_) (a' := ?_) #[true, false, false, false, false, false, false, false, false, false, false, false] rfl rfl (by kernel_rfl) (fun _ _ _ h => h) (Or.inl ⟨by rfl, ?_⟩) ?_ ?_
   rotate_left
   ·
    intro w'
    go_simp
    with_reducible rfl
   rotate_left
   ·
    simp only [Act.put, List.setIfInBounds_toArray, List.set_cons_zero, List.set_cons_succ, i64_w, i32_w]
    rfl
   refine pure_ (i := 1) (N := some 13) (v := ?_) (a' := ?_) #[true, true, false, false, false, false, false, false, false, false, false, false] rfl rfl (by kernel_rfl) (fun _ _ _ h => h) (Or.inl ⟨by rfl, ?_⟩) ?_ ?_
   rotate_left
   ·
    intro w'
    go_simp
    with_reducible rfl
   rotate_left
   ·
    simp only [Act.put, List.setIfInBounds_toArray, List.set_cons_zero, List.set_cons_succ, i64_w, i32_w]
    rfl
   refine pure_ (i := 2) (N := some 14) (v := ?_) (a' := ?_) #[true, true, true, false, false, false, false, false, false, false, false, false] rfl rfl (by kernel_rfl) (fun _ _ _ h => h) (Or.inl ⟨by rfl, ?_⟩) ?_ ?_
   rotate_left
   ·
    intro w'
    go_simp
    with_reducible rfl
   rotate_left
   ·
    simp only [Act.put, List.setIfInBounds_toArray, List.set_cons_zero, List.set_cons_succ, i64_w, i32_w]
    rfl
   refine pure_ (i := 3) (N := some 15) (v := ?_) (a' := ?_) #[true, true, true, true, false, false, false, false, false, false, false, false] rfl rfl (by kernel_rfl) (fun _ _ _ h => h) (Or.inl ⟨by rfl, ?_⟩) ?_ ?_
   rotate_left
   ·
    intro w'
    go_simp
    with_reducible rfl
   rotate_left
   ·
    simp only [Act.put, List.setIfInBounds_toArray, List.set_cons_zero, List.set_cons_succ, i64_w, i32_w]
    rfl
   refine take_ (i := 4) (N := some 16) (v := ?_) (a' := ?_) #[true, true, true, true, true, false, false, false, false, false, false, false] rfl rfl (by kernel_rfl) (fun _ _ _ h => h) (Or.inl ⟨by rfl, ?_⟩) hHeld ?_ ?_
   rotate_left
   ·
    intro w' hS
    have t0 := (hS.cell (World.block_lt_of_cell? wr _ q0)).trans q0
    go_simp
    with_reducible rfl
   rotate_left
   ·
    simp only [Act.put, List.setIfInBounds_toArray, List.set_cons_zero, List.set_cons_succ, i64_w, i32_w]
    rfl
   refine pure_ (i := 5) (N := some 17) (v := ?_) (a' := ?_) #[true, true, true, true, true, true, false, false, false, false, false, false] rfl rfl (by kernel_rfl) (fun _ _ _ h => h) (Or.inl ⟨by rfl, ?_⟩) ?_ ?_
   rotate_left
   ·
    intro w'
    go_simp
    with_reducible rfl
   rotate_left
   ·
    simp only [Act.put, List.setIfInBounds_toArray, List.set_cons_zero, List.set_cons_succ, i64_w, i32_w]
    rfl
   refine one_ (i := 6) (N := some 18) #[true, true, true, true, true, true, true, false, false, false, false, false] rfl rfl (by kernel_rfl) (by decide) (fun K hK => ?_)
   go_simp
   refine (box_OfNumber.calls x _ w9 rfl).mono ?_
   rintro e w8 ⟨rfl, hb8⟩
   have hS8 := hHeld.trans (hb8.mono hHeld.size)
   dsimp only
   refine hK.out _ _ hS8 (fun hHeld8 => ?_)
   clear hK K
   refine one_ (i := 7) (N := some 19) #[true, true, true, true, true, true, true, true, false, false, false, false] rfl rfl (by kernel_rfl) (by decide) (fun K hK => ?_)
   refine value_ (w1 := ?_) (v := ?_) (by rfl) rfl ?_ ?_
   rotate_left 2
   ·
    go_simp
    constructor
    ·
     rfl
    ·
     rfl
   refine hK.out _ _ (hS8.trans (((Below.refl w8.heap.size w8).alloc (Nat.le_refl _) _).mono hS8.size)) (fun hHeld7 => ?_)
   clear hK K
   have hR8 := Kd.R_below hR.out hS8
   refine last_ (i := 8) (N := some 20) #[true, true, true, true, true, true, true, true, true, false, false, false] rfl rfl (by kernel_rfl) (by decide) (fun K hK => ?_)
   refine Kd.R_append_step k49 (w0 := w8) (g + 1) (by rfl) (.tmp 16) (.tmp 19) 23 49 (.agg #[.nilIface]) 16 rfl Tryz.underlying23 info49 rfl (by decide) (by omega) v (M.map S49.mk) ⟨Wd.num x⟩ [Wd.v (Wd.num x)] (fun _ => True) (fun _ => False) (by rfl) (by rfl) (k49_mkM _ _ _ _) (fun _ hk => hk.elim) (fun _ _ => trivial) hR8 (Below.refl _ _) (Nat.le_trans hlt (hS8.size)) (by rw [List.length_map]; have := HL.out; omega) ?_
   intro v1 w1 ho1 hb1 hg1 hat1
   obtain ⟨A1, c1, ev1⟩ := Kd.R_slice ho1
   subst ev1
   have ST := Aside0.mk (wr_store hg.out ho hS8 ho1 hb1 hg1 hat1)
   generalize (M.map S49.mk ++ [(⟨Wd.num x⟩ : S49)]).length = n1 at *
   refine hK.out _ _ ?_
   clear hK K
   refine pure_ (i := 9) (N := some 21) (v := ?_) (a' := ?_) #[true, true, true, true, true, true, true, true, true, true, false, false] rfl rfl (by kernel_rfl) (fun _ _ _ h => h) (Or.inl ⟨by rfl, ?_⟩) ?_ ?_
   rotate_left
   ·
    intro w'
    go_simp
    with_reducible rfl
   rotate_left
   ·
    simp only [Act.put, List.setIfInBounds_toArray, List.set_cons_zero, List.set_cons_succ, i64_w, i32_w]
    rfl
   refine pure_ (i := 10) (N := some 22) (v := ?_) (a' := ?_) #[true, true, true, true, true, true, true, true, true, true, true, false] rfl rfl (by kernel_rfl) (fun _ _ _ h => h) (Or.inl ⟨by rfl, ?_⟩) ?_ ?_
   rotate_left
   ·
    intro w'
    go_simp
    with_reducible rfl
   rotate_left
   ·
    simp only [Act.put, List.setIfInBounds_toArray, List.set_cons_zero, List.set_cons_succ, i64_w, i32_w]
    rfl
   refine last_ (i := 11) (N := none) #[true, true, true, true, true, true, true, true, true, true, true, true] rfl rfl (by kernel_rfl) (by decide) (fun K hK => ?_)
   have hgb : w1.heap[g]? = some (.cells #[v] 95 (0, 0)) := (hb1.block g (by omega)).trans ((hS8.block g hlt).trans hg.out)
   have hp1 : w1.cell? ⟨g, 0, none⟩ = some v := (blk_cell hgb 0).trans rfl
   have hz1 : w1.frozen? ⟨g, 0, none⟩ = false := blk_frozen hgb 0
   refine skip_ (w1 := w1.setCell ⟨g, 0, none⟩ (.slice A1 n1 c1)) (by rfl) rfl ?_ ?_
   ·
    go_simp
   refine hK.out _ _ ?_
   clear hK K
   refine done_ (by kernel_rfl) ?_
   go_wp2_with (fail)
   go_roundg k2
   case measure => omega
   case rel => exact ⟨i1, _, rfl, ⟨by have := HI.out; have := I1.out; omega⟩, ⟨by rw [I1.out, HTK.out]; exact ST.out.1⟩, ⟨HF.out.trans ST.out.2.1 HGW.out⟩, ⟨HGW.out.trans ST.out.2.2 HF.out.1.size⟩⟩
  ·
   have hie : i = ns.length := by have := HI.out; omega
   subst hie
   have d1 : ((ns.length : Int) < (ns.length : Int)) = False := eq_false (by omega)
   rw [List.take_length] at HWR
   go_wp2_with (fail)
   refine bodyPost_end (results_none rfl _ _ _) rfl ?_
   exact ⟨rfl, _, HWR.out, HF.out, HGW.out⟩
set_option maxHeartbeats 8000000 in
theorem wtexts_at (g : Nat) (o : Option Nat) (q : Nat) (t : TypeId) (cs : Array Value) (ns : List ByteArray) (hn : ns.length ≤ 1000) (L : List Wd) (hl : L.length + ns.length ≤ 1000000) (w : World) (h : WrAt g o w L) (hq : w.heap[q]? = some (.cells cs t (0, 0))) (hcs : ∀ (i : Nat) (x : ByteArray), ns[i]? = some x → cs[i]? = some (.string x)) (hqg : q ≠ g) (hqo : some q ≠ o) :
  Calls Tryz.prog 70 #[.pointer (some ⟨g, 0, none⟩), .slice (some ⟨q, 0, none⟩) ns.length ns.length] w fun e w' => e = .returned (.tuple #[]) ∧ ∃ o', WrAt g o' w' (L ++ ns.map Wd.text) ∧ Fw g o w w' ∧ Gw o o' w := by
 have hu95 := Tryz.underlying95
 have hu49 := Tryz.underlying49
 have H := Aside0.mk h
 have HQ := Aside0.mk hq
 have HCS := Aside0.mk hcs
 have HL0 := Aside0.mk hl
 have HN := Aside0.mk hn
 clear h hq hcs hl hn
 go_enter Tryz.func70, Tryz.ntmps70
 go_wp2_with (fail)
 go_loopg [8] (ns.length) (fun kq v8 w' => ∃ (i : Nat) (o1 : Option Nat), v8 = .int .i64 (i : Int) ∧ Aside0 (i + kq = ns.length) ∧ Aside0 (WrAt g o1 w' (L ++ (ns.take i).map Wd.text)) ∧ Aside0 (Fw g o w w') ∧ Aside0 (Gw o o1 w))
 case atStart => exact ⟨0, o, rfl, ⟨Nat.zero_add _⟩, ⟨by rw [List.take_zero, List.map_nil, List.append_nil]; exact H.out⟩, ⟨Fw.refl _ _ _⟩, ⟨.inl rfl⟩⟩
 case round =>
  obtain ⟨i, o1, rfl, HI, HWR, HF, HGW⟩ := hrel
  by_cases hlt0 : i < ns.length
  ·
   obtain ⟨k2, rfl⟩ : ∃ k2, gk = k2 + 1 := ⟨gk - 1, by have := HI.out; omega⟩
   have d1 : ((i : Int) < (ns.length : Int)) = True := eq_true (by omega)
   have d2 : decide ((i : Int) < (ns.length : Int)) = true := decide_eq_true (by omega)
   have d3 : (i < ns.length) = True := eq_true hlt0
   obtain ⟨i1, hi1⟩ : ∃ i1, i1 = i + 1 := ⟨_, rfl⟩
   have e10 : IntKind.i64.wrap ((i : Int) + 1) = (i1 : Int) := by have := HN.out; rw [i64_w]; unfold wrap64; omega
   have I1 := Aside0.mk hi1
   clear hi1
   obtain ⟨x, hx⟩ : ∃ x, ns[i]? = some x := ⟨_, List.getElem?_eq_getElem hlt0⟩
   have hq1 : wr.heap[q]? = some (.cells cs t (0, 0)) := (HF.out.2 q (blk_lt HQ.out) hqg hqo).trans HQ.out
   have hx0 : wr.cell? ⟨q, i, none⟩ = some (.string x) := (blk_cell hq1 i).trans (HCS.out i x hx)
   have htk : ns.take (i + 1) = ns.take i ++ [x] := by rw [List.take_add_one, hx]; rfl
   have HTK := Aside0.mk (show L ++ (ns.take (i + 1)).map Wd.text = (L ++ (ns.take i).map Wd.text) ++ [Wd.text x] by rw [htk, List.map_append, List.append_assoc]; rfl)
   have HL : Aside0 ((L ++ (ns.take i).map Wd.text).length ≤ 1000000) := ⟨by rw [List.length_append, List.length_map, List.length_take]; have := HL0.out; omega⟩
   clear htk hx hlt0 hq1
   generalize (L ++ (ns.take i).map Wd.text) = M at *
   go_upto_region 3 with (fail)
   have hlt := HWR.out.lt
   obtain ⟨v, hg, ho, hR⟩ := HWR.out
   have q0 : wr.cell? ⟨g, 0, none⟩ = some v := (blk_cell hg 0).trans rfl
   have hg := Aside0.mk hg
   have hR := Aside0.mk hR
   refine start_ (n := 12) (S := fun w' => Below wr.heap.size wr w') (ds := [8, 11]) #[false, false, false, false, false, false, false, false, false, false, false, false] (by kernel_rfl) rfl rfl (Below.refl _ _).drew (fun hHeld => ?_)
   generalize wr.drew = w9 at *
   refine pure_ (i := 0) (N := some 12) (v := ?_) (a' := ?_) #[true, false, false, false, false, false, false, false, false, false, false, false] rfl rfl (by kernel_rfl) (fun _ _ _ h => h) (Or.inl ⟨by rfl, ?_⟩) ?_ ?_
   rotate_left
   ·
    intro w'
    go_simp
    with_reducible rfl
   rotate_left
   ·
    simp only [Act.put, List.setIfInBounds_toArray, List.set_cons_zero, List.set_cons_succ, i64_w, i32_w]
    rfl
   refine pure_ (i := 1) (N := some 13) (v := ?_) (a' := ?_) #[true, true, false, false, false, false, false, false, false, false, false, false] rfl rfl (by kernel_rfl) (fun _ _ _ h => h) (Or.inl ⟨by rfl, ?_⟩) ?_ ?_
   rotate_left
   ·
    intro w'
    go_simp
    with_reducible rfl
   rotate_left
   ·
    simp only [Act.put, List.setIfInBounds_toArray, List.set_cons_zero, List.set_cons_succ, i64_w, i32_w]
    rfl
   refine pure_ (i := 2) (N := some 14) (v := ?_) (a' := ?_) #[true, true, true, false, false, false, false, false, false, false, false, false] rfl rfl (by kernel_rfl) (fun _ _ _ h => h) (Or.inl ⟨by rfl, ?_⟩) ?_ ?_
   rotate_left
   ·
    intro w'
    go_simp
    with_reducible rfl
   rotate_left
   ·
    simp only [Act.put, List.setIfInBounds_toArray, List.set_cons_zero, List.set_cons_succ, i64_w, i32_w]
    rfl
   refine pure_ (i := 3) (N := some 15) (v := ?_) (a' := ?_) #[true, true, true, true, false, false, false, false, false, false, false, false] rfl rfl (by kernel_rfl) (fun _ _ _ h => h) (Or.inl ⟨by rfl, ?_⟩) ?_ ?_
   rotate_left
   ·
    intro w'
    go_simp
    with_reducible rfl
   rotate_left
   ·
    simp only [Act.put, List.setIfInBounds_toArray, List.set_cons_zero, List.set_cons_succ, i64_w, i32_w]
    rfl
   refine take_ (i := 4) (N := some 16) (v := ?_) (a' := ?_) #[true, true, true, true, true, false, false, false, false, false, false, false] rfl rfl (by kernel_rfl) (fun _ _ _ h => h) (Or.inl ⟨by rfl, ?_⟩) hHeld ?_ ?_
   rotate_left
   ·
    intro w' hS
    have t0 := (hS.cell (World.block_lt_of_cell? wr _ q0)).trans q0
    go_simp
    with_reducible rfl
   rotate_left
   ·
    simp only [Act.put, List.setIfInBounds_toArray, List.set_cons_zero, List.set_cons_succ, i64_w, i32_w]
    rfl
   refine pure_ (i := 5) (N := some 17) (v := ?_) (a' := ?_) #[true, true, true, true, true, true, false, false, false, false, false, false] rfl rfl (by kernel_rfl) (fun _ _ _ h => h) (Or.inl ⟨by rfl, ?_⟩) ?_ ?_
   rotate_left
   ·
    intro w'
    go_simp
    with_reducible rfl
   rotate_left
   ·
    simp only [Act.put, List.setIfInBounds_toArray, List.set_cons_zero, List.set_cons_succ, i64_w, i32_w]
    rfl
   refine one_ (i := 6) (N := some 18) #[true, true, true, true, true, true, true, false, false, false, false, false] rfl rfl (by kernel_rfl) (by decide) (fun K hK => ?_)
   go_simp
   refine (box_OfText.calls x _ w9 rfl).mono ?_
   rintro e w8 ⟨rfl, hb8⟩
   have hS8 := hHeld.trans (hb8.mono hHeld.size)
   dsimp only
   refine hK.out _ _ hS8 (fun hHeld8 => ?_)
   clear hK K
   refine one_ (i := 7) (N := some 19) #[true, true, true, true, true, true, true, true, false, false, false, false] rfl rfl (by kernel_rfl) (by decide) (fun K hK => ?_)
   refine value_ (w1 := ?_) (v := ?_) (by rfl) rfl ?_ ?_
   rotate_left 2
   ·
    go_simp
    constructor
    ·
     rfl
    ·
     rfl
   refine hK.out _ _ (hS8.trans (((Below.refl w8.heap.size w8).alloc (Nat.le_refl _) _).mono hS8.size)) (fun hHeld7 => ?_)
   clear hK K
   have hR8 := Kd.R_below hR.out hS8
   refine last_ (i := 8) (N := some 20) #[true, true, true, true, true, true, true, true, true, false, false, false] rfl rfl (by kernel_rfl) (by decide) (fun K hK => ?_)
   refine Kd.R_append_step k49 (w0 := w8) (g + 1) (by rfl) (.tmp 16) (.tmp 19) 23 49 (.agg #[.nilIface]) 16 rfl Tryz.underlying23 info49 rfl (by decide) (by omega) v (M.map S49.mk) ⟨Wd.text x⟩ [Wd.v (Wd.text x)] (fun _ => True) (fun _ => False) (by rfl) (by rfl) (k49_mkM _ _ _ _) (fun _ hk => hk.elim) (fun _ _ => trivial) hR8 (Below.refl _ _) (Nat.le_trans hlt (hS8.size)) (by rw [List.length_map]; have := HL.out; omega) ?_
   intro v1 w1 ho1 hb1 hg1 hat1
   obtain ⟨A1, c1, ev1⟩ := Kd.R_slice ho1
   subst ev1
   have ST := Aside0.mk (wr_store hg.out ho hS8 ho1 hb1 hg1 hat1)
   generalize (M.map S49.mk ++ [(⟨Wd.text x⟩ : S49)]).length = n1 at *
   refine hK.out _ _ ?_
   clear hK K
   refine pure_ (i := 9) (N := some 21) (v := ?_) (a' := ?_) #[true, true, true, true, true, true, true, true, true, true, false, false] rfl rfl (by kernel_rfl) (fun _ _ _ h => h) (Or.inl ⟨by rfl, ?_⟩) ?_ ?_
   rotate_left
   ·
    intro w'
    go_simp
    with_reducible rfl
   rotate_left
   ·
    simp only [Act.put, List.setIfInBounds_toArray, List.set_cons_zero, List.set_cons_succ, i64_w, i32_w]
    rfl
   refine pure_ (i := 10) (N := some 22) (v := ?_) (a' := ?_) #[true, true, true, true, true, true, true, true, true, true, true, false] rfl rfl (by kernel_rfl) (fun _ _ _ h => h) (Or.inl ⟨by rfl, ?_⟩) ?_ ?_
   rotate_left
   ·
    intro w'
    go_simp
    with_reducible rfl
   rotate_left
   ·
    simp only [Act.put, List.setIfInBounds_toArray, List.set_cons_zero, List.set_cons_succ, i64_w, i32_w]
    rfl
   refine last_ (i := 11) (N := none) #[true, true, true, true, true, true, true, true, true, true, true, true] rfl rfl (by kernel_rfl) (by decide) (fun K hK => ?_)
   have hgb : w1.heap[g]? = some (.cells #[v] 95 (0, 0)) := (hb1.block g (by omega)).trans ((hS8.block g hlt).trans hg.out)
   have hp1 : w1.cell? ⟨g, 0, none⟩ = some v := (blk_cell hgb 0).trans rfl
   have hz1 : w1.frozen? ⟨g, 0, none⟩ = false := blk_frozen hgb 0
   refine skip_ (w1 := w1.setCell ⟨g, 0, none⟩ (.slice A1 n1 c1)) (by rfl) rfl ?_ ?_
   ·
    go_simp
   refine hK.out _ _ ?_
   clear hK K
   refine done_ (by kernel_rfl) ?_
   go_wp2_with (fail)
   go_roundg k2
   case measure => omega
   case rel => exact ⟨i1, _, rfl, ⟨by have := HI.out; have := I1.out; omega⟩, ⟨by rw [I1.out, HTK.out]; exact ST.out.1⟩, ⟨HF.out.trans ST.out.2.1 HGW.out⟩, ⟨HGW.out.trans ST.out.2.2 HF.out.1.size⟩⟩
  ·
   have hie : i = ns.length := by have := HI.out; omega
   subst hie
   have d1 : ((ns.length : Int) < (ns.length : Int)) = False := eq_false (by omega)
   rw [List.take_length] at HWR
   go_wp2_with (fail)
   refine bodyPost_end (results_none rfl _ _ _) rfl ?_
   exact ⟨rfl, _, HWR.out, HF.out, HGW.out⟩
end Go.Proofs.YtlkbeddlmbghkaaGreatDoor.PR

namespace Go.Proofs.YtlkbeddlmbghkaaGreatDoor.PR
open Go Go.Proofs Go.RowKit Go.Proofs.YtlkbeddlmbghkaaGreatDoorW.PrintWords Go.Proofs.YtlkbeddlmbghkaaGreatDoorW.PrintLast Go.Proofs.YtlkbeddlmbghkaaGreatDoorW.PrintMore
attribute [local go_sem] Wd.one Wd.run_store
set_option linter.unusedVariables false
set_option linter.unusedSimpArgs false
set_option maxRecDepth 100000

set_option maxHeartbeats 4000000 in
theorem sname_at (k : Int) (w : World) (hK : KAt w) : Calls Tryz.prog 26 #[.int .i64 k] w fun e w' => e = .returned (.string (nameL k)) ∧ Below w.heap.size w w' := by
 by_cases h1 : k < 1
 ·
  have g1 : (k < 1) = True := eq_true h1
  have g2 : decide (k < 1) = true := decide_eq_true h1
  go_enter Tryz.func26, Tryz.ntmps26
  go_wp2_with (fail)
  go_ret
  exact ⟨by unfold nameL; rw [if_pos (.inl h1)]; rfl, Below.refl _ _⟩
 have g1 : (k < 1) = False := eq_false h1
 have g2 : decide (k < 1) = false := decide_eq_false h1
 by_cases h2 : 10 < k
 ·
  have g3 : (10 < k) = True := eq_true h2
  have g4 : decide (10 < k) = true := decide_eq_true h2
  go_enter Tryz.func26, Tryz.ntmps26
  go_wp2_with (fail)
  go_ret
  exact ⟨by unfold nameL; rw [if_pos (.inr h2)]; rfl, Below.refl _ _⟩
 have g3 : (10 < k) = False := eq_false h2
 have g4 : decide (10 < k) = false := decide_eq_false h2
 obtain ⟨m, rfl⟩ : ∃ m : Nat, k = (m : Int) := ⟨k.toNat, by omega⟩
 have hm : m < 11 := by omega
 have hn : kindsL[m]? = some (nameL (m : Int)) := by
  unfold nameL
  rw [if_neg (by omega), Int.toNat_natCast, List.getD_eq_getElem?_getD, List.getElem?_eq_getElem (show m < kindsL.length from hm)]
  rfl
 have c0 := hK m _ hn
 have f1 : ((m : Int) < 0) = False := eq_false (by omega)
 have f2 : ((m : Int) < 11) = True := eq_true (by omega)
 have f3 : (0 ≤ (m : Int)) = True := eq_true (by omega)
 have f4 : ((11 : Int) ≤ (m : Int)) = False := eq_false (by omega)
 have f5 : (m < 11) = True := eq_true hm
 have f6 : decide ((m : Int) < 11) = true := decide_eq_true (by omega)
 clear hn hm h1 h2 hK
 go_enter Tryz.func26, Tryz.ntmps26
 go_wp2_with (fail)
 go_ret
 exact ⟨rfl, Below.refl _ _⟩
end Go.Proofs.YtlkbeddlmbghkaaGreatDoor.PR

namespace Go.Proofs.YtlkbeddlmbghkaaGreatDoor.PR
open Go Go.Proofs Go.RowKit Go.Proofs.YtlkbeddlmbghkaaGreatDoorW.PrintWords Go.Proofs.YtlkbeddlmbghkaaGreatDoorW.PrintLast Go.Proofs.YtlkbeddlmbghkaaGreatDoorW.PrintMore
attribute [local go_sem] Wd.one Wd.run_store
set_option linter.unusedVariables false
set_option linter.unusedSimpArgs false
set_option maxRecDepth 100000

theorem WrAt.own {g : Nat} {o : Option Nat} {w : World} {L : List Wd} (h : WrAt g o w L) {b : Nat} (hb : w.heap.size ≤ b) : some b ≠ o := by
 obtain ⟨v, hg, rfl, hR⟩ := h
 intro e
 have := ((Kd.R_bound hR).1 b e.symm).2.2.1
 omega
theorem one_cs {α : Type} (f : α → Value) (a : α) : ∀ (i : Nat) (x : α), [a][i]? = some x → #[f a][i]? = some (f x) := by
 intro i x hx
 cases i with
 | zero => obtain rfl := Option.some.inj hx; rfl
 | succ j => simp at hx
theorem two_cs {α : Type} (f : α → Value) (a b : α) : ∀ (i : Nat) (x : α), [a, b][i]? = some x → #[f a, f b][i]? = some (f x) := by
 intro i x hx
 match i with
 | 0 => obtain rfl := Option.some.inj hx; rfl
 | 1 => obtain rfl := Option.some.inj hx; rfl
 | j + 2 => simp at hx
/-- One text, from a row that has just been made. -/
theorem wtext1 (g : Nat) (o : Option Nat) (a : ByteArray) (L : List Wd) (hl : L.length ≤ 999990) (w : World) (h : WrAt g o w L) :
  Calls Tryz.prog 70 #[.pointer (some ⟨g, 0, none⟩), .slice (some ⟨w.heap.size, 0, none⟩) 1 1] (w.alloc (.cells #[.string a] 9)) fun e w' => e = .returned (.tuple #[]) ∧ ∃ o', WrAt g o' w' (L ++ [.text a]) ∧ Fw g o w w' ∧ Gw o o' w := by
 have ab : Below w.heap.size w (w.alloc (.cells #[.string a] 9)) := (Below.refl _ _).alloc (Nat.le_refl _) _
 refine (wtexts_at g o w.heap.size 9 #[.string a] [a] (by show 1 ≤ 1000; decide) L (by show L.length + 1 ≤ _; omega) _ (h.below ab) (blk_new w _) (one_cs (fun b => Value.string b) a) (Nat.ne_of_gt h.lt) (h.own (Nat.le_refl _))).mono ?_
 rintro e w' ⟨rfl, o', h1, h2, h3⟩
 exact ⟨rfl, o', h1, (Fw.below (Nat.le_of_lt h.lt) ab).trans h2 (.inl rfl), Gw.trans (.inl rfl) h3 ab.size⟩
theorem wtext2 (g : Nat) (o : Option Nat) (a b : ByteArray) (L : List Wd) (hl : L.length ≤ 999990) (w : World) (h : WrAt g o w L) :
  Calls Tryz.prog 70 #[.pointer (some ⟨g, 0, none⟩), .slice (some ⟨w.heap.size, 0, none⟩) 2 2] (w.alloc (.cells #[.string a, .string b] 9)) fun e w' => e = .returned (.tuple #[]) ∧ ∃ o', WrAt g o' w' (L ++ [.text a, .text b]) ∧ Fw g o w w' ∧ Gw o o' w := by
 have ab : Below w.heap.size w (w.alloc (.cells #[.string a, .string b] 9)) := (Below.refl _ _).alloc (Nat.le_refl _) _
 refine (wtexts_at g o w.heap.size 9 #[.string a, .string b] [a, b] (by show 2 ≤ 1000; decide) L (by show L.length + 2 ≤ _; omega) _ (h.below ab) (blk_new w _) (two_cs (fun b => Value.string b) a b) (Nat.ne_of_gt h.lt) (h.own (Nat.le_refl _))).mono ?_
 rintro e w' ⟨rfl, o', h1, h2, h3⟩
 exact ⟨rfl, o', h1, (Fw.below (Nat.le_of_lt h.lt) ab).trans h2 (.inl rfl), Gw.trans (.inl rfl) h3 ab.size⟩
theorem wnumber1 (g : Nat) (o : Option Nat) (a : Int) (L : List Wd) (hl : L.length ≤ 999990) (w : World) (h : WrAt g o w L) :
  Calls Tryz.prog 49 #[.pointer (some ⟨g, 0, none⟩), .slice (some ⟨w.heap.size, 0, none⟩) 1 1] (w.alloc (.cells #[.int .i64 a] 3)) fun e w' => e = .returned (.tuple #[]) ∧ ∃ o', WrAt g o' w' (L ++ [.num a]) ∧ Fw g o w w' ∧ Gw o o' w := by
 have ab : Below w.heap.size w (w.alloc (.cells #[.int .i64 a] 3)) := (Below.refl _ _).alloc (Nat.le_refl _) _
 refine (wnumbers_at g o w.heap.size 3 #[.int .i64 a] [a] (by show 1 ≤ 1000; decide) L (by show L.length + 1 ≤ _; omega) _ (h.below ab) (blk_new w _) (one_cs (fun b => Value.int .i64 b) a) (Nat.ne_of_gt h.lt) (h.own (Nat.le_refl _))).mono ?_
 rintro e w' ⟨rfl, o', h1, h2, h3⟩
 exact ⟨rfl, o', h1, (Fw.below (Nat.le_of_lt h.lt) ab).trans h2 (.inl rfl), Gw.trans (.inl rfl) h3 ab.size⟩
theorem wnumber2 (g : Nat) (o : Option Nat) (a b : Int) (L : List Wd) (hl : L.length ≤ 999990) (w : World) (h : WrAt g o w L) :
  Calls Tryz.prog 49 #[.pointer (some ⟨g, 0, none⟩), .slice (some ⟨w.heap.size, 0, none⟩) 2 2] (w.alloc (.cells #[.int .i64 a, .int .i64 b] 3)) fun e w' => e = .returned (.tuple #[]) ∧ ∃ o', WrAt g o' w' (L ++ [.num a, .num b]) ∧ Fw g o w w' ∧ Gw o o' w := by
 have ab : Below w.heap.size w (w.alloc (.cells #[.int .i64 a, .int .i64 b] 3)) := (Below.refl _ _).alloc (Nat.le_refl _) _
 refine (wnumbers_at g o w.heap.size 3 #[.int .i64 a, .int .i64 b] [a, b] (by show 2 ≤ 1000; decide) L (by show L.length + 2 ≤ _; omega) _ (h.below ab) (blk_new w _) (two_cs (fun b => Value.int .i64 b) a b) (Nat.ne_of_gt h.lt) (h.own (Nat.le_refl _))).mono ?_
 rintro e w' ⟨rfl, o', h1, h2, h3⟩
 exact ⟨rfl, o', h1, (Fw.below (Nat.le_of_lt h.lt) ab).trans h2 (.inl rfl), Gw.trans (.inl rfl) h3 ab.size⟩
end Go.Proofs.YtlkbeddlmbghkaaGreatDoor.PR

namespace Go.Proofs.YtlkbeddlmbghkaaGreatDoor.PR
open Go Go.Proofs Go.RowKit Go.Proofs.YtlkbeddlmbghkaaGreatDoorW.PrintWords Go.Proofs.YtlkbeddlmbghkaaGreatDoorW.PrintLast Go.Proofs.YtlkbeddlmbghkaaGreatDoorW.PrintMore
attribute [local go_sem] Wd.one Wd.run_store
set_option linter.unusedVariables false
set_option linter.unusedSimpArgs false
set_option maxRecDepth 100000

set_option maxHeartbeats 4000000 in
theorem wspan_at (g : Nat) (o : Option Nat) (x : CallT) (v : Value) (L : List Wd) (hl : L.length ≤ 999900) (w : World) (h : WrAt g o w L) :
  Calls Tryz.prog 71 #[.pointer (some ⟨g, 0, none⟩), .agg (callV x v)] w fun e w' => e = .returned (.tuple #[]) ∧ ∃ o', WrAt g o' w' (L ++ spanW x) ∧ Fw g o w w' ∧ Gw o o' w := by
 have hu52 := Tryz.underlying52
 have hu95 := Tryz.underlying95
 have H := Aside0.mk h
 have HL := Aside0.mk hl
 have hgl := h.lt
 have hpo := h.own (Nat.le_refl w.heap.size)
 clear h hl
 go_enter Tryz.func71, Tryz.ntmps71
 go_upto_region 1 with (fail)
 have B1 := Aside0.mk (blk_new w (.cells (callV x v) 52))
 have ab1 : Below w.heap.size w (w.alloc (.cells (callV x v) 52)) := (Below.refl _ _).alloc (Nat.le_refl _) _
 have W1 := Aside0.mk (H.out.below ab1)
 have F1 := Aside0.mk (Fw.below (o := o) (Nat.le_of_lt hgl) ab1)
 change Code.wp _ _ _ _ (w.alloc (.cells (callV x v) 52))
 have hs1 := ab1.size
 obtain ⟨p, hp⟩ : ∃ p, p = w.heap.size := ⟨_, rfl⟩
 have hpg : p ≠ g := by omega
 have hpo : some p ≠ o := by rw [hp]; exact hpo
 have HS := Aside0.mk hs1
 rw [← hp] at B1 ⊢
 generalize (w.alloc (.cells (callV x v) 52)) = w1 at *
 clear ab1 hs1 hp
 have c4 : w1.cell? ⟨p, 4, none⟩ = some (.string x.f4) := (blk_cell B1.out 4).trans rfl
 go_wp2_with (fail)
 refine (wtext1 g o x.f4 L (by have := HL.out; omega) w1 W1.out).mono ?_
 rintro e w2 ⟨rfl, o2, hW2, hF2, hG2⟩
 have B2 := Aside0.mk ((hF2.2 p (blk_lt B1.out) hpg hpo).trans B1.out)
 have W2 := Aside0.mk hW2
 have F2 := Aside0.mk (F1.out.trans hF2 (.inl rfl))
 have G2 : Aside0 (Gw o o2 w) := ⟨Gw.trans (.inl rfl) hG2 HS.out⟩
 have c5 : w2.cell? ⟨p, 5, none⟩ = some (.string x.f5) := (blk_cell B2.out 5).trans rfl
 have c6 : w2.cell? ⟨p, 6, none⟩ = some (.bool x.f6) := (blk_cell B2.out 6).trans rfl
 have hS2 := Aside0.mk F2.out.1.size
 clear c4 hW2 hF2 hG2
 by_cases h6 : x.f6 = true
 ·
  rw [h6] at c6
  go_wp2_with (fail)
  refine (wname_at g o2 ⟨#[101, 110, 100]⟩ (L ++ [.text x.f4]) (by rw [List.length_append]; have := HL.out; show L.length + 1 ≤ _; omega) w2 W2.out).mono ?_
  rintro e w3 ⟨rfl, o3, hW3, hF3, hG3⟩
  go_wp2_with (fail)
  refine bodyPost_end (results_none rfl _ _ _) rfl ?_
  refine ⟨rfl, o3, ?_, F2.out.trans hF3 G2.out, G2.out.trans hG3 hS2.out⟩
  rw [List.append_assoc] at hW3
  unfold spanW
  rw [if_pos h6]
  exact hW3
 ·
  have h6' : x.f6 = false := by simpa using h6
  rw [h6'] at c6
  go_wp2_with (fail)
  refine (wtext1 g o2 x.f5 (L ++ [.text x.f4]) (by rw [List.length_append]; have := HL.out; show L.length + 1 ≤ _; omega) w2 W2.out).mono ?_
  rintro e w3 ⟨rfl, o3, hW3, hF3, hG3⟩
  go_wp2_with (fail)
  refine bodyPost_end (results_none rfl _ _ _) rfl ?_
  refine ⟨rfl, o3, ?_, F2.out.trans hF3 G2.out, G2.out.trans hG3 hS2.out⟩
  rw [List.append_assoc] at hW3
  unfold spanW
  rw [if_neg h6]
  exact hW3
end Go.Proofs.YtlkbeddlmbghkaaGreatDoor.PR
