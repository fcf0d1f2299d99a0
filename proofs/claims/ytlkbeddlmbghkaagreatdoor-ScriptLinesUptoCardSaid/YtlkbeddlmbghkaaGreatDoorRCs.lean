/- What rundleref26's Call and Read come to. -/
import Derived.Test.YtlkbeddlmbghkaaGreatDoorScK
import Derived.Test.YtlkbeddlmbghkaaGreatDoorScRe
namespace Go.Proofs.YtlkbeddlmbghkaaGreatDoor.PR
open Go Go.Proofs Go.RowKit Go.Proofs.YtlkbeddlmbghkaaGreatDoorW.PrintWords Go.Proofs.YtlkbeddlmbghkaaGreatDoorW.PrintLast Go.Proofs.YtlkbeddlmbghkaaGreatDoorW.PrintMore
set_option linter.unusedVariables false
set_option linter.unusedSimpArgs false

/-! ### what it comes to -/
def spanR (x : S52) : List S46 → Option S52
 | [a, b, c] => if a.f0 = 3 ∧ c.f0 = 1 then (if b.f0 = 3 then some { x with f4 := a.f2, f7 := c.f1, f5 := b.f2 } else if b.f0 = 2 ∧ b.f2.toList = [101, 110, 100] then some { x with f4 := a.f2, f7 := c.f1, f6 := true } else none) else none
 | _ => none
def entsR : List S46 → Option (List S93)
 | [] => some []
 | [_] => none
 | a :: b :: t => if b.f0 = 3 then (if a.f0 = 3 then (entsR t).map fun L => ⟨a.f2, b.f2, false⟩ :: L else if a.f0 = 2 ∧ a.f2.toList = [103, 111, 110, 101] then (entsR t).map fun L => ⟨b.f2, ⟨#[]⟩, true⟩ :: L else none) else none
def zC : S52 := ⟨0, ⟨#[]⟩, ⟨#[]⟩, [], ⟨#[]⟩, ⟨#[]⟩, false, 0, 0, 0, 0⟩
def formR : List UInt8 → List S46 → Bool
 | [], _ => true
 | _ :: _, [] => false
 | f :: fs, a :: ws => (if f = 110 then decide (a.f0 = 1) else if f = 116 then decide (a.f0 = 3) else true) && formR fs ws
def argsR (k : Int) (r : List S46) : Option S52 :=
 if k = 1 then (match r with | [a] => if formR [116] r = true then some { zC with f0 := 1, f1 := a.f2 } else none | _ => none)
 else if k = 2 then (match r with | [a, b, c, d] => if formR [116, 116, 110, 110] r = true then some { zC with f0 := 2, f1 := a.f2, f2 := b.f2, f9 := c.f1, f10 := d.f1 } else none | _ => none)
 else if k = 3 then (match r with | [a, b, c] => if formR [116, 110, 110] r = true then some { zC with f0 := 3, f1 := a.f2, f9 := b.f1, f10 := c.f1 } else none | _ => none)
 else if k = 4 then (match r with | a :: b :: t => if formR [110, 110] r = true then (entsR t).map fun L => { zC with f0 := 4, f9 := a.f1, f10 := b.f1, f3 := L } else none | _ => none)
 else if k = 5 then spanR { zC with f0 := 5 } r
 else if k = 6 then (if r = [] then some { zC with f0 := 6 } else none)
 else if k = 7 then (match r with | [a, b] => if formR [110, 116] r = true then some { zC with f0 := 7, f8 := a.f1, f1 := b.f2 } else none | _ => none)
 else if k = 8 then (match r with | a :: t => if formR [110] r = true then spanR { zC with f0 := 8, f8 := a.f1 } t else none | _ => none)
 else if k = 9 then (match r with | [a] => if formR [110] r = true then some { zC with f0 := 9, f8 := a.f1 } else none | _ => none)
 else if k = 10 then (if r = [] then some { zC with f0 := 10 } else none)
 else none
def callR : List S46 → Option S52
 | [] => none
 | h :: r => if h.f0 = 2 then argsR (kindS h.f2) r else none

/-- The step of a line's words. -/
def readR : List S46 → Option S58
 | [] => none
 | h :: r => if h.f0 ≠ 2 then none
  else if h.f2.toList = [98, 101, 103, 105, 110] then (match r with | a :: t => if formR [110] r = true then (callR t).map fun x => ⟨1, a.f1, 0, x⟩ else none | [] => none)
  else if h.f2.toList = [114, 117, 110] then (match r with | a :: t => if formR [110] r = true then (callR t).map fun x => ⟨2, a.f1, 0, x⟩ else none | [] => none)
  else if h.f2.toList = [115, 116, 101, 112] then (match r with | [a, b] => if formR [110, 110] r = true ∧ 1 ≤ b.f1 ∧ b.f1 ≤ 100000 then some ⟨3, a.f1, b.f1, zC⟩ else none | _ => none)
  else if h.f2.toList = [97, 108, 108] then (if r = [] then some ⟨4, 0, 0, zC⟩ else none)
  else none
/-- A word, as the document has it. -/
def toW : Wd → S46
 | .num n => ⟨1, n, ⟨#[]⟩⟩
 | .name s => ⟨2, 0, s⟩
 | .text s => ⟨3, 0, s⟩
 | .nil => ⟨3, 0, ⟨#[]⟩⟩
end Go.Proofs.YtlkbeddlmbghkaaGreatDoor.PR
