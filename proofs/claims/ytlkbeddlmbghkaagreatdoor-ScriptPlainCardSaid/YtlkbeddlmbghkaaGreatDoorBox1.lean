/- box: what OfNumber, OfName, OfText, Kind, AsNumber, AsName, AsText, the Must ones and Compare come to. -/
import Derived.Test.YtlkbeddlmbghkaaGreatDoorPRx0
namespace Go.Proofs.YtlkbeddlmbghkaaGreatDoor.PR
open Go Go.Proofs Go.RowKit Go.Proofs.YtlkbeddlmbghkaaGreatDoorW.PrintWords Go.Proofs.YtlkbeddlmbghkaaGreatDoorW.PrintLast Go.Proofs.YtlkbeddlmbghkaaGreatDoorW.PrintMore
attribute [local go_sem] Wd.one Wd.run_store
set_option linter.unusedVariables false
set_option linter.unusedSimpArgs false
set_option maxRecDepth 100000

/-! ### type assertions, asked with ok -/
theorem ta_nil_3 (w : World) : (Instr.typeAssert .nilIface 20 3 true).run Tryz.prog w = .ok (.tuple #[.int .i64 0, .bool false]) w := by
 have hu := Tryz.underlying3
 have hz := Tryz.zeroValue3 w
 simp [Instr.typeAssert, Sem.run_bind, underlying, Sem.run, hu, hz, Result.andThen]
theorem ta_3_3 (v : Value) (w : World) : (Instr.typeAssert (.iface 3 v) 20 3 true).run Tryz.prog w = .ok (.tuple #[v, .bool true]) w := by
 have hu := Tryz.underlying3
 have hz := Tryz.zeroValue3 w
 simp [Instr.typeAssert, Sem.run_bind, underlying, Sem.run, hu, hz, Result.andThen]
theorem ta_w_3 (v : Value) (w : World) : (Instr.typeAssert (.iface 90 v) 20 3 true).run Tryz.prog w = .ok (.tuple #[.int .i64 0, .bool false]) w := by
 have hu := Tryz.underlying3
 have hz := Tryz.zeroValue3 w
 simp [Instr.typeAssert, Sem.run_bind, underlying, Sem.run, hu, hz, Result.andThen]
theorem ta_t_3 (v : Value) (w : World) : (Instr.typeAssert (.iface 91 v) 20 3 true).run Tryz.prog w = .ok (.tuple #[.int .i64 0, .bool false]) w := by
 have hu := Tryz.underlying3
 have hz := Tryz.zeroValue3 w
 simp [Instr.typeAssert, Sem.run_bind, underlying, Sem.run, hu, hz, Result.andThen]
theorem ta_nil_w (w : World) : (Instr.typeAssert .nilIface 20 90 true).run Tryz.prog w = .ok (.tuple #[.string { data := #[] }, .bool false]) w := by
 have hu := Tryz.underlying90
 have hz := Tryz.zeroValue90 w
 simp [Instr.typeAssert, Sem.run_bind, underlying, Sem.run, hu, hz, Result.andThen]
theorem ta_3_w (v : Value) (w : World) : (Instr.typeAssert (.iface 3 v) 20 90 true).run Tryz.prog w = .ok (.tuple #[.string { data := #[] }, .bool false]) w := by
 have hu := Tryz.underlying90
 have hz := Tryz.zeroValue90 w
 simp [Instr.typeAssert, Sem.run_bind, underlying, Sem.run, hu, hz, Result.andThen]
theorem ta_w_w (v : Value) (w : World) : (Instr.typeAssert (.iface 90 v) 20 90 true).run Tryz.prog w = .ok (.tuple #[v, .bool true]) w := by
 have hu := Tryz.underlying90
 have hz := Tryz.zeroValue90 w
 simp [Instr.typeAssert, Sem.run_bind, underlying, Sem.run, hu, hz, Result.andThen]
theorem ta_t_w (v : Value) (w : World) : (Instr.typeAssert (.iface 91 v) 20 90 true).run Tryz.prog w = .ok (.tuple #[.string { data := #[] }, .bool false]) w := by
 have hu := Tryz.underlying90
 have hz := Tryz.zeroValue90 w
 simp [Instr.typeAssert, Sem.run_bind, underlying, Sem.run, hu, hz, Result.andThen]
theorem ta_nil_t (w : World) : (Instr.typeAssert .nilIface 20 91 true).run Tryz.prog w = .ok (.tuple #[.string { data := #[] }, .bool false]) w := by
 have hu := Tryz.underlying91
 have hz := Tryz.zeroValue91 w
 simp [Instr.typeAssert, Sem.run_bind, underlying, Sem.run, hu, hz, Result.andThen]
theorem ta_3_t (v : Value) (w : World) : (Instr.typeAssert (.iface 3 v) 20 91 true).run Tryz.prog w = .ok (.tuple #[.string { data := #[] }, .bool false]) w := by
 have hu := Tryz.underlying91
 have hz := Tryz.zeroValue91 w
 simp [Instr.typeAssert, Sem.run_bind, underlying, Sem.run, hu, hz, Result.andThen]
theorem ta_w_t (v : Value) (w : World) : (Instr.typeAssert (.iface 90 v) 20 91 true).run Tryz.prog w = .ok (.tuple #[.string { data := #[] }, .bool false]) w := by
 have hu := Tryz.underlying91
 have hz := Tryz.zeroValue91 w
 simp [Instr.typeAssert, Sem.run_bind, underlying, Sem.run, hu, hz, Result.andThen]
theorem ta_t_t (v : Value) (w : World) : (Instr.typeAssert (.iface 91 v) 20 91 true).run Tryz.prog w = .ok (.tuple #[v, .bool true]) w := by
 have hu := Tryz.underlying91
 have hz := Tryz.zeroValue91 w
 simp [Instr.typeAssert, Sem.run_bind, underlying, Sem.run, hu, hz, Result.andThen]
attribute [local go_sem] ta_nil_3 ta_3_3 ta_w_3 ta_t_3 ta_nil_w ta_3_w ta_w_w ta_t_w ta_nil_t ta_3_t ta_w_t ta_t_t

def box_OfNumber.f (a : Int) : Option Wd := some (.num a)
def box_OfName.f (a : ByteArray) : Option Wd := some (.name a)
def box_OfText.f (a : ByteArray) : Option Wd := some (.text a)

theorem box_OfNumber.calls (a : Int) (r : Wd) (w : World) (h : box_OfNumber.f a = some r) :
  Calls Tryz.prog 20 #[.int .i64 a] w fun e w' => e = .returned (.agg #[Wd.v r]) ∧ Below w.heap.size w w' := by
 obtain rfl : Wd.num a = r := Option.some.inj h
 have hu := Tryz.underlying49
 have hu20 := Tryz.underlying20
 go_enter Tryz.func20, Tryz.ntmps20
 go_wp2
 exact bodyPost_ret (v := .agg #[Wd.v (.num a)]) (by simp [results, Tryz.results20, go_sem, Wd.v]) rfl ⟨rfl, (Below.refl _ _).alloc (Nat.le_refl _) _⟩

theorem box_OfName.calls (a : ByteArray) (r : Wd) (w : World) (h : box_OfName.f a = some r) :
  Calls Tryz.prog 21 #[.string a] w fun e w' => e = .returned (.agg #[Wd.v r]) ∧ Below w.heap.size w w' := by
 obtain rfl : Wd.name a = r := Option.some.inj h
 have hu := Tryz.underlying49
 have hu20 := Tryz.underlying20
 go_enter Tryz.func21, Tryz.ntmps21
 go_wp2
 exact bodyPost_ret (v := .agg #[Wd.v (.name a)]) (by simp [results, Tryz.results21, go_sem, Wd.v]) rfl ⟨rfl, (Below.refl _ _).alloc (Nat.le_refl _) _⟩

theorem box_OfText.calls (a : ByteArray) (r : Wd) (w : World) (h : box_OfText.f a = some r) :
  Calls Tryz.prog 22 #[.string a] w fun e w' => e = .returned (.agg #[Wd.v r]) ∧ Below w.heap.size w w' := by
 obtain rfl : Wd.text a = r := Option.some.inj h
 have hu := Tryz.underlying49
 have hu20 := Tryz.underlying20
 go_enter Tryz.func22, Tryz.ntmps22
 go_wp2
 exact bodyPost_ret (v := .agg #[Wd.v (.text a)]) (by simp [results, Tryz.results22, go_sem, Wd.v]) rfl ⟨rfl, (Below.refl _ _).alloc (Nat.le_refl _) _⟩

/-! ### what a box holds -/

def kindW : Wd → Int
 | .nil => 0
 | .num _ => 1
 | .name _ => 2
 | .text _ => 3
def box_Kind.f (a : Wd) : Option Int := some (kindW a)

theorem box_Kind.calls (a : Wd) (r : Int) (w : World) (h : box_Kind.f a = some r) :
  Calls Tryz.prog 32 #[.agg #[Wd.v a]] w fun e w' => e = .returned (.int .i64 r) ∧ Below w.heap.size w w' := by
 obtain rfl : kindW a = r := Option.some.inj h
 have hu := Tryz.underlying49
 have hu20 := Tryz.underlying20
 cases a <;>
 ·
  simp only [Wd.v]
  go_enter Tryz.func32, Tryz.ntmps32
  go_wp2
  go_ret
  exact ⟨rfl, (Below.refl _ _).alloc (Nat.le_refl _) _⟩

def box_AsNumber.f : Wd → Option (Int × Bool)
 | .num n => some (n, true)
 | _ => some (0, false)
def box_AsName.f : Wd → Option (ByteArray × Bool)
 | .name s => some (s, true)
 | _ => some (⟨#[]⟩, false)
def box_AsText.f : Wd → Option (ByteArray × Bool)
 | .text s => some (s, true)
 | _ => some (⟨#[]⟩, false)

theorem box_AsNumber.calls (a : Wd) (r1 : Int) (r2 : Bool) (w : World) (h : box_AsNumber.f a = some (r1, r2)) :
  Calls Tryz.prog 43 #[.agg #[Wd.v a]] w fun e w' => e = .returned (.tuple #[.int .i64 r1, .bool r2]) ∧ Below w.heap.size w w' := by
 have hu := Tryz.underlying49
 have hu20 := Tryz.underlying20
 cases a <;>
 ·
  obtain ⟨rfl, rfl⟩ := Prod.mk.inj (Option.some.inj h)
  simp only [Wd.v]
  go_enter Tryz.func43, Tryz.ntmps43
  go_wp2
  go_ret2
  exact ⟨rfl, (Below.refl _ _).alloc (Nat.le_refl _) _⟩

theorem box_AsName.calls (a : Wd) (r1 : ByteArray) (r2 : Bool) (w : World) (h : box_AsName.f a = some (r1, r2)) :
  Calls Tryz.prog 44 #[.agg #[Wd.v a]] w fun e w' => e = .returned (.tuple #[.string r1, .bool r2]) ∧ Below w.heap.size w w' := by
 have hu := Tryz.underlying49
 have hu20 := Tryz.underlying20
 have hu77 := Tryz.underlying90
 cases a <;>
 ·
  obtain ⟨rfl, rfl⟩ := Prod.mk.inj (Option.some.inj h)
  simp only [Wd.v]
  go_enter Tryz.func44, Tryz.ntmps44
  go_wp2
  go_ret2
  exact ⟨rfl, (Below.refl _ _).alloc (Nat.le_refl _) _⟩

theorem box_AsText.calls (a : Wd) (r1 : ByteArray) (r2 : Bool) (w : World) (h : box_AsText.f a = some (r1, r2)) :
  Calls Tryz.prog 45 #[.agg #[Wd.v a]] w fun e w' => e = .returned (.tuple #[.string r1, .bool r2]) ∧ Below w.heap.size w w' := by
 have hu := Tryz.underlying49
 have hu20 := Tryz.underlying20
 have hu78 := Tryz.underlying91
 cases a <;>
 ·
  obtain ⟨rfl, rfl⟩ := Prod.mk.inj (Option.some.inj h)
  simp only [Wd.v]
  go_enter Tryz.func45, Tryz.ntmps45
  go_wp2
  go_ret2
  exact ⟨rfl, (Below.refl _ _).alloc (Nat.le_refl _) _⟩
end Go.Proofs.YtlkbeddlmbghkaaGreatDoor.PR

namespace Go.Proofs.YtlkbeddlmbghkaaGreatDoor.PR
open Go Go.Proofs Go.RowKit Go.Proofs.YtlkbeddlmbghkaaGreatDoorW.PrintWords Go.Proofs.YtlkbeddlmbghkaaGreatDoorW.PrintLast Go.Proofs.YtlkbeddlmbghkaaGreatDoorW.PrintMore
attribute [local go_sem] Wd.one Wd.run_store
set_option linter.unusedVariables false
set_option linter.unusedSimpArgs false
set_option maxRecDepth 100000

theorem must_3 (v : Value) (w : World) : (Instr.typeAssert (.iface 3 v) 20 3 false).run Tryz.prog w = .ok v w := by
 have hu := Tryz.underlying3
 simp [Instr.typeAssert, Sem.run_bind, underlying, Sem.run, hu, Result.andThen]
theorem must_w (v : Value) (w : World) : (Instr.typeAssert (.iface 90 v) 20 90 false).run Tryz.prog w = .ok v w := by
 have hu := Tryz.underlying90
 simp [Instr.typeAssert, Sem.run_bind, underlying, Sem.run, hu, Result.andThen]
theorem must_t (v : Value) (w : World) : (Instr.typeAssert (.iface 91 v) 20 91 false).run Tryz.prog w = .ok v w := by
 have hu := Tryz.underlying91
 simp [Instr.typeAssert, Sem.run_bind, underlying, Sem.run, hu, Result.andThen]
attribute [local go_sem] must_3 must_w must_t

theorem mustNumber_calls (n : Int) (w : World) : Calls Tryz.prog 113 #[.agg #[.iface 3 (.int .i64 n)]] w fun e w' => e = .returned (.int .i64 n) ∧ Below w.heap.size w w' := by
 have hu := Tryz.underlying49
 have hu20 := Tryz.underlying20
 go_enter Tryz.func113, Tryz.ntmps113
 go_wp2
 go_ret
 exact ⟨rfl, (Below.refl _ _).alloc (Nat.le_refl _) _⟩
theorem mustName_calls (s : ByteArray) (w : World) : Calls Tryz.prog 111 #[.agg #[.iface 90 (.string s)]] w fun e w' => e = .returned (.string s) ∧ Below w.heap.size w w' := by
 have hu := Tryz.underlying49
 have hu20 := Tryz.underlying20
 have hu77 := Tryz.underlying90
 go_enter Tryz.func111, Tryz.ntmps111
 go_wp2
 go_ret
 exact ⟨rfl, (Below.refl _ _).alloc (Nat.le_refl _) _⟩
theorem mustText_calls (s : ByteArray) (w : World) : Calls Tryz.prog 136 #[.agg #[.iface 91 (.string s)]] w fun e w' => e = .returned (.string s) ∧ Below w.heap.size w w' := by
 have hu := Tryz.underlying49
 have hu20 := Tryz.underlying20
 have hu77 := Tryz.underlying91
 go_enter Tryz.func136, Tryz.ntmps136
 go_wp2
 go_ret
 exact ⟨rfl, (Below.refl _ _).alloc (Nat.le_refl _) _⟩

end Go.Proofs.YtlkbeddlmbghkaaGreatDoor.PR
