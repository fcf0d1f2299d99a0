/- The law ScriptSame, for the row: any step, any byte, over the laid table. -/
import Derived.Test.YtlkbeddlmbghkaaDoorScW
import Derived.Test.YtlkbeddlmbghkaaDoorScO
namespace Go.Proofs.YtlkbeddlmbghkaaDoor.PR
open Go Go.Proofs Go.RowKit Go.Proofs.YtlkbeddlmbghkaaDoorW.PrintWords Go.Proofs.YtlkbeddlmbghkaaDoorW.PrintLast Go.Proofs.YtlkbeddlmbghkaaDoorW.PrintMore
theorem same_walk (x : S48) (A : Option Addr) (c : Nat) (a : Int) (w : World) (ha : 0 ≤ a ∧ a ≤ 255) (hL : laidMetH Tryd.prog Rows.scriptSameRow.laid w) (hc : x.f3.f3.length ≤ c) (hA : Kd.C k53 w A x.f3.f3.length x.f3.f3) :
    Calls Tryd.prog 6 #[.agg #[.int .i64 x.f0, .int .i64 x.f1, .int .i64 x.f2, .int .i64 x.f3.f0, .string x.f3.f1, .string x.f3.f2, .slice A x.f3.f3.length c, .string x.f3.f4, .string x.f3.f5, .bool x.f3.f6, .int .i64 x.f3.f7, .int .i64 x.f3.f8, .int .i64 x.f3.f9, .int .i64 x.f3.f10], .int .u8 a] w fun e w' => e = .returned (.bool true) ∧ Below w.heap.size w w' := by
  obtain ⟨hk, h3⟩ := kat_of hL
  have e : a = ((a.toNat : Nat) : Int) := (Int.toNat_of_nonneg ha.1).symm
  rw [e]
  exact same_law x A c a.toNat (by omega) w hk h3 hA hc
end Go.Proofs.YtlkbeddlmbghkaaDoor.PR
