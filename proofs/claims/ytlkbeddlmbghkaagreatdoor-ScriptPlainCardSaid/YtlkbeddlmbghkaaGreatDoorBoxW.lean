/- The values of box.Box's one field, told as a type of their own; its kind. -/
import Derived.Test.YtlkbeddlmbghkaaGreatDoorWAll
namespace Go.Proofs.YtlkbeddlmbghkaaGreatDoorW.PrintWords
open Go Go.RowKit

/-- What a box holds: nothing, a number, a name, a text. -/
inductive Wd where
  | nil
  | num (n : Int)
  | name (s : ByteArray)
  | text (s : ByteArray)

def Wd.v : Wd → Value
  | .nil => .nilIface
  | .num n => .iface 3 (.int .i64 n)
  | .name s => .iface 90 (.string s)
  | .text s => .iface 91 (.string s)
theorem Wd.one (x : Wd) : (Wd.v x).oneCell' = true := by cases x <;> rfl
theorem Wd.run_store {P : Program} {a : Addr} {w : World} {m : Mode} (x : Wd) : (store a (Wd.v x) m).run P w = stored P w a (Wd.v x) m := Go.run_store P w a _ m (Wd.one x)
namespace Kd
def wd : Kd Wd := scalar Wd.v Wd.one
end Kd
end Go.Proofs.YtlkbeddlmbghkaaGreatDoorW.PrintWords
