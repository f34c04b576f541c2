/-
  Open16
-/
import Derived.Test.YtjdpemcnlejpfaaGreatDoorOpen
import Derived.Test.YtjdpemcnlejpfaaGreatDoorSqPreds
import Derived.OpenShut
set_option linter.all false
namespace Go.Gx
open Go.RowKit Go.ChangeShapes Go.WideShapes Go.Deep
section
variable{H:Type}{enc:TypeId×Value→H}{P:Program}{w:World}{base:Nat}{spare:Nat→Bool}{held:Bool}
theorem QFu{n:Int}(h:(Lit.int .i8 n).wf=true): -128≤n∧n≤127:=by
  have h1:IntKind.i8.min≤n∧n≤IntKind.i8.max:=by simpa [Lit.wf] using h
  have e1:IntKind.i8.min= -128:=by decide
  have e2:IntKind.i8.max=127:=by decide
  omega
end
end Go.Gx
