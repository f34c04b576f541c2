/-
  Open
-/
import Derived.Test.YtjdpemcnlejpfaaGreatDoorNatMath
import Derived.Deep.Slices
import Derived.ProofKit
set_option linter.all false
namespace Go.Gx
open Go.RowKit Go.ChangeShapes Go.WideShapes Go.Deep
section
variable{H:Type}{enc:TypeId×Value→H}{P:Program}{w:World}{base:Nat}{spare:Nat→Bool}{held:Bool}
end
end Go.Gx
namespace Go.Gx
open Go.RowKit Go.ChangeShapes Go.WideShapes Go.Deep
section
variable{H:Type}{enc:TypeId×Value→H}{P:Program}{w:World}{base:Nat}{spare:Nat→Bool}{held:Bool}
theorem QDc{t:TypeId}{fuel:Nat}{n:Int}{x:DataW H×List MemPlace}(ht:P.underlying t=some (.int .i64))(h:DataW.trod enc P w base spare held fuel t [.int .i64 n]=some x): -9223372036854775808≤n∧n≤9223372036854775807:=by
  obtain⟨m,e,_,hw⟩:=DataW.trod_int ht h
  simp at e
  subst e
  have h1:IntKind.i64.min≤n∧n≤IntKind.i64.max:=by simpa [Lit.wf] using hw
  have e1:IntKind.i64.min= -9223372036854775808:=by decide
  have e2:IntKind.i64.max=9223372036854775807:=by decide
  omega
end
end Go.Gx
namespace Go.Gx
open Go.RowKit Go.ChangeShapes Go.WideShapes Go.Deep
section
variable{H:Type}{enc:TypeId×Value→H}{P:Program}{w:World}{base:Nat}{spare:Nat→Bool}{held:Bool}
end
end Go.Gx
