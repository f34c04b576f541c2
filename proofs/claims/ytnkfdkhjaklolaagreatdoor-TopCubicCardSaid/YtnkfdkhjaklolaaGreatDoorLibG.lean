/-
  The laws of the walks and the plain laws of numbers and polynomials, part 7: Open, Open16.
-/
import Derived.Test.YtnkfdkhjaklolaaGreatDoorLibC
import Derived.Deep.Slices
import Derived.ProofKit
import Derived.OpenShut
namespace Go.Gx
open Go.RowKit Go.ChangeShapes Go.WideShapes Go.Deep
section
variable{H:Type}{enc:TypeId×Value→H}{P:Program}{w:World}{base:Nat}{spare:Nat→Bool}{held:Bool}
end
end Go.Gx
namespace Go.Gx
open Go.RowKit Go.ChangeShapes Go.WideShapes Go.Deep
section
variable{H:Type}{enc:TypeId×Value→H}{P:Program}{w:World}{base:Nat}{spare:Nat→Bool}{held:Bool}
end
end Go.Gx
namespace Go.Gx
open Go.RowKit Go.ChangeShapes Go.WideShapes Go.Deep
section
variable{H:Type}{enc:TypeId×Value→H}{P:Program}{w:World}{base:Nat}{spare:Nat→Bool}{held:Bool}
end
end Go.Gx

namespace Go.Gx
open Go.RowKit Go.ChangeShapes Go.WideShapes Go.Deep
section
variable{H:Type}{enc:TypeId×Value→H}{P:Program}{w:World}{base:Nat}{spare:Nat→Bool}{held:Bool}
theorem Qwb{n:Int}(h:(Lit.int .i16 n).wf=true): -32768≤n∧n≤32767:=by
 have h1:IntKind.i16.min≤n∧n≤IntKind.i16.max:=by simpa [Lit.wf] using h
 have e1:IntKind.i16.min= -32768:=by decide
 have e2:IntKind.i16.max=32767:=by decide
 omega
theorem Qmg{t:TypeId}{fuel:Nat}{n:Int}{x:DataW H×List MemPlace}(ht:P.underlying t=some (.int .i16))(h:DataW.trod enc P w base spare held fuel t [.int .i16 n]=some x): -32768≤n∧n≤32767:=by
 obtain⟨m,e,_,hw⟩:=DataW.trod_int ht h
 simp at e
 subst e
 exact Qwb hw
end
end Go.Gx
