/-
  Open16
-/
import Derived.Test.YtjdpemcnlejpfaaGreatDoorOpen
import Derived.Test.YtjdpemcnlejpfaaGreatDoorSqPreds
import Derived.OpenShut
set_option linter.all false
namespace Go.Gx
open Go.RowKit Go.ChangeShapes Go.WideShapes Go.Deep
section
variable{H:Type}{enc:TypeId×Value→H}{P:Program}{w:World}{base:Nat}{spare:Nat→Bool}{held:Bool}
theorem Quh{t:TypeId}{fuel:Nat}{n:Int}{x:DataW H×List MemPlace}(ht:P.underlying t=some (.int .u8))(h:DataW.trod enc P w base spare held fuel t [.int .u8 n]=some x): ∃y:Nat,n=(y:Int)∧y<256:=by
  obtain⟨m,e,_,hw⟩:=DataW.trod_int ht h
  simp at e
  subst e
  have h1:IntKind.u8.min≤n∧n≤IntKind.u8.max:=by simpa [Lit.wf] using hw
  have e1:IntKind.u8.min=0:=by decide
  have e2:IntKind.u8.max=255:=by decide
  exact⟨n.toNat,by omega,by omega⟩
end
end Go.Gx
