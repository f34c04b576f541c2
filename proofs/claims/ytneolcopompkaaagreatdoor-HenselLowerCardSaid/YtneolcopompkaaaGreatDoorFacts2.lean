/- Closed facts on the types and functions of the program, more of them. -/
import Derived.Test.YtneolcopompkaaaGreatDoorFacts
namespace Go.Proofs.YtneolcopompkaaaGreatDoor
open Go.Gx
theorem call81 : Callable Tryz.prog 81 := callable_of Tryz.func81 (by kernel_rfl) (by kernel_rfl)
end Go.Proofs.YtneolcopompkaaaGreatDoor
