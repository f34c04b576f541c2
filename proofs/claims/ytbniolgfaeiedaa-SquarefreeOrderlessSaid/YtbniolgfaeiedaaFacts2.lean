/- Closed facts on the types and functions of the program, more of them. -/
import Derived.Test.YtbniolgfaeiedaaFacts
namespace Go.Proofs.Ytbniolgfaeiedaa
open Go.Gx
theorem call14 : Callable Try.prog 14 := callable_of Try.func14 (by kernel_rfl) (by kernel_rfl)
end Go.Proofs.Ytbniolgfaeiedaa
