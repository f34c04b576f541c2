/- Closed facts on the types and functions of the program, more of them. -/
import Derived.Test.YtbniolgfaeiedaaGreatFacts
namespace Go.Proofs.YtbniolgfaeiedaaGreat
open Go.Gx
end Go.Proofs.YtbniolgfaeiedaaGreat
