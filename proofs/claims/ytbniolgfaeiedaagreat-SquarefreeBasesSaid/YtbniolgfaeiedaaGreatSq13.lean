/-
  Walk of package squarefree: exponents over a basis.
-/
import Derived.Test.YtbniolgfaeiedaaGreatSq9
import Derived.Test.YtbniolgfaeiedaaGreatSq10
import Derived.Test.YtbniolgfaeiedaaGreatLibB
namespace Go.Proofs.YtbniolgfaeiedaaGreat
open Go.RowKit Go.Gx
end Go.Proofs.YtbniolgfaeiedaaGreat
