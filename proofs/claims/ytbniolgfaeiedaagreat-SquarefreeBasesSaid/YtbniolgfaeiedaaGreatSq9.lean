/-
  Walks of packages unidiv, squarefree: divisibility, multiplicities.
-/
import Derived.Test.YtbniolgfaeiedaaGreatSq3
import Derived.Test.YtbniolgfaeiedaaGreatSq4
import Derived.Test.YtbniolgfaeiedaaGreatLibB
namespace Go.Proofs.YtbniolgfaeiedaaGreat
open Go.RowKit Go.Gx
end Go.Proofs.YtbniolgfaeiedaaGreat
