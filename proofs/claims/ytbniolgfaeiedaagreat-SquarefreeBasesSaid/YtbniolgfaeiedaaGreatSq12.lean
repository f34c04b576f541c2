/-
  Walk of package squarefree: products of powers of factors; the law's own normal.
-/
import Derived.Test.YtbniolgfaeiedaaGreatSq11
import Derived.Test.YtbniolgfaeiedaaGreatLibB
namespace Go.Proofs.YtbniolgfaeiedaaGreat
open Go.RowKit Go.Gx
end Go.Proofs.YtbniolgfaeiedaaGreat
