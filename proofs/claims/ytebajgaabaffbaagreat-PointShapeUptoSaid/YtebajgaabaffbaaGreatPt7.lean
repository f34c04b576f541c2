/-
  Points: boxes and normal forms.
-/
import Derived.Test.YtebajgaabaffbaaGreatPt6
import Derived.Test.YtebajgaabaffbaaGreatLibB
import Derived.Test.YtebajgaabaffbaaGreatFacts2
namespace Go.Proofs.YtebajgaabaffbaaGreat
open Go.RowKit Go.Gx Tryz
end Go.Proofs.YtebajgaabaffbaaGreat

