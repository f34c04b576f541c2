/-
  AmRow2
-/
import Derived.Test.YtjdpemcnlejpfaaGreatDoorAmRow
import Derived.Test.YtjdpemcnlejpfaaGreatDoorAmI
import Derived.Test.YtjdpemcnlejpfaaGreatDoorNatMath
set_option linter.all false
namespace Go.Am
open Go.RowKit Go.Gx
end Go.Am
