/- Closed facts on the types and functions of the program, more of them. -/
import Derived.Test.YtebajgaabaffbaaGreatFacts
namespace Go.Proofs.YtebajgaabaffbaaGreat
open Go.Gx
theorem call118 : Callable Tryz.prog 118 := callable_of Tryz.func118 (by kernel_rfl) (by kernel_rfl)
theorem call128 : Callable Tryz.prog 128 := callable_of Tryz.func128 (by kernel_rfl) (by kernel_rfl)
theorem inf3 : (Tryz.prog.info? 3).map (fun i => (i.zero, i.size, i.bytes)) = some (some (.int .i64 (0)), 1, 8) := by kernel_rfl
end Go.Proofs.YtebajgaabaffbaaGreat
