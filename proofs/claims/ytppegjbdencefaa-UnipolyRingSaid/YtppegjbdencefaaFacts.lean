/- Closed facts on the types and functions of the program. -/
import Derived.Test.YtppegjbdencefaaProg
import Derived.Test.YtppegjbdencefaaLaws
namespace Go.Proofs.Ytppegjbdencefaa
open Go.Gx
theorem mixed : Try.prog.follows .mixedOrders = true := by kernel_rfl
theorem agg46 : aggB Try.prog 46 = true := by kernel_rfl
theorem call103 : Callable Try.prog 103 := callable_of Try.func103 (by kernel_rfl) (by kernel_rfl)
theorem call110 : Callable Try.prog 110 := callable_of Try.func110 (by kernel_rfl) (by kernel_rfl)
theorem call111 : Callable Try.prog 111 := callable_of Try.func111 (by kernel_rfl) (by kernel_rfl)
theorem call112 : Callable Try.prog 112 := callable_of Try.func112 (by kernel_rfl) (by kernel_rfl)
theorem call113 : Callable Try.prog 113 := callable_of Try.func113 (by kernel_rfl) (by kernel_rfl)
theorem call116 : Callable Try.prog 116 := callable_of Try.func116 (by kernel_rfl) (by kernel_rfl)
theorem call12 : Callable Try.prog 12 := callable_of Try.func12 (by kernel_rfl) (by kernel_rfl)
theorem call124 : Callable Try.prog 124 := callable_of Try.func124 (by kernel_rfl) (by kernel_rfl)
theorem call125 : Callable Try.prog 125 := callable_of Try.func125 (by kernel_rfl) (by kernel_rfl)
theorem call13 : Callable Try.prog 13 := callable_of Try.func13 (by kernel_rfl) (by kernel_rfl)
theorem call133 : Callable Try.prog 133 := callable_of Try.func133 (by kernel_rfl) (by kernel_rfl)
theorem call18 : Callable Try.prog 18 := callable_of Try.func18 (by kernel_rfl) (by kernel_rfl)
theorem call22 : Callable Try.prog 22 := callable_of Try.func22 (by kernel_rfl) (by kernel_rfl)
theorem call23 : Callable Try.prog 23 := callable_of Try.func23 (by kernel_rfl) (by kernel_rfl)
theorem call24 : Callable Try.prog 24 := callable_of Try.func24 (by kernel_rfl) (by kernel_rfl)
theorem call25 : Callable Try.prog 25 := callable_of Try.func25 (by kernel_rfl) (by kernel_rfl)
theorem call46 : Callable Try.prog 46 := callable_of Try.func46 (by kernel_rfl) (by kernel_rfl)
theorem call48 : Callable Try.prog 48 := callable_of Try.func48 (by kernel_rfl) (by kernel_rfl)
theorem call56 : Callable Try.prog 56 := callable_of Try.func56 (by kernel_rfl) (by kernel_rfl)
theorem call62 : Callable Try.prog 62 := callable_of Try.func62 (by kernel_rfl) (by kernel_rfl)
theorem call64 : Callable Try.prog 64 := callable_of Try.func64 (by kernel_rfl) (by kernel_rfl)
theorem call67 : Callable Try.prog 67 := callable_of Try.func67 (by kernel_rfl) (by kernel_rfl)
theorem call68 : Callable Try.prog 68 := callable_of Try.func68 (by kernel_rfl) (by kernel_rfl)
theorem call69 : Callable Try.prog 69 := callable_of Try.func69 (by kernel_rfl) (by kernel_rfl)
theorem call71 : Callable Try.prog 71 := callable_of Try.func71 (by kernel_rfl) (by kernel_rfl)
theorem call72 : Callable Try.prog 72 := callable_of Try.func72 (by kernel_rfl) (by kernel_rfl)
theorem call76 : Callable Try.prog 76 := callable_of Try.func76 (by kernel_rfl) (by kernel_rfl)
theorem call82 : Callable Try.prog 82 := callable_of Try.func82 (by kernel_rfl) (by kernel_rfl)
theorem call83 : Callable Try.prog 83 := callable_of Try.func83 (by kernel_rfl) (by kernel_rfl)
theorem call88 : Callable Try.prog 88 := callable_of Try.func88 (by kernel_rfl) (by kernel_rfl)
theorem call89 : Callable Try.prog 89 := callable_of Try.func89 (by kernel_rfl) (by kernel_rfl)
theorem call90 : Callable Try.prog 90 := callable_of Try.func90 (by kernel_rfl) (by kernel_rfl)
theorem call91 : Callable Try.prog 91 := callable_of Try.func91 (by kernel_rfl) (by kernel_rfl)
theorem call94 : Callable Try.prog 94 := callable_of Try.func94 (by kernel_rfl) (by kernel_rfl)
theorem call96 : Callable Try.prog 96 := callable_of Try.func96 (by kernel_rfl) (by kernel_rfl)
theorem call99 : Callable Try.prog 99 := callable_of Try.func99 (by kernel_rfl) (by kernel_rfl)
theorem fa46_0 : ∀ a w, (Instr.fieldAt 46 (.pointer (some a)) 0).run Try.prog w = .ok (.pointer (some (a.add 0))) w := fun _ _ => by kernel_rfl
theorem fa46_1 : ∀ a w, (Instr.fieldAt 46 (.pointer (some a)) 1).run Try.prog w = .ok (.pointer (some (a.add 1))) w := fun _ _ => by kernel_rfl
theorem inf2 : (Try.prog.info? 2).map (fun i => (i.zero, i.size, i.bytes)) = some (some (.int .i64 (0)), 1, 8) := by kernel_rfl
theorem inf46 : (Try.prog.info? 46).map (fun i => (i.zero, i.size, i.bytes)) = some (some (.agg #[(.bool false), (.slice none 0 0)]), 2, 32) := by kernel_rfl
theorem inf62 : (Try.prog.info? 62).map (fun i => (i.zero, i.size, i.bytes)) = some (some (.int .u32 (0)), 1, 4) := by kernel_rfl
theorem one2 : oneB Try.prog 2 = true := by kernel_rfl
theorem one4 : oneB Try.prog 4 = true := by kernel_rfl
theorem one44 : oneB Try.prog 44 = true := by kernel_rfl
theorem one62 : oneB Try.prog 62 = true := by kernel_rfl
theorem sz2 : ∀ w, (sizeOf 2).run Try.prog w = .ok 1 w := fun _ => by kernel_rfl
theorem sz46 : ∀ w, (sizeOf 46).run Try.prog w = .ok 2 w := fun _ => by kernel_rfl
theorem sz62 : ∀ w, (sizeOf 62).run Try.prog w = .ok 1 w := fun _ => by kernel_rfl
theorem zero46 : ∀ w, (zeroValue 46).run Try.prog w = .ok (.agg #[(.bool false), (.slice none 0 0)]) w := fun _ => by kernel_rfl
theorem zero62 : ∀ w, (zeroValue 62).run Try.prog w = .ok (.int .u32 (0)) w := fun _ => by kernel_rfl
end Go.Proofs.Ytppegjbdencefaa
