/- Closed facts on the types and functions of the program. -/
import Derived.Test.YtebajgaabaffbaaGreatProg
import Derived.Test.YtebajgaabaffbaaGreatLibA
namespace Go.Proofs.YtebajgaabaffbaaGreat
open Go.Gx
theorem mixed : Tryz.prog.follows .mixedOrders = true := by kernel_rfl
theorem agg109 : aggB Tryz.prog 109 = true := by kernel_rfl
theorem agg115 : aggB Tryz.prog 115 = true := by kernel_rfl
theorem agg25 : aggB Tryz.prog 25 = true := by kernel_rfl
theorem agg28 : aggB Tryz.prog 28 = true := by kernel_rfl
theorem agg34 : aggB Tryz.prog 34 = true := by kernel_rfl
theorem agg36 : aggB Tryz.prog 36 = true := by kernel_rfl
theorem agg45 : aggB Tryz.prog 45 = true := by kernel_rfl
theorem agg47 : aggB Tryz.prog 47 = true := by kernel_rfl
theorem call10 : Callable Tryz.prog 10 := callable_of Tryz.func10 (by kernel_rfl) (by kernel_rfl)
theorem call100 : Callable Tryz.prog 100 := callable_of Tryz.func100 (by kernel_rfl) (by kernel_rfl)
theorem call101 : Callable Tryz.prog 101 := callable_of Tryz.func101 (by kernel_rfl) (by kernel_rfl)
theorem call102 : Callable Tryz.prog 102 := callable_of Tryz.func102 (by kernel_rfl) (by kernel_rfl)
theorem call103 : Callable Tryz.prog 103 := callable_of Tryz.func103 (by kernel_rfl) (by kernel_rfl)
theorem call104 : Callable Tryz.prog 104 := callable_of Tryz.func104 (by kernel_rfl) (by kernel_rfl)
theorem call105 : Callable Tryz.prog 105 := callable_of Tryz.func105 (by kernel_rfl) (by kernel_rfl)
theorem call108 : Callable Tryz.prog 108 := callable_of Tryz.func108 (by kernel_rfl) (by kernel_rfl)
theorem call109 : Callable Tryz.prog 109 := callable_of Tryz.func109 (by kernel_rfl) (by kernel_rfl)
theorem call11 : Callable Tryz.prog 11 := callable_of Tryz.func11 (by kernel_rfl) (by kernel_rfl)
theorem call110 : Callable Tryz.prog 110 := callable_of Tryz.func110 (by kernel_rfl) (by kernel_rfl)
theorem call111 : Callable Tryz.prog 111 := callable_of Tryz.func111 (by kernel_rfl) (by kernel_rfl)
theorem call112 : Callable Tryz.prog 112 := callable_of Tryz.func112 (by kernel_rfl) (by kernel_rfl)
theorem call113 : Callable Tryz.prog 113 := callable_of Tryz.func113 (by kernel_rfl) (by kernel_rfl)
theorem call114 : Callable Tryz.prog 114 := callable_of Tryz.func114 (by kernel_rfl) (by kernel_rfl)
theorem call115 : Callable Tryz.prog 115 := callable_of Tryz.func115 (by kernel_rfl) (by kernel_rfl)
theorem call116 : Callable Tryz.prog 116 := callable_of Tryz.func116 (by kernel_rfl) (by kernel_rfl)
theorem call117 : Callable Tryz.prog 117 := callable_of Tryz.func117 (by kernel_rfl) (by kernel_rfl)
theorem call12 : Callable Tryz.prog 12 := callable_of Tryz.func12 (by kernel_rfl) (by kernel_rfl)
theorem call120 : Callable Tryz.prog 120 := callable_of Tryz.func120 (by kernel_rfl) (by kernel_rfl)
theorem call121 : Callable Tryz.prog 121 := callable_of Tryz.func121 (by kernel_rfl) (by kernel_rfl)
theorem call122 : Callable Tryz.prog 122 := callable_of Tryz.func122 (by kernel_rfl) (by kernel_rfl)
theorem call123 : Callable Tryz.prog 123 := callable_of Tryz.func123 (by kernel_rfl) (by kernel_rfl)
theorem call124 : Callable Tryz.prog 124 := callable_of Tryz.func124 (by kernel_rfl) (by kernel_rfl)
theorem call125 : Callable Tryz.prog 125 := callable_of Tryz.func125 (by kernel_rfl) (by kernel_rfl)
theorem call126 : Callable Tryz.prog 126 := callable_of Tryz.func126 (by kernel_rfl) (by kernel_rfl)
theorem call127 : Callable Tryz.prog 127 := callable_of Tryz.func127 (by kernel_rfl) (by kernel_rfl)
theorem call129 : Callable Tryz.prog 129 := callable_of Tryz.func129 (by kernel_rfl) (by kernel_rfl)
theorem call130 : Callable Tryz.prog 130 := callable_of Tryz.func130 (by kernel_rfl) (by kernel_rfl)
theorem call131 : Callable Tryz.prog 131 := callable_of Tryz.func131 (by kernel_rfl) (by kernel_rfl)
theorem call132 : Callable Tryz.prog 132 := callable_of Tryz.func132 (by kernel_rfl) (by kernel_rfl)
theorem call14 : Callable Tryz.prog 14 := callable_of Tryz.func14 (by kernel_rfl) (by kernel_rfl)
theorem call142 : Callable Tryz.prog 142 := callable_of Tryz.func142 (by kernel_rfl) (by kernel_rfl)
theorem call15 : Callable Tryz.prog 15 := callable_of Tryz.func15 (by kernel_rfl) (by kernel_rfl)
theorem call19 : Callable Tryz.prog 19 := callable_of Tryz.func19 (by kernel_rfl) (by kernel_rfl)
theorem call20 : Callable Tryz.prog 20 := callable_of Tryz.func20 (by kernel_rfl) (by kernel_rfl)
theorem call21 : Callable Tryz.prog 21 := callable_of Tryz.func21 (by kernel_rfl) (by kernel_rfl)
theorem call22 : Callable Tryz.prog 22 := callable_of Tryz.func22 (by kernel_rfl) (by kernel_rfl)
theorem call23 : Callable Tryz.prog 23 := callable_of Tryz.func23 (by kernel_rfl) (by kernel_rfl)
theorem call24 : Callable Tryz.prog 24 := callable_of Tryz.func24 (by kernel_rfl) (by kernel_rfl)
theorem call28 : Callable Tryz.prog 28 := callable_of Tryz.func28 (by kernel_rfl) (by kernel_rfl)
theorem call36 : Callable Tryz.prog 36 := callable_of Tryz.func36 (by kernel_rfl) (by kernel_rfl)
theorem call40 : Callable Tryz.prog 40 := callable_of Tryz.func40 (by kernel_rfl) (by kernel_rfl)
theorem call41 : Callable Tryz.prog 41 := callable_of Tryz.func41 (by kernel_rfl) (by kernel_rfl)
theorem call42 : Callable Tryz.prog 42 := callable_of Tryz.func42 (by kernel_rfl) (by kernel_rfl)
theorem call50 : Callable Tryz.prog 50 := callable_of Tryz.func50 (by kernel_rfl) (by kernel_rfl)
theorem call51 : Callable Tryz.prog 51 := callable_of Tryz.func51 (by kernel_rfl) (by kernel_rfl)
theorem call52 : Callable Tryz.prog 52 := callable_of Tryz.func52 (by kernel_rfl) (by kernel_rfl)
theorem call53 : Callable Tryz.prog 53 := callable_of Tryz.func53 (by kernel_rfl) (by kernel_rfl)
theorem call54 : Callable Tryz.prog 54 := callable_of Tryz.func54 (by kernel_rfl) (by kernel_rfl)
theorem call55 : Callable Tryz.prog 55 := callable_of Tryz.func55 (by kernel_rfl) (by kernel_rfl)
theorem call56 : Callable Tryz.prog 56 := callable_of Tryz.func56 (by kernel_rfl) (by kernel_rfl)
theorem call57 : Callable Tryz.prog 57 := callable_of Tryz.func57 (by kernel_rfl) (by kernel_rfl)
theorem call58 : Callable Tryz.prog 58 := callable_of Tryz.func58 (by kernel_rfl) (by kernel_rfl)
theorem call59 : Callable Tryz.prog 59 := callable_of Tryz.func59 (by kernel_rfl) (by kernel_rfl)
theorem call61 : Callable Tryz.prog 61 := callable_of Tryz.func61 (by kernel_rfl) (by kernel_rfl)
theorem call65 : Callable Tryz.prog 65 := callable_of Tryz.func65 (by kernel_rfl) (by kernel_rfl)
theorem call66 : Callable Tryz.prog 66 := callable_of Tryz.func66 (by kernel_rfl) (by kernel_rfl)
theorem call70 : Callable Tryz.prog 70 := callable_of Tryz.func70 (by kernel_rfl) (by kernel_rfl)
theorem call71 : Callable Tryz.prog 71 := callable_of Tryz.func71 (by kernel_rfl) (by kernel_rfl)
theorem call72 : Callable Tryz.prog 72 := callable_of Tryz.func72 (by kernel_rfl) (by kernel_rfl)
theorem call73 : Callable Tryz.prog 73 := callable_of Tryz.func73 (by kernel_rfl) (by kernel_rfl)
theorem call74 : Callable Tryz.prog 74 := callable_of Tryz.func74 (by kernel_rfl) (by kernel_rfl)
theorem call75 : Callable Tryz.prog 75 := callable_of Tryz.func75 (by kernel_rfl) (by kernel_rfl)
theorem call78 : Callable Tryz.prog 78 := callable_of Tryz.func78 (by kernel_rfl) (by kernel_rfl)
theorem call79 : Callable Tryz.prog 79 := callable_of Tryz.func79 (by kernel_rfl) (by kernel_rfl)
theorem call80 : Callable Tryz.prog 80 := callable_of Tryz.func80 (by kernel_rfl) (by kernel_rfl)
theorem call81 : Callable Tryz.prog 81 := callable_of Tryz.func81 (by kernel_rfl) (by kernel_rfl)
theorem call82 : Callable Tryz.prog 82 := callable_of Tryz.func82 (by kernel_rfl) (by kernel_rfl)
theorem call83 : Callable Tryz.prog 83 := callable_of Tryz.func83 (by kernel_rfl) (by kernel_rfl)
theorem call84 : Callable Tryz.prog 84 := callable_of Tryz.func84 (by kernel_rfl) (by kernel_rfl)
theorem call86 : Callable Tryz.prog 86 := callable_of Tryz.func86 (by kernel_rfl) (by kernel_rfl)
theorem call87 : Callable Tryz.prog 87 := callable_of Tryz.func87 (by kernel_rfl) (by kernel_rfl)
theorem call93 : Callable Tryz.prog 93 := callable_of Tryz.func93 (by kernel_rfl) (by kernel_rfl)
theorem call94 : Callable Tryz.prog 94 := callable_of Tryz.func94 (by kernel_rfl) (by kernel_rfl)
theorem call95 : Callable Tryz.prog 95 := callable_of Tryz.func95 (by kernel_rfl) (by kernel_rfl)
theorem call96 : Callable Tryz.prog 96 := callable_of Tryz.func96 (by kernel_rfl) (by kernel_rfl)
theorem call97 : Callable Tryz.prog 97 := callable_of Tryz.func97 (by kernel_rfl) (by kernel_rfl)
theorem call98 : Callable Tryz.prog 98 := callable_of Tryz.func98 (by kernel_rfl) (by kernel_rfl)
theorem call99 : Callable Tryz.prog 99 := callable_of Tryz.func99 (by kernel_rfl) (by kernel_rfl)
theorem fa113_0 : ∀ a w, (Instr.fieldAt 113 (.pointer (some a)) 0).run Tryz.prog w = .ok (.pointer (some (a.add 0))) w := fun _ _ => by kernel_rfl
theorem fa113_1 : ∀ a w, (Instr.fieldAt 113 (.pointer (some a)) 1).run Tryz.prog w = .ok (.pointer (some (a.add 1))) w := fun _ _ => by kernel_rfl
theorem fa115_0 : ∀ a w, (Instr.fieldAt 115 (.pointer (some a)) 0).run Tryz.prog w = .ok (.pointer (some (a.add 0))) w := fun _ _ => by kernel_rfl
theorem fa115_1 : ∀ a w, (Instr.fieldAt 115 (.pointer (some a)) 1).run Tryz.prog w = .ok (.pointer (some (a.add 2))) w := fun _ _ => by kernel_rfl
theorem fa164_0 : ∀ a w, (Instr.fieldAt 164 (.pointer (some a)) 0).run Tryz.prog w = .ok (.pointer (some (a.add 0))) w := fun _ _ => by kernel_rfl
theorem fa164_1 : ∀ a w, (Instr.fieldAt 164 (.pointer (some a)) 1).run Tryz.prog w = .ok (.pointer (some (a.add 1))) w := fun _ _ => by kernel_rfl
theorem fa28_0 : ∀ a w, (Instr.fieldAt 28 (.pointer (some a)) 0).run Tryz.prog w = .ok (.pointer (some (a.add 0))) w := fun _ _ => by kernel_rfl
theorem fa28_1 : ∀ a w, (Instr.fieldAt 28 (.pointer (some a)) 1).run Tryz.prog w = .ok (.pointer (some (a.add 1))) w := fun _ _ => by kernel_rfl
theorem fa34_0 : ∀ a w, (Instr.fieldAt 34 (.pointer (some a)) 0).run Tryz.prog w = .ok (.pointer (some (a.add 0))) w := fun _ _ => by kernel_rfl
theorem fa34_1 : ∀ a w, (Instr.fieldAt 34 (.pointer (some a)) 1).run Tryz.prog w = .ok (.pointer (some (a.add 1))) w := fun _ _ => by kernel_rfl
theorem fa36_0 : ∀ a w, (Instr.fieldAt 36 (.pointer (some a)) 0).run Tryz.prog w = .ok (.pointer (some (a.add 0))) w := fun _ _ => by kernel_rfl
theorem fa36_1 : ∀ a w, (Instr.fieldAt 36 (.pointer (some a)) 1).run Tryz.prog w = .ok (.pointer (some (a.add 2))) w := fun _ _ => by kernel_rfl
theorem fa45_0 : ∀ a w, (Instr.fieldAt 45 (.pointer (some a)) 0).run Tryz.prog w = .ok (.pointer (some (a.add 0))) w := fun _ _ => by kernel_rfl
theorem fa45_1 : ∀ a w, (Instr.fieldAt 45 (.pointer (some a)) 1).run Tryz.prog w = .ok (.pointer (some (a.add 1))) w := fun _ _ => by kernel_rfl
theorem fa45_2 : ∀ a w, (Instr.fieldAt 45 (.pointer (some a)) 2).run Tryz.prog w = .ok (.pointer (some (a.add 3))) w := fun _ _ => by kernel_rfl
theorem fa47_0 : ∀ a w, (Instr.fieldAt 47 (.pointer (some a)) 0).run Tryz.prog w = .ok (.pointer (some (a.add 0))) w := fun _ _ => by kernel_rfl
theorem fa47_1 : ∀ a w, (Instr.fieldAt 47 (.pointer (some a)) 1).run Tryz.prog w = .ok (.pointer (some (a.add 4))) w := fun _ _ => by kernel_rfl
theorem fa47_2 : ∀ a w, (Instr.fieldAt 47 (.pointer (some a)) 2).run Tryz.prog w = .ok (.pointer (some (a.add 7))) w := fun _ _ => by kernel_rfl
theorem inf115 : (Tryz.prog.info? 115).map (fun i => (i.zero, i.size, i.bytes)) = some (some (.agg #[(.bool false), (.slice none 0 0), (.int .i64 (0)), (.int .i64 (0)), (.int .i64 (0)), (.int .i64 (0))]), 6, 64) := by kernel_rfl
theorem inf138 : (Tryz.prog.info? 138).map (fun i => (i.zero, i.size, i.bytes)) = some (some (.int .u32 (0)), 1, 4) := by kernel_rfl
theorem inf36 : (Tryz.prog.info? 36).map (fun i => (i.zero, i.size, i.bytes)) = some (some (.agg #[(.bool false), (.slice none 0 0), (.slice none 0 0)]), 3, 56) := by kernel_rfl
theorem inf45 : (Tryz.prog.info? 45).map (fun i => (i.zero, i.size, i.bytes)) = some (some (.agg #[(.int .i64 (0)), (.bool false), (.slice none 0 0), (.slice none 0 0)]), 4, 64) := by kernel_rfl
theorem inf47 : (Tryz.prog.info? 47).map (fun i => (i.zero, i.size, i.bytes)) = some (some (.agg #[(.int .i64 (0)), (.bool false), (.slice none 0 0), (.slice none 0 0), (.bool false), (.slice none 0 0), (.slice none 0 0), (.bool false), (.slice none 0 0), (.slice none 0 0)]), 10, 176) := by kernel_rfl
theorem one138 : oneB Tryz.prog 138 = true := by kernel_rfl
theorem one162 : oneB Tryz.prog 162 = true := by kernel_rfl
theorem one23 : oneB Tryz.prog 23 = true := by kernel_rfl
theorem one24 : oneB Tryz.prog 24 = true := by kernel_rfl
theorem one3 : oneB Tryz.prog 3 = true := by kernel_rfl
theorem one32 : oneB Tryz.prog 32 = true := by kernel_rfl
theorem one4 : oneB Tryz.prog 4 = true := by kernel_rfl
theorem one43 : oneB Tryz.prog 43 = true := by kernel_rfl
theorem one5 : oneB Tryz.prog 5 = true := by kernel_rfl
theorem one59 : oneB Tryz.prog 59 = true := by kernel_rfl
theorem sz109 : ∀ w, (sizeOf 109).run Tryz.prog w = .ok 4 w := fun _ => by kernel_rfl
theorem sz113 : ∀ w, (sizeOf 113).run Tryz.prog w = .ok 5 w := fun _ => by kernel_rfl
theorem sz115 : ∀ w, (sizeOf 115).run Tryz.prog w = .ok 6 w := fun _ => by kernel_rfl
theorem sz138 : ∀ w, (sizeOf 138).run Tryz.prog w = .ok 1 w := fun _ => by kernel_rfl
theorem sz24 : ∀ w, (sizeOf 24).run Tryz.prog w = .ok 1 w := fun _ => by kernel_rfl
theorem sz25 : ∀ w, (sizeOf 25).run Tryz.prog w = .ok 2 w := fun _ => by kernel_rfl
theorem sz28 : ∀ w, (sizeOf 28).run Tryz.prog w = .ok 5 w := fun _ => by kernel_rfl
theorem sz3 : ∀ w, (sizeOf 3).run Tryz.prog w = .ok 1 w := fun _ => by kernel_rfl
theorem sz34 : ∀ w, (sizeOf 34).run Tryz.prog w = .ok 2 w := fun _ => by kernel_rfl
theorem sz36 : ∀ w, (sizeOf 36).run Tryz.prog w = .ok 3 w := fun _ => by kernel_rfl
theorem sz45 : ∀ w, (sizeOf 45).run Tryz.prog w = .ok 4 w := fun _ => by kernel_rfl
theorem sz47 : ∀ w, (sizeOf 47).run Tryz.prog w = .ok 10 w := fun _ => by kernel_rfl
theorem sz5 : ∀ w, (sizeOf 5).run Tryz.prog w = .ok 1 w := fun _ => by kernel_rfl
theorem sz59 : ∀ w, (sizeOf 59).run Tryz.prog w = .ok 1 w := fun _ => by kernel_rfl
theorem zero109 : ∀ w, (zeroValue 109).run Tryz.prog w = .ok (.agg #[(.int .i64 (0)), (.int .i64 (0)), (.int .i64 (0)), (.int .i64 (0))]) w := fun _ => by kernel_rfl
theorem zero115 : ∀ w, (zeroValue 115).run Tryz.prog w = .ok (.agg #[(.bool false), (.slice none 0 0), (.int .i64 (0)), (.int .i64 (0)), (.int .i64 (0)), (.int .i64 (0))]) w := fun _ => by kernel_rfl
theorem zero138 : ∀ w, (zeroValue 138).run Tryz.prog w = .ok (.int .u32 (0)) w := fun _ => by kernel_rfl
theorem zero3 : ∀ w, (zeroValue 3).run Tryz.prog w = .ok (.int .i64 (0)) w := fun _ => by kernel_rfl
theorem zero34 : ∀ w, (zeroValue 34).run Tryz.prog w = .ok (.agg #[(.bool false), (.slice none 0 0)]) w := fun _ => by kernel_rfl
theorem zero36 : ∀ w, (zeroValue 36).run Tryz.prog w = .ok (.agg #[(.bool false), (.slice none 0 0), (.slice none 0 0)]) w := fun _ => by kernel_rfl
theorem zero45 : ∀ w, (zeroValue 45).run Tryz.prog w = .ok (.agg #[(.int .i64 (0)), (.bool false), (.slice none 0 0), (.slice none 0 0)]) w := fun _ => by kernel_rfl
theorem zero47 : ∀ w, (zeroValue 47).run Tryz.prog w = .ok (.agg #[(.int .i64 (0)), (.bool false), (.slice none 0 0), (.slice none 0 0), (.bool false), (.slice none 0 0), (.slice none 0 0), (.bool false), (.slice none 0 0), (.slice none 0 0)]) w := fun _ => by kernel_rfl
theorem zero59 : ∀ w, (zeroValue 59).run Tryz.prog w = .ok (.slice none 0 0) w := fun _ => by kernel_rfl
end Go.Proofs.YtebajgaabaffbaaGreat
