/- Closed facts on the types and functions of the program. -/
import Derived.Test.YtbniolgfaeiedaaProg
import Derived.Test.YtbniolgfaeiedaaLibA
namespace Go.Proofs.Ytbniolgfaeiedaa
open Go.Gx
theorem mixed : Try.prog.follows .mixedOrders = true := by kernel_rfl
theorem agg23 : aggB Try.prog 23 = true := by kernel_rfl
theorem agg40 : aggB Try.prog 40 = true := by kernel_rfl
theorem agg54 : aggB Try.prog 54 = true := by kernel_rfl
theorem call10 : Callable Try.prog 10 := callable_of Try.func10 (by kernel_rfl) (by kernel_rfl)
theorem call100 : Callable Try.prog 100 := callable_of Try.func100 (by kernel_rfl) (by kernel_rfl)
theorem call11 : Callable Try.prog 11 := callable_of Try.func11 (by kernel_rfl) (by kernel_rfl)
theorem call12 : Callable Try.prog 12 := callable_of Try.func12 (by kernel_rfl) (by kernel_rfl)
theorem call13 : Callable Try.prog 13 := callable_of Try.func13 (by kernel_rfl) (by kernel_rfl)
theorem call15 : Callable Try.prog 15 := callable_of Try.func15 (by kernel_rfl) (by kernel_rfl)
theorem call16 : Callable Try.prog 16 := callable_of Try.func16 (by kernel_rfl) (by kernel_rfl)
theorem call17 : Callable Try.prog 17 := callable_of Try.func17 (by kernel_rfl) (by kernel_rfl)
theorem call18 : Callable Try.prog 18 := callable_of Try.func18 (by kernel_rfl) (by kernel_rfl)
theorem call19 : Callable Try.prog 19 := callable_of Try.func19 (by kernel_rfl) (by kernel_rfl)
theorem call20 : Callable Try.prog 20 := callable_of Try.func20 (by kernel_rfl) (by kernel_rfl)
theorem call21 : Callable Try.prog 21 := callable_of Try.func21 (by kernel_rfl) (by kernel_rfl)
theorem call22 : Callable Try.prog 22 := callable_of Try.func22 (by kernel_rfl) (by kernel_rfl)
theorem call23 : Callable Try.prog 23 := callable_of Try.func23 (by kernel_rfl) (by kernel_rfl)
theorem call24 : Callable Try.prog 24 := callable_of Try.func24 (by kernel_rfl) (by kernel_rfl)
theorem call25 : Callable Try.prog 25 := callable_of Try.func25 (by kernel_rfl) (by kernel_rfl)
theorem call26 : Callable Try.prog 26 := callable_of Try.func26 (by kernel_rfl) (by kernel_rfl)
theorem call27 : Callable Try.prog 27 := callable_of Try.func27 (by kernel_rfl) (by kernel_rfl)
theorem call28 : Callable Try.prog 28 := callable_of Try.func28 (by kernel_rfl) (by kernel_rfl)
theorem call29 : Callable Try.prog 29 := callable_of Try.func29 (by kernel_rfl) (by kernel_rfl)
theorem call3 : Callable Try.prog 3 := callable_of Try.func3 (by kernel_rfl) (by kernel_rfl)
theorem call31 : Callable Try.prog 31 := callable_of Try.func31 (by kernel_rfl) (by kernel_rfl)
theorem call32 : Callable Try.prog 32 := callable_of Try.func32 (by kernel_rfl) (by kernel_rfl)
theorem call33 : Callable Try.prog 33 := callable_of Try.func33 (by kernel_rfl) (by kernel_rfl)
theorem call34 : Callable Try.prog 34 := callable_of Try.func34 (by kernel_rfl) (by kernel_rfl)
theorem call35 : Callable Try.prog 35 := callable_of Try.func35 (by kernel_rfl) (by kernel_rfl)
theorem call36 : Callable Try.prog 36 := callable_of Try.func36 (by kernel_rfl) (by kernel_rfl)
theorem call37 : Callable Try.prog 37 := callable_of Try.func37 (by kernel_rfl) (by kernel_rfl)
theorem call38 : Callable Try.prog 38 := callable_of Try.func38 (by kernel_rfl) (by kernel_rfl)
theorem call39 : Callable Try.prog 39 := callable_of Try.func39 (by kernel_rfl) (by kernel_rfl)
theorem call4 : Callable Try.prog 4 := callable_of Try.func4 (by kernel_rfl) (by kernel_rfl)
theorem call40 : Callable Try.prog 40 := callable_of Try.func40 (by kernel_rfl) (by kernel_rfl)
theorem call41 : Callable Try.prog 41 := callable_of Try.func41 (by kernel_rfl) (by kernel_rfl)
theorem call42 : Callable Try.prog 42 := callable_of Try.func42 (by kernel_rfl) (by kernel_rfl)
theorem call43 : Callable Try.prog 43 := callable_of Try.func43 (by kernel_rfl) (by kernel_rfl)
theorem call44 : Callable Try.prog 44 := callable_of Try.func44 (by kernel_rfl) (by kernel_rfl)
theorem call45 : Callable Try.prog 45 := callable_of Try.func45 (by kernel_rfl) (by kernel_rfl)
theorem call5 : Callable Try.prog 5 := callable_of Try.func5 (by kernel_rfl) (by kernel_rfl)
theorem call54 : Callable Try.prog 54 := callable_of Try.func54 (by kernel_rfl) (by kernel_rfl)
theorem call55 : Callable Try.prog 55 := callable_of Try.func55 (by kernel_rfl) (by kernel_rfl)
theorem call56 : Callable Try.prog 56 := callable_of Try.func56 (by kernel_rfl) (by kernel_rfl)
theorem call57 : Callable Try.prog 57 := callable_of Try.func57 (by kernel_rfl) (by kernel_rfl)
theorem call58 : Callable Try.prog 58 := callable_of Try.func58 (by kernel_rfl) (by kernel_rfl)
theorem call59 : Callable Try.prog 59 := callable_of Try.func59 (by kernel_rfl) (by kernel_rfl)
theorem call6 : Callable Try.prog 6 := callable_of Try.func6 (by kernel_rfl) (by kernel_rfl)
theorem call60 : Callable Try.prog 60 := callable_of Try.func60 (by kernel_rfl) (by kernel_rfl)
theorem call61 : Callable Try.prog 61 := callable_of Try.func61 (by kernel_rfl) (by kernel_rfl)
theorem call62 : Callable Try.prog 62 := callable_of Try.func62 (by kernel_rfl) (by kernel_rfl)
theorem call63 : Callable Try.prog 63 := callable_of Try.func63 (by kernel_rfl) (by kernel_rfl)
theorem call64 : Callable Try.prog 64 := callable_of Try.func64 (by kernel_rfl) (by kernel_rfl)
theorem call65 : Callable Try.prog 65 := callable_of Try.func65 (by kernel_rfl) (by kernel_rfl)
theorem call66 : Callable Try.prog 66 := callable_of Try.func66 (by kernel_rfl) (by kernel_rfl)
theorem call67 : Callable Try.prog 67 := callable_of Try.func67 (by kernel_rfl) (by kernel_rfl)
theorem call68 : Callable Try.prog 68 := callable_of Try.func68 (by kernel_rfl) (by kernel_rfl)
theorem call69 : Callable Try.prog 69 := callable_of Try.func69 (by kernel_rfl) (by kernel_rfl)
theorem call7 : Callable Try.prog 7 := callable_of Try.func7 (by kernel_rfl) (by kernel_rfl)
theorem call70 : Callable Try.prog 70 := callable_of Try.func70 (by kernel_rfl) (by kernel_rfl)
theorem call76 : Callable Try.prog 76 := callable_of Try.func76 (by kernel_rfl) (by kernel_rfl)
theorem call77 : Callable Try.prog 77 := callable_of Try.func77 (by kernel_rfl) (by kernel_rfl)
theorem call78 : Callable Try.prog 78 := callable_of Try.func78 (by kernel_rfl) (by kernel_rfl)
theorem call79 : Callable Try.prog 79 := callable_of Try.func79 (by kernel_rfl) (by kernel_rfl)
theorem call8 : Callable Try.prog 8 := callable_of Try.func8 (by kernel_rfl) (by kernel_rfl)
theorem call80 : Callable Try.prog 80 := callable_of Try.func80 (by kernel_rfl) (by kernel_rfl)
theorem call81 : Callable Try.prog 81 := callable_of Try.func81 (by kernel_rfl) (by kernel_rfl)
theorem call82 : Callable Try.prog 82 := callable_of Try.func82 (by kernel_rfl) (by kernel_rfl)
theorem call84 : Callable Try.prog 84 := callable_of Try.func84 (by kernel_rfl) (by kernel_rfl)
theorem call85 : Callable Try.prog 85 := callable_of Try.func85 (by kernel_rfl) (by kernel_rfl)
theorem call86 : Callable Try.prog 86 := callable_of Try.func86 (by kernel_rfl) (by kernel_rfl)
theorem call87 : Callable Try.prog 87 := callable_of Try.func87 (by kernel_rfl) (by kernel_rfl)
theorem call88 : Callable Try.prog 88 := callable_of Try.func88 (by kernel_rfl) (by kernel_rfl)
theorem call89 : Callable Try.prog 89 := callable_of Try.func89 (by kernel_rfl) (by kernel_rfl)
theorem call9 : Callable Try.prog 9 := callable_of Try.func9 (by kernel_rfl) (by kernel_rfl)
theorem call90 : Callable Try.prog 90 := callable_of Try.func90 (by kernel_rfl) (by kernel_rfl)
theorem call91 : Callable Try.prog 91 := callable_of Try.func91 (by kernel_rfl) (by kernel_rfl)
theorem call92 : Callable Try.prog 92 := callable_of Try.func92 (by kernel_rfl) (by kernel_rfl)
theorem call93 : Callable Try.prog 93 := callable_of Try.func93 (by kernel_rfl) (by kernel_rfl)
theorem call94 : Callable Try.prog 94 := callable_of Try.func94 (by kernel_rfl) (by kernel_rfl)
theorem call95 : Callable Try.prog 95 := callable_of Try.func95 (by kernel_rfl) (by kernel_rfl)
theorem call96 : Callable Try.prog 96 := callable_of Try.func96 (by kernel_rfl) (by kernel_rfl)
theorem call97 : Callable Try.prog 97 := callable_of Try.func97 (by kernel_rfl) (by kernel_rfl)
theorem call98 : Callable Try.prog 98 := callable_of Try.func98 (by kernel_rfl) (by kernel_rfl)
theorem call99 : Callable Try.prog 99 := callable_of Try.func99 (by kernel_rfl) (by kernel_rfl)
theorem fa40_0 : ∀ a w, (Instr.fieldAt 40 (.pointer (some a)) 0).run Try.prog w = .ok (.pointer (some (a.add 0))) w := fun _ _ => by kernel_rfl
theorem fa40_1 : ∀ a w, (Instr.fieldAt 40 (.pointer (some a)) 1).run Try.prog w = .ok (.pointer (some (a.add 1))) w := fun _ _ => by kernel_rfl
theorem fa54_0 : ∀ a w, (Instr.fieldAt 54 (.pointer (some a)) 0).run Try.prog w = .ok (.pointer (some (a.add 0))) w := fun _ _ => by kernel_rfl
theorem inf2 : (Try.prog.info? 2).map (fun i => (i.zero, i.size, i.bytes)) = some (some (.int .i64 (0)), 1, 8) := by kernel_rfl
theorem inf27 : (Try.prog.info? 27).map (fun i => (i.zero, i.size, i.bytes)) = some (some (.slice none 0 0), 1, 24) := by kernel_rfl
theorem inf40 : (Try.prog.info? 40).map (fun i => (i.zero, i.size, i.bytes)) = some (some (.agg #[(.bool false), (.slice none 0 0)]), 2, 32) := by kernel_rfl
theorem inf54 : (Try.prog.info? 54).map (fun i => (i.zero, i.size, i.bytes)) = some (some (.agg #[(.slice none 0 0), (.int .i64 (0))]), 2, 32) := by kernel_rfl
theorem inf83 : (Try.prog.info? 83).map (fun i => (i.zero, i.size, i.bytes)) = some (some (.int .u32 (0)), 1, 4) := by kernel_rfl
theorem one126 : oneB Try.prog 126 = true := by kernel_rfl
theorem one2 : oneB Try.prog 2 = true := by kernel_rfl
theorem one22 : oneB Try.prog 22 = true := by kernel_rfl
theorem one24 : oneB Try.prog 24 = true := by kernel_rfl
theorem one27 : oneB Try.prog 27 = true := by kernel_rfl
theorem one29 : oneB Try.prog 29 = true := by kernel_rfl
theorem one38 : oneB Try.prog 38 = true := by kernel_rfl
theorem one4 : oneB Try.prog 4 = true := by kernel_rfl
theorem one83 : oneB Try.prog 83 = true := by kernel_rfl
theorem sz126 : ∀ w, (sizeOf 126).run Try.prog w = .ok 1 w := fun _ => by kernel_rfl
theorem sz2 : ∀ w, (sizeOf 2).run Try.prog w = .ok 1 w := fun _ => by kernel_rfl
theorem sz22 : ∀ w, (sizeOf 22).run Try.prog w = .ok 1 w := fun _ => by kernel_rfl
theorem sz23 : ∀ w, (sizeOf 23).run Try.prog w = .ok 3 w := fun _ => by kernel_rfl
theorem sz24 : ∀ w, (sizeOf 24).run Try.prog w = .ok 1 w := fun _ => by kernel_rfl
theorem sz27 : ∀ w, (sizeOf 27).run Try.prog w = .ok 1 w := fun _ => by kernel_rfl
theorem sz29 : ∀ w, (sizeOf 29).run Try.prog w = .ok 1 w := fun _ => by kernel_rfl
theorem sz38 : ∀ w, (sizeOf 38).run Try.prog w = .ok 1 w := fun _ => by kernel_rfl
theorem sz4 : ∀ w, (sizeOf 4).run Try.prog w = .ok 1 w := fun _ => by kernel_rfl
theorem sz40 : ∀ w, (sizeOf 40).run Try.prog w = .ok 2 w := fun _ => by kernel_rfl
theorem sz54 : ∀ w, (sizeOf 54).run Try.prog w = .ok 2 w := fun _ => by kernel_rfl
theorem sz83 : ∀ w, (sizeOf 83).run Try.prog w = .ok 1 w := fun _ => by kernel_rfl
theorem zero27 : ∀ w, (zeroValue 27).run Try.prog w = .ok (.slice none 0 0) w := fun _ => by kernel_rfl
theorem zero29 : ∀ w, (zeroValue 29).run Try.prog w = .ok (.slice none 0 0) w := fun _ => by kernel_rfl
theorem zero40 : ∀ w, (zeroValue 40).run Try.prog w = .ok (.agg #[(.bool false), (.slice none 0 0)]) w := fun _ => by kernel_rfl
theorem zero54 : ∀ w, (zeroValue 54).run Try.prog w = .ok (.agg #[(.slice none 0 0), (.int .i64 (0))]) w := fun _ => by kernel_rfl
theorem zero83 : ∀ w, (zeroValue 83).run Try.prog w = .ok (.int .u32 (0)) w := fun _ => by kernel_rfl
end Go.Proofs.Ytbniolgfaeiedaa
