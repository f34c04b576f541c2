/- Closed facts on the types and functions of the program. -/
import Derived.Test.YtikplganiodciaaProg
import Derived.Test.YtikplganiodciaaLibA
namespace Go.Proofs.Ytikplganiodciaa
open Go.Gx
theorem mixed : Try.prog.follows .mixedOrders = true := by kernel_rfl
theorem agg45 : aggB Try.prog 45 = true := by kernel_rfl
theorem agg51 : aggB Try.prog 51 = true := by kernel_rfl
theorem agg64 : aggB Try.prog 64 = true := by kernel_rfl
theorem agg67 : aggB Try.prog 67 = true := by kernel_rfl
theorem call10 : Callable Try.prog 10 := callable_of Try.func10 (by kernel_rfl) (by kernel_rfl)
theorem call100 : Callable Try.prog 100 := callable_of Try.func100 (by kernel_rfl) (by kernel_rfl)
theorem call101 : Callable Try.prog 101 := callable_of Try.func101 (by kernel_rfl) (by kernel_rfl)
theorem call102 : Callable Try.prog 102 := callable_of Try.func102 (by kernel_rfl) (by kernel_rfl)
theorem call103 : Callable Try.prog 103 := callable_of Try.func103 (by kernel_rfl) (by kernel_rfl)
theorem call104 : Callable Try.prog 104 := callable_of Try.func104 (by kernel_rfl) (by kernel_rfl)
theorem call11 : Callable Try.prog 11 := callable_of Try.func11 (by kernel_rfl) (by kernel_rfl)
theorem call12 : Callable Try.prog 12 := callable_of Try.func12 (by kernel_rfl) (by kernel_rfl)
theorem call13 : Callable Try.prog 13 := callable_of Try.func13 (by kernel_rfl) (by kernel_rfl)
theorem call14 : Callable Try.prog 14 := callable_of Try.func14 (by kernel_rfl) (by kernel_rfl)
theorem call15 : Callable Try.prog 15 := callable_of Try.func15 (by kernel_rfl) (by kernel_rfl)
theorem call16 : Callable Try.prog 16 := callable_of Try.func16 (by kernel_rfl) (by kernel_rfl)
theorem call17 : Callable Try.prog 17 := callable_of Try.func17 (by kernel_rfl) (by kernel_rfl)
theorem call18 : Callable Try.prog 18 := callable_of Try.func18 (by kernel_rfl) (by kernel_rfl)
theorem call19 : Callable Try.prog 19 := callable_of Try.func19 (by kernel_rfl) (by kernel_rfl)
theorem call20 : Callable Try.prog 20 := callable_of Try.func20 (by kernel_rfl) (by kernel_rfl)
theorem call21 : Callable Try.prog 21 := callable_of Try.func21 (by kernel_rfl) (by kernel_rfl)
theorem call22 : Callable Try.prog 22 := callable_of Try.func22 (by kernel_rfl) (by kernel_rfl)
theorem call23 : Callable Try.prog 23 := callable_of Try.func23 (by kernel_rfl) (by kernel_rfl)
theorem call24 : Callable Try.prog 24 := callable_of Try.func24 (by kernel_rfl) (by kernel_rfl)
theorem call25 : Callable Try.prog 25 := callable_of Try.func25 (by kernel_rfl) (by kernel_rfl)
theorem call26 : Callable Try.prog 26 := callable_of Try.func26 (by kernel_rfl) (by kernel_rfl)
theorem call27 : Callable Try.prog 27 := callable_of Try.func27 (by kernel_rfl) (by kernel_rfl)
theorem call28 : Callable Try.prog 28 := callable_of Try.func28 (by kernel_rfl) (by kernel_rfl)
theorem call29 : Callable Try.prog 29 := callable_of Try.func29 (by kernel_rfl) (by kernel_rfl)
theorem call3 : Callable Try.prog 3 := callable_of Try.func3 (by kernel_rfl) (by kernel_rfl)
theorem call30 : Callable Try.prog 30 := callable_of Try.func30 (by kernel_rfl) (by kernel_rfl)
theorem call31 : Callable Try.prog 31 := callable_of Try.func31 (by kernel_rfl) (by kernel_rfl)
theorem call32 : Callable Try.prog 32 := callable_of Try.func32 (by kernel_rfl) (by kernel_rfl)
theorem call33 : Callable Try.prog 33 := callable_of Try.func33 (by kernel_rfl) (by kernel_rfl)
theorem call34 : Callable Try.prog 34 := callable_of Try.func34 (by kernel_rfl) (by kernel_rfl)
theorem call35 : Callable Try.prog 35 := callable_of Try.func35 (by kernel_rfl) (by kernel_rfl)
theorem call36 : Callable Try.prog 36 := callable_of Try.func36 (by kernel_rfl) (by kernel_rfl)
theorem call37 : Callable Try.prog 37 := callable_of Try.func37 (by kernel_rfl) (by kernel_rfl)
theorem call38 : Callable Try.prog 38 := callable_of Try.func38 (by kernel_rfl) (by kernel_rfl)
theorem call39 : Callable Try.prog 39 := callable_of Try.func39 (by kernel_rfl) (by kernel_rfl)
theorem call4 : Callable Try.prog 4 := callable_of Try.func4 (by kernel_rfl) (by kernel_rfl)
theorem call40 : Callable Try.prog 40 := callable_of Try.func40 (by kernel_rfl) (by kernel_rfl)
theorem call41 : Callable Try.prog 41 := callable_of Try.func41 (by kernel_rfl) (by kernel_rfl)
theorem call42 : Callable Try.prog 42 := callable_of Try.func42 (by kernel_rfl) (by kernel_rfl)
theorem call43 : Callable Try.prog 43 := callable_of Try.func43 (by kernel_rfl) (by kernel_rfl)
theorem call44 : Callable Try.prog 44 := callable_of Try.func44 (by kernel_rfl) (by kernel_rfl)
theorem call45 : Callable Try.prog 45 := callable_of Try.func45 (by kernel_rfl) (by kernel_rfl)
theorem call46 : Callable Try.prog 46 := callable_of Try.func46 (by kernel_rfl) (by kernel_rfl)
theorem call47 : Callable Try.prog 47 := callable_of Try.func47 (by kernel_rfl) (by kernel_rfl)
theorem call48 : Callable Try.prog 48 := callable_of Try.func48 (by kernel_rfl) (by kernel_rfl)
theorem call49 : Callable Try.prog 49 := callable_of Try.func49 (by kernel_rfl) (by kernel_rfl)
theorem call5 : Callable Try.prog 5 := callable_of Try.func5 (by kernel_rfl) (by kernel_rfl)
theorem call50 : Callable Try.prog 50 := callable_of Try.func50 (by kernel_rfl) (by kernel_rfl)
theorem call51 : Callable Try.prog 51 := callable_of Try.func51 (by kernel_rfl) (by kernel_rfl)
theorem call52 : Callable Try.prog 52 := callable_of Try.func52 (by kernel_rfl) (by kernel_rfl)
theorem call53 : Callable Try.prog 53 := callable_of Try.func53 (by kernel_rfl) (by kernel_rfl)
theorem call54 : Callable Try.prog 54 := callable_of Try.func54 (by kernel_rfl) (by kernel_rfl)
theorem call55 : Callable Try.prog 55 := callable_of Try.func55 (by kernel_rfl) (by kernel_rfl)
theorem call56 : Callable Try.prog 56 := callable_of Try.func56 (by kernel_rfl) (by kernel_rfl)
theorem call57 : Callable Try.prog 57 := callable_of Try.func57 (by kernel_rfl) (by kernel_rfl)
theorem call58 : Callable Try.prog 58 := callable_of Try.func58 (by kernel_rfl) (by kernel_rfl)
theorem call59 : Callable Try.prog 59 := callable_of Try.func59 (by kernel_rfl) (by kernel_rfl)
theorem call6 : Callable Try.prog 6 := callable_of Try.func6 (by kernel_rfl) (by kernel_rfl)
theorem call60 : Callable Try.prog 60 := callable_of Try.func60 (by kernel_rfl) (by kernel_rfl)
theorem call61 : Callable Try.prog 61 := callable_of Try.func61 (by kernel_rfl) (by kernel_rfl)
theorem call62 : Callable Try.prog 62 := callable_of Try.func62 (by kernel_rfl) (by kernel_rfl)
theorem call63 : Callable Try.prog 63 := callable_of Try.func63 (by kernel_rfl) (by kernel_rfl)
theorem call64 : Callable Try.prog 64 := callable_of Try.func64 (by kernel_rfl) (by kernel_rfl)
theorem call65 : Callable Try.prog 65 := callable_of Try.func65 (by kernel_rfl) (by kernel_rfl)
theorem call66 : Callable Try.prog 66 := callable_of Try.func66 (by kernel_rfl) (by kernel_rfl)
theorem call67 : Callable Try.prog 67 := callable_of Try.func67 (by kernel_rfl) (by kernel_rfl)
theorem call68 : Callable Try.prog 68 := callable_of Try.func68 (by kernel_rfl) (by kernel_rfl)
theorem call69 : Callable Try.prog 69 := callable_of Try.func69 (by kernel_rfl) (by kernel_rfl)
theorem call7 : Callable Try.prog 7 := callable_of Try.func7 (by kernel_rfl) (by kernel_rfl)
theorem call70 : Callable Try.prog 70 := callable_of Try.func70 (by kernel_rfl) (by kernel_rfl)
theorem call71 : Callable Try.prog 71 := callable_of Try.func71 (by kernel_rfl) (by kernel_rfl)
theorem call72 : Callable Try.prog 72 := callable_of Try.func72 (by kernel_rfl) (by kernel_rfl)
theorem call73 : Callable Try.prog 73 := callable_of Try.func73 (by kernel_rfl) (by kernel_rfl)
theorem call74 : Callable Try.prog 74 := callable_of Try.func74 (by kernel_rfl) (by kernel_rfl)
theorem call75 : Callable Try.prog 75 := callable_of Try.func75 (by kernel_rfl) (by kernel_rfl)
theorem call76 : Callable Try.prog 76 := callable_of Try.func76 (by kernel_rfl) (by kernel_rfl)
theorem call77 : Callable Try.prog 77 := callable_of Try.func77 (by kernel_rfl) (by kernel_rfl)
theorem call78 : Callable Try.prog 78 := callable_of Try.func78 (by kernel_rfl) (by kernel_rfl)
theorem call79 : Callable Try.prog 79 := callable_of Try.func79 (by kernel_rfl) (by kernel_rfl)
theorem call8 : Callable Try.prog 8 := callable_of Try.func8 (by kernel_rfl) (by kernel_rfl)
theorem call80 : Callable Try.prog 80 := callable_of Try.func80 (by kernel_rfl) (by kernel_rfl)
theorem call81 : Callable Try.prog 81 := callable_of Try.func81 (by kernel_rfl) (by kernel_rfl)
theorem call82 : Callable Try.prog 82 := callable_of Try.func82 (by kernel_rfl) (by kernel_rfl)
theorem call83 : Callable Try.prog 83 := callable_of Try.func83 (by kernel_rfl) (by kernel_rfl)
theorem call84 : Callable Try.prog 84 := callable_of Try.func84 (by kernel_rfl) (by kernel_rfl)
theorem call85 : Callable Try.prog 85 := callable_of Try.func85 (by kernel_rfl) (by kernel_rfl)
theorem call86 : Callable Try.prog 86 := callable_of Try.func86 (by kernel_rfl) (by kernel_rfl)
theorem call87 : Callable Try.prog 87 := callable_of Try.func87 (by kernel_rfl) (by kernel_rfl)
theorem call88 : Callable Try.prog 88 := callable_of Try.func88 (by kernel_rfl) (by kernel_rfl)
theorem call89 : Callable Try.prog 89 := callable_of Try.func89 (by kernel_rfl) (by kernel_rfl)
theorem call9 : Callable Try.prog 9 := callable_of Try.func9 (by kernel_rfl) (by kernel_rfl)
theorem call90 : Callable Try.prog 90 := callable_of Try.func90 (by kernel_rfl) (by kernel_rfl)
theorem call91 : Callable Try.prog 91 := callable_of Try.func91 (by kernel_rfl) (by kernel_rfl)
theorem call92 : Callable Try.prog 92 := callable_of Try.func92 (by kernel_rfl) (by kernel_rfl)
theorem call93 : Callable Try.prog 93 := callable_of Try.func93 (by kernel_rfl) (by kernel_rfl)
theorem call94 : Callable Try.prog 94 := callable_of Try.func94 (by kernel_rfl) (by kernel_rfl)
theorem call95 : Callable Try.prog 95 := callable_of Try.func95 (by kernel_rfl) (by kernel_rfl)
theorem call96 : Callable Try.prog 96 := callable_of Try.func96 (by kernel_rfl) (by kernel_rfl)
theorem call97 : Callable Try.prog 97 := callable_of Try.func97 (by kernel_rfl) (by kernel_rfl)
theorem call98 : Callable Try.prog 98 := callable_of Try.func98 (by kernel_rfl) (by kernel_rfl)
theorem call99 : Callable Try.prog 99 := callable_of Try.func99 (by kernel_rfl) (by kernel_rfl)
theorem fa36_0 : ∀ a w, (Instr.fieldAt 36 (.pointer (some a)) 0).run Try.prog w = .ok (.pointer (some (a.add 0))) w := fun _ _ => by kernel_rfl
theorem fa36_1 : ∀ a w, (Instr.fieldAt 36 (.pointer (some a)) 1).run Try.prog w = .ok (.pointer (some (a.add 1))) w := fun _ _ => by kernel_rfl
theorem fa51_0 : ∀ a w, (Instr.fieldAt 51 (.pointer (some a)) 0).run Try.prog w = .ok (.pointer (some (a.add 0))) w := fun _ _ => by kernel_rfl
theorem fa51_1 : ∀ a w, (Instr.fieldAt 51 (.pointer (some a)) 1).run Try.prog w = .ok (.pointer (some (a.add 1))) w := fun _ _ => by kernel_rfl
theorem fa64_0 : ∀ a w, (Instr.fieldAt 64 (.pointer (some a)) 0).run Try.prog w = .ok (.pointer (some (a.add 0))) w := fun _ _ => by kernel_rfl
theorem fa64_1 : ∀ a w, (Instr.fieldAt 64 (.pointer (some a)) 1).run Try.prog w = .ok (.pointer (some (a.add 1))) w := fun _ _ => by kernel_rfl
theorem inf112 : (Try.prog.info? 112).map (fun i => (i.zero, i.size, i.bytes)) = some (some (.int .u32 (0)), 1, 4) := by kernel_rfl
theorem inf2 : (Try.prog.info? 2).map (fun i => (i.zero, i.size, i.bytes)) = some (some (.int .i64 (0)), 1, 8) := by kernel_rfl
theorem inf29 : (Try.prog.info? 29).map (fun i => (i.zero, i.size, i.bytes)) = some (some (.slice none 0 0), 1, 24) := by kernel_rfl
theorem inf3 : (Try.prog.info? 3).map (fun i => (i.zero, i.size, i.bytes)) = some (some (.int .i64 (0)), 1, 8) := by kernel_rfl
theorem inf33 : (Try.prog.info? 33).map (fun i => (i.zero, i.size, i.bytes)) = some (some (.slice none 0 0), 1, 24) := by kernel_rfl
theorem inf36 : (Try.prog.info? 36).map (fun i => (i.zero, i.size, i.bytes)) = some (some (.agg #[(.slice none 0 0), (.int .i64 (0))]), 2, 32) := by kernel_rfl
theorem inf51 : (Try.prog.info? 51).map (fun i => (i.zero, i.size, i.bytes)) = some (some (.agg #[(.bool false), (.slice none 0 0)]), 2, 32) := by kernel_rfl
theorem inf64 : (Try.prog.info? 64).map (fun i => (i.zero, i.size, i.bytes)) = some (some (.agg #[(.slice none 0 0), (.int .i64 (0))]), 2, 32) := by kernel_rfl
theorem one112 : oneB Try.prog 112 = true := by kernel_rfl
theorem one136 : oneB Try.prog 136 = true := by kernel_rfl
theorem one2 : oneB Try.prog 2 = true := by kernel_rfl
theorem one29 : oneB Try.prog 29 = true := by kernel_rfl
theorem one3 : oneB Try.prog 3 = true := by kernel_rfl
theorem one33 : oneB Try.prog 33 = true := by kernel_rfl
theorem one4 : oneB Try.prog 4 = true := by kernel_rfl
theorem one49 : oneB Try.prog 49 = true := by kernel_rfl
theorem one5 : oneB Try.prog 5 = true := by kernel_rfl
theorem one66 : oneB Try.prog 66 = true := by kernel_rfl
theorem one77 : oneB Try.prog 77 = true := by kernel_rfl
theorem sz112 : ∀ w, (sizeOf 112).run Try.prog w = .ok 1 w := fun _ => by kernel_rfl
theorem sz136 : ∀ w, (sizeOf 136).run Try.prog w = .ok 1 w := fun _ => by kernel_rfl
theorem sz2 : ∀ w, (sizeOf 2).run Try.prog w = .ok 1 w := fun _ => by kernel_rfl
theorem sz29 : ∀ w, (sizeOf 29).run Try.prog w = .ok 1 w := fun _ => by kernel_rfl
theorem sz3 : ∀ w, (sizeOf 3).run Try.prog w = .ok 1 w := fun _ => by kernel_rfl
theorem sz33 : ∀ w, (sizeOf 33).run Try.prog w = .ok 1 w := fun _ => by kernel_rfl
theorem sz36 : ∀ w, (sizeOf 36).run Try.prog w = .ok 2 w := fun _ => by kernel_rfl
theorem sz4 : ∀ w, (sizeOf 4).run Try.prog w = .ok 1 w := fun _ => by kernel_rfl
theorem sz45 : ∀ w, (sizeOf 45).run Try.prog w = .ok 4 w := fun _ => by kernel_rfl
theorem sz49 : ∀ w, (sizeOf 49).run Try.prog w = .ok 1 w := fun _ => by kernel_rfl
theorem sz5 : ∀ w, (sizeOf 5).run Try.prog w = .ok 1 w := fun _ => by kernel_rfl
theorem sz51 : ∀ w, (sizeOf 51).run Try.prog w = .ok 2 w := fun _ => by kernel_rfl
theorem sz64 : ∀ w, (sizeOf 64).run Try.prog w = .ok 2 w := fun _ => by kernel_rfl
theorem sz66 : ∀ w, (sizeOf 66).run Try.prog w = .ok 1 w := fun _ => by kernel_rfl
theorem sz67 : ∀ w, (sizeOf 67).run Try.prog w = .ok 3 w := fun _ => by kernel_rfl
theorem sz77 : ∀ w, (sizeOf 77).run Try.prog w = .ok 1 w := fun _ => by kernel_rfl
theorem zero112 : ∀ w, (zeroValue 112).run Try.prog w = .ok (.int .u32 (0)) w := fun _ => by kernel_rfl
theorem zero29 : ∀ w, (zeroValue 29).run Try.prog w = .ok (.slice none 0 0) w := fun _ => by kernel_rfl
theorem zero51 : ∀ w, (zeroValue 51).run Try.prog w = .ok (.agg #[(.bool false), (.slice none 0 0)]) w := fun _ => by kernel_rfl
theorem zero64 : ∀ w, (zeroValue 64).run Try.prog w = .ok (.agg #[(.slice none 0 0), (.int .i64 (0))]) w := fun _ => by kernel_rfl
end Go.Proofs.Ytikplganiodciaa
