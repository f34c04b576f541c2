/-
  Fa
-/
import Derived.Test.YtjdpemcnlejpfaaGreatDoorAmZ
import Derived.Test.YtjdpemcnlejpfaaGreatDoorProg
set_option linter.all false
namespace Go.Proofs.YtjdpemcnlejpfaaGreatDoor
open Go.RowKit Go.Gx Go.Am
theorem mixed:Tryz.prog.follows .mixedOrders=true:=by kernel_rfl
instance:TM Tryz.prog:=⟨mixed⟩
instance:TW Tryz.prog [163,237,238,143,145]:=⟨⟩
instance:TU Tryz.prog 2 (.int .i64):=⟨Tryz.underlying2⟩
instance:TU Tryz.prog 3 (.int .i64):=⟨Tryz.underlying3⟩
instance:TU Tryz.prog 4 (.bool):=⟨Tryz.underlying4⟩
instance:TU Tryz.prog 5 (.int .u8):=⟨Tryz.underlying5⟩
instance:TU Tryz.prog 9 (.string):=⟨Tryz.underlying9⟩
instance:TU Tryz.prog 22 (.slice 46):=⟨Tryz.underlying22⟩
instance:TU Tryz.prog 23 (.slice 46):=⟨Tryz.underlying23⟩
instance:TU Tryz.prog 26 (.slice 5):=⟨Tryz.underlying26⟩
instance:TU Tryz.prog 30 (.slice 25):=⟨Tryz.underlying30⟩
instance:TU Tryz.prog 33 (.array 16 3):=⟨Tryz.underlying33⟩
instance:TU Tryz.prog 37 (.slice 53):=⟨Tryz.underlying37⟩
instance:TU Tryz.prog 45 (.slice 48):=⟨Tryz.underlying45⟩
instance:TU Tryz.prog 46 (.int .u32):=⟨Tryz.underlying46⟩
instance:TU Tryz.prog 48 (.int .i16):=⟨Tryz.underlying48⟩
instance:TU Tryz.prog 49 (.slice 2):=⟨Tryz.underlying49⟩
instance:TU Tryz.prog 55 (.slice 30):=⟨Tryz.underlying55⟩
instance:TU Tryz.prog 66 (.slice 46):=⟨Tryz.underlying66⟩
instance:TU Tryz.prog 77 (.slice 79):=⟨Tryz.underlying77⟩
instance:TU Tryz.prog 78 (.int .i8):=⟨Tryz.underlying78⟩
instance:TU Tryz.prog 79 (.array 2 78):=⟨Tryz.underlying79⟩
instance:TU Tryz.prog 80 (.slice 83):=⟨Tryz.underlying80⟩
instance:TU Tryz.prog 97 (.slice 101):=⟨Tryz.underlying97⟩
instance:TU Tryz.prog 111 (.int .u64):=⟨Tryz.underlying111⟩
instance:TU Tryz.prog 125 (.int .u64):=⟨Tryz.underlying125⟩
instance:TU Tryz.prog 129 (.slice 66):=⟨Tryz.underlying129⟩
instance:TU Tryz.prog 130 (.slice 4):=⟨Tryz.underlying130⟩
instance:TU Tryz.prog 149 (.array 5 46):=⟨Tryz.underlying149⟩
instance:TU Tryz.prog 151 (.array 3 46):=⟨Tryz.underlying151⟩
instance:TU Tryz.prog 176 (.slice 3):=⟨Tryz.underlying176⟩
instance:TU Tryz.prog 196 (.array 32 5):=⟨Tryz.underlying196⟩
instance:TU Tryz.prog 214 (.array 2 55):=⟨Tryz.underlying214⟩
instance:TS Tryz.prog 2 1:=⟨fun _=>by kernel_rfl⟩
instance:TS Tryz.prog 3 1:=⟨fun _=>by kernel_rfl⟩
instance:TS Tryz.prog 4 1:=⟨fun _=>by kernel_rfl⟩
instance:TS Tryz.prog 5 1:=⟨fun _=>by kernel_rfl⟩
instance:TS Tryz.prog 25 2:=⟨fun _=>by kernel_rfl⟩
instance:TS Tryz.prog 30 1:=⟨fun _=>by kernel_rfl⟩
instance:TS Tryz.prog 46 1:=⟨fun _=>by kernel_rfl⟩
instance:TS Tryz.prog 48 1:=⟨fun _=>by kernel_rfl⟩
instance:TS Tryz.prog 53 2:=⟨fun _=>by kernel_rfl⟩
instance:TS Tryz.prog 55 1:=⟨fun _=>by kernel_rfl⟩
instance:TS Tryz.prog 56 1:=⟨fun _=>by kernel_rfl⟩
instance:TS Tryz.prog 66 1:=⟨fun _=>by kernel_rfl⟩
instance:TS Tryz.prog 78 1:=⟨fun _=>by kernel_rfl⟩
instance:TS Tryz.prog 79 2:=⟨fun _=>by kernel_rfl⟩
instance:TS Tryz.prog 83 3:=⟨fun _=>by kernel_rfl⟩
instance:TS Tryz.prog 101 2:=⟨fun _=>by kernel_rfl⟩
instance:TS Tryz.prog 129 1:=⟨fun _=>by kernel_rfl⟩
instance:TS Tryz.prog 130 1:=⟨fun _=>by kernel_rfl⟩
instance:TS Tryz.prog 214 2:=⟨fun _=>by kernel_rfl⟩
instance:TL Tryz.prog 2 .one:=⟨(by kernel_rfl:QfV Tryz.prog 2=true)⟩
instance:TL Tryz.prog 3 .one:=⟨(by kernel_rfl:QfV Tryz.prog 3=true)⟩
instance:TL Tryz.prog 4 .one:=⟨(by kernel_rfl:QfV Tryz.prog 4=true)⟩
instance:TL Tryz.prog 5 .one:=⟨(by kernel_rfl:QfV Tryz.prog 5=true)⟩
instance:TL Tryz.prog 23 .one:=⟨(by kernel_rfl:QfV Tryz.prog 23=true)⟩
instance:TL Tryz.prog 25 (.ag 2):=⟨⟨by kernel_rfl,fun _=>by kernel_rfl⟩⟩
instance:TL Tryz.prog 30 .one:=⟨(by kernel_rfl:QfV Tryz.prog 30=true)⟩
instance:TL Tryz.prog 33 (.ag 16):=⟨⟨by kernel_rfl,fun _=>by kernel_rfl⟩⟩
instance:TL Tryz.prog 46 .one:=⟨(by kernel_rfl:QfV Tryz.prog 46=true)⟩
instance:TL Tryz.prog 48 .one:=⟨(by kernel_rfl:QfV Tryz.prog 48=true)⟩
instance:TL Tryz.prog 53 (.ag 2):=⟨⟨by kernel_rfl,fun _=>by kernel_rfl⟩⟩
instance:TL Tryz.prog 55 .one:=⟨(by kernel_rfl:QfV Tryz.prog 55=true)⟩
instance:TL Tryz.prog 56 .one:=⟨(by kernel_rfl:QfV Tryz.prog 56=true)⟩
instance:TL Tryz.prog 66 .one:=⟨(by kernel_rfl:QfV Tryz.prog 66=true)⟩
instance:TL Tryz.prog 78 .one:=⟨(by kernel_rfl:QfV Tryz.prog 78=true)⟩
instance:TL Tryz.prog 79 (.ag 2):=⟨⟨by kernel_rfl,fun _=>by kernel_rfl⟩⟩
instance:TL Tryz.prog 83 (.ag 3):=⟨⟨by kernel_rfl,fun _=>by kernel_rfl⟩⟩
instance:TL Tryz.prog 101 (.ag 2):=⟨⟨by kernel_rfl,fun _=>by kernel_rfl⟩⟩
instance:TL Tryz.prog 129 .one:=⟨(by kernel_rfl:QfV Tryz.prog 129=true)⟩
instance:TL Tryz.prog 130 .one:=⟨(by kernel_rfl:QfV Tryz.prog 130=true)⟩
instance:TL Tryz.prog 199 .one:=⟨(by kernel_rfl:QfV Tryz.prog 199=true)⟩
instance:TL Tryz.prog 214 (.ag 2):=⟨⟨by kernel_rfl,fun _=>by kernel_rfl⟩⟩
instance:TF Tryz.prog 25 0 0:=⟨fun _ _=>by kernel_rfl⟩
instance:TF Tryz.prog 25 1 1:=⟨fun _ _=>by kernel_rfl⟩
instance:TF Tryz.prog 53 0 0:=⟨fun _ _=>by kernel_rfl⟩
instance:TF Tryz.prog 53 1 1:=⟨fun _ _=>by kernel_rfl⟩
instance:TF Tryz.prog 83 0 0:=⟨fun _ _=>by kernel_rfl⟩
instance:TF Tryz.prog 83 1 2:=⟨fun _ _=>by kernel_rfl⟩
instance:TF Tryz.prog 101 0 0:=⟨fun _ _=>by kernel_rfl⟩
instance:TF Tryz.prog 101 1 1:=⟨fun _ _=>by kernel_rfl⟩
instance:TZ Tryz.prog 3 [I .i64 0]:=⟨⟨.int .i64 (0),[.int .i64 (0)],fun _=>by kernel_rfl,by kernel_rfl,by kernel_rfl,by kernel_rfl⟩⟩
instance:TZ Tryz.prog 25 [Bo false,nilS]:=⟨⟨.agg #[.bool false,.slice none 0 0],[.bool false,.slice none 0 0],fun _=>by kernel_rfl,by kernel_rfl,by kernel_rfl,by kernel_rfl⟩⟩
instance:TZ Tryz.prog 30 [nilS]:=⟨⟨.slice none 0 0,[.slice none 0 0],fun _=>by kernel_rfl,by kernel_rfl,by kernel_rfl,by kernel_rfl⟩⟩
instance:TZ Tryz.prog 33 [I .i64 0,I .i64 0,I .i64 0,I .i64 0,I .i64 0,I .i64 0,I .i64 0,I .i64 0,I .i64 0,I .i64 0,I .i64 0,I .i64 0,I .i64 0,I .i64 0,I .i64 0,I .i64 0]:=⟨⟨.agg #[.int .i64 (0),.int .i64 (0),.int .i64 (0),.int .i64 (0),.int .i64 (0),.int .i64 (0),.int .i64 (0),.int .i64 (0),.int .i64 (0),.int .i64 (0),.int .i64 (0),.int .i64 (0),.int .i64 (0),.int .i64 (0),.int .i64 (0),.int .i64 (0)],[.int .i64 (0),.int .i64 (0),.int .i64 (0),.int .i64 (0),.int .i64 (0),.int .i64 (0),.int .i64 (0),.int .i64 (0),.int .i64 (0),.int .i64 (0),.int .i64 (0),.int .i64 (0),.int .i64 (0),.int .i64 (0),.int .i64 (0),.int .i64 (0)],fun _=>by kernel_rfl,by kernel_rfl,by kernel_rfl,by kernel_rfl⟩⟩
instance:TZ Tryz.prog 46 [I .u32 0]:=⟨⟨.int .u32 (0),[.int .u32 (0)],fun _=>by kernel_rfl,by kernel_rfl,by kernel_rfl,by kernel_rfl⟩⟩
instance:TZ Tryz.prog 53 [nilS,I .i64 0]:=⟨⟨.agg #[.slice none 0 0,.int .i64 (0)],[.slice none 0 0,.int .i64 (0)],fun _=>by kernel_rfl,by kernel_rfl,by kernel_rfl,by kernel_rfl⟩⟩
instance:TZ Tryz.prog 56 [I .i64 0]:=⟨⟨.int .i64 (0),[.int .i64 (0)],fun _=>by kernel_rfl,by kernel_rfl,by kernel_rfl,by kernel_rfl⟩⟩
instance:TZ Tryz.prog 79 [I .i8 0,I .i8 0]:=⟨⟨.agg #[.int .i8 (0),.int .i8 (0)],[.int .i8 (0),.int .i8 (0)],fun _=>by kernel_rfl,by kernel_rfl,by kernel_rfl,by kernel_rfl⟩⟩
instance:TZ Tryz.prog 83 [Bo false,nilS,nilS]:=⟨⟨.agg #[.bool false,.slice none 0 0,.slice none 0 0],[.bool false,.slice none 0 0,.slice none 0 0],fun _=>by kernel_rfl,by kernel_rfl,by kernel_rfl,by kernel_rfl⟩⟩
instance:TZ Tryz.prog 101 [nilS,I .i64 0]:=⟨⟨.agg #[.slice none 0 0,.int .i64 (0)],[.slice none 0 0,.int .i64 (0)],fun _=>by kernel_rfl,by kernel_rfl,by kernel_rfl,by kernel_rfl⟩⟩
instance:TZ Tryz.prog 129 [nilS]:=⟨⟨.slice none 0 0,[.slice none 0 0],fun _=>by kernel_rfl,by kernel_rfl,by kernel_rfl,by kernel_rfl⟩⟩
instance:TZ Tryz.prog 130 [nilS]:=⟨⟨.slice none 0 0,[.slice none 0 0],fun _=>by kernel_rfl,by kernel_rfl,by kernel_rfl,by kernel_rfl⟩⟩
instance:TZ Tryz.prog 214 [nilS,nilS]:=⟨⟨.agg #[.slice none 0 0,.slice none 0 0],[.slice none 0 0,.slice none 0 0],fun _=>by kernel_rfl,by kernel_rfl,by kernel_rfl,by kernel_rfl⟩⟩
instance:TB Tryz.prog 25 [Bo false,nilS] [(0,1),(1,1)]:=⟨[.bool false,.slice none 0 0],by kernel_rfl,by kernel_rfl,fun _=>by kernel_rfl⟩
instance:TB Tryz.prog 53 [nilS,I .i64 0] [(0,1),(1,1)]:=⟨[.slice none 0 0,.int .i64 (0)],by kernel_rfl,by kernel_rfl,fun _=>by kernel_rfl⟩
instance:TB Tryz.prog 83 [Bo false,nilS,nilS] [(0,2),(2,1)]:=⟨[.bool false,.slice none 0 0,.slice none 0 0],by kernel_rfl,by kernel_rfl,fun _=>by kernel_rfl⟩
instance:TB Tryz.prog 101 [nilS,I .i64 0] [(0,1),(1,1)]:=⟨[.slice none 0 0,.int .i64 (0)],by kernel_rfl,by kernel_rfl,fun _=>by kernel_rfl⟩
instance:TA2 Tryz.prog 214:=⟨fun _ _ _ _ _ _=>by kernel_rfl⟩
instance:TI Tryz.prog 2 (.int .i64 (0)) 1 8:=⟨by kernel_rfl⟩
instance:TI Tryz.prog 3 (.int .i64 (0)) 1 8:=⟨by kernel_rfl⟩
instance:TI Tryz.prog 4 (.bool false) 1 1:=⟨by kernel_rfl⟩
instance:TI Tryz.prog 25 (.agg #[.bool false,.slice none 0 0]) 2 32:=⟨by kernel_rfl⟩
instance:TI Tryz.prog 30 (.slice none 0 0) 1 24:=⟨by kernel_rfl⟩
instance:TI Tryz.prog 46 (.int .u32 (0)) 1 4:=⟨by kernel_rfl⟩
instance:TI Tryz.prog 53 (.agg #[.slice none 0 0,.int .i64 (0)]) 2 32:=⟨by kernel_rfl⟩
instance:TI Tryz.prog 66 (.slice none 0 0) 1 24:=⟨by kernel_rfl⟩
instance:TI Tryz.prog 83 (.agg #[.bool false,.slice none 0 0,.slice none 0 0]) 3 56:=⟨by kernel_rfl⟩
instance:TI Tryz.prog 101 (.agg #[.slice none 0 0,.int .i64 (0)]) 2 32:=⟨by kernel_rfl⟩
instance:TC Tryz.prog 3:=⟨Xb Tryz.func3 (by kernel_rfl) (by kernel_rfl)⟩
instance:TC Tryz.prog 4:=⟨Xb Tryz.func4 (by kernel_rfl) (by kernel_rfl)⟩
instance:TC Tryz.prog 5:=⟨Xb Tryz.func5 (by kernel_rfl) (by kernel_rfl)⟩
instance:TC Tryz.prog 6:=⟨Xb Tryz.func6 (by kernel_rfl) (by kernel_rfl)⟩
instance:TC Tryz.prog 7:=⟨Xb Tryz.func7 (by kernel_rfl) (by kernel_rfl)⟩
instance:TC Tryz.prog 8:=⟨Xb Tryz.func8 (by kernel_rfl) (by kernel_rfl)⟩
instance:TC Tryz.prog 9:=⟨Xb Tryz.func9 (by kernel_rfl) (by kernel_rfl)⟩
instance:TC Tryz.prog 10:=⟨Xb Tryz.func10 (by kernel_rfl) (by kernel_rfl)⟩
instance:TC Tryz.prog 11:=⟨Xb Tryz.func11 (by kernel_rfl) (by kernel_rfl)⟩
instance:TC Tryz.prog 12:=⟨Xb Tryz.func12 (by kernel_rfl) (by kernel_rfl)⟩
instance:TC Tryz.prog 13:=⟨Xb Tryz.func13 (by kernel_rfl) (by kernel_rfl)⟩
instance:TC Tryz.prog 14:=⟨Xb Tryz.func14 (by kernel_rfl) (by kernel_rfl)⟩
instance:TC Tryz.prog 15:=⟨Xb Tryz.func15 (by kernel_rfl) (by kernel_rfl)⟩
instance:TC Tryz.prog 16:=⟨Xb Tryz.func16 (by kernel_rfl) (by kernel_rfl)⟩
instance:TC Tryz.prog 17:=⟨Xb Tryz.func17 (by kernel_rfl) (by kernel_rfl)⟩
instance:TC Tryz.prog 18:=⟨Xb Tryz.func18 (by kernel_rfl) (by kernel_rfl)⟩
instance:TC Tryz.prog 19:=⟨Xb Tryz.func19 (by kernel_rfl) (by kernel_rfl)⟩
instance:TC Tryz.prog 20:=⟨Xb Tryz.func20 (by kernel_rfl) (by kernel_rfl)⟩
instance:TC Tryz.prog 21:=⟨Xb Tryz.func21 (by kernel_rfl) (by kernel_rfl)⟩
instance:TC Tryz.prog 22:=⟨Xb Tryz.func22 (by kernel_rfl) (by kernel_rfl)⟩
instance:TC Tryz.prog 23:=⟨Xb Tryz.func23 (by kernel_rfl) (by kernel_rfl)⟩
instance:TC Tryz.prog 24:=⟨Xb Tryz.func24 (by kernel_rfl) (by kernel_rfl)⟩
instance:TC Tryz.prog 25:=⟨Xb Tryz.func25 (by kernel_rfl) (by kernel_rfl)⟩
instance:TC Tryz.prog 26:=⟨Xb Tryz.func26 (by kernel_rfl) (by kernel_rfl)⟩
instance:TC Tryz.prog 27:=⟨Xb Tryz.func27 (by kernel_rfl) (by kernel_rfl)⟩
instance:TC Tryz.prog 28:=⟨Xb Tryz.func28 (by kernel_rfl) (by kernel_rfl)⟩
instance:TC Tryz.prog 29:=⟨Xb Tryz.func29 (by kernel_rfl) (by kernel_rfl)⟩
instance:TC Tryz.prog 30:=⟨Xb Tryz.func30 (by kernel_rfl) (by kernel_rfl)⟩
instance:TC Tryz.prog 31:=⟨Xb Tryz.func31 (by kernel_rfl) (by kernel_rfl)⟩
instance:TC Tryz.prog 32:=⟨Xb Tryz.func32 (by kernel_rfl) (by kernel_rfl)⟩
instance:TC Tryz.prog 33:=⟨Xb Tryz.func33 (by kernel_rfl) (by kernel_rfl)⟩
instance:TC Tryz.prog 34:=⟨Xb Tryz.func34 (by kernel_rfl) (by kernel_rfl)⟩
instance:TC Tryz.prog 35:=⟨Xb Tryz.func35 (by kernel_rfl) (by kernel_rfl)⟩
instance:TC Tryz.prog 36:=⟨Xb Tryz.func36 (by kernel_rfl) (by kernel_rfl)⟩
instance:TC Tryz.prog 37:=⟨Xb Tryz.func37 (by kernel_rfl) (by kernel_rfl)⟩
instance:TC Tryz.prog 38:=⟨Xb Tryz.func38 (by kernel_rfl) (by kernel_rfl)⟩
instance:TC Tryz.prog 39:=⟨Xb Tryz.func39 (by kernel_rfl) (by kernel_rfl)⟩
instance:TC Tryz.prog 40:=⟨Xb Tryz.func40 (by kernel_rfl) (by kernel_rfl)⟩
instance:TC Tryz.prog 41:=⟨Xb Tryz.func41 (by kernel_rfl) (by kernel_rfl)⟩
instance:TC Tryz.prog 42:=⟨Xb Tryz.func42 (by kernel_rfl) (by kernel_rfl)⟩
instance:TC Tryz.prog 43:=⟨Xb Tryz.func43 (by kernel_rfl) (by kernel_rfl)⟩
instance:TC Tryz.prog 44:=⟨Xb Tryz.func44 (by kernel_rfl) (by kernel_rfl)⟩
instance:TC Tryz.prog 45:=⟨Xb Tryz.func45 (by kernel_rfl) (by kernel_rfl)⟩
instance:TC Tryz.prog 46:=⟨Xb Tryz.func46 (by kernel_rfl) (by kernel_rfl)⟩
instance:TC Tryz.prog 47:=⟨Xb Tryz.func47 (by kernel_rfl) (by kernel_rfl)⟩
instance:TC Tryz.prog 48:=⟨Xb Tryz.func48 (by kernel_rfl) (by kernel_rfl)⟩
instance:TC Tryz.prog 49:=⟨Xb Tryz.func49 (by kernel_rfl) (by kernel_rfl)⟩
instance:TC Tryz.prog 50:=⟨Xb Tryz.func50 (by kernel_rfl) (by kernel_rfl)⟩
instance:TC Tryz.prog 51:=⟨Xb Tryz.func51 (by kernel_rfl) (by kernel_rfl)⟩
instance:TC Tryz.prog 52:=⟨Xb Tryz.func52 (by kernel_rfl) (by kernel_rfl)⟩
instance:TC Tryz.prog 53:=⟨Xb Tryz.func53 (by kernel_rfl) (by kernel_rfl)⟩
instance:TC Tryz.prog 54:=⟨Xb Tryz.func54 (by kernel_rfl) (by kernel_rfl)⟩
instance:TC Tryz.prog 55:=⟨Xb Tryz.func55 (by kernel_rfl) (by kernel_rfl)⟩
instance:TC Tryz.prog 56:=⟨Xb Tryz.func56 (by kernel_rfl) (by kernel_rfl)⟩
instance:TC Tryz.prog 57:=⟨Xb Tryz.func57 (by kernel_rfl) (by kernel_rfl)⟩
instance:TC Tryz.prog 58:=⟨Xb Tryz.func58 (by kernel_rfl) (by kernel_rfl)⟩
instance:TC Tryz.prog 59:=⟨Xb Tryz.func59 (by kernel_rfl) (by kernel_rfl)⟩
instance:TC Tryz.prog 60:=⟨Xb Tryz.func60 (by kernel_rfl) (by kernel_rfl)⟩
instance:TC Tryz.prog 61:=⟨Xb Tryz.func61 (by kernel_rfl) (by kernel_rfl)⟩
instance:TC Tryz.prog 62:=⟨Xb Tryz.func62 (by kernel_rfl) (by kernel_rfl)⟩
instance:TC Tryz.prog 63:=⟨Xb Tryz.func63 (by kernel_rfl) (by kernel_rfl)⟩
instance:TC Tryz.prog 64:=⟨Xb Tryz.func64 (by kernel_rfl) (by kernel_rfl)⟩
instance:TC Tryz.prog 65:=⟨Xb Tryz.func65 (by kernel_rfl) (by kernel_rfl)⟩
instance:TC Tryz.prog 66:=⟨Xb Tryz.func66 (by kernel_rfl) (by kernel_rfl)⟩
instance:TC Tryz.prog 67:=⟨Xb Tryz.func67 (by kernel_rfl) (by kernel_rfl)⟩
instance:TC Tryz.prog 68:=⟨Xb Tryz.func68 (by kernel_rfl) (by kernel_rfl)⟩
instance:TC Tryz.prog 69:=⟨Xb Tryz.func69 (by kernel_rfl) (by kernel_rfl)⟩
instance:TC Tryz.prog 70:=⟨Xb Tryz.func70 (by kernel_rfl) (by kernel_rfl)⟩
instance:TC Tryz.prog 71:=⟨Xb Tryz.func71 (by kernel_rfl) (by kernel_rfl)⟩
instance:TC Tryz.prog 72:=⟨Xb Tryz.func72 (by kernel_rfl) (by kernel_rfl)⟩
instance:TC Tryz.prog 73:=⟨Xb Tryz.func73 (by kernel_rfl) (by kernel_rfl)⟩
instance:TC Tryz.prog 74:=⟨Xb Tryz.func74 (by kernel_rfl) (by kernel_rfl)⟩
instance:TC Tryz.prog 75:=⟨Xb Tryz.func75 (by kernel_rfl) (by kernel_rfl)⟩
instance:TC Tryz.prog 76:=⟨Xb Tryz.func76 (by kernel_rfl) (by kernel_rfl)⟩
instance:TC Tryz.prog 77:=⟨Xb Tryz.func77 (by kernel_rfl) (by kernel_rfl)⟩
instance:TC Tryz.prog 78:=⟨Xb Tryz.func78 (by kernel_rfl) (by kernel_rfl)⟩
instance:TC Tryz.prog 79:=⟨Xb Tryz.func79 (by kernel_rfl) (by kernel_rfl)⟩
instance:TC Tryz.prog 80:=⟨Xb Tryz.func80 (by kernel_rfl) (by kernel_rfl)⟩
instance:TC Tryz.prog 81:=⟨Xb Tryz.func81 (by kernel_rfl) (by kernel_rfl)⟩
instance:TC Tryz.prog 82:=⟨Xb Tryz.func82 (by kernel_rfl) (by kernel_rfl)⟩
instance:TC Tryz.prog 83:=⟨Xb Tryz.func83 (by kernel_rfl) (by kernel_rfl)⟩
instance:TC Tryz.prog 84:=⟨Xb Tryz.func84 (by kernel_rfl) (by kernel_rfl)⟩
instance:TC Tryz.prog 85:=⟨Xb Tryz.func85 (by kernel_rfl) (by kernel_rfl)⟩
instance:TC Tryz.prog 86:=⟨Xb Tryz.func86 (by kernel_rfl) (by kernel_rfl)⟩
instance:TC Tryz.prog 87:=⟨Xb Tryz.func87 (by kernel_rfl) (by kernel_rfl)⟩
instance:TC Tryz.prog 88:=⟨Xb Tryz.func88 (by kernel_rfl) (by kernel_rfl)⟩
instance:TC Tryz.prog 89:=⟨Xb Tryz.func89 (by kernel_rfl) (by kernel_rfl)⟩
instance:TC Tryz.prog 90:=⟨Xb Tryz.func90 (by kernel_rfl) (by kernel_rfl)⟩
instance:TC Tryz.prog 91:=⟨Xb Tryz.func91 (by kernel_rfl) (by kernel_rfl)⟩
instance:TC Tryz.prog 92:=⟨Xb Tryz.func92 (by kernel_rfl) (by kernel_rfl)⟩
instance:TC Tryz.prog 93:=⟨Xb Tryz.func93 (by kernel_rfl) (by kernel_rfl)⟩
instance:TC Tryz.prog 94:=⟨Xb Tryz.func94 (by kernel_rfl) (by kernel_rfl)⟩
instance:TC Tryz.prog 95:=⟨Xb Tryz.func95 (by kernel_rfl) (by kernel_rfl)⟩
instance:TC Tryz.prog 96:=⟨Xb Tryz.func96 (by kernel_rfl) (by kernel_rfl)⟩
instance:TC Tryz.prog 97:=⟨Xb Tryz.func97 (by kernel_rfl) (by kernel_rfl)⟩
instance:TC Tryz.prog 98:=⟨Xb Tryz.func98 (by kernel_rfl) (by kernel_rfl)⟩
instance:TC Tryz.prog 99:=⟨Xb Tryz.func99 (by kernel_rfl) (by kernel_rfl)⟩
instance:TC Tryz.prog 100:=⟨Xb Tryz.func100 (by kernel_rfl) (by kernel_rfl)⟩
instance:TC Tryz.prog 101:=⟨Xb Tryz.func101 (by kernel_rfl) (by kernel_rfl)⟩
instance:TC Tryz.prog 102:=⟨Xb Tryz.func102 (by kernel_rfl) (by kernel_rfl)⟩
instance:TC Tryz.prog 103:=⟨Xb Tryz.func103 (by kernel_rfl) (by kernel_rfl)⟩
instance:TC Tryz.prog 104:=⟨Xb Tryz.func104 (by kernel_rfl) (by kernel_rfl)⟩
instance:TC Tryz.prog 105:=⟨Xb Tryz.func105 (by kernel_rfl) (by kernel_rfl)⟩
instance:TC Tryz.prog 106:=⟨Xb Tryz.func106 (by kernel_rfl) (by kernel_rfl)⟩
instance:TC Tryz.prog 107:=⟨Xb Tryz.func107 (by kernel_rfl) (by kernel_rfl)⟩
instance:TC Tryz.prog 108:=⟨Xb Tryz.func108 (by kernel_rfl) (by kernel_rfl)⟩
instance:TC Tryz.prog 109:=⟨Xb Tryz.func109 (by kernel_rfl) (by kernel_rfl)⟩
instance:TC Tryz.prog 110:=⟨Xb Tryz.func110 (by kernel_rfl) (by kernel_rfl)⟩
instance:TC Tryz.prog 111:=⟨Xb Tryz.func111 (by kernel_rfl) (by kernel_rfl)⟩
instance:TC Tryz.prog 112:=⟨Xb Tryz.func112 (by kernel_rfl) (by kernel_rfl)⟩
instance:TC Tryz.prog 113:=⟨Xb Tryz.func113 (by kernel_rfl) (by kernel_rfl)⟩
instance:TC Tryz.prog 115:=⟨Xb Tryz.func115 (by kernel_rfl) (by kernel_rfl)⟩
instance:TC Tryz.prog 116:=⟨Xb Tryz.func116 (by kernel_rfl) (by kernel_rfl)⟩
instance:TC Tryz.prog 117:=⟨Xb Tryz.func117 (by kernel_rfl) (by kernel_rfl)⟩
instance:TC Tryz.prog 119:=⟨Xb Tryz.func119 (by kernel_rfl) (by kernel_rfl)⟩
instance:TC Tryz.prog 120:=⟨Xb Tryz.func120 (by kernel_rfl) (by kernel_rfl)⟩
instance:TC Tryz.prog 121:=⟨Xb Tryz.func121 (by kernel_rfl) (by kernel_rfl)⟩
instance:TC Tryz.prog 122:=⟨Xb Tryz.func122 (by kernel_rfl) (by kernel_rfl)⟩
instance:TC Tryz.prog 123:=⟨Xb Tryz.func123 (by kernel_rfl) (by kernel_rfl)⟩
instance:TC Tryz.prog 124:=⟨Xb Tryz.func124 (by kernel_rfl) (by kernel_rfl)⟩
instance:TC Tryz.prog 125:=⟨Xb Tryz.func125 (by kernel_rfl) (by kernel_rfl)⟩
instance:TC Tryz.prog 126:=⟨Xb Tryz.func126 (by kernel_rfl) (by kernel_rfl)⟩
instance:TC Tryz.prog 127:=⟨Xb Tryz.func127 (by kernel_rfl) (by kernel_rfl)⟩
instance:TC Tryz.prog 128:=⟨Xb Tryz.func128 (by kernel_rfl) (by kernel_rfl)⟩
instance:TC Tryz.prog 129:=⟨Xb Tryz.func129 (by kernel_rfl) (by kernel_rfl)⟩
instance:TC Tryz.prog 130:=⟨Xb Tryz.func130 (by kernel_rfl) (by kernel_rfl)⟩
instance:TC Tryz.prog 131:=⟨Xb Tryz.func131 (by kernel_rfl) (by kernel_rfl)⟩
instance:TC Tryz.prog 132:=⟨Xb Tryz.func132 (by kernel_rfl) (by kernel_rfl)⟩
instance:TC Tryz.prog 133:=⟨Xb Tryz.func133 (by kernel_rfl) (by kernel_rfl)⟩
instance:TC Tryz.prog 134:=⟨Xb Tryz.func134 (by kernel_rfl) (by kernel_rfl)⟩
instance:TC Tryz.prog 135:=⟨Xb Tryz.func135 (by kernel_rfl) (by kernel_rfl)⟩
instance:TC Tryz.prog 136:=⟨Xb Tryz.func136 (by kernel_rfl) (by kernel_rfl)⟩
instance:TC Tryz.prog 137:=⟨Xb Tryz.func137 (by kernel_rfl) (by kernel_rfl)⟩
instance:TC Tryz.prog 138:=⟨Xb Tryz.func138 (by kernel_rfl) (by kernel_rfl)⟩
instance:TC Tryz.prog 140:=⟨Xb Tryz.func140 (by kernel_rfl) (by kernel_rfl)⟩
instance:TC Tryz.prog 141:=⟨Xb Tryz.func141 (by kernel_rfl) (by kernel_rfl)⟩
instance:TC Tryz.prog 142:=⟨Xb Tryz.func142 (by kernel_rfl) (by kernel_rfl)⟩
instance:TC Tryz.prog 143:=⟨Xb Tryz.func143 (by kernel_rfl) (by kernel_rfl)⟩
instance:TC Tryz.prog 144:=⟨Xb Tryz.func144 (by kernel_rfl) (by kernel_rfl)⟩
instance:TC Tryz.prog 145:=⟨Xb Tryz.func145 (by kernel_rfl) (by kernel_rfl)⟩
instance:TC Tryz.prog 146:=⟨Xb Tryz.func146 (by kernel_rfl) (by kernel_rfl)⟩
instance:TC Tryz.prog 147:=⟨Xb Tryz.func147 (by kernel_rfl) (by kernel_rfl)⟩
instance:TC Tryz.prog 148:=⟨Xb Tryz.func148 (by kernel_rfl) (by kernel_rfl)⟩
instance:TC Tryz.prog 149:=⟨Xb Tryz.func149 (by kernel_rfl) (by kernel_rfl)⟩
instance:TC Tryz.prog 150:=⟨Xb Tryz.func150 (by kernel_rfl) (by kernel_rfl)⟩
instance:TC Tryz.prog 151:=⟨Xb Tryz.func151 (by kernel_rfl) (by kernel_rfl)⟩
instance:TC Tryz.prog 160:=⟨Xb Tryz.func160 (by kernel_rfl) (by kernel_rfl)⟩
instance:TC Tryz.prog 161:=⟨Xb Tryz.func161 (by kernel_rfl) (by kernel_rfl)⟩
instance:TC Tryz.prog 162:=⟨Xb Tryz.func162 (by kernel_rfl) (by kernel_rfl)⟩
instance:TC Tryz.prog 163:=⟨Xb Tryz.func163 (by kernel_rfl) (by kernel_rfl)⟩
instance:TC Tryz.prog 172:=⟨Xb Tryz.func172 (by kernel_rfl) (by kernel_rfl)⟩
instance:TC Tryz.prog 173:=⟨Xb Tryz.func173 (by kernel_rfl) (by kernel_rfl)⟩
instance:TC Tryz.prog 174:=⟨Xb Tryz.func174 (by kernel_rfl) (by kernel_rfl)⟩
instance:TC Tryz.prog 175:=⟨Xb Tryz.func175 (by kernel_rfl) (by kernel_rfl)⟩
instance:TC Tryz.prog 176:=⟨Xb Tryz.func176 (by kernel_rfl) (by kernel_rfl)⟩
instance:TC Tryz.prog 177:=⟨Xb Tryz.func177 (by kernel_rfl) (by kernel_rfl)⟩
instance:TC Tryz.prog 178:=⟨Xb Tryz.func178 (by kernel_rfl) (by kernel_rfl)⟩
instance:TC Tryz.prog 179:=⟨Xb Tryz.func179 (by kernel_rfl) (by kernel_rfl)⟩
instance:TC Tryz.prog 180:=⟨Xb Tryz.func180 (by kernel_rfl) (by kernel_rfl)⟩
instance:TC Tryz.prog 181:=⟨Xb Tryz.func181 (by kernel_rfl) (by kernel_rfl)⟩
instance:TC Tryz.prog 182:=⟨Xb Tryz.func182 (by kernel_rfl) (by kernel_rfl)⟩
instance:TC Tryz.prog 183:=⟨Xb Tryz.func183 (by kernel_rfl) (by kernel_rfl)⟩
instance:TC Tryz.prog 184:=⟨Xb Tryz.func184 (by kernel_rfl) (by kernel_rfl)⟩
instance:TC Tryz.prog 185:=⟨Xb Tryz.func185 (by kernel_rfl) (by kernel_rfl)⟩
instance:TC Tryz.prog 186:=⟨Xb Tryz.func186 (by kernel_rfl) (by kernel_rfl)⟩
instance:TC Tryz.prog 187:=⟨Xb Tryz.func187 (by kernel_rfl) (by kernel_rfl)⟩
instance:TC Tryz.prog 188:=⟨Xb Tryz.func188 (by kernel_rfl) (by kernel_rfl)⟩
instance:TC Tryz.prog 189:=⟨Xb Tryz.func189 (by kernel_rfl) (by kernel_rfl)⟩
instance:TC Tryz.prog 190:=⟨Xb Tryz.func190 (by kernel_rfl) (by kernel_rfl)⟩
instance:TC Tryz.prog 191:=⟨Xb Tryz.func191 (by kernel_rfl) (by kernel_rfl)⟩
instance:TC Tryz.prog 192:=⟨Xb Tryz.func192 (by kernel_rfl) (by kernel_rfl)⟩
instance:TC Tryz.prog 193:=⟨Xb Tryz.func193 (by kernel_rfl) (by kernel_rfl)⟩
instance:TC Tryz.prog 202:=⟨Xb Tryz.func202 (by kernel_rfl) (by kernel_rfl)⟩
instance:TC Tryz.prog 203:=⟨Xb Tryz.func203 (by kernel_rfl) (by kernel_rfl)⟩
instance:TC Tryz.prog 204:=⟨Xb Tryz.func204 (by kernel_rfl) (by kernel_rfl)⟩
instance:TC Tryz.prog 205:=⟨Xb Tryz.func205 (by kernel_rfl) (by kernel_rfl)⟩
instance:TC Tryz.prog 206:=⟨Xb Tryz.func206 (by kernel_rfl) (by kernel_rfl)⟩
instance:TC Tryz.prog 207:=⟨Xb Tryz.func207 (by kernel_rfl) (by kernel_rfl)⟩
instance:TC Tryz.prog 208:=⟨Xb Tryz.func208 (by kernel_rfl) (by kernel_rfl)⟩
instance:TC Tryz.prog 209:=⟨Xb Tryz.func209 (by kernel_rfl) (by kernel_rfl)⟩
instance:TC Tryz.prog 215:=⟨Xb Tryz.func215 (by kernel_rfl) (by kernel_rfl)⟩
instance:TC Tryz.prog 219:=⟨Xb Tryz.func219 (by kernel_rfl) (by kernel_rfl)⟩
instance:TC Tryz.prog 221:=⟨Xb Tryz.func221 (by kernel_rfl) (by kernel_rfl)⟩
instance:TC Tryz.prog 222:=⟨Xb Tryz.func222 (by kernel_rfl) (by kernel_rfl)⟩
instance:TC Tryz.prog 223:=⟨Xb Tryz.func223 (by kernel_rfl) (by kernel_rfl)⟩
instance:TC Tryz.prog 224:=⟨Xb Tryz.func224 (by kernel_rfl) (by kernel_rfl)⟩
instance:TC Tryz.prog 225:=⟨Xb Tryz.func225 (by kernel_rfl) (by kernel_rfl)⟩
instance:TC Tryz.prog 226:=⟨Xb Tryz.func226 (by kernel_rfl) (by kernel_rfl)⟩
instance:TC Tryz.prog 227:=⟨Xb Tryz.func227 (by kernel_rfl) (by kernel_rfl)⟩
instance:TC Tryz.prog 228:=⟨Xb Tryz.func228 (by kernel_rfl) (by kernel_rfl)⟩
instance:TC Tryz.prog 229:=⟨Xb Tryz.func229 (by kernel_rfl) (by kernel_rfl)⟩
instance:TC Tryz.prog 230:=⟨Xb Tryz.func230 (by kernel_rfl) (by kernel_rfl)⟩
instance:TC Tryz.prog 231:=⟨Xb Tryz.func231 (by kernel_rfl) (by kernel_rfl)⟩
instance:TC Tryz.prog 235:=⟨Xb Tryz.func235 (by kernel_rfl) (by kernel_rfl)⟩
instance:TC Tryz.prog 236:=⟨Xb Tryz.func236 (by kernel_rfl) (by kernel_rfl)⟩
instance:TC Tryz.prog 237:=⟨Xb Tryz.func237 (by kernel_rfl) (by kernel_rfl)⟩
instance:TC Tryz.prog 238:=⟨Xb Tryz.func238 (by kernel_rfl) (by kernel_rfl)⟩
instance:TC Tryz.prog 239:=⟨Xb Tryz.func239 (by kernel_rfl) (by kernel_rfl)⟩
instance:TC Tryz.prog 240:=⟨Xb Tryz.func240 (by kernel_rfl) (by kernel_rfl)⟩
instance:TC Tryz.prog 243:=⟨Xb Tryz.func243 (by kernel_rfl) (by kernel_rfl)⟩
instance:TC Tryz.prog 244:=⟨Xb Tryz.func244 (by kernel_rfl) (by kernel_rfl)⟩
instance:TC Tryz.prog 253:=⟨Xb Tryz.func253 (by kernel_rfl) (by kernel_rfl)⟩
instance:TC Tryz.prog 254:=⟨Xb Tryz.func254 (by kernel_rfl) (by kernel_rfl)⟩
instance:TC Tryz.prog 255:=⟨Xb Tryz.func255 (by kernel_rfl) (by kernel_rfl)⟩
instance:TC Tryz.prog 257:=⟨Xb Tryz.func257 (by kernel_rfl) (by kernel_rfl)⟩
instance:TC Tryz.prog 261:=⟨Xb Tryz.func261 (by kernel_rfl) (by kernel_rfl)⟩
instance:TC Tryz.prog 262:=⟨Xb Tryz.func262 (by kernel_rfl) (by kernel_rfl)⟩
instance:TC Tryz.prog 263:=⟨Xb Tryz.func263 (by kernel_rfl) (by kernel_rfl)⟩
instance:TC Tryz.prog 264:=⟨Xb Tryz.func264 (by kernel_rfl) (by kernel_rfl)⟩
instance:TC Tryz.prog 265:=⟨Xb Tryz.func265 (by kernel_rfl) (by kernel_rfl)⟩
instance:TD Tryz.prog 102 5 [2,0,1,3,4]:=⟨⟨⟩⟩
instance:TD Tryz.prog 112 16 [0,1,2,4,5,6,9,10,3,7,8,11]:=⟨⟨⟩⟩
instance:TD Tryz.prog 67 13 [0,1,2,3,4,8,9,5,6,7,10]:=⟨⟨⟩⟩
instance:TD Tryz.prog 61 8 [2,0,1,3,4]:=⟨⟨⟩⟩
instance:TX Tryz.prog 152 23:=⟨⟨⟩⟩
instance:TD Tryz.prog 152 23 [0,1,2,4,5,6,7,8,3,9,10,11,12,13,14,15,16]:=⟨⟨⟩⟩
instance:TD Tryz.prog 83 14 [0,1,3,2,4,5,6,7,8,9]:=⟨⟨⟩⟩
instance:TX Tryz.prog 83 17:=⟨⟨⟩⟩
instance:TD Tryz.prog 83 17 [0,1,2,4,5,6,3,7,8,9,10,11,12,13]:=⟨⟨⟩⟩
instance:TD Tryz.prog 26 3 [0,1,3,4,2,5,6,7]:=⟨⟨⟩⟩
instance:TD Tryz.prog 32 1 [0,2,1,3,4,5]:=⟨⟨⟩⟩
instance:TX Tryz.prog 79 10:=⟨⟨⟩⟩
instance:TD Tryz.prog 79 10 [0,1,2,3,4,5,6,7,8,9,10,11,12,13]:=⟨⟨⟩⟩
instance:TX Tryz.prog 51 5:=⟨⟨⟩⟩
instance:TD Tryz.prog 51 5 [0,1,2,3,4,5]:=⟨⟨⟩⟩
instance:TX Tryz.prog 86 22:=⟨⟨⟩⟩
instance:TX Tryz.prog 14 3:=⟨⟨⟩⟩
instance:TD Tryz.prog 44 10 [0,1,2,4,5,6,7,8,3,9,10,11]:=⟨⟨⟩⟩
instance:TX Tryz.prog 44 11:=⟨⟨⟩⟩
instance:TD Tryz.prog 49 14 [0,2,1,3,4]:=⟨⟨⟩⟩
instance:TD Tryz.prog 114 15 [0,1,2,3,4,5,7,8,9,10,11,12,6,13,14,15]:=⟨⟨⟩⟩
instance:TD Tryz.prog 26 6 [0,1,3,2,4,5]:=⟨⟨⟩⟩
instance:TX Tryz.prog 36 6:=⟨⟨⟩⟩
instance:TD Tryz.prog 36 6 [0,1,2,3,4,5]:=⟨⟨⟩⟩
instance:TD Tryz.prog 59 1 [0,1,3,4,2,5,6,7]:=⟨⟨⟩⟩
instance:TX Tryz.prog 32 2:=⟨⟨⟩⟩
instance:TD Tryz.prog 32 4 [0,1,2,3,4,5,7,8,9,6,10,11,12,13]:=⟨⟨⟩⟩
instance:TD Tryz.prog 99 7 [0,1,2,3,4,5,8,6,7,9,10,11,12,13]:=⟨⟨⟩⟩
instance:TD Tryz.prog 99 15 [0,1,2,3,4,6,5,7,8,9,10,11]:=⟨⟨⟩⟩
instance:TD Tryz.prog 126 6 [0,1,3,5,2,4,6,7]:=⟨⟨⟩⟩
instance:TD Tryz.prog 126 10 [0,1,2,3,4,5,7,8,6,9,10]:=⟨⟨⟩⟩
instance:TD Tryz.prog 126 11 [0,1,2,3,5,4,6,7,8,9,10]:=⟨⟨⟩⟩
instance:TD Tryz.prog 126 14 [0,4,1,2,3,5,6]:=⟨⟨⟩⟩
instance:TD Tryz.prog 126 18 [0,1,3,4,5,6,7,8,2,9,10]:=⟨⟨⟩⟩
instance:TD Tryz.prog 126 19 [0,1,2,3,5,4,6,7,8,9,10]:=⟨⟨⟩⟩
instance:TD Tryz.prog 30 5 [0,2,1,3,4]:=⟨⟨⟩⟩
instance:TD Tryz.prog 83 0 [0,2,1,3,4,5]:=⟨⟨⟩⟩
instance:TD Tryz.prog 83 11 [0,1,3,4,5,2,6,7,8,9,10,11,12]:=⟨⟨⟩⟩
instance:TD Tryz.prog 24 5 [0,1,3,4,5,6,2,7,8]:=⟨⟨⟩⟩
instance:TD Tryz.prog 82 2 [0,2,5,1,3,4,6,7,8]:=⟨⟨⟩⟩
instance:TX Tryz.prog 82 3:=⟨⟨⟩⟩
instance:TD Tryz.prog 82 3 [0,2,1,3,4,5,6,7]:=⟨⟨⟩⟩
instance:TX Tryz.prog 82 7:=⟨⟨⟩⟩
instance:TD Tryz.prog 82 10 [0,2,1,3,4,5]:=⟨⟨⟩⟩
instance:TD Tryz.prog 82 13 [0,1,2,5,3,4,6,7,8,9,10,11]:=⟨⟨⟩⟩
instance:TX Tryz.prog 82 14:=⟨⟨⟩⟩
instance:TD Tryz.prog 40 5 [0,1,3,4,5,6,7,8,2,9,10,11]:=⟨⟨⟩⟩
instance:TD Tryz.prog 40 7 [0,1,3,2,4,5]:=⟨⟨⟩⟩
instance:TX Tryz.prog 73 6:=⟨⟨⟩⟩
instance:TD Tryz.prog 73 6 [0,1,2,3,4,5,6,7,8,9,10,11]:=⟨⟨⟩⟩
instance:TX Tryz.prog 19 1:=⟨⟨⟩⟩
instance:TD Tryz.prog 19 1 [0,1,2,3,4,5,6,7,8,9,10,11,12]:=⟨⟨⟩⟩
instance:TX Tryz.prog 33 3:=⟨⟨⟩⟩
instance:TD Tryz.prog 33 4 [0,2,1,3,4,5]:=⟨⟨⟩⟩
instance:TX Tryz.prog 33 7:=⟨⟨⟩⟩
end Go.Proofs.YtjdpemcnlejpfaaGreatDoor
