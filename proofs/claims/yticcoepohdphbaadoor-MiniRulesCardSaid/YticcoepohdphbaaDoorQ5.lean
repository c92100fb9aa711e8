/- Words. -/
import Derived.Test.YticcoepohdphbaaDoorQ4
import Derived.Test.YticcoepohdphbaaDoorProg
namespace Go.Proofs.YticcoepohdphbaaDoor.AO
open Go.RowKit
set_option linter.unusedVariables false
set_option linter.unusedSimpArgs false
set_option maxRecDepth 10000
set_option maxHeartbeats 4000000
def cI_i64 (n : Int) : List T := [.int .i64 n]
def cS (x : ByteArray) : List T := [.str x]
def cL_cS (l : (List ByteArray)) : List T := [.sl (List.map cS l)]
def cL_cI_i64 (l : (List Int)) : List T := [.sl (List.map cI_i64 l)]
def cL_cL_cI_i64 (l : (List (List Int))) : List T := [.sl (List.map cL_cI_i64 l)]
structure S_machine where
 Next : (List (List Int))
 Says : (List ByteArray)
 deriving Inhabited
def S_machine.cells (a : S_machine) : List T := [.sl (List.map cL_cI_i64 a.Next), .sl (List.map cS a.Says)]
def cB (b : Bool) : List T := [.bool b]
structure S_fewest where
 Machine : S_machine
 Of : (List Int)
 Names : (List Int)
 Kept : (List Int)
 deriving Inhabited
def S_fewest.cells (a : S_fewest) : List T := [.sl (List.map cL_cI_i64 a.Machine.Next), .sl (List.map cS a.Machine.Says), .sl (List.map cI_i64 a.Of), .sl (List.map cI_i64 a.Names), .sl (List.map cI_i64 a.Kept)]
structure S_Back where
 Next : (List (List Int))
 Out : (List Int)
 deriving Inhabited
def S_Back.cells (a : S_Back) : List T := [.sl (List.map cL_cI_i64 a.Next), .sl (List.map cI_i64 a.Out)]
def cI_u8 (n : Int) : List T := [.int .u8 n]
def cL_cI_u8 (l : (List Int)) : List T := [.sl (List.map cI_u8 l)]
structure S_Vec where
 C0 : Int
 C1 : Int
 C2 : Int
 deriving Inhabited
def S_Vec.cells (a : S_Vec) : List T := [.int .i64 a.C0, .int .i64 a.C1, .int .i64 a.C2]
def cL_S_Vec (l : (List S_Vec)) : List T := [.sl (List.map S_Vec.cells l)]
def cL_cL_S_Vec (l : (List (List S_Vec))) : List T := [.sl (List.map cL_S_Vec l)]
structure S_Fwd where
 Next : (List (List Int))
 Emit : (List (List S_Vec))
 deriving Inhabited
def S_Fwd.cells (a : S_Fwd) : List T := [.sl (List.map cL_cI_i64 a.Next), .sl (List.map cL_S_Vec a.Emit)]
structure S_Raw where
 K : Int
 N : Int
 L : (List S_Raw)
instance : Inhabited S_Raw := ⟨⟨0, 0, []⟩⟩
mutual
def S_Raw.cells : S_Raw → List T
 | ⟨K, N, L⟩ => [.int .i64 K, .int .i64 N, .sl (S_Raw.cellsL L)]
def S_Raw.cellsL : List S_Raw → List (List T)
 | [] => []
 | x :: l => S_Raw.cells x :: S_Raw.cellsL l
end
theorem S_Raw.cellsL_eq : ∀ l : List S_Raw, S_Raw.cellsL l = List.map S_Raw.cells l
 | [] => by rw [S_Raw.cellsL]; rfl
 | x :: l => by rw [S_Raw.cellsL, S_Raw.cellsL_eq l]; rfl
theorem S_Raw.cells_eq (a : S_Raw) : S_Raw.cells a = [.int .i64 a.K, .int .i64 a.N, .sl (List.map S_Raw.cells a.L)] := by cases a; rw [S_Raw.cells, S_Raw.cellsL_eq]
def cL_S_Raw (l : (List S_Raw)) : List T := [.sl (List.map S_Raw.cells l)]
structure S_Class where
 Kind : Int
 Lo : Int
 Hi : Int
 Name : ByteArray
 L : (List S_Class)
instance : Inhabited S_Class := ⟨⟨0, 0, 0, ByteArray.empty, []⟩⟩
mutual
def S_Class.cells : S_Class → List T
 | ⟨Kind, Lo, Hi, Name, L⟩ => [.int .i64 Kind, .int .i64 Lo, .int .i64 Hi, .str Name, .sl (S_Class.cellsL L)]
def S_Class.cellsL : List S_Class → List (List T)
 | [] => []
 | x :: l => S_Class.cells x :: S_Class.cellsL l
end
theorem S_Class.cellsL_eq : ∀ l : List S_Class, S_Class.cellsL l = List.map S_Class.cells l
 | [] => by rw [S_Class.cellsL]; rfl
 | x :: l => by rw [S_Class.cellsL, S_Class.cellsL_eq l]; rfl
theorem S_Class.cells_eq (a : S_Class) : S_Class.cells a = [.int .i64 a.Kind, .int .i64 a.Lo, .int .i64 a.Hi, .str a.Name, .sl (List.map S_Class.cells a.L)] := by cases a; rw [S_Class.cells, S_Class.cellsL_eq]
def cL_S_Class (l : (List S_Class)) : List T := [.sl (List.map S_Class.cells l)]
structure S_Def where
 Name : ByteArray
 C : S_Class
 deriving Inhabited
def S_Def.cells (a : S_Def) : List T := [.str a.Name, .int .i64 a.C.Kind, .int .i64 a.C.Lo, .int .i64 a.C.Hi, .str a.C.Name, .sl (List.map S_Class.cells a.C.L)]
def cL_S_Def (l : (List S_Def)) : List T := [.sl (List.map S_Def.cells l)]
structure S_Rex where
 Kind : Int
 Lo : Int
 Hi : Int
 W : Int
 Name : ByteArray
 L : (List S_Rex)
instance : Inhabited S_Rex := ⟨⟨0, 0, 0, 0, ByteArray.empty, []⟩⟩
mutual
def S_Rex.cells : S_Rex → List T
 | ⟨Kind, Lo, Hi, W, Name, L⟩ => [.int .i64 Kind, .int .i64 Lo, .int .i64 Hi, .int .i64 W, .str Name, .sl (S_Rex.cellsL L)]
def S_Rex.cellsL : List S_Rex → List (List T)
 | [] => []
 | x :: l => S_Rex.cells x :: S_Rex.cellsL l
end
theorem S_Rex.cellsL_eq : ∀ l : List S_Rex, S_Rex.cellsL l = List.map S_Rex.cells l
 | [] => by rw [S_Rex.cellsL]; rfl
 | x :: l => by rw [S_Rex.cellsL, S_Rex.cellsL_eq l]; rfl
theorem S_Rex.cells_eq (a : S_Rex) : S_Rex.cells a = [.int .i64 a.Kind, .int .i64 a.Lo, .int .i64 a.Hi, .int .i64 a.W, .str a.Name, .sl (List.map S_Rex.cells a.L)] := by cases a; rw [S_Rex.cells, S_Rex.cellsL_eq]
def cL_S_Rex (l : (List S_Rex)) : List T := [.sl (List.map S_Rex.cells l)]
structure S_Rule where
 Cat : Int
 Cost : Int
 Left : S_Rex
 Right : S_Rex
 deriving Inhabited
def S_Rule.cells (a : S_Rule) : List T := [.int .i64 a.Cat, .int .i64 a.Cost, .int .i64 a.Left.Kind, .int .i64 a.Left.Lo, .int .i64 a.Left.Hi, .int .i64 a.Left.W, .str a.Left.Name, .sl (List.map S_Rex.cells a.Left.L), .int .i64 a.Right.Kind, .int .i64 a.Right.Lo, .int .i64 a.Right.Hi, .int .i64 a.Right.W, .str a.Right.Name, .sl (List.map S_Rex.cells a.Right.L)]
def cL_S_Rule (l : (List S_Rule)) : List T := [.sl (List.map S_Rule.cells l)]
structure S_File where
 Defs : (List S_Def)
 Rules : (List S_Rule)
 deriving Inhabited
def S_File.cells (a : S_File) : List T := [.sl (List.map S_Def.cells a.Defs), .sl (List.map S_Rule.cells a.Rules)]
structure S_Range where
 Lo : Int
 Hi : Int
 deriving Inhabited
def S_Range.cells (a : S_Range) : List T := [.int .i64 a.Lo, .int .i64 a.Hi]
def cL_S_Range (l : (List S_Range)) : List T := [.sl (List.map S_Range.cells l)]
def cL_cL_S_Range (l : (List (List S_Range))) : List T := [.sl (List.map cL_S_Range l)]
def cL_cB (l : (List Bool)) : List T := [.sl (List.map cB l)]
def cL_cL_cB (l : (List (List Bool))) : List T := [.sl (List.map cL_cB l)]
structure S_Arc where
 From : Int
 To : Int
 W : Int
 deriving Inhabited
def S_Arc.cells (a : S_Arc) : List T := [.int .i64 a.From, .int .i64 a.To, .int .i64 a.W]
def cL_S_Arc (l : (List S_Arc)) : List T := [.sl (List.map S_Arc.cells l)]
structure S_Side where
 Sets : (List Int)
 First : (List Int)
 Ends : (List Int)
 Arcs : (List S_Arc)
 None : Int
 deriving Inhabited
def S_Side.cells (a : S_Side) : List T := [.sl (List.map cI_i64 a.Sets), .sl (List.map cI_i64 a.First), .sl (List.map cI_i64 a.Ends), .sl (List.map S_Arc.cells a.Arcs), .int .i64 a.None]
def cL_S_Side (l : (List S_Side)) : List T := [.sl (List.map S_Side.cells l)]
structure S_World where
 F : S_File
 Cuts : (List Int)
 Names : (List Int)
 In : (List (List Bool))
 Left : (List S_Side)
 Right : (List S_Side)
 N : Int
 deriving Inhabited
def S_World.cells (a : S_World) : List T := [.sl (List.map S_Def.cells a.F.Defs), .sl (List.map S_Rule.cells a.F.Rules), .sl (List.map cI_i64 a.Cuts), .sl (List.map cI_i64 a.Names), .sl (List.map cL_cB a.In), .sl (List.map S_Side.cells a.Left), .sl (List.map S_Side.cells a.Right), .int .i64 a.N]
theorem mo169 : mapOf Tryd.prog 169 = some (none, .int .i64 0) := by kernel_rfl
theorem um169 : Tryd.prog.underlying 169 = some (.map 9 3) := by kernel_rfl
theorem ul95 : Tryd.prog.underlying 95 = some (.slice 9) := by kernel_rfl
theorem el95 : elemOf Tryd.prog 95 = some (9, 1, 16, [.str ByteArray.empty]) := by kernel_rfl
theorem zo9 : zeroOf Tryd.prog 9 = [.str ByteArray.empty] := by kernel_rfl
theorem sg9 : single Tryd.prog 9 = true := by kernel_rfl
theorem el23 : elemOf Tryd.prog 23 = some (3, 1, 8, [.int .i64 0]) := by kernel_rfl
theorem zo3 : zeroOf Tryd.prog 3 = [.int .i64 0] := by kernel_rfl
theorem sg3 : single Tryd.prog 3 = true := by kernel_rfl
theorem pf36 : plainFn Tryd.prog 36 = true := by kernel_rfl
theorem fo97_0 : fieldOff Tryd.prog 97 0 = some 0 := by kernel_rfl
theorem sg37 : single Tryd.prog 37 = true := by kernel_rfl
theorem el37 : elemOf Tryd.prog 37 = some (23, 1, 24, [.none]) := by kernel_rfl
theorem zo23 : zeroOf Tryd.prog 23 = [.sl []] := by kernel_rfl
theorem sg23 : single Tryd.prog 23 = true := by kernel_rfl
theorem ul23 : Tryd.prog.underlying 23 = some (.slice 3) := by kernel_rfl
theorem pf90 : plainFn Tryd.prog 90 = true := by kernel_rfl
theorem fo97_1 : fieldOff Tryd.prog 97 1 = some 1 := by kernel_rfl
theorem sg95 : single Tryd.prog 95 = true := by kernel_rfl
theorem pf80 : plainFn Tryd.prog 80 = true := by kernel_rfl
theorem ul37 : Tryd.prog.underlying 37 = some (.slice 23) := by kernel_rfl
theorem sg97 : single Tryd.prog 97 = false := by kernel_rfl
theorem mn97 : many Tryd.prog 97 = some 2 := by kernel_rfl
theorem pf81 : plainFn Tryd.prog 81 = true := by kernel_rfl
theorem el84 : elemOf Tryd.prog 84 = some (4, 1, 1, [.bool false]) := by kernel_rfl
theorem zo4 : zeroOf Tryd.prog 4 = [.bool false] := by kernel_rfl
theorem ul84 : Tryd.prog.underlying 84 = some (.slice 4) := by kernel_rfl
theorem sz4 : (Tryd.prog.info? 4).map (·.size) = some 1 := by kernel_rfl
theorem sg4 : single Tryd.prog 4 = true := by kernel_rfl
theorem pf60 : plainFn Tryd.prog 60 = true := by kernel_rfl
theorem ly102 : layoutAV Tryd.prog 102 = some ([.t .none, .t .none, .t .none, .t .none, .t .none], [(0, 2), (2, 1), (3, 1), (4, 1)]) := by kernel_rfl
theorem mo132 : mapOf Tryd.prog 132 = some (some .i64, .int .i64 0) := by kernel_rfl
theorem um132 : Tryd.prog.underlying 132 = some (.map 3 3) := by kernel_rfl
theorem fo102_2 : fieldOff Tryd.prog 102 2 = some 3 := by kernel_rfl
theorem sz3 : (Tryd.prog.info? 3).map (·.size) = some 1 := by kernel_rfl
theorem fo102_0 : fieldOff Tryd.prog 102 0 = some 0 := by kernel_rfl
theorem pf61 : plainFn Tryd.prog 61 = true := by kernel_rfl
theorem fo102_1 : fieldOff Tryd.prog 102 1 = some 2 := by kernel_rfl
theorem fo102_3 : fieldOff Tryd.prog 102 3 = some 4 := by kernel_rfl
theorem sz23 : (Tryd.prog.info? 23).map (·.size) = some 1 := by kernel_rfl
theorem pf39 : plainFn Tryd.prog 39 = true := by kernel_rfl
theorem pf45 : plainFn Tryd.prog 45 = true := by kernel_rfl
theorem al39 : allocOf Tryd.prog 39 = some [.t .none, .t .none] := by kernel_rfl
theorem fo39_0 : fieldOff Tryd.prog 39 0 = some 0 := by kernel_rfl
theorem ly97 : layoutAV Tryd.prog 97 = some ([.t .none, .t .none], [(0, 1), (1, 1)]) := by kernel_rfl
theorem al97 : allocOf Tryd.prog 97 = some [.t .none, .t .none] := by kernel_rfl
theorem sz97 : (Tryd.prog.info? 97).map (·.size) = some 2 := by kernel_rfl
theorem fo39_1 : fieldOff Tryd.prog 39 1 = some 1 := by kernel_rfl
theorem sz95 : (Tryd.prog.info? 95).map (·.size) = some 1 := by kernel_rfl
theorem pf37 : plainFn Tryd.prog 37 = true := by kernel_rfl
theorem pf38 : plainFn Tryd.prog 38 = true := by kernel_rfl
theorem ly39 : layoutAV Tryd.prog 39 = some ([.t .none, .t .none], [(0, 1), (1, 1)]) := by kernel_rfl
theorem sz39 : (Tryd.prog.info? 39).map (·.size) = some 2 := by kernel_rfl
theorem sg39 : single Tryd.prog 39 = false := by kernel_rfl
theorem mn39 : many Tryd.prog 39 = some 2 := by kernel_rfl
theorem pf82 : plainFn Tryd.prog 82 = true := by kernel_rfl
theorem fo137_1 : fieldOff Tryd.prog 137 1 = some 1 := by kernel_rfl
theorem sg135 : single Tryd.prog 135 = true := by kernel_rfl
theorem be135 : byteElem Tryd.prog 135 = some 5 := by kernel_rfl
theorem tx9 : textType Tryd.prog 9 = true := by kernel_rfl
theorem sz135 : (Tryd.prog.info? 135).map (·.size) = some 1 := by kernel_rfl
theorem ul9 : Tryd.prog.underlying 9 = some .string := by kernel_rfl
theorem ul135 : Tryd.prog.underlying 135 = some (.slice 5) := by kernel_rfl
theorem pp161 : Tryd.prog.underlying 161 = some (.pointer 5) := by kernel_rfl
theorem co5 : Tryd.prog.cellsOf 5 = 1 := by kernel_rfl
theorem al137 : allocOf Tryd.prog 137 = some [.t (.val (.pointer none)), .t .none] := by kernel_rfl
theorem ul56 : Tryd.prog.underlying 56 = some (.slice 61) := by kernel_rfl
theorem el56 : elemOf Tryd.prog 56 = some (61, 3, 24, [.int .i64 0, .int .i64 0, .int .i64 0]) := by kernel_rfl
theorem zo61 : zeroOf Tryd.prog 61 = [.int .i64 0, .int .i64 0, .int .i64 0] := by kernel_rfl
theorem sg61 : single Tryd.prog 61 = false := by kernel_rfl
theorem mn61 : many Tryd.prog 61 = some 3 := by kernel_rfl
theorem al61 : allocOf Tryd.prog 61 = some [.t (.int .i64 0), .t (.int .i64 0), .t (.int .i64 0)] := by kernel_rfl
theorem sz61 : (Tryd.prog.info? 61).map (·.size) = some 3 := by kernel_rfl
theorem ia61 : intArr Tryd.prog 61 = some 3 := by kernel_rfl
theorem pf62 : plainFn Tryd.prog 62 = true := by kernel_rfl
theorem pf63 : plainFn Tryd.prog 63 = true := by kernel_rfl
theorem ul42 : Tryd.prog.underlying 42 = some (.slice 56) := by kernel_rfl
theorem el42 : elemOf Tryd.prog 42 = some (56, 1, 24, [.none]) := by kernel_rfl
theorem zo56 : zeroOf Tryd.prog 56 = [.sl []] := by kernel_rfl
theorem al44 : allocOf Tryd.prog 44 = some [.t .none, .t .none] := by kernel_rfl
theorem fo44_0 : fieldOff Tryd.prog 44 0 = some 0 := by kernel_rfl
theorem fo44_1 : fieldOff Tryd.prog 44 1 = some 1 := by kernel_rfl
theorem sg42 : single Tryd.prog 42 = true := by kernel_rfl
theorem sg56 : single Tryd.prog 56 = true := by kernel_rfl
theorem pf40 : plainFn Tryd.prog 40 = true := by kernel_rfl
theorem pf41 : plainFn Tryd.prog 41 = true := by kernel_rfl
theorem sz42 : (Tryd.prog.info? 42).map (·.size) = some 1 := by kernel_rfl
theorem pf42 : plainFn Tryd.prog 42 = true := by kernel_rfl
theorem ly44 : layoutAV Tryd.prog 44 = some ([.t .none, .t .none], [(0, 1), (1, 1)]) := by kernel_rfl
theorem sz44 : (Tryd.prog.info? 44).map (·.size) = some 2 := by kernel_rfl
theorem sg44 : single Tryd.prog 44 = false := by kernel_rfl
theorem mn44 : many Tryd.prog 44 = some 2 := by kernel_rfl
theorem sz37 : (Tryd.prog.info? 37).map (·.size) = some 1 := by kernel_rfl
theorem pf10 : plainFn Tryd.prog 10 = true := by kernel_rfl
theorem ly61 : layoutAV Tryd.prog 61 = some ([.t (.int .i64 0), .t (.int .i64 0), .t (.int .i64 0)], [(0, 1), (1, 1), (2, 1)]) := by kernel_rfl
theorem pf11 : plainFn Tryd.prog 11 = true := by kernel_rfl
theorem pf19 : plainFn Tryd.prog 19 = true := by kernel_rfl
theorem ul22 : Tryd.prog.underlying 22 = some (.slice 111) := by kernel_rfl
theorem el22 : elemOf Tryd.prog 22 = some (111, 3, 40, [.int .i64 0, .int .i64 0, .none]) := by kernel_rfl
theorem zo111 : zeroOf Tryd.prog 111 = [.int .i64 0, .int .i64 0, .sl []] := by kernel_rfl
theorem fo111_2 : fieldOff Tryd.prog 111 2 = some 2 := by kernel_rfl
theorem sg22 : single Tryd.prog 22 = true := by kernel_rfl
theorem pf20 : plainFn Tryd.prog 20 = true := by kernel_rfl
theorem al118 : allocOf Tryd.prog 118 = some [.t (.int .i64 0), .t (.int .i64 0), .t (.int .i64 0), .t (.str ByteArray.empty), .t .none] := by kernel_rfl
theorem ly118 : layoutAV Tryd.prog 118 = some ([.t (.int .i64 0), .t (.int .i64 0), .t (.int .i64 0), .t (.str ByteArray.empty), .t .none], [(0, 1), (1, 1), (2, 1), (3, 1), (4, 1)]) := by kernel_rfl
theorem sz118 : (Tryd.prog.info? 118).map (·.size) = some 5 := by kernel_rfl
theorem sg118 : single Tryd.prog 118 = false := by kernel_rfl
theorem mn118 : many Tryd.prog 118 = some 5 := by kernel_rfl
theorem pf47 : plainFn Tryd.prog 47 = true := by kernel_rfl
theorem ul26 : Tryd.prog.underlying 26 = some (.slice 120) := by kernel_rfl
theorem el26 : elemOf Tryd.prog 26 = some (120, 6, 80, [.str ByteArray.empty, .int .i64 0, .int .i64 0, .int .i64 0, .str ByteArray.empty, .none]) := by kernel_rfl
theorem zo120 : zeroOf Tryd.prog 120 = [.str ByteArray.empty, .int .i64 0, .int .i64 0, .int .i64 0, .str ByteArray.empty, .sl []] := by kernel_rfl
theorem fo120_0 : fieldOff Tryd.prog 120 0 = some 0 := by kernel_rfl
theorem pf66 : plainFn Tryd.prog 66 = true := by kernel_rfl
theorem el116 : elemOf Tryd.prog 116 = some (118, 5, 64, [.int .i64 0, .int .i64 0, .int .i64 0, .str ByteArray.empty, .none]) := by kernel_rfl
theorem zo118 : zeroOf Tryd.prog 118 = [.int .i64 0, .int .i64 0, .int .i64 0, .str ByteArray.empty, .sl []] := by kernel_rfl
theorem pf64 : plainFn Tryd.prog 64 = true := by kernel_rfl
theorem ly120 : layoutAV Tryd.prog 120 = some ([.t (.str ByteArray.empty), .t (.int .i64 0), .t (.int .i64 0), .t (.int .i64 0), .t (.str ByteArray.empty), .t .none], [(0, 1), (1, 5)]) := by kernel_rfl
theorem pf65 : plainFn Tryd.prog 65 = true := by kernel_rfl
theorem sg78 : single Tryd.prog 78 = false := by kernel_rfl
theorem mn78 : many Tryd.prog 78 = some 6 := by kernel_rfl
theorem al78 : allocOf Tryd.prog 78 = some [.t (.int .i64 0), .t (.int .i64 0), .t (.int .i64 0), .t (.int .i64 0), .t (.str ByteArray.empty), .t .none] := by kernel_rfl
theorem fo111_0 : fieldOff Tryd.prog 111 0 = some 0 := by kernel_rfl
theorem ly78 : layoutAV Tryd.prog 78 = some ([.t (.int .i64 0), .t (.int .i64 0), .t (.int .i64 0), .t (.int .i64 0), .t (.str ByteArray.empty), .t .none], [(0, 1), (1, 1), (2, 1), (3, 1), (4, 1), (5, 1)]) := by kernel_rfl
theorem sz78 : (Tryd.prog.info? 78).map (·.size) = some 6 := by kernel_rfl
theorem fo111_1 : fieldOff Tryd.prog 111 1 = some 1 := by kernel_rfl
theorem sg111 : single Tryd.prog 111 = false := by kernel_rfl
theorem mn111 : many Tryd.prog 111 = some 3 := by kernel_rfl
theorem pf67 : plainFn Tryd.prog 67 = true := by kernel_rfl
theorem el76 : elemOf Tryd.prog 76 = some (78, 6, 72, [.int .i64 0, .int .i64 0, .int .i64 0, .int .i64 0, .str ByteArray.empty, .none]) := by kernel_rfl
theorem zo78 : zeroOf Tryd.prog 78 = [.int .i64 0, .int .i64 0, .int .i64 0, .int .i64 0, .str ByteArray.empty, .sl []] := by kernel_rfl
theorem pf48 : plainFn Tryd.prog 48 = true := by kernel_rfl
theorem al29 : allocOf Tryd.prog 29 = some [.t .none, .t .none] := by kernel_rfl
theorem pf46 : plainFn Tryd.prog 46 = true := by kernel_rfl
theorem ly29 : layoutAV Tryd.prog 29 = some ([.t .none, .t .none], [(0, 1), (1, 1)]) := by kernel_rfl
theorem sz29 : (Tryd.prog.info? 29).map (·.size) = some 2 := by kernel_rfl
theorem fo29_1 : fieldOff Tryd.prog 29 1 = some 1 := by kernel_rfl
theorem sg27 : single Tryd.prog 27 = true := by kernel_rfl
theorem ly80 : layoutAV Tryd.prog 80 = some ([.t (.int .i64 0), .t (.int .i64 0), .t (.int .i64 0), .t (.int .i64 0), .t (.int .i64 0), .t (.int .i64 0), .t (.str ByteArray.empty), .t .none, .t (.int .i64 0), .t (.int .i64 0), .t (.int .i64 0), .t (.int .i64 0), .t (.str ByteArray.empty), .t .none], [(0, 1), (1, 1), (2, 6), (8, 6)]) := by kernel_rfl
theorem el27 : elemOf Tryd.prog 27 = some (80, 14, 160, [.int .i64 0, .int .i64 0, .int .i64 0, .int .i64 0, .int .i64 0, .int .i64 0, .str ByteArray.empty, .none, .int .i64 0, .int .i64 0, .int .i64 0, .int .i64 0, .str ByteArray.empty, .none]) := by kernel_rfl
theorem zo80 : zeroOf Tryd.prog 80 = [.int .i64 0, .int .i64 0, .int .i64 0, .int .i64 0, .int .i64 0, .int .i64 0, .str ByteArray.empty, .sl [], .int .i64 0, .int .i64 0, .int .i64 0, .int .i64 0, .str ByteArray.empty, .sl []] := by kernel_rfl
theorem sz27 : (Tryd.prog.info? 27).map (·.size) = some 1 := by kernel_rfl
theorem sg29 : single Tryd.prog 29 = false := by kernel_rfl
theorem mn29 : many Tryd.prog 29 = some 2 := by kernel_rfl
theorem ul114 : Tryd.prog.underlying 114 = some (.slice 149) := by kernel_rfl
theorem el114 : elemOf Tryd.prog 114 = some (149, 2, 16, [.int .i64 0, .int .i64 0]) := by kernel_rfl
theorem zo149 : zeroOf Tryd.prog 149 = [.int .i64 0, .int .i64 0] := by kernel_rfl
theorem fo149_0 : fieldOff Tryd.prog 149 0 = some 0 := by kernel_rfl
theorem fo149_1 : fieldOff Tryd.prog 149 1 = some 1 := by kernel_rfl
theorem ly149 : layoutAV Tryd.prog 149 = some ([.t (.int .i64 0), .t (.int .i64 0)], [(0, 1), (1, 1)]) := by kernel_rfl
theorem al149 : allocOf Tryd.prog 149 = some [.t (.int .i64 0), .t (.int .i64 0)] := by kernel_rfl
theorem sz149 : (Tryd.prog.info? 149).map (·.size) = some 2 := by kernel_rfl
theorem sg149 : single Tryd.prog 149 = false := by kernel_rfl
theorem mn149 : many Tryd.prog 149 = some 2 := by kernel_rfl
theorem pf83 : plainFn Tryd.prog 83 = true := by kernel_rfl
theorem fo29_0 : fieldOff Tryd.prog 29 0 = some 0 := by kernel_rfl
theorem sg26 : single Tryd.prog 26 = true := by kernel_rfl
theorem pf68 : plainFn Tryd.prog 68 = true := by kernel_rfl
theorem pf70 : plainFn Tryd.prog 70 = true := by kernel_rfl
theorem pf71 : plainFn Tryd.prog 71 = true := by kernel_rfl
theorem pf72 : plainFn Tryd.prog 72 = true := by kernel_rfl
theorem fo118_4 : fieldOff Tryd.prog 118 4 = some 4 := by kernel_rfl
theorem sg116 : single Tryd.prog 116 = true := by kernel_rfl
theorem ul116 : Tryd.prog.underlying 116 = some (.slice 118) := by kernel_rfl
theorem pf49 : plainFn Tryd.prog 49 = true := by kernel_rfl
theorem el65 : elemOf Tryd.prog 65 = some (114, 1, 24, [.none]) := by kernel_rfl
theorem zo114 : zeroOf Tryd.prog 114 = [.sl []] := by kernel_rfl
theorem fo118_0 : fieldOff Tryd.prog 118 0 = some 0 := by kernel_rfl
theorem fo118_1 : fieldOff Tryd.prog 118 1 = some 1 := by kernel_rfl
theorem fo118_2 : fieldOff Tryd.prog 118 2 = some 2 := by kernel_rfl
theorem fo118_3 : fieldOff Tryd.prog 118 3 = some 3 := by kernel_rfl
theorem pf69 : plainFn Tryd.prog 69 = true := by kernel_rfl
theorem sg114 : single Tryd.prog 114 = true := by kernel_rfl
theorem pf73 : plainFn Tryd.prog 73 = true := by kernel_rfl
theorem fo120_1 : fieldOff Tryd.prog 120 1 = some 1 := by kernel_rfl
theorem ul65 : Tryd.prog.underlying 65 = some (.slice 114) := by kernel_rfl
theorem pf52 : plainFn Tryd.prog 52 = true := by kernel_rfl
theorem pf50 : plainFn Tryd.prog 50 = true := by kernel_rfl
theorem pf51 : plainFn Tryd.prog 51 = true := by kernel_rfl
theorem pf25 : plainFn Tryd.prog 25 = true := by kernel_rfl
theorem el30 : elemOf Tryd.prog 30 = some (84, 1, 24, [.none]) := by kernel_rfl
theorem zo84 : zeroOf Tryd.prog 84 = [.sl []] := by kernel_rfl
theorem fo78_0 : fieldOff Tryd.prog 78 0 = some 0 := by kernel_rfl
theorem fo78_5 : fieldOff Tryd.prog 78 5 = some 5 := by kernel_rfl
theorem sg76 : single Tryd.prog 76 = true := by kernel_rfl
theorem ul76 : Tryd.prog.underlying 76 = some (.slice 78) := by kernel_rfl
theorem pf53 : plainFn Tryd.prog 53 = true := by kernel_rfl
theorem fo78_2 : fieldOff Tryd.prog 78 2 = some 2 := by kernel_rfl
theorem al73 : allocOf Tryd.prog 73 = some [.t .none, .t .none, .t .none, .t .none, .t (.int .i64 0)] := by kernel_rfl
theorem ly73 : layoutAV Tryd.prog 73 = some ([.t .none, .t .none, .t .none, .t .none, .t (.int .i64 0)], [(0, 1), (1, 1), (2, 1), (3, 1), (4, 1)]) := by kernel_rfl
theorem sz73 : (Tryd.prog.info? 73).map (·.size) = some 5 := by kernel_rfl
theorem fo73_0 : fieldOff Tryd.prog 73 0 = some 0 := by kernel_rfl
theorem fo73_1 : fieldOff Tryd.prog 73 1 = some 1 := by kernel_rfl
theorem fo73_2 : fieldOff Tryd.prog 73 2 = some 2 := by kernel_rfl
theorem sg73 : single Tryd.prog 73 = false := by kernel_rfl
theorem mn73 : many Tryd.prog 73 = some 5 := by kernel_rfl
theorem pf75 : plainFn Tryd.prog 75 = true := by kernel_rfl
theorem fo73_4 : fieldOff Tryd.prog 73 4 = some 4 := by kernel_rfl
theorem fo73_3 : fieldOff Tryd.prog 73 3 = some 3 := by kernel_rfl
theorem sg71 : single Tryd.prog 71 = true := by kernel_rfl
theorem el71 : elemOf Tryd.prog 71 = some (128, 3, 24, [.int .i64 0, .int .i64 0, .int .i64 0]) := by kernel_rfl
theorem zo128 : zeroOf Tryd.prog 128 = [.int .i64 0, .int .i64 0, .int .i64 0] := by kernel_rfl
theorem sz71 : (Tryd.prog.info? 71).map (·.size) = some 1 := by kernel_rfl
theorem ul71 : Tryd.prog.underlying 71 = some (.slice 128) := by kernel_rfl
theorem fo128_0 : fieldOff Tryd.prog 128 0 = some 0 := by kernel_rfl
theorem fo128_1 : fieldOff Tryd.prog 128 1 = some 1 := by kernel_rfl
theorem fo128_2 : fieldOff Tryd.prog 128 2 = some 2 := by kernel_rfl
theorem ly128 : layoutAV Tryd.prog 128 = some ([.t (.int .i64 0), .t (.int .i64 0), .t (.int .i64 0)], [(0, 1), (1, 1), (2, 1)]) := by kernel_rfl
theorem sg128 : single Tryd.prog 128 = false := by kernel_rfl
theorem mn128 : many Tryd.prog 128 = some 3 := by kernel_rfl
theorem pf84 : plainFn Tryd.prog 84 = true := by kernel_rfl
theorem pf57 : plainFn Tryd.prog 57 = true := by kernel_rfl
theorem pf85 : plainFn Tryd.prog 85 = true := by kernel_rfl
theorem pf74 : plainFn Tryd.prog 74 = true := by kernel_rfl
theorem fo78_4 : fieldOff Tryd.prog 78 4 = some 4 := by kernel_rfl
theorem pf54 : plainFn Tryd.prog 54 = true := by kernel_rfl
theorem pf76 : plainFn Tryd.prog 76 = true := by kernel_rfl
theorem pf77 : plainFn Tryd.prog 77 = true := by kernel_rfl
theorem pf78 : plainFn Tryd.prog 78 = true := by kernel_rfl
theorem fo78_3 : fieldOff Tryd.prog 78 3 = some 3 := by kernel_rfl
theorem fo78_1 : fieldOff Tryd.prog 78 1 = some 1 := by kernel_rfl
theorem sg84 : single Tryd.prog 84 = true := by kernel_rfl
theorem pf55 : plainFn Tryd.prog 55 = true := by kernel_rfl
theorem al128 : allocOf Tryd.prog 128 = some [.t (.int .i64 0), .t (.int .i64 0), .t (.int .i64 0)] := by kernel_rfl
theorem sz128 : (Tryd.prog.info? 128).map (·.size) = some 3 := by kernel_rfl
theorem al33 : allocOf Tryd.prog 33 = some [.t .none, .t .none, .t .none, .t .none, .t .none, .t .none, .t .none, .t (.int .i64 0)] := by kernel_rfl
theorem pf21 : plainFn Tryd.prog 21 = true := by kernel_rfl
theorem ly33 : layoutAV Tryd.prog 33 = some ([.t .none, .t .none, .t .none, .t .none, .t .none, .t .none, .t .none, .t (.int .i64 0)], [(0, 2), (2, 1), (3, 1), (4, 1), (5, 1), (6, 1), (7, 1)]) := by kernel_rfl
theorem sz33 : (Tryd.prog.info? 33).map (·.size) = some 8 := by kernel_rfl
theorem fo33_0 : fieldOff Tryd.prog 33 0 = some 0 := by kernel_rfl
theorem pf22 : plainFn Tryd.prog 22 = true := by kernel_rfl
theorem pf23 : plainFn Tryd.prog 23 = true := by kernel_rfl
theorem fo33_1 : fieldOff Tryd.prog 33 1 = some 2 := by kernel_rfl
theorem fo33_2 : fieldOff Tryd.prog 33 2 = some 3 := by kernel_rfl
theorem pf24 : plainFn Tryd.prog 24 = true := by kernel_rfl
theorem fo33_3 : fieldOff Tryd.prog 33 3 = some 4 := by kernel_rfl
theorem sz30 : (Tryd.prog.info? 30).map (·.size) = some 1 := by kernel_rfl
theorem fo33_6 : fieldOff Tryd.prog 33 6 = some 7 := by kernel_rfl
theorem ul27 : Tryd.prog.underlying 27 = some (.slice 80) := by kernel_rfl
theorem fo80_2 : fieldOff Tryd.prog 80 2 = some 2 := by kernel_rfl
theorem pf26 : plainFn Tryd.prog 26 = true := by kernel_rfl
theorem fo80_3 : fieldOff Tryd.prog 80 3 = some 8 := by kernel_rfl
theorem sg33 : single Tryd.prog 33 = false := by kernel_rfl
theorem mn33 : many Tryd.prog 33 = some 8 := by kernel_rfl
theorem fo33_4 : fieldOff Tryd.prog 33 4 = some 5 := by kernel_rfl
theorem sg31 : single Tryd.prog 31 = true := by kernel_rfl
theorem sg30 : single Tryd.prog 30 = true := by kernel_rfl
theorem pf27 : plainFn Tryd.prog 27 = true := by kernel_rfl
theorem el31 : elemOf Tryd.prog 31 = some (73, 5, 104, [.none, .none, .none, .none, .int .i64 0]) := by kernel_rfl
theorem zo73 : zeroOf Tryd.prog 73 = [.sl [], .sl [], .sl [], .sl [], .int .i64 0] := by kernel_rfl
theorem fo33_5 : fieldOff Tryd.prog 33 5 = some 6 := by kernel_rfl
theorem sz31 : (Tryd.prog.info? 31).map (·.size) = some 1 := by kernel_rfl
theorem gf30 : gridOf Tryd.prog 30 = some (84, 4, 1, 24) := by kernel_rfl
theorem sz84 : (Tryd.prog.info? 84).map (·.size) = some 1 := by kernel_rfl
theorem ul31 : Tryd.prog.underlying 31 = some (.slice 73) := by kernel_rfl
theorem pf28 : plainFn Tryd.prog 28 = true := by kernel_rfl
theorem pf56 : plainFn Tryd.prog 56 = true := by kernel_rfl
theorem el83 : elemOf Tryd.prog 83 = some (84, 1, 24, [.none]) := by kernel_rfl
theorem bt4 : boolType Tryd.prog 4 = true := by kernel_rfl
theorem ul83 : Tryd.prog.underlying 83 = some (.slice 84) := by kernel_rfl
theorem pf32 : plainFn Tryd.prog 32 = true := by kernel_rfl
theorem el85 : elemOf Tryd.prog 85 = some (83, 1, 24, [.none]) := by kernel_rfl
theorem zo83 : zeroOf Tryd.prog 83 = [.sl []] := by kernel_rfl
theorem ul85 : Tryd.prog.underlying 85 = some (.slice 83) := by kernel_rfl
theorem sg83 : single Tryd.prog 83 = true := by kernel_rfl
theorem pf29 : plainFn Tryd.prog 29 = true := by kernel_rfl
theorem pf30 : plainFn Tryd.prog 30 = true := by kernel_rfl
theorem pf31 : plainFn Tryd.prog 31 = true := by kernel_rfl
theorem ul30 : Tryd.prog.underlying 30 = some (.slice 84) := by kernel_rfl
theorem el90 : elemOf Tryd.prog 90 = some (23, 1, 24, [.none]) := by kernel_rfl
theorem ul90 : Tryd.prog.underlying 90 = some (.slice 23) := by kernel_rfl
theorem pf16 : plainFn Tryd.prog 16 = true := by kernel_rfl
theorem pf58 : plainFn Tryd.prog 58 = true := by kernel_rfl
theorem fo80_0 : fieldOff Tryd.prog 80 0 = some 0 := by kernel_rfl
theorem en61 : elemOf Tryd.prog 61 = none := by kernel_rfl
theorem ao61 : arrOf Tryd.prog 61 = some (3, 1) := by kernel_rfl
theorem fo80_1 : fieldOff Tryd.prog 80 1 = some 1 := by kernel_rfl
theorem el91 : elemOf Tryd.prog 91 = some (90, 1, 24, [.none]) := by kernel_rfl
theorem zo90 : zeroOf Tryd.prog 90 = [.sl []] := by kernel_rfl
theorem ul91 : Tryd.prog.underlying 91 = some (.slice 90) := by kernel_rfl
theorem sg90 : single Tryd.prog 90 = true := by kernel_rfl
theorem pf33 : plainFn Tryd.prog 33 = true := by kernel_rfl
theorem pf34 : plainFn Tryd.prog 34 = true := by kernel_rfl
theorem pf35 : plainFn Tryd.prog 35 = true := by kernel_rfl
theorem pf43 : plainFn Tryd.prog 43 = true := by kernel_rfl
theorem pf44 : plainFn Tryd.prog 44 = true := by kernel_rfl
theorem a361 : arr3 Tryd.prog 61 = true := by kernel_rfl
theorem pf4 : plainFn Tryd.prog 4 = true := by kernel_rfl
theorem pf5 : plainFn Tryd.prog 5 = true := by kernel_rfl
theorem pf6 : plainFn Tryd.prog 6 = true := by kernel_rfl
theorem pf7 : plainFn Tryd.prog 7 = true := by kernel_rfl
theorem pf8 : plainFn Tryd.prog 8 = true := by kernel_rfl
theorem pf9 : plainFn Tryd.prog 9 = true := by kernel_rfl
theorem pf12 : plainFn Tryd.prog 12 = true := by kernel_rfl
theorem pf14 : plainFn Tryd.prog 14 = true := by kernel_rfl
theorem pf13 : plainFn Tryd.prog 13 = true := by kernel_rfl
theorem pf15 : plainFn Tryd.prog 15 = true := by kernel_rfl
theorem pf18 : plainFn Tryd.prog 18 = true := by kernel_rfl
theorem pf17 : plainFn Tryd.prog 17 = true := by kernel_rfl
theorem mixed : Tryd.prog.follows .mixedOrders = true := by kernel_rfl
theorem gd_cS (l : List ByteArray) (n : Nat) : (List.map cS l).getD n [.str ByteArray.empty] = cS (l.getD n default) := getD_cells cS l n default
theorem gd_cI_i64 (l : List Int) (n : Nat) : (List.map cI_i64 l).getD n [.int .i64 0] = cI_i64 (l.getD n default) := getD_cells cI_i64 l n default
theorem gd_cL_cI_i64 (l : List (List Int)) (n : Nat) : (List.map cL_cI_i64 l).getD n [.sl []] = cL_cI_i64 (l.getD n default) := getD_cells cL_cI_i64 l n default
theorem gd_cB (l : List Bool) (n : Nat) : (List.map cB l).getD n [.bool false] = cB (l.getD n default) := getD_cells cB l n default
theorem gd_S_Vec (l : List S_Vec) (n : Nat) : (List.map S_Vec.cells l).getD n [.int .i64 0, .int .i64 0, .int .i64 0] = S_Vec.cells (l.getD n default) := getD_cells S_Vec.cells l n default
theorem gd_cL_S_Vec (l : List (List S_Vec)) (n : Nat) : (List.map cL_S_Vec l).getD n [.sl []] = cL_S_Vec (l.getD n default) := getD_cells cL_S_Vec l n default
theorem gd_S_Raw (l : List S_Raw) (n : Nat) : (List.map S_Raw.cells l).getD n [.int .i64 0, .int .i64 0, .sl []] = S_Raw.cells (l.getD n default) := by have h := getD_cells S_Raw.cells l n default; rw [S_Raw.cells_eq default] at h; exact h
theorem gd_S_Def (l : List S_Def) (n : Nat) : (List.map S_Def.cells l).getD n [.str ByteArray.empty, .int .i64 0, .int .i64 0, .int .i64 0, .str ByteArray.empty, .sl []] = S_Def.cells (l.getD n default) := getD_cells S_Def.cells l n default
theorem gd_S_Class (l : List S_Class) (n : Nat) : (List.map S_Class.cells l).getD n [.int .i64 0, .int .i64 0, .int .i64 0, .str ByteArray.empty, .sl []] = S_Class.cells (l.getD n default) := by have h := getD_cells S_Class.cells l n default; rw [S_Class.cells_eq default] at h; exact h
theorem gd_S_Rex (l : List S_Rex) (n : Nat) : (List.map S_Rex.cells l).getD n [.int .i64 0, .int .i64 0, .int .i64 0, .int .i64 0, .str ByteArray.empty, .sl []] = S_Rex.cells (l.getD n default) := by have h := getD_cells S_Rex.cells l n default; rw [S_Rex.cells_eq default] at h; exact h
theorem gd_S_Rule (l : List S_Rule) (n : Nat) : (List.map S_Rule.cells l).getD n [.int .i64 0, .int .i64 0, .int .i64 0, .int .i64 0, .int .i64 0, .int .i64 0, .str ByteArray.empty, .sl [], .int .i64 0, .int .i64 0, .int .i64 0, .int .i64 0, .str ByteArray.empty, .sl []] = S_Rule.cells (l.getD n default) := getD_cells S_Rule.cells l n default
theorem gd_S_Range (l : List S_Range) (n : Nat) : (List.map S_Range.cells l).getD n [.int .i64 0, .int .i64 0] = S_Range.cells (l.getD n default) := getD_cells S_Range.cells l n default
theorem gd_cL_S_Range (l : List (List S_Range)) (n : Nat) : (List.map cL_S_Range l).getD n [.sl []] = cL_S_Range (l.getD n default) := getD_cells cL_S_Range l n default
theorem gd_cL_cB (l : List (List Bool)) (n : Nat) : (List.map cL_cB l).getD n [.sl []] = cL_cB (l.getD n default) := getD_cells cL_cB l n default
theorem gd_S_Arc (l : List S_Arc) (n : Nat) : (List.map S_Arc.cells l).getD n [.int .i64 0, .int .i64 0, .int .i64 0] = S_Arc.cells (l.getD n default) := getD_cells S_Arc.cells l n default
theorem gd_S_Side (l : List S_Side) (n : Nat) : (List.map S_Side.cells l).getD n [.sl [], .sl [], .sl [], .sl [], .int .i64 0] = S_Side.cells (l.getD n default) := getD_cells S_Side.cells l n default
theorem gd_cL_cL_cB (l : List (List (List Bool))) (n : Nat) : (List.map cL_cL_cB l).getD n [.sl []] = cL_cL_cB (l.getD n default) := getD_cells cL_cL_cB l n default
theorem gd_cL_cL_cI_i64 (l : List (List (List Int))) (n : Nat) : (List.map cL_cL_cI_i64 l).getD n [.sl []] = cL_cL_cI_i64 (l.getD n default) := getD_cells cL_cL_cI_i64 l n default
end Go.Proofs.YticcoepohdphbaaDoor.AO
namespace Go.Proofs.YticcoepohdphbaaDoor.AO
open Go.RowKit
set_option linter.unusedVariables false
set_option linter.unusedSimpArgs false
set_option maxRecDepth 10000
set_option maxHeartbeats 4000000
attribute [local go_sem ↓] reduceIte
attribute [local go_sem] intsOf bytesI_length mapS_length mapI_length gok keepOk other isPtr xtext textType byteOf xcoreG xgrid xmap keyV keyFit cond_true cond_false GP.isPtr St.rever reV reVL reO reG List.nodup_nil footOf leS leE leB leO leV leVs otl_none otl_some Ob.names Option.isNone_none Option.isNone_some Option.isSome_none Option.isSome_some List.range_zero List.range_succ List.getD_cons_zero List.getD_cons_succ List.getD_nil xrun xrunD St.only xIdx xBuild xLit xMake xSlice xAppend parts fillAV chunks blank bound rowsOf rowsOk ints3 logic3 asT asTs fieldOf arith divs strs logic guardOf xcall xelse cndOf xguard xstep xplain xcore val1 val2 frz us usL okU okUL obOf restr at0 St.raw cav cell1 newOp nidOf Op.operands Call.operands xLen lenOf lenType lenOk xBin arith refIds refIdsL enter xPick pickV xIdx xField fieldOk fieldOf xLoad xStore stored room there cellsAt cellsOf solid wk wkL wkT ids idsL names namesL ren renL renO inMap inMapL inMapO St.keepR St.tidy St.clean St.setObs St.okAll St.clear frzUpds froz isRow obF cellsO valsO given newIds okCall backs hasAll handsB resAV resVar St.get_mk St.ob_mk setOb_mk app_mk app_mkN app_mkU look_cons look_nil put_cons put_nil sets_cons sets_nil nodupB disj List.map_cons List.map_nil List.zipIdx_cons List.zipIdx_nil Option.getD_some Option.getD_none Option.map_some Option.map_none true_and and_true forall_const List.length_map List.length_set List.length_replicate List.length_append List.length_cons List.length_nil Nat.zero_add List.drop_succ_cons List.drop_zero List.take_succ_cons List.take_zero List.all_cons List.all_nil List.any_cons List.any_nil Bool.and_true Bool.true_and Bool.and_self Bool.or_false Bool.not_false Bool.not_true List.nil_append List.cons_append List.append_nil List.getElem?_cons_zero List.getElem?_cons_succ List.filterMap_cons List.filterMap_nil List.filter_cons List.filter_nil List.flatMap_cons List.flatMap_nil List.foldl_cons List.foldl_nil List.set_cons_zero List.set_cons_succ Bool.false_eq_true if_false if_true reduceCtorEq false_implies implies_true imp_self eq_self true_or List.contains_cons List.contains_nil List.contains_eq_mem List.mem_cons List.not_mem_nil or_false or_true false_or decide_true decide_false beq_true beq_false List.toList_toArray Array.toList_append List.append_toArray Option.toList_some Option.toList_none Nat.sub_zero forall_eq forall_eq_or_imp Nat.reduceEqDiff Nat.reduceAdd Nat.reduceMul Nat.reduceMod Nat.reduceDiv Nat.reduceLeDiff Int.reduceToNat cI_i64 cS cL_cS cL_cI_i64 cL_cL_cI_i64 S_machine.cells cB S_fewest.cells S_Back.cells cI_u8 cL_cI_u8 S_Vec.cells cL_S_Vec cL_cL_S_Vec S_Fwd.cells S_Raw.cells_eq cL_S_Raw S_Class.cells_eq cL_S_Class S_Def.cells cL_S_Def S_Rex.cells_eq cL_S_Rex S_Rule.cells cL_S_Rule S_File.cells S_Range.cells cL_S_Range cL_cL_S_Range cL_cB cL_cL_cB S_Arc.cells cL_S_Arc S_Side.cells cL_S_Side S_World.cells mo169 um169 ul95 el95 zo9 sg9 el23 zo3 sg3 pf36 fo97_0 sg37 el37 zo23 sg23 ul23 pf90 fo97_1 sg95 pf80 ul37 sg97 mn97 pf81 el84 zo4 ul84 sz4 sg4 pf60 ly102 mo132 um132 fo102_2 sz3 fo102_0 pf61 fo102_1 fo102_3 sz23 pf39 pf45 al39 fo39_0 ly97 al97 sz97 fo39_1 sz95 pf37 pf38 ly39 sz39 sg39 mn39 pf82 fo137_1 sg135 be135 tx9 sz135 ul9 ul135 pp161 co5 al137 ul56 el56 zo61 sg61 mn61 al61 sz61 ia61 pf62 pf63 ul42 el42 zo56 al44 fo44_0 fo44_1 sg42 sg56 pf40 pf41 sz42 pf42 ly44 sz44 sg44 mn44 sz37 pf10 ly61 pf11 pf19 ul22 el22 zo111 fo111_2 sg22 pf20 al118 ly118 sz118 sg118 mn118 pf47 ul26 el26 zo120 fo120_0 pf66 el116 zo118 pf64 ly120 pf65 sg78 mn78 al78 fo111_0 ly78 sz78 fo111_1 sg111 mn111 pf67 el76 zo78 pf48 al29 pf46 ly29 sz29 fo29_1 sg27 ly80 el27 zo80 sz27 sg29 mn29 ul114 el114 zo149 fo149_0 fo149_1 ly149 al149 sz149 sg149 mn149 pf83 fo29_0 sg26 pf68 pf70 pf71 pf72 fo118_4 sg116 ul116 pf49 el65 zo114 fo118_0 fo118_1 fo118_2 fo118_3 pf69 sg114 pf73 fo120_1 ul65 pf52 pf50 pf51 pf25 el30 zo84 fo78_0 fo78_5 sg76 ul76 pf53 fo78_2 al73 ly73 sz73 fo73_0 fo73_1 fo73_2 sg73 mn73 pf75 fo73_4 fo73_3 sg71 el71 zo128 sz71 ul71 fo128_0 fo128_1 fo128_2 ly128 sg128 mn128 pf84 pf57 pf85 pf74 fo78_4 pf54 pf76 pf77 pf78 fo78_3 fo78_1 sg84 pf55 al128 sz128 al33 pf21 ly33 sz33 fo33_0 pf22 pf23 fo33_1 fo33_2 pf24 fo33_3 sz30 fo33_6 ul27 fo80_2 pf26 fo80_3 sg33 mn33 fo33_4 sg31 sg30 pf27 el31 zo73 fo33_5 sz31 gf30 sz84 ul31 pf28 pf56 el83 bt4 ul83 pf32 el85 zo83 ul85 sg83 pf29 pf30 pf31 ul30 el90 ul90 pf16 pf58 fo80_0 en61 ao61 fo80_1 el91 zo90 ul91 sg90 pf33 pf34 pf35 pf43 pf44 a361 pf4 pf5 pf6 pf7 pf8 pf9 pf12 pf14 pf13 pf15 pf18 pf17 gd_cS gd_cI_i64 gd_cL_cI_i64 gd_cB gd_S_Vec gd_cL_S_Vec gd_S_Raw gd_S_Def gd_S_Class gd_S_Rex gd_S_Rule gd_S_Range gd_cL_S_Range gd_cL_cB gd_S_Arc gd_S_Side gd_cL_cL_cB gd_cL_cL_cI_i64
def F80_parted (k : Nat) (a0 : (List ByteArray)) : Option ((List Int) × Int) := (loopM (S := ((List (ByteArray × Int)) × (List Int) × Int)) (X := (((List (ByteArray × Int)) × (List Int)) ⊕ (List Int) × Int)) (fun s27 => bif (decide (s27.2.2 < ((a0).length : Int))) then (gd (0 ≤ s27.2.2 ∧ s27.2.2 < ((a0).length : Int)) ((bif (!((mlook s27.1 ((a0).getD (s27.2.2).toNat default)).isSome)) then (some (.inl ((mset s27.1 ((a0).getD (s27.2.2).toNat default) ((s27.1).length : Int)), ((s27.1).length : Int)))) else (some (.inl (s27.1, ((mlook s27.1 ((a0).getD (s27.2.2).toNat default)).getD 0)))) : Option (((List (ByteArray × Int)) × Int) ⊕ (((List (ByteArray × Int)) × (List Int) × Int) ⊕ (((List (ByteArray × Int)) × (List Int)) ⊕ (List Int) × Int)))).bind fun z31 => joinK z31 fun y30 => gd (((s27.2.1).length + 1) * 8 ≤ 140737488355328) (some (.inl (y30.1, (s27.2.1 ++ [y30.2]), (IntKind.i64.wrap (s27.2.2 + 1))))))) else (some (.inr (.inl (s27.1, s27.2.1))))) k ([], [], 0) : Option (((List (ByteArray × Int)) × (List Int)) ⊕ (List Int) × Int)).bind fun z17 => joinK z17 fun y16 => some (y16.2, ((y16.1).length : Int))
theorem F80_parted_ok {k : Nat} {a0 : (List ByteArray)} {v : (List Int) × Int} (h : F80_parted k a0 = some v) : FnV Tryd.prog 80 [.t (.sl (List.map cS a0))] [] (fun v => .tup [.ref 1000 ((v.1).length), .t (.int .i64 v.2)]) (fun v => [(1000, .row 1 3 (List.map cI_i64 v.1))]) v := by
 unfold F80_parted at h
 refine fv [.tmp 2, .tmp 3] Tryd.func80 ?_
 refine rP [0] ?_
 refine rP [0, 4] ?_ (by intro L hL; simp only [go_sem, (mapS_nil (T.int .i64))]; (repeat' with_reducible refine And.intro ?_ ?_); all_goals first | exact hL | rfl | assumption | omega)
 refine rP [0, 4, 5] ?_
 revert h; refine jn (fun y16 => ⟨[(4, .ref 5014 0), (5, .ref 5016 ((y16.2).length))], [(5014, .map none (mapS (T.int .i64) y16.1)), (5016, .row 1 3 (List.map cI_i64 y16.2))]⟩) (fun z17 h => ?_) fun y16 h => ?_
 ·refine rP [4, 5, 11, 12, 13] ?_
  refine WP.blockF ?_
  refine WP.loopF (fun s27 => ⟨[(4, .ref 5025 0), (5, .ref 5027 ((s27.2.1).length)), (11, .t (.sl (List.map cS a0))), (12, .t (.int .i64 ((a0).length : Int))), (13, .t (.int .i64 s27.2.2))], [(5025, .map none (mapS (T.int .i64) s27.1)), (5027, .row 1 3 (List.map cI_i64 s27.2.1))]⟩) h ((goes_adopt (s := 5) (id := 70028) rfl (by decide) (St.clear_spec rfl) 1 3).trans (g0 [4, 5, 11, 12, 13] [(1010, 5025), (70028, 5027)])) fun s27 z28 h => ?_
  refine rP [4, 5, 11, 12, 13, 14] ?_
  refine WP.seqF ?_
  revert h; refine cd (fun h => ?_) fun h => ?_
  ·refine WP.skip (next_in ?_)
   refine WP.seqF ?_
   refine WP.blockF ?_
   revert h; refine gd_in fun hb29 h => ?_
   refine rP [4, 5, 7, 11, 12, 13] ?_
   refine rP [4, 5, 7, 8, 9, 11, 12, 13] ?_ (by intro L hL; simp only [go_sem, (mget_mapS (T.int .i64) s27.1 ((a0).getD (s27.2.2).toNat default)), (getD_vf (T.int .i64) (mlook s27.1 ((a0).getD (s27.2.2).toNat default)) 0), isSome_vf]; (repeat' with_reducible refine And.intro ?_ ?_); all_goals first | exact hL | rfl | assumption | omega)
   revert h; refine jn (fun y30 => ⟨[(4, .ref 5029 0), (5, .ref 5030 ((s27.2.1).length)), (8, .t (.int .i64 y30.2)), (11, .t (.sl (List.map cS a0))), (12, .t (.int .i64 ((a0).length : Int))), (13, .t (.int .i64 s27.2.2))], [(5029, .map none (mapS (T.int .i64) y30.1)), (5030, .row 1 3 (List.map cI_i64 s27.2.1))]⟩) (fun z31 h => ?_) fun y30 h => ?_
   ·refine rP [4, 5, 7, 8, 11, 12, 13, 24] ?_
    revert h; refine cd (fun h => ?_) fun h => ?_
    ·refine rP [4, 5, 7, 8, 11, 12, 13] ?_ (by intro L hL; simp only [go_sem, mapS_length]; (repeat' with_reducible refine And.intro ?_ ?_); all_goals first | exact hL | rfl | assumption | omega)
     refine rO ?_ (by intro L hL; simp only [go_sem, (mput_mapS (T.int .i64) s27.1 ((a0).getD (s27.2.2).toNat default) ((s27.1).length : Int))]; (repeat' with_reducible refine And.intro ?_ ?_); all_goals first | exact hL | rfl | assumption | omega)
     exact join_in h (g0 [4, 5, 8, 11, 12, 13] [(5025, 5029), (5027, 5030)])
    ·exact WP.skip (join_in h (g0 [4, 5, 8, 11, 12, 13] [(5025, 5029), (5027, 5030)]))
   revert h; refine gd_in fun hb32 h => ?_
   refine rO ?_ (by intro L hL; simp only [go_sem, (fold_app cI_i64 s27.2.1 ([y30.2]) rfl : List.map cI_i64 s27.2.1 ++ [[.int .i64 y30.2]] = _)]; (repeat' with_reducible refine And.intro ?_ ?_); all_goals first | exact hL | rfl | assumption | exact map_len cI_i64 fun _ => rfl | omega)
   refine blk_normal (next_in ?_)
   refine rO ?_
   exact loop_in h (g0 [4, 5, 11, 12, 13] [(5029, 5025), (5030, 5027)])
  ·exact WP.exit (next_exit (loop_out h ne_exit (blk_exit (join_in rfl (g0 [4, 5] [(5025, 5014), (5027, 5016)])))))
 refine rP [2, 3] ?_ (by intro L hL; simp only [go_sem, mapS_length]; (repeat' with_reducible refine And.intro ?_ ?_); all_goals first | exact hL | rfl | assumption | omega)
 exact WP.ret (fr h (gt [2, 3] [(5016, 1000)] [] []))
def F81_machinefiner (k : Nat) (a0 : S_machine) (a1 : Int) (a2 : (List Int)) : Option ByteArray := gd (0 ≤ a1 ∧ a1 < ((a2).length : Int)) ((itoaM ((a2).getD (a1).toNat default)).bind fun r2 => ((gd (0 ≤ a1 ∧ a1 < ((a0.Next).length : Int)) (loopM (S := ((List ByteArray) × Int)) (X := ((List ByteArray) ⊕ ByteArray)) (fun s72 => bif (decide (s72.2 < ((((a0.Next).getD (a1).toNat default)).length : Int))) then ((gd (0 ≤ s72.2 ∧ s72.2 < ((((a0.Next).getD (a1).toNat default)).length : Int)) (bif (bif (decide (((((a0.Next).getD (a1).toNat default)).getD (s72.2).toNat default) ≥ 0)) then (decide (((((a0.Next).getD (a1).toNat default)).getD (s72.2).toNat default) < ((a2).length : Int))) else false) then (gd (0 ≤ ((((a0.Next).getD (a1).toNat default)).getD (s72.2).toNat default) ∧ ((((a0.Next).getD (a1).toNat default)).getD (s72.2).toNat default) < ((a2).length : Int)) ((itoaM ((a2).getD (((((a0.Next).getD (a1).toNat default)).getD (s72.2).toNat default)).toNat default)).bind fun r83 => (gd (((s72.1).length + 1) * 16 ≤ 140737488355328) (some (.inl (s72.1 ++ [r83])))))) else (some (.inl s72.1))) : Option ((List ByteArray) ⊕ (((List ByteArray) × Int) ⊕ ((List ByteArray) ⊕ ByteArray)))).bind fun z80 => joinK z80 fun y79 => some (.inl (y79, (IntKind.i64.wrap (s72.2 + 1))))) else (some (.inr (.inl s72.1)))) k ([r2], 0)) : Option ((List ByteArray) ⊕ ByteArray)).bind fun z45 => joinK z45 fun y44 => (joinM y44 (⟨#[32]⟩ : ByteArray)).bind fun r86 => (some r86)))
theorem F81_machinefiner_ok {k : Nat} {a0 : S_machine} {a1 : Int} {a2 : (List Int)} {v : ByteArray} (h : F81_machinefiner k a0 a1 a2 = some v) : FnV Tryd.prog 81 [.agg [.t (.sl (List.map cL_cI_i64 a0.Next)), .t (.sl (List.map cS a0.Says))], .t (.int .i64 a1), .t (.sl (List.map cI_i64 a2))] [] (fun v => .t (.str v)) (fun v => []) v := by
 unfold F81_machinefiner at h
 refine fv [.tmp 6] Tryd.func81 ?_
 refine rP [1, 2, 3] ?_
 revert h; refine gd_in fun hb1 h => ?_
 revert h; refine bd X_Itoa fun r2 hc3 h => ?_
 refine rQ [] [⟨[], [.t (.int .i64 ((a2).getD (a1).toNat default))], [], [], .t (.str r2), [], []⟩] [1, 2, 3, 7] ?_
 revert h; refine jn (fun y44 => ⟨[(7, .ref 5007 ((y44).length))], [(5007, .row 1 9 (List.map cS y44))]⟩) (fun z45 h => ?_) fun y44 h => ?_
 ·revert h; refine gd_in fun hb46 h => ?_
  refine rP [2, 7, 20, 21, 22] ?_
  refine WP.blockF ?_
  refine WP.loopF (fun s72 => ⟨[(2, .t (.sl (List.map cI_i64 a2))), (7, .ref 5012 ((s72.1).length)), (20, .t (.sl (List.map cI_i64 ((a0.Next).getD (a1).toNat default)))), (21, .t (.int .i64 ((((a0.Next).getD (a1).toNat default)).length : Int))), (22, .t (.int .i64 s72.2))], [(5012, .row 1 9 (List.map cS s72.1))]⟩) h (g0 [2, 7, 20, 21, 22] [(1015, 5012)]) fun s72 z73 h => ?_
  refine rP [2, 7, 20, 21, 22, 23] ?_
  refine WP.seqF ?_
  revert h; refine cd (fun h => ?_) fun h => ?_
  ·refine WP.skip (next_in ?_)
   revert h; refine jn (fun y79 => ⟨[(2, .t (.sl (List.map cI_i64 a2))), (7, .ref 5013 ((y79).length)), (20, .t (.sl (List.map cI_i64 ((a0.Next).getD (a1).toNat default)))), (21, .t (.int .i64 ((((a0.Next).getD (a1).toNat default)).length : Int))), (22, .t (.int .i64 s72.2))], [(5013, .row 1 9 (List.map cS y79))]⟩) (fun z80 h => ?_) fun y79 h => ?_
   ·refine WP.blockF ?_
    revert h; refine gd_in fun hb81 h => ?_
    refine rP [2, 7, 9, 20, 21, 22] ?_
    refine rP [2, 7, 9, 20, 21, 22, 33] ?_
    revert h; refine cd (fun h => ?_) fun h => ?_
    ·revert h; refine gd_in fun hb82 h => ?_
     revert h; refine bd X_Itoa fun r83 hc84 h => ?_
     revert h; refine gd_in fun hb85 h => ?_
     refine rN [] [⟨[], [.t (.int .i64 ((a2).getD (((((a0.Next).getD (a1).toNat default)).getD (s72.2).toNat default)).toNat default))], [], [], .t (.str r83), [], []⟩] ?_ (by intro L hL; simp only [go_sem, (fold_app cS s72.1 ([r83]) rfl : List.map cS s72.1 ++ [[.str r83]] = _)]; (repeat' with_reducible refine And.intro ?_ ?_); all_goals first | exact hL | rfl | assumption | exact map_len cS fun _ => rfl | omega)
     exact blk_normal (join_in h (g0 [2, 7, 20, 21, 22] [(5012, 5013)]))
    ·exact WP.skip (blk_normal (join_in h (g0 [2, 7, 20, 21, 22] [(5012, 5013)])))
   refine rO ?_
   exact loop_in h (g0 [2, 7, 20, 21, 22] [(5013, 5012)])
  ·exact WP.exit (next_exit (loop_out h ne_exit (blk_exit (join_in rfl (g0 [7] [(5012, 5007)])))))
 revert h; refine bd X_Join fun r86 hc87 h => ?_
 refine rQ [] [⟨[5007], [.t (.sl (List.map cS y44)), .t (.str (⟨#[32]⟩ : ByteArray))], [], [], .t (.str r86), [], []⟩] [6] ?_
 exact WP.ret (fr h (gt [6] [] [] []))
def F60_machinealike (k : Nat) (a0 : S_machine) : Option (List Int) := (F80_parted k a0.Says).bind fun r1 => (loopM (S := ((List Int) × Int)) (X := (List Int)) (fun s60 => (loopM (S := ((List ByteArray) × Int)) (X := ((List ByteArray) ⊕ (((List Int) × Int) ⊕ (List Int)))) (fun s83 => bif (decide (s83.2 < ((a0.Next).length : Int))) then ((F81_machinefiner k a0 s83.2 s60.1).bind fun r85 => (gd (((s83.1).length + 1) * 16 ≤ 140737488355328) (some (.inl ((s83.1 ++ [r85]), (IntKind.i64.wrap (s83.2 + 1))))))) else (some (.inr (.inl s83.1)))) k ([], 0) : Option ((List ByteArray) ⊕ (((List Int) × Int) ⊕ (List Int)))).bind fun z75 => joinK z75 fun y74 => (F80_parted k y74).bind fun r88 => (bif (r88.2 == s60.2) then (some (.inr s60.1)) else (some (.inl (r88.1, r88.2))))) k (r1.1, r1.2))
theorem F60_machinealike_ok {k : Nat} {a0 : S_machine} {v : (List Int)} (h : F60_machinealike k a0 = some v) : FnV Tryd.prog 60 [.agg [.t (.sl (List.map cL_cI_i64 a0.Next)), .t (.sl (List.map cS a0.Says))]] [] (fun v => .t (.sl (List.map cI_i64 v))) (fun v => []) v := by
 unfold F60_machinealike at h
 refine fv [.tmp 2] Tryd.func60 ?_
 refine rP [1] ?_
 revert h; refine bd F80_parted_ok fun r1 hc2 h => ?_
 refine rQ [] [⟨[], [.t (.sl (List.map cS a0.Says))], [], [(1000, .row 1 3 (List.map cI_i64 r1.1))], .tup [.ref 1000 ((r1.1).length), .t (.int .i64 r1.2)], [(1000, 100260)], []⟩] [1, 3, 4] ?_
 refine rP [1, 3, 4, 5] ?_
 refine WP.blockF ?_
 refine WP.loopF (fun s60 => ⟨[(1, .var 5049 0), (3, .ref 5050 ((s60.1).length)), (4, .t (.int .i64 s60.2)), (5, .clo 81 [])], [(5049, .var 97 [.t (.sl (List.map cL_cI_i64 a0.Next)), .t (.sl (List.map cS a0.Says))]), (5050, .row 1 3 (List.map cI_i64 s60.1))]⟩) h (g0 [1, 3, 4, 5] [(1001, 5049), (100260, 5050)]) fun s60 z61 h => ?_
 refine WP.blockF ?_
 refine rP [1, 3, 4, 5, 6] ?_
 revert h; refine jn (fun y74 => ⟨[(1, .var 5060 0), (3, .t (.sl (List.map cI_i64 s60.1))), (4, .t (.int .i64 s60.2)), (5, .clo 81 []), (6, .ref 5062 ((y74).length))], [(5060, .var 97 [.t (.sl (List.map cL_cI_i64 a0.Next)), .t (.sl (List.map cS a0.Says))]), (5062, .row 1 9 (List.map cS y74))]⟩) (fun z75 h => ?_) fun y74 h => ?_
 ·refine rP [1, 3, 4, 5, 6, 18, 19] ?_
  refine WP.blockF ?_
  refine WP.loopF (fun s83 => ⟨[(1, .var 5069 0), (3, .t (.sl (List.map cI_i64 s60.1))), (4, .t (.int .i64 s60.2)), (5, .clo 81 []), (6, .ref 5071 ((s83.1).length)), (18, .t (.int .i64 ((a0.Next).length : Int))), (19, .t (.int .i64 s83.2))], [(5069, .var 97 [.t (.sl (List.map cL_cI_i64 a0.Next)), .t (.sl (List.map cS a0.Says))]), (5071, .row 1 9 (List.map cS s83.1))]⟩) h ((goes_adopt (s := 6) (id := 70072) rfl (by decide) (St.clear_spec rfl) 1 9).trans (gl [1, 3, 4, 5, 6, 18, 19] [(5049, 5069), (5050, 5050), (70072, 5071)] [5050] [5050])) fun s83 z84 h => ?_
  refine rP [1, 3, 4, 5, 6, 18, 19, 20] ?_
  refine WP.seqF ?_
  revert h; refine cd (fun h => ?_) fun h => ?_
  ·refine WP.skip (next_in ?_)
   refine WP.seqF ?_
   refine WP.blockF ?_
   refine rP [1, 3, 4, 5, 6, 7, 18, 19] ?_
   revert h; refine bd F81_machinefiner_ok fun r85 hc86 h => ?_
   revert h; refine gd_in fun hb87 h => ?_
   refine rN [] [⟨[], [.agg [.t (.sl (List.map cL_cI_i64 a0.Next)), .t (.sl (List.map cS a0.Says))], .t (.int .i64 s83.2), .t (.sl (List.map cI_i64 s60.1))], [], [], .t (.str r85), [], []⟩] ?_ (by intro L hL; simp only [go_sem, (fold_app cS s83.1 ([r85]) rfl : List.map cS s83.1 ++ [[.str r85]] = _)]; (repeat' with_reducible refine And.intro ?_ ?_); all_goals first | exact hL | rfl | assumption | exact map_len cS fun _ => rfl | omega)
   refine blk_normal (next_in ?_)
   refine rO ?_
   exact loop_in h (g0 [1, 3, 4, 5, 6, 18, 19] [(5069, 5069), (5071, 5071)])
  ·exact WP.exit (next_exit (loop_out h ne_exit (blk_exit (join_in rfl (g0 [1, 3, 4, 5, 6] [(5069, 5060), (5071, 5062)])))))
 revert h; refine bd F80_parted_ok fun r88 hc89 h => ?_
 refine rQ [] [⟨[5062], [.t (.sl (List.map cS y74))], [], [(1000, .row 1 3 (List.map cI_i64 r88.1))], .tup [.ref 1000 ((r88.1).length), .t (.int .i64 r88.2)], [(1000, 100660)], []⟩] [1, 3, 4, 5, 8, 9] ?_
 refine WP.seqF ?_
 refine rP [1, 3, 5, 8, 9, 38] ?_
 revert h; refine cd (fun h => ?_) fun h => ?_
 ·refine rP [2] ?_
  exact WP.ret (next_ret (blk_ret (loop_out h ne_ret (blk_ret (fr rfl (gt [2] [] [] []))))))
 ·refine WP.skip (next_in ?_)
  refine rO ?_
  exact blk_normal (loop_in h (g0 [1, 3, 4, 5] [(5060, 5049), (100660, 5050)]))
def F61_machinereached (k : Nat) (a0 : S_machine) : Option (List Int) := gd (0 ≤ ((a0.Next).length : Int) ∧ 1 * ((a0.Next).length : Int) ≤ 281474976710656) (bif (((((a0.Next).length : Int)).toNat : Int) == 0) then (some []) else (gd (0 ≤ 0 ∧ 0 < ((((a0.Next).length : Int)).toNat : Int)) ((loopM (S := ((List Bool) × (List Int) × Int)) (X := ((List Int) ⊕ (List Int))) (fun s369 => bif (decide (s369.2.2 < ((s369.2.1).length : Int))) then ((gd (0 ≤ s369.2.2 ∧ s369.2.2 < ((s369.2.1).length : Int)) (gd (0 ≤ ((s369.2.1).getD (s369.2.2).toNat default) ∧ ((s369.2.1).getD (s369.2.2).toNat default) < ((a0.Next).length : Int)) (loopM (S := ((List Bool) × (List Int) × Int)) (X := (((List Bool) × (List Int)) ⊕ (((List Bool) × (List Int) × Int) ⊕ ((List Int) ⊕ (List Int))))) (fun s431 => bif (decide (s431.2.2 < ((((a0.Next).getD (((s369.2.1).getD (s369.2.2).toNat default)).toNat default)).length : Int))) then ((gd (0 ≤ s431.2.2 ∧ s431.2.2 < ((((a0.Next).getD (((s369.2.1).getD (s369.2.2).toNat default)).toNat default)).length : Int)) (gd ((bif (decide (((((a0.Next).getD (((s369.2.1).getD (s369.2.2).toNat default)).toNat default)).getD (s431.2.2).toNat default) ≥ 0)) then (decide (((((a0.Next).getD (((s369.2.1).getD (s369.2.2).toNat default)).toNat default)).getD (s431.2.2).toNat default) < ((s431.1).length : Int))) else false) = true → 0 ≤ ((((a0.Next).getD (((s369.2.1).getD (s369.2.2).toNat default)).toNat default)).getD (s431.2.2).toNat default) ∧ ((((a0.Next).getD (((s369.2.1).getD (s369.2.2).toNat default)).toNat default)).getD (s431.2.2).toNat default) < ((s431.1).length : Int)) (bif (bif (bif (decide (((((a0.Next).getD (((s369.2.1).getD (s369.2.2).toNat default)).toNat default)).getD (s431.2.2).toNat default) ≥ 0)) then (decide (((((a0.Next).getD (((s369.2.1).getD (s369.2.2).toNat default)).toNat default)).getD (s431.2.2).toNat default) < ((s431.1).length : Int))) else false) then (!((s431.1).getD (((((a0.Next).getD (((s369.2.1).getD (s369.2.2).toNat default)).toNat default)).getD (s431.2.2).toNat default)).toNat default)) else false) then (gd (0 ≤ ((((a0.Next).getD (((s369.2.1).getD (s369.2.2).toNat default)).toNat default)).getD (s431.2.2).toNat default) ∧ ((((a0.Next).getD (((s369.2.1).getD (s369.2.2).toNat default)).toNat default)).getD (s431.2.2).toNat default) < ((s431.1).length : Int)) (gd (((s431.2.1).length + 1) * 8 ≤ 140737488355328) (some (.inl (((s431.1).set (((((a0.Next).getD (((s369.2.1).getD (s369.2.2).toNat default)).toNat default)).getD (s431.2.2).toNat default)).toNat true), (s431.2.1 ++ [((((a0.Next).getD (((s369.2.1).getD (s369.2.2).toNat default)).toNat default)).getD (s431.2.2).toNat default)])))))) else (some (.inl (s431.1, s431.2.1))))) : Option (((List Bool) × (List Int)) ⊕ (((List Bool) × (List Int) × Int) ⊕ (((List Bool) × (List Int)) ⊕ (((List Bool) × (List Int) × Int) ⊕ ((List Int) ⊕ (List Int))))))).bind fun z438 => joinK z438 fun y437 => some (.inl (y437.1, y437.2, (IntKind.i64.wrap (s431.2.2 + 1))))) else (some (.inr (.inl (s431.1, s431.2.1))))) k (s369.1, s369.2.1, 0))) : Option (((List Bool) × (List Int)) ⊕ (((List Bool) × (List Int) × Int) ⊕ ((List Int) ⊕ (List Int))))).bind fun z407 => joinK z407 fun y406 => some (.inl (y406.1, y406.2, (IntKind.i64.wrap (s369.2.2 + 1))))) else (some (.inr (.inl s369.2.1)))) k ((((List.replicate (((a0.Next).length : Int)).toNat (default : Bool))).set 0 true), [0], 0) : Option ((List Int) ⊕ (List Int))).bind fun z223 => joinK z223 fun y222 => some y222)))
theorem F61_machinereached_ok {k : Nat} {a0 : S_machine} {v : (List Int)} (h : F61_machinereached k a0 = some v) : FnV Tryd.prog 61 [.agg [.t (.sl (List.map cL_cI_i64 a0.Next)), .t (.sl (List.map cS a0.Says))]] [] (fun v => .ref 1000 ((v).length)) (fun v => [(1000, .row 1 3 (List.map cI_i64 v))]) v := by
 unfold F61_machinereached at h
 refine fv [.tmp 2] Tryd.func61 ?_
 refine rP [1] ?_
 revert h; refine gd_in fun hb1 h => ?_
 refine rP [1, 3] ?_ (by intro L hL; simp only [go_sem, (fold_rep cB (((a0.Next).length : Int)).toNat default rfl : List.replicate (((a0.Next).length : Int)).toNat [.bool false] = _)]; (repeat' with_reducible refine And.intro ?_ ?_); all_goals first | exact hL | rfl | assumption | omega)
 refine WP.seqF ?_
 refine rP [1, 3, 14] ?_
 revert h; refine cd (fun h => ?_) fun h => ?_
 ·refine rP [2] ?_
  exact WP.ret (next_ret (fr h ((goes_adopt (s := 2) (id := 70001) rfl (by decide) (St.clear_spec rfl) 1 3).trans (gt [2] [(70001, 1000)] [] []))))
 ·refine WP.skip (next_in ?_)
  refine rP [1, 3, 4] ?_
  revert h; refine gd_in fun hb2 h => ?_
  refine rP [1, 3, 4] ?_ (by intro L hL; simp only [go_sem, (fold_put cB (List.replicate (((a0.Next).length : Int)).toNat (default : Bool)) 0 true rfl : (List.map cB (List.replicate (((a0.Next).length : Int)).toNat (default : Bool))).set 0 [.bool true] = _)]; (repeat' with_reducible refine And.intro ?_ ?_); all_goals first | exact hL | rfl | assumption | omega)
  revert h; refine jn (fun y222 => ⟨[(4, .ref 5128 ((y222).length))], [(5128, .row 1 3 (List.map cI_i64 y222))]⟩) (fun z223 h => ?_) fun y222 h => ?_
  ·refine rP [1, 3, 4, 5] ?_
   refine WP.blockF ?_
   refine WP.loopF (fun s369 => ⟨[(1, .var 5213 0), (3, .ref 5214 ((s369.1).length)), (4, .ref 5215 ((s369.2.1).length)), (5, .t (.int .i64 s369.2.2))], [(5213, .var 97 [.t (.sl (List.map cL_cI_i64 a0.Next)), .t (.sl (List.map cS a0.Says))]), (5214, .row 1 4 (List.map cB s369.1)), (5215, .row 1 3 (List.map cI_i64 s369.2.1))]⟩) h (g0 [1, 3, 4, 5] [(1001, 5213), (1011, 5214), (1015, 5215)]) fun s369 z370 h => ?_
   refine WP.seqF ?_
   refine rP [1, 3, 4, 5, 21] ?_
   revert h; refine cd (fun h => ?_) fun h => ?_
   ·refine WP.skip (next_in ?_)
    revert h; refine jn (fun y406 => ⟨[(1, .var 5234 0), (3, .ref 5235 ((y406.1).length)), (4, .ref 5236 ((y406.2).length)), (5, .t (.int .i64 s369.2.2))], [(5234, .var 97 [.t (.sl (List.map cL_cI_i64 a0.Next)), .t (.sl (List.map cS a0.Says))]), (5235, .row 1 4 (List.map cB y406.1)), (5236, .row 1 3 (List.map cI_i64 y406.2))]⟩) (fun z407 h => ?_) fun y406 h => ?_
    ·refine WP.blockF ?_
     revert h; refine gd_in fun hb408 h => ?_
     revert h; refine gd_in fun hb409 h => ?_
     refine rD mixed [] [] [1, 3, 4, 5, 31, 32, 33] ?_
     refine WP.blockF ?_
     refine WP.loopF (fun s431 => ⟨[(1, .var 5249 0), (3, .ref 5250 ((s431.1).length)), (4, .ref 5251 ((s431.2.1).length)), (5, .t (.int .i64 s369.2.2)), (31, .t (.sl (List.map cI_i64 ((a0.Next).getD (((s369.2.1).getD (s369.2.2).toNat default)).toNat default)))), (32, .t (.int .i64 ((((a0.Next).getD (((s369.2.1).getD (s369.2.2).toNat default)).toNat default)).length : Int))), (33, .t (.int .i64 s431.2.2))], [(5249, .var 97 [.t (.sl (List.map cL_cI_i64 a0.Next)), .t (.sl (List.map cS a0.Says))]), (5250, .row 1 4 (List.map cB s431.1)), (5251, .row 1 3 (List.map cI_i64 s431.2.1))]⟩) h (g0 [1, 3, 4, 5, 31, 32, 33] [(5213, 5249), (5214, 5250), (5215, 5251)]) fun s431 z432 h => ?_
     refine rP [1, 3, 4, 5, 31, 32, 33, 34] ?_
     refine WP.seqF ?_
     revert h; refine cd (fun h => ?_) fun h => ?_
     ·refine WP.skip (next_in ?_)
      revert h; refine jn (fun y437 => ⟨[(1, .var 5252 0), (3, .ref 5253 ((y437.1).length)), (4, .ref 5254 ((y437.2).length)), (5, .t (.int .i64 s369.2.2)), (31, .t (.sl (List.map cI_i64 ((a0.Next).getD (((s369.2.1).getD (s369.2.2).toNat default)).toNat default)))), (32, .t (.int .i64 ((((a0.Next).getD (((s369.2.1).getD (s369.2.2).toNat default)).toNat default)).length : Int))), (33, .t (.int .i64 s431.2.2))], [(5252, .var 97 [.t (.sl (List.map cL_cI_i64 a0.Next)), .t (.sl (List.map cS a0.Says))]), (5253, .row 1 4 (List.map cB y437.1)), (5254, .row 1 3 (List.map cI_i64 y437.2))]⟩) (fun z438 h => ?_) fun y437 h => ?_
      ·refine WP.blockF ?_
       revert h; refine gd_in fun hb439 h => ?_
       refine rP [1, 3, 4, 5, 7, 31, 32, 33] ?_
       revert h; refine gd_in fun hb440 h => ?_
       refine rP [1, 3, 4, 5, 7, 31, 32, 33, 51] ?_ (by intro L hL; simp only [go_sem]; (repeat' with_reducible refine And.intro ?_ ?_); all_goals first | exact hL | rfl | assumption | omega | exact fun hg => by have := hb440 hg; omega)
       revert h; refine cd (fun h => ?_) fun h => ?_
       ·revert h; refine gd_in fun hb441 h => ?_
        refine rP [1, 3, 4, 5, 7, 31, 32, 33] ?_ (by intro L hL; simp only [go_sem, (fold_put cB s431.1 (((((a0.Next).getD (((s369.2.1).getD (s369.2.2).toNat default)).toNat default)).getD (s431.2.2).toNat default)).toNat true rfl : (List.map cB s431.1).set (((((a0.Next).getD (((s369.2.1).getD (s369.2.2).toNat default)).toNat default)).getD (s431.2.2).toNat default)).toNat [.bool true] = _)]; (repeat' with_reducible refine And.intro ?_ ?_); all_goals first | exact hL | rfl | assumption | omega)
        revert h; refine gd_in fun hb442 h => ?_
        refine rO ?_ (by intro L hL; simp only [go_sem, (fold_app cI_i64 s431.2.1 ([((((a0.Next).getD (((s369.2.1).getD (s369.2.2).toNat default)).toNat default)).getD (s431.2.2).toNat default)]) rfl : List.map cI_i64 s431.2.1 ++ [[.int .i64 ((((a0.Next).getD (((s369.2.1).getD (s369.2.2).toNat default)).toNat default)).getD (s431.2.2).toNat default)]] = _)]; (repeat' with_reducible refine And.intro ?_ ?_); all_goals first | exact hL | rfl | assumption | exact map_len cI_i64 fun _ => rfl | omega)
        exact blk_normal (join_in h (g0 [1, 3, 4, 5, 31, 32, 33] [(5249, 5252), (5250, 5253), (5251, 5254)]))
       ·exact WP.skip (blk_normal (join_in h (g0 [1, 3, 4, 5, 31, 32, 33] [(5249, 5252), (5250, 5253), (5251, 5254)])))
      refine rO ?_
      exact loop_in h (g0 [1, 3, 4, 5, 31, 32, 33] [(5252, 5249), (5253, 5250), (5254, 5251)])
     ·exact WP.exit (next_exit (loop_out h ne_exit (blk_exit (blk_normal (join_in rfl (g0 [1, 3, 4, 5] [(5249, 5234), (5250, 5235), (5251, 5236)]))))))
    refine rO ?_
    exact loop_in h (g0 [1, 3, 4, 5] [(5234, 5213), (5235, 5214), (5236, 5215)])
   ·exact WP.exit (next_exit (loop_out h ne_exit (blk_exit (join_in rfl (g0 [4] [(5215, 5128)])))))
  refine rP [2] ?_
  exact WP.ret (fr h (gt [2] [(5128, 1000)] [] []))
def F37_machinefewer (k : Nat) (a0 : S_machine) : Option S_fewest := (F60_machinealike k a0).bind fun r1 => (gd (0 ≤ ((a0.Next).length : Int) ∧ 8 * ((a0.Next).length : Int) ≤ 281474976710656) ((loopM (S := ((List Int) × Int)) (X := ((List Int) ⊕ S_fewest)) (fun s15 => bif (decide (s15.2 < ((((a0.Next).length : Int)).toNat : Int))) then (gd (0 ≤ s15.2 ∧ s15.2 < ((s15.1).length : Int)) (some (.inl (((s15.1).set (s15.2).toNat (-1)), (IntKind.i64.wrap (s15.2 + 1)))))) else (some (.inr (.inl s15.1)))) k ((List.replicate (((a0.Next).length : Int)).toNat (default : Int)), 0) : Option ((List Int) ⊕ S_fewest)).bind fun z11 => joinK z11 fun y10 => ((F61_machinereached k a0).bind fun r46 => (loopM (S := ((List Int) × (List Int) × (List (Int × Int)) × Int)) (X := (((List Int) × (List Int)) ⊕ S_fewest)) (fun s63 => bif (decide (s63.2.2.2 < ((r46).length : Int))) then (gd (0 ≤ s63.2.2.2 ∧ s63.2.2.2 < ((r46).length : Int)) (gd (0 ≤ ((r46).getD (s63.2.2.2).toNat default) ∧ ((r46).getD (s63.2.2.2).toNat default) < ((r1).length : Int)) ((bif (!((mlook s63.2.2.1 ((r1).getD (((r46).getD (s63.2.2.2).toNat default)).toNat default)).isSome)) then (gd (((s63.2.1).length + 1) * 8 ≤ 140737488355328) (some (.inl ((s63.2.1 ++ [((r46).getD (s63.2.2.2).toNat default)]), (mset s63.2.2.1 ((r1).getD (((r46).getD (s63.2.2.2).toNat default)).toNat default) ((s63.2.1).length : Int)), ((s63.2.1).length : Int))))) else (some (.inl (s63.2.1, s63.2.2.1, ((mlook s63.2.2.1 ((r1).getD (((r46).getD (s63.2.2.2).toNat default)).toNat default)).getD 0)))) : Option (((List Int) × (List (Int × Int)) × Int) ⊕ (((List Int) × (List Int) × (List (Int × Int)) × Int) ⊕ (((List Int) × (List Int)) ⊕ S_fewest)))).bind fun z69 => joinK z69 fun y68 => gd (0 ≤ ((r46).getD (s63.2.2.2).toNat default) ∧ ((r46).getD (s63.2.2.2).toNat default) < ((s63.1).length : Int)) (some (.inl (((s63.1).set (((r46).getD (s63.2.2.2).toNat default)).toNat y68.2.2), y68.1, y68.2.1, (IntKind.i64.wrap (s63.2.2.2 + 1)))))))) else (some (.inr (.inl (s63.1, s63.2.1))))) k (y10, [], [], 0)) : Option (((List Int) × (List Int)) ⊕ S_fewest)).bind fun z45 => joinK z45 fun y44 => some (⟨a0, r1, y44.1, y44.2⟩ : S_fewest)))
theorem F37_machinefewer_ok {k : Nat} {a0 : S_machine} {v : S_fewest} (h : F37_machinefewer k a0 = some v) : FnV Tryd.prog 37 [.agg [.t (.sl (List.map cL_cI_i64 a0.Next)), .t (.sl (List.map cS a0.Says))]] [] (fun v => .var 1000 0) (fun v => [(1000, .var 102 [.t (.sl (List.map cL_cI_i64 v.Machine.Next)), .t (.sl (List.map cS v.Machine.Says)), .t (.sl (List.map cI_i64 v.Of)), .ref 1001 ((v.Names).length), .ref 1002 ((v.Kept).length)]), (1001, .row 1 3 (List.map cI_i64 v.Names)), (1002, .row 1 3 (List.map cI_i64 v.Kept))]) v := by
 unfold F37_machinefewer at h
 refine fv [.tmp 2] Tryd.func37 ?_
 refine rP [1] ?_
 revert h; refine bd F60_machinealike_ok fun r1 hc2 h => ?_
 revert h; refine gd_in fun hb3 h => ?_
 refine rD mixed [] [⟨[], [.agg [.t (.sl (List.map cL_cI_i64 a0.Next)), .t (.sl (List.map cS a0.Says))]], [], [], .t (.sl (List.map cI_i64 r1)), [], []⟩] [3] ?_ (by intro L hL; simp only [go_sem, (fold_rep cI_i64 (((a0.Next).length : Int)).toNat default rfl : List.replicate (((a0.Next).length : Int)).toNat [.int .i64 0] = _)]; (repeat' with_reducible refine And.intro ?_ ?_); all_goals first | exact hL | rfl | assumption | omega)
 refine rP [3, 4] ?_ (by intro L hL; simp only [go_sem, (mapI_nil (T.int .i64) .i64)]; (repeat' with_reducible refine And.intro ?_ ?_); all_goals first | exact hL | rfl | assumption | omega)
 revert h; refine jn (fun y10 => ⟨[(3, .var 5010 0), (4, .ref 5012 0)], [(5010, .var 102 [.t (.sl (List.map cL_cI_i64 a0.Next)), .t (.sl (List.map cS a0.Says)), .t (.sl (List.map cI_i64 r1)), .ref 5011 ((y10).length), .t .none]), (5011, .row 1 3 (List.map cI_i64 y10)), (5012, .map (some .i64) (mapI .i64 (T.int .i64) ([])))]⟩) (fun z11 h => ?_) fun y10 h => ?_
 ·refine rP [3, 4, 24, 25] ?_
  refine WP.blockF ?_
  refine WP.loopF (fun s15 => ⟨[(3, .var 5019 0), (4, .ref 5021 0), (24, .t (.int .i64 ((((a0.Next).length : Int)).toNat : Int))), (25, .t (.int .i64 s15.2))], [(5019, .var 102 [.t (.sl (List.map cL_cI_i64 a0.Next)), .t (.sl (List.map cS a0.Says)), .t (.sl (List.map cI_i64 r1)), .ref 5020 ((s15.1).length), .t .none]), (5020, .row 1 3 (List.map cI_i64 s15.1)), (5021, .map (some .i64) (mapI .i64 (T.int .i64) ([])))]⟩) h (g0 [3, 4, 24, 25] [(1018, 5019), (1016, 5020), (1019, 5021)]) fun s15 z16 h => ?_
  refine rP [3, 4, 24, 25, 26] ?_
  refine WP.seqF ?_
  revert h; refine cd (fun h => ?_) fun h => ?_
  ·refine WP.skip (next_in ?_)
   refine WP.seqF ?_
   refine WP.blockF ?_
   refine rP [3, 4, 5, 24, 25] ?_
   revert h; refine gd_in fun hb17 h => ?_
   refine rO ?_ (by intro L hL; simp only [go_sem, (fold_put cI_i64 s15.1 (s15.2).toNat (-1) rfl : (List.map cI_i64 s15.1).set (s15.2).toNat [.int .i64 (-1)] = _)]; (repeat' with_reducible refine And.intro ?_ ?_); all_goals first | exact hL | rfl | assumption | omega)
   refine blk_normal (next_in ?_)
   refine rO ?_
   exact loop_in h (g0 [3, 4, 24, 25] [(5019, 5019), (5020, 5020), (5021, 5021)])
  ·exact WP.exit (next_exit (loop_out h ne_exit (blk_exit (join_in rfl (g0 [3, 4] [(5019, 5010), (5020, 5011), (5021, 5012)])))))
 revert h; refine jn (fun y44 => ⟨[(3, .var 5056 0)], [(5056, .var 102 [.t (.sl (List.map cL_cI_i64 a0.Next)), .t (.sl (List.map cS a0.Says)), .t (.sl (List.map cI_i64 r1)), .ref 5057 ((y44.1).length), .ref 5059 ((y44.2).length)]), (5057, .row 1 3 (List.map cI_i64 y44.1)), (5059, .row 1 3 (List.map cI_i64 y44.2))]⟩) (fun z45 h => ?_) fun y44 h => ?_
 ·revert h; refine bd F61_machinereached_ok fun r46 hc47 h => ?_
  refine rQ [] [⟨[], [.agg [.t (.sl (List.map cL_cI_i64 a0.Next)), .t (.sl (List.map cS a0.Says))]], [], [(1000, .row 1 3 (List.map cI_i64 r46))], .ref 1000 ((r46).length), [(1000, 100780)], []⟩] [3, 4, 39, 40, 41] ?_
  refine WP.blockF ?_
  refine WP.loopF (fun s63 => ⟨[(3, .var 5083 0), (4, .ref 5087 0), (39, .ref 5088 ((r46).length)), (40, .t (.int .i64 ((r46).length : Int))), (41, .t (.int .i64 s63.2.2.2))], [(5083, .var 102 [.t (.sl (List.map cL_cI_i64 a0.Next)), .t (.sl (List.map cS a0.Says)), .t (.sl (List.map cI_i64 r1)), .ref 5084 ((s63.1).length), .ref 5086 ((s63.2.1).length)]), (5084, .row 1 3 (List.map cI_i64 s63.1)), (5086, .row 1 3 (List.map cI_i64 s63.2.1)), (5087, .map (some .i64) (mapI .i64 (T.int .i64) s63.2.2.1)), (5088, .row 1 3 (List.map cI_i64 r46))]⟩) h ((goes_adoptC (v := 5010) (off := 4) (id := 70089) rfl rfl (by decide) (St.clear_spec rfl) 1 3).trans (g0 [3, 4, 39, 40, 41] [(5010, 5083), (5011, 5084), (70089, 5086), (5012, 5087), (100780, 5088)])) fun s63 z64 h => ?_
  refine rP [3, 4, 39, 40, 41, 42] ?_
  refine WP.seqF ?_
  revert h; refine cd (fun h => ?_) fun h => ?_
  ·refine WP.skip (next_in ?_)
   refine WP.seqF ?_
   refine WP.blockF ?_
   revert h; refine gd_in fun hb65 h => ?_
   refine rP [3, 4, 7, 39, 40, 41] ?_
   revert h; refine gd_in fun hb66 h => ?_
   refine rP [3, 4, 7, 8, 9, 39, 40, 41] ?_ (by intro L hL; simp only [go_sem, (mget_mapI (T.int .i64) .i64 s63.2.2.1 ((r1).getD (((r46).getD (s63.2.2.2).toNat default)).toNat default)), (getD_vf (T.int .i64) (mlook s63.2.2.1 ((r1).getD (((r46).getD (s63.2.2.2).toNat default)).toNat default)) 0), isSome_vf]; (repeat' with_reducible refine And.intro ?_ ?_); all_goals first | exact hL | rfl | assumption | omega)
   revert h; refine jn (fun y68 => ⟨[(3, .var 5090 0), (4, .ref 5093 0), (7, .t (.int .i64 ((r46).getD (s63.2.2.2).toNat default))), (8, .t (.int .i64 y68.2.2)), (39, .ref 5094 ((r46).length)), (40, .t (.int .i64 ((r46).length : Int))), (41, .t (.int .i64 s63.2.2.2))], [(5090, .var 102 [.t (.sl (List.map cL_cI_i64 a0.Next)), .t (.sl (List.map cS a0.Says)), .t (.sl (List.map cI_i64 r1)), .ref 5091 ((s63.1).length), .ref 5092 ((y68.1).length)]), (5091, .row 1 3 (List.map cI_i64 s63.1)), (5092, .row 1 3 (List.map cI_i64 y68.1)), (5093, .map (some .i64) (mapI .i64 (T.int .i64) y68.2.1)), (5094, .row 1 3 (List.map cI_i64 r46))]⟩) (fun z69 h => ?_) fun y68 h => ?_
   ·refine rP [3, 4, 7, 8, 39, 40, 41, 58] ?_
    revert h; refine cd (fun h => ?_) fun h => ?_
    ·refine rP [3, 4, 7, 8, 39, 40, 41] ?_
     refine rP [3, 4, 7, 8, 39, 40, 41] ?_ (by intro L hL; simp only [go_sem, (mput_mapI (T.int .i64) .i64 s63.2.2.1 ((r1).getD (((r46).getD (s63.2.2.2).toNat default)).toNat default) ((s63.2.1).length : Int))]; (repeat' with_reducible refine And.intro ?_ ?_); all_goals first | exact hL | rfl | assumption | omega)
     revert h; refine gd_in fun hb70 h => ?_
     refine rO ?_ (by intro L hL; simp only [go_sem, (fold_app cI_i64 s63.2.1 ([((r46).getD (s63.2.2.2).toNat default)]) rfl : List.map cI_i64 s63.2.1 ++ [[.int .i64 ((r46).getD (s63.2.2.2).toNat default)]] = _)]; (repeat' with_reducible refine And.intro ?_ ?_); all_goals first | exact hL | rfl | assumption | exact map_len cI_i64 fun _ => rfl | omega)
     exact join_in h (g0 [3, 4, 7, 8, 39, 40, 41] [(5083, 5090), (5084, 5091), (5086, 5092), (5087, 5093), (5088, 5094)])
    ·exact WP.skip (join_in h (g0 [3, 4, 7, 8, 39, 40, 41] [(5083, 5090), (5084, 5091), (5086, 5092), (5087, 5093), (5088, 5094)]))
   revert h; refine gd_in fun hb71 h => ?_
   refine rO ?_ (by intro L hL; simp only [go_sem, (fold_put cI_i64 s63.1 (((r46).getD (s63.2.2.2).toNat default)).toNat y68.2.2 rfl : (List.map cI_i64 s63.1).set (((r46).getD (s63.2.2.2).toNat default)).toNat [.int .i64 y68.2.2] = _)]; (repeat' with_reducible refine And.intro ?_ ?_); all_goals first | exact hL | rfl | assumption | omega)
   refine blk_normal (next_in ?_)
   refine rO ?_
   exact loop_in h (g0 [3, 4, 39, 40, 41] [(5090, 5083), (5091, 5084), (5092, 5086), (5093, 5087), (5094, 5088)])
  ·exact WP.exit (next_exit (loop_out h ne_exit (blk_exit (join_in rfl (g0 [3] [(5083, 5056), (5084, 5057), (5086, 5059)])))))
 refine rP [2] ?_
 exact WP.ret (fr h (gt [2] [(5056, 1000), (5057, 1001), (5059, 1002)] [] []))
def F39_Clone (a0 : (List Int)) : Option (List Int) := gd ((a0).length * 8 ≤ 140737488355328) (some a0)
theorem F39_Clone_ok {a0 : (List Int)} {v : (List Int)} (h : F39_Clone a0 = some v) : FnV Tryd.prog 39 [.t (.sl (List.map cI_i64 a0))] [] (fun v => .ref 1000 ((v).length)) (fun v => [(1000, .row 1 3 (List.map cI_i64 v))]) v := by
 unfold F39_Clone at h
 refine fv [.tmp 2] Tryd.func39 ?_
 refine rP [0, 2] ?_
 refine WP.seqF ?_
 refine WP.seqF (WP.nilcmp (xs := List.map cI_i64 a0) rfl rfl rfl rfl rfl rfl (by decide) (by decide) ul23 rfl fun b hb => next_in ?_)
 refine WP.cond (b := b) rfl trivial (fun hc => ?_) (fun hc => ?_)
 ·obtain rfl := List.map_eq_nil_iff.1 (hb hc)
  replace h := (gd_some h).2
  refine rP [2] ?_
  exact WP.ret (next_ret (fr h ((goes_adopt (s := 2) (id := 70001) rfl (by decide) (St.clear_spec rfl) 1 3).trans (gt [2] [(70001, 1000)] [] []))))
 ·clear hb hc
  refine WP.skip (next_in ?_)
  revert h; refine gd_in fun hb1 h => ?_
  refine rP [2] ?_ (by intro L hL; simp only [go_sem, List.nil_append, List.map_nil]; (repeat' with_reducible refine And.intro ?_ ?_); all_goals first | exact hL | rfl | assumption | exact map_len cI_i64 fun _ => rfl | omega)
  exact WP.ret (fr h (gt [2] [(1005, 1000)] [] []))
def F45_Clone (a0 : (List (List Int))) : Option (List (List Int)) := gd ((a0).length * 24 ≤ 140737488355328) (some a0)
theorem F45_Clone_ok {a0 : (List (List Int))} {v : (List (List Int))} (h : F45_Clone a0 = some v) : FnV Tryd.prog 45 [.t (.sl (List.map cL_cI_i64 a0))] [] (fun v => .ref 1000 ((v).length)) (fun v => [(1000, .row 1 23 (List.map cL_cI_i64 v))]) v := by
 unfold F45_Clone at h
 refine fv [.tmp 2] Tryd.func45 ?_
 refine rP [0, 2] ?_
 refine WP.seqF ?_
 refine WP.seqF (WP.nilcmp (xs := List.map cL_cI_i64 a0) rfl rfl rfl rfl rfl rfl (by decide) (by decide) ul37 rfl fun b hb => next_in ?_)
 refine WP.cond (b := b) rfl trivial (fun hc => ?_) (fun hc => ?_)
 ·obtain rfl := List.map_eq_nil_iff.1 (hb hc)
  replace h := (gd_some h).2
  refine rP [2] ?_
  exact WP.ret (next_ret (fr h ((goes_adopt (s := 2) (id := 70001) rfl (by decide) (St.clear_spec rfl) 1 23).trans (gt [2] [(70001, 1000)] [] []))))
 ·clear hb hc
  refine WP.skip (next_in ?_)
  revert h; refine gd_in fun hb1 h => ?_
  refine rP [2] ?_ (by intro L hL; simp only [go_sem, List.nil_append, List.map_nil]; (repeat' with_reducible refine And.intro ?_ ?_); all_goals first | exact hL | rfl | assumption | exact map_len cL_cI_i64 fun _ => rfl | omega)
  exact WP.ret (fr h (gt [2] [(1005, 1000)] [] []))
end Go.Proofs.YticcoepohdphbaaDoor.AO
