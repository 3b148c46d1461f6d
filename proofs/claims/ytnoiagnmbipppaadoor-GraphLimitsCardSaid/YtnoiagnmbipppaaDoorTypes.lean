/-
  The types of this seat, as the steps of the generator ask for them: closed facts on the program.
-/
import Derived.Test.YtnoiagnmbipppaaDoorMSlA
import Derived.Test.YtnoiagnmbipppaaDoorProg
import Derived.KernelRfl
set_option linter.unusedSimpArgs false
set_option linter.unusedVariables false
namespace Go.Proofs.YtnoiagnmbipppaaDoor
open Go.Sl
instance : CellT Tryd.prog 1 := ⟨by kernel_rfl⟩
instance : ZeroT Tryd.prog 1 [.nilFunc] := ⟨by kernel_rfl⟩
instance : PlainT Tryd.prog 1 := ⟨by kernel_rfl⟩
instance : CellT Tryd.prog 2 := ⟨by kernel_rfl⟩
instance : ZeroT Tryd.prog 2 [.int .i64 0] := ⟨by kernel_rfl⟩
instance : PlainT Tryd.prog 2 := ⟨by kernel_rfl⟩
instance : CellT Tryd.prog 3 := ⟨by kernel_rfl⟩
instance : ZeroT Tryd.prog 3 [.int .i64 0] := ⟨by kernel_rfl⟩
instance : PlainT Tryd.prog 3 := ⟨by kernel_rfl⟩
instance : CellT Tryd.prog 4 := ⟨by kernel_rfl⟩
instance : ZeroT Tryd.prog 4 [.bool false] := ⟨by kernel_rfl⟩
instance : BoolT Tryd.prog 4 := ⟨by kernel_rfl⟩
instance : PlainT Tryd.prog 4 := ⟨by kernel_rfl⟩
instance : CellT Tryd.prog 5 := ⟨by kernel_rfl⟩
instance : ZeroT Tryd.prog 5 [.int .u8 0] := ⟨by kernel_rfl⟩
instance : PlainT Tryd.prog 5 := ⟨by kernel_rfl⟩
instance : CellT Tryd.prog 6 := ⟨by kernel_rfl⟩
instance : ZeroT Tryd.prog 6 [.int .u8 0] := ⟨by kernel_rfl⟩
instance : PlainT Tryd.prog 6 := ⟨by kernel_rfl⟩
instance : AggT Tryd.prog 7 4 := ⟨by kernel_rfl⟩
instance : ZeroT Tryd.prog 7 [.int .i64 0, .int .i64 0, .bool false, .int .u8 0] := ⟨by kernel_rfl⟩
instance : PlainT Tryd.prog 7 := ⟨by kernel_rfl⟩
instance : FieldT Tryd.prog 7 0 0 2 := ⟨by kernel_rfl⟩
instance : FieldT Tryd.prog 7 1 1 3 := ⟨by kernel_rfl⟩
instance : FieldT Tryd.prog 7 2 2 4 := ⟨by kernel_rfl⟩
instance : FieldT Tryd.prog 7 3 3 6 := ⟨by kernel_rfl⟩
instance : StructT Tryd.prog 7 [(0, 1), (1, 1), (2, 1), (3, 1)] := ⟨by kernel_rfl⟩
instance : AggT Tryd.prog 8 4 := ⟨by kernel_rfl⟩
instance : ZeroT Tryd.prog 8 [.int .i64 0, .int .i64 0, .bool false, .int .u8 0] := ⟨by kernel_rfl⟩
instance : PlainT Tryd.prog 8 := ⟨by kernel_rfl⟩
instance : FieldT Tryd.prog 8 0 0 2 := ⟨by kernel_rfl⟩
instance : FieldT Tryd.prog 8 1 1 3 := ⟨by kernel_rfl⟩
instance : FieldT Tryd.prog 8 2 2 4 := ⟨by kernel_rfl⟩
instance : FieldT Tryd.prog 8 3 3 6 := ⟨by kernel_rfl⟩
instance : StructT Tryd.prog 8 [(0, 1), (1, 1), (2, 1), (3, 1)] := ⟨by kernel_rfl⟩
instance : CellT Tryd.prog 9 := ⟨by kernel_rfl⟩
instance : ZeroT Tryd.prog 9 [.string ByteArray.empty] := ⟨by kernel_rfl⟩
instance : StrT Tryd.prog 9 := ⟨by kernel_rfl⟩
instance : PlainT Tryd.prog 9 := ⟨by kernel_rfl⟩
instance : CellT Tryd.prog 10 := ⟨by kernel_rfl⟩
instance : ZeroT Tryd.prog 10 [.string ByteArray.empty] := ⟨by kernel_rfl⟩
instance : StrT Tryd.prog 10 := ⟨by kernel_rfl⟩
instance : PlainT Tryd.prog 10 := ⟨by kernel_rfl⟩
instance : CellT Tryd.prog 11 := ⟨by kernel_rfl⟩
instance : ZeroT Tryd.prog 11 [.string ByteArray.empty] := ⟨by kernel_rfl⟩
instance : StrT Tryd.prog 11 := ⟨by kernel_rfl⟩
instance : PlainT Tryd.prog 11 := ⟨by kernel_rfl⟩
instance : CellT Tryd.prog 12 := ⟨by kernel_rfl⟩
instance : ZeroT Tryd.prog 12 [.int .u64 0] := ⟨by kernel_rfl⟩
instance : PlainT Tryd.prog 12 := ⟨by kernel_rfl⟩
instance : AggT Tryd.prog 13 2 := ⟨by kernel_rfl⟩
instance : ZeroT Tryd.prog 13 [.string ByteArray.empty, .int .u64 0] := ⟨by kernel_rfl⟩
instance : PlainT Tryd.prog 13 := ⟨by kernel_rfl⟩
instance : FieldT Tryd.prog 13 0 0 9 := ⟨by kernel_rfl⟩
instance : FieldT Tryd.prog 13 1 1 12 := ⟨by kernel_rfl⟩
instance : StructT Tryd.prog 13 [(0, 1), (1, 1)] := ⟨by kernel_rfl⟩
instance : AggT Tryd.prog 14 2 := ⟨by kernel_rfl⟩
instance : ZeroT Tryd.prog 14 [.string ByteArray.empty, .int .u64 0] := ⟨by kernel_rfl⟩
instance : PlainT Tryd.prog 14 := ⟨by kernel_rfl⟩
instance : FieldT Tryd.prog 14 0 0 9 := ⟨by kernel_rfl⟩
instance : FieldT Tryd.prog 14 1 1 12 := ⟨by kernel_rfl⟩
instance : StructT Tryd.prog 14 [(0, 1), (1, 1)] := ⟨by kernel_rfl⟩
instance : CellT Tryd.prog 15 := ⟨by kernel_rfl⟩
instance : ZeroT Tryd.prog 15 [.pointer none] := ⟨by kernel_rfl⟩
instance : MethT Tryd.prog 15 "Error" 66 true 106 := ⟨by kernel_rfl⟩
instance : MethT Tryd.prog 15 "RuntimeError" 67 true 106 := ⟨by kernel_rfl⟩
instance : PtrT Tryd.prog 15 := ⟨by kernel_rfl⟩
instance : PlainT Tryd.prog 15 := ⟨by kernel_rfl⟩
instance : CellT Tryd.prog 16 := ⟨by kernel_rfl⟩
instance : ZeroT Tryd.prog 16 [.pointer none] := ⟨by kernel_rfl⟩
instance : MethT Tryd.prog 16 "Error" 68 true 109 := ⟨by kernel_rfl⟩
instance : MethT Tryd.prog 16 "RuntimeError" 69 true 109 := ⟨by kernel_rfl⟩
instance : PtrT Tryd.prog 16 := ⟨by kernel_rfl⟩
instance : PlainT Tryd.prog 16 := ⟨by kernel_rfl⟩
instance : CellT Tryd.prog 17 := ⟨by kernel_rfl⟩
instance : ZeroT Tryd.prog 17 [.pointer none] := ⟨by kernel_rfl⟩
instance : MethT Tryd.prog 17 "Align" 70 true 117 := ⟨by kernel_rfl⟩
instance : MethT Tryd.prog 17 "Len" 71 true 117 := ⟨by kernel_rfl⟩
instance : PtrT Tryd.prog 17 := ⟨by kernel_rfl⟩
instance : PlainT Tryd.prog 17 := ⟨by kernel_rfl⟩
instance : AggT Tryd.prog 18 1 := ⟨by kernel_rfl⟩
instance : ZeroT Tryd.prog 18 [.pointer none] := ⟨by kernel_rfl⟩
instance : PlainT Tryd.prog 18 := ⟨by kernel_rfl⟩
instance : FieldT Tryd.prog 18 0 0 17 := ⟨by kernel_rfl⟩
instance : StructT Tryd.prog 18 [(0, 1)] := ⟨by kernel_rfl⟩
instance : AggT Tryd.prog 19 1 := ⟨by kernel_rfl⟩
instance : ZeroT Tryd.prog 19 [.pointer none] := ⟨by kernel_rfl⟩
instance : PlainT Tryd.prog 19 := ⟨by kernel_rfl⟩
instance : FieldT Tryd.prog 19 0 0 17 := ⟨by kernel_rfl⟩
instance : StructT Tryd.prog 19 [(0, 1)] := ⟨by kernel_rfl⟩
instance : CellT Tryd.prog 20 := ⟨by kernel_rfl⟩
instance : ZeroT Tryd.prog 20 [.nilIface] := ⟨by kernel_rfl⟩
instance : IfaceT Tryd.prog 20 := ⟨by kernel_rfl⟩
instance : CellT Tryd.prog 21 := ⟨by kernel_rfl⟩
instance : ZeroT Tryd.prog 21 [.int .i32 0] := ⟨by kernel_rfl⟩
instance : PlainT Tryd.prog 21 := ⟨by kernel_rfl⟩
instance : SliceT Tryd.prog 22 38 3 24 := ⟨by kernel_rfl⟩
instance : CellT Tryd.prog 22 := ⟨by kernel_rfl⟩
instance : ZeroT Tryd.prog 22 [.slice none 0 0] := ⟨by kernel_rfl⟩
instance : PlainT Tryd.prog 22 := ⟨by kernel_rfl⟩
instance : AggT Tryd.prog 23 2 := ⟨by kernel_rfl⟩
instance : ZeroT Tryd.prog 23 [.int .i64 0, .slice none 0 0] := ⟨by kernel_rfl⟩
instance : PlainT Tryd.prog 23 := ⟨by kernel_rfl⟩
instance : FieldT Tryd.prog 23 0 0 3 := ⟨by kernel_rfl⟩
instance : FieldT Tryd.prog 23 1 1 22 := ⟨by kernel_rfl⟩
instance : StructT Tryd.prog 23 [(0, 1), (1, 1)] := ⟨by kernel_rfl⟩
instance : AggT Tryd.prog 24 2 := ⟨by kernel_rfl⟩
instance : ZeroT Tryd.prog 24 [.int .i64 0, .slice none 0 0] := ⟨by kernel_rfl⟩
instance : PlainT Tryd.prog 24 := ⟨by kernel_rfl⟩
instance : FieldT Tryd.prog 24 0 0 3 := ⟨by kernel_rfl⟩
instance : FieldT Tryd.prog 24 1 1 22 := ⟨by kernel_rfl⟩
instance : StructT Tryd.prog 24 [(0, 1), (1, 1)] := ⟨by kernel_rfl⟩
instance : CellT Tryd.prog 25 := ⟨by kernel_rfl⟩
instance : ZeroT Tryd.prog 25 [.nilFunc] := ⟨by kernel_rfl⟩
instance : PlainT Tryd.prog 25 := ⟨by kernel_rfl⟩
instance : SliceT Tryd.prog 26 35 1 24 := ⟨by kernel_rfl⟩
instance : CellT Tryd.prog 26 := ⟨by kernel_rfl⟩
instance : ZeroT Tryd.prog 26 [.slice none 0 0] := ⟨by kernel_rfl⟩
instance : PlainT Tryd.prog 26 := ⟨by kernel_rfl⟩
instance : CellT Tryd.prog 27 := ⟨by kernel_rfl⟩
instance : ZeroT Tryd.prog 27 [.nilIface] := ⟨by kernel_rfl⟩
instance : IfaceT Tryd.prog 27 := ⟨by kernel_rfl⟩
instance : CellT Tryd.prog 28 := ⟨by kernel_rfl⟩
instance : ZeroT Tryd.prog 28 [.nilIface] := ⟨by kernel_rfl⟩
instance : IfaceT Tryd.prog 28 := ⟨by kernel_rfl⟩
instance : CellT Tryd.prog 30 := ⟨by kernel_rfl⟩
instance : ZeroT Tryd.prog 30 [.nilFunc] := ⟨by kernel_rfl⟩
instance : PlainT Tryd.prog 30 := ⟨by kernel_rfl⟩
instance : CellT Tryd.prog 31 := ⟨by kernel_rfl⟩
instance : ZeroT Tryd.prog 31 [.nilFunc] := ⟨by kernel_rfl⟩
instance : PlainT Tryd.prog 31 := ⟨by kernel_rfl⟩
instance : CellT Tryd.prog 32 := ⟨by kernel_rfl⟩
instance : ZeroT Tryd.prog 32 [.nilFunc] := ⟨by kernel_rfl⟩
instance : PlainT Tryd.prog 32 := ⟨by kernel_rfl⟩
instance : CellT Tryd.prog 33 := ⟨by kernel_rfl⟩
instance : ZeroT Tryd.prog 33 [.nilFunc] := ⟨by kernel_rfl⟩
instance : PlainT Tryd.prog 33 := ⟨by kernel_rfl⟩
instance : CellT Tryd.prog 34 := ⟨by kernel_rfl⟩
instance : ZeroT Tryd.prog 34 [.nilFunc] := ⟨by kernel_rfl⟩
instance : PlainT Tryd.prog 34 := ⟨by kernel_rfl⟩
instance : SliceT Tryd.prog 35 3 1 8 := ⟨by kernel_rfl⟩
instance : CellT Tryd.prog 35 := ⟨by kernel_rfl⟩
instance : ZeroT Tryd.prog 35 [.slice none 0 0] := ⟨by kernel_rfl⟩
instance : PlainT Tryd.prog 35 := ⟨by kernel_rfl⟩
instance : CellT Tryd.prog 36 := ⟨by kernel_rfl⟩
instance : ZeroT Tryd.prog 36 [.nilFunc] := ⟨by kernel_rfl⟩
instance : PlainT Tryd.prog 36 := ⟨by kernel_rfl⟩
instance : AggT Tryd.prog 37 3 := ⟨by kernel_rfl⟩
instance : ZeroT Tryd.prog 37 [.int .i64 0, .int .i64 0, .int .i64 0] := ⟨by kernel_rfl⟩
instance : PlainT Tryd.prog 37 := ⟨by kernel_rfl⟩
instance : FieldT Tryd.prog 37 0 0 3 := ⟨by kernel_rfl⟩
instance : FieldT Tryd.prog 37 1 1 3 := ⟨by kernel_rfl⟩
instance : FieldT Tryd.prog 37 2 2 3 := ⟨by kernel_rfl⟩
instance : StructT Tryd.prog 37 [(0, 1), (1, 1), (2, 1)] := ⟨by kernel_rfl⟩
instance : AggT Tryd.prog 38 3 := ⟨by kernel_rfl⟩
instance : ZeroT Tryd.prog 38 [.int .i64 0, .int .i64 0, .int .i64 0] := ⟨by kernel_rfl⟩
instance : PlainT Tryd.prog 38 := ⟨by kernel_rfl⟩
instance : FieldT Tryd.prog 38 0 0 3 := ⟨by kernel_rfl⟩
instance : FieldT Tryd.prog 38 1 1 3 := ⟨by kernel_rfl⟩
instance : FieldT Tryd.prog 38 2 2 3 := ⟨by kernel_rfl⟩
instance : StructT Tryd.prog 38 [(0, 1), (1, 1), (2, 1)] := ⟨by kernel_rfl⟩
instance : CellT Tryd.prog 39 := ⟨by kernel_rfl⟩
instance : ZeroT Tryd.prog 39 [.nilFunc] := ⟨by kernel_rfl⟩
instance : PlainT Tryd.prog 39 := ⟨by kernel_rfl⟩
instance : CellT Tryd.prog 40 := ⟨by kernel_rfl⟩
instance : ZeroT Tryd.prog 40 [.int .i64 0] := ⟨by kernel_rfl⟩
instance : PlainT Tryd.prog 40 := ⟨by kernel_rfl⟩
instance : CellT Tryd.prog 42 := ⟨by kernel_rfl⟩
instance : ZeroT Tryd.prog 42 [.nilFunc] := ⟨by kernel_rfl⟩
instance : PlainT Tryd.prog 42 := ⟨by kernel_rfl⟩
instance : CellT Tryd.prog 43 := ⟨by kernel_rfl⟩
instance : ZeroT Tryd.prog 43 [.nilFunc] := ⟨by kernel_rfl⟩
instance : PlainT Tryd.prog 43 := ⟨by kernel_rfl⟩
instance : CellT Tryd.prog 44 := ⟨by kernel_rfl⟩
instance : ZeroT Tryd.prog 44 [.nilFunc] := ⟨by kernel_rfl⟩
instance : PlainT Tryd.prog 44 := ⟨by kernel_rfl⟩
instance : CellT Tryd.prog 45 := ⟨by kernel_rfl⟩
instance : ZeroT Tryd.prog 45 [.nilFunc] := ⟨by kernel_rfl⟩
instance : PlainT Tryd.prog 45 := ⟨by kernel_rfl⟩
instance : CellT Tryd.prog 46 := ⟨by kernel_rfl⟩
instance : ZeroT Tryd.prog 46 [.pointer none] := ⟨by kernel_rfl⟩
instance : MethT Tryd.prog 46 "stratagem/graph.find" 17 true 49 := ⟨by kernel_rfl⟩
instance : PtrT Tryd.prog 46 := ⟨by kernel_rfl⟩
instance : PlainT Tryd.prog 46 := ⟨by kernel_rfl⟩
instance : SliceT Tryd.prog 47 50 1 8 := ⟨by kernel_rfl⟩
instance : CellT Tryd.prog 47 := ⟨by kernel_rfl⟩
instance : ZeroT Tryd.prog 47 [.slice none 0 0] := ⟨by kernel_rfl⟩
instance : PlainT Tryd.prog 47 := ⟨by kernel_rfl⟩
instance : AggT Tryd.prog 48 2 := ⟨by kernel_rfl⟩
instance : ZeroT Tryd.prog 48 [.slice none 0 0, .slice none 0 0] := ⟨by kernel_rfl⟩
instance : PlainT Tryd.prog 48 := ⟨by kernel_rfl⟩
instance : FieldT Tryd.prog 48 0 0 47 := ⟨by kernel_rfl⟩
instance : FieldT Tryd.prog 48 1 1 26 := ⟨by kernel_rfl⟩
instance : StructT Tryd.prog 48 [(0, 1), (1, 1)] := ⟨by kernel_rfl⟩
instance : AggT Tryd.prog 49 2 := ⟨by kernel_rfl⟩
instance : ZeroT Tryd.prog 49 [.slice none 0 0, .slice none 0 0] := ⟨by kernel_rfl⟩
instance : PlainT Tryd.prog 49 := ⟨by kernel_rfl⟩
instance : FieldT Tryd.prog 49 0 0 47 := ⟨by kernel_rfl⟩
instance : FieldT Tryd.prog 49 1 1 26 := ⟨by kernel_rfl⟩
instance : StructT Tryd.prog 49 [(0, 1), (1, 1)] := ⟨by kernel_rfl⟩
instance : CellT Tryd.prog 50 := ⟨by kernel_rfl⟩
instance : ZeroT Tryd.prog 50 [.int .u64 0] := ⟨by kernel_rfl⟩
instance : PlainT Tryd.prog 50 := ⟨by kernel_rfl⟩
instance : CellT Tryd.prog 51 := ⟨by kernel_rfl⟩
instance : ZeroT Tryd.prog 51 [.nilFunc] := ⟨by kernel_rfl⟩
instance : PlainT Tryd.prog 51 := ⟨by kernel_rfl⟩
instance : CellT Tryd.prog 52 := ⟨by kernel_rfl⟩
instance : ZeroT Tryd.prog 52 [.nilFunc] := ⟨by kernel_rfl⟩
instance : PlainT Tryd.prog 52 := ⟨by kernel_rfl⟩
instance : CellT Tryd.prog 53 := ⟨by kernel_rfl⟩
instance : ZeroT Tryd.prog 53 [.nilFunc] := ⟨by kernel_rfl⟩
instance : PlainT Tryd.prog 53 := ⟨by kernel_rfl⟩
instance : CellT Tryd.prog 55 := ⟨by kernel_rfl⟩
instance : ZeroT Tryd.prog 55 [.nilFunc] := ⟨by kernel_rfl⟩
instance : PlainT Tryd.prog 55 := ⟨by kernel_rfl⟩
instance : CellT Tryd.prog 56 := ⟨by kernel_rfl⟩
instance : ZeroT Tryd.prog 56 [.nilFunc] := ⟨by kernel_rfl⟩
instance : PlainT Tryd.prog 56 := ⟨by kernel_rfl⟩
instance : CellT Tryd.prog 57 := ⟨by kernel_rfl⟩
instance : ZeroT Tryd.prog 57 [.nilFunc] := ⟨by kernel_rfl⟩
instance : PlainT Tryd.prog 57 := ⟨by kernel_rfl⟩
instance : CellT Tryd.prog 58 := ⟨by kernel_rfl⟩
instance : ZeroT Tryd.prog 58 [.nilFunc] := ⟨by kernel_rfl⟩
instance : PlainT Tryd.prog 58 := ⟨by kernel_rfl⟩
instance : CellT Tryd.prog 59 := ⟨by kernel_rfl⟩
instance : ZeroT Tryd.prog 59 [.nilFunc] := ⟨by kernel_rfl⟩
instance : PlainT Tryd.prog 59 := ⟨by kernel_rfl⟩
instance : CellT Tryd.prog 60 := ⟨by kernel_rfl⟩
instance : ZeroT Tryd.prog 60 [.nilFunc] := ⟨by kernel_rfl⟩
instance : PlainT Tryd.prog 60 := ⟨by kernel_rfl⟩
instance : CellT Tryd.prog 61 := ⟨by kernel_rfl⟩
instance : ZeroT Tryd.prog 61 [.nilFunc] := ⟨by kernel_rfl⟩
instance : PlainT Tryd.prog 61 := ⟨by kernel_rfl⟩
instance : CellT Tryd.prog 62 := ⟨by kernel_rfl⟩
instance : ZeroT Tryd.prog 62 [.int .u64 0] := ⟨by kernel_rfl⟩
instance : PlainT Tryd.prog 62 := ⟨by kernel_rfl⟩
instance : CellT Tryd.prog 63 := ⟨by kernel_rfl⟩
instance : ZeroT Tryd.prog 63 [.nilFunc] := ⟨by kernel_rfl⟩
instance : PlainT Tryd.prog 63 := ⟨by kernel_rfl⟩
instance : CellT Tryd.prog 64 := ⟨by kernel_rfl⟩
instance : ZeroT Tryd.prog 64 [.nilFunc] := ⟨by kernel_rfl⟩
instance : PlainT Tryd.prog 64 := ⟨by kernel_rfl⟩
instance : CellT Tryd.prog 65 := ⟨by kernel_rfl⟩
instance : ZeroT Tryd.prog 65 [.nilFunc] := ⟨by kernel_rfl⟩
instance : PlainT Tryd.prog 65 := ⟨by kernel_rfl⟩
instance : CellT Tryd.prog 66 := ⟨by kernel_rfl⟩
instance : ZeroT Tryd.prog 66 [.nilFunc] := ⟨by kernel_rfl⟩
instance : PlainT Tryd.prog 66 := ⟨by kernel_rfl⟩
instance : CellT Tryd.prog 67 := ⟨by kernel_rfl⟩
instance : ZeroT Tryd.prog 67 [.pointer none] := ⟨by kernel_rfl⟩
instance : MethT Tryd.prog 67 "Len" 34 false 68 := ⟨by kernel_rfl⟩
instance : MethT Tryd.prog 67 "Less" 75 false 68 := ⟨by kernel_rfl⟩
instance : MethT Tryd.prog 67 "Pop" 76 true 68 := ⟨by kernel_rfl⟩
instance : MethT Tryd.prog 67 "Push" 77 true 68 := ⟨by kernel_rfl⟩
instance : MethT Tryd.prog 67 "Swap" 78 false 68 := ⟨by kernel_rfl⟩
instance : PtrT Tryd.prog 67 := ⟨by kernel_rfl⟩
instance : PlainT Tryd.prog 67 := ⟨by kernel_rfl⟩
instance : SliceT Tryd.prog 68 3 1 8 := ⟨by kernel_rfl⟩
instance : CellT Tryd.prog 68 := ⟨by kernel_rfl⟩
instance : ZeroT Tryd.prog 68 [.slice none 0 0] := ⟨by kernel_rfl⟩
instance : PlainT Tryd.prog 68 := ⟨by kernel_rfl⟩
instance : CellT Tryd.prog 69 := ⟨by kernel_rfl⟩
instance : ZeroT Tryd.prog 69 [.nilFunc] := ⟨by kernel_rfl⟩
instance : PlainT Tryd.prog 69 := ⟨by kernel_rfl⟩
instance : CellT Tryd.prog 70 := ⟨by kernel_rfl⟩
instance : ZeroT Tryd.prog 70 [.nilFunc] := ⟨by kernel_rfl⟩
instance : PlainT Tryd.prog 70 := ⟨by kernel_rfl⟩
instance : CellT Tryd.prog 71 := ⟨by kernel_rfl⟩
instance : ZeroT Tryd.prog 71 [.nilFunc] := ⟨by kernel_rfl⟩
instance : PlainT Tryd.prog 71 := ⟨by kernel_rfl⟩
instance : CellT Tryd.prog 72 := ⟨by kernel_rfl⟩
instance : ZeroT Tryd.prog 72 [.nilFunc] := ⟨by kernel_rfl⟩
instance : PlainT Tryd.prog 72 := ⟨by kernel_rfl⟩
instance : CellT Tryd.prog 73 := ⟨by kernel_rfl⟩
instance : ZeroT Tryd.prog 73 [.nilFunc] := ⟨by kernel_rfl⟩
instance : PlainT Tryd.prog 73 := ⟨by kernel_rfl⟩
instance : AggT Tryd.prog 74 64 := ⟨by kernel_rfl⟩
instance : ZeroT Tryd.prog 74 [.int .u8 0, .int .u8 0, .int .u8 0, .int .u8 0, .int .u8 0, .int .u8 0, .int .u8 0, .int .u8 0, .int .u8 0, .int .u8 0, .int .u8 0, .int .u8 0, .int .u8 0, .int .u8 0, .int .u8 0, .int .u8 0, .int .u8 0, .int .u8 0, .int .u8 0, .int .u8 0, .int .u8 0, .int .u8 0, .int .u8 0, .int .u8 0, .int .u8 0, .int .u8 0, .int .u8 0, .int .u8 0, .int .u8 0, .int .u8 0, .int .u8 0, .int .u8 0, .int .u8 0, .int .u8 0, .int .u8 0, .int .u8 0, .int .u8 0, .int .u8 0, .int .u8 0, .int .u8 0, .int .u8 0, .int .u8 0, .int .u8 0, .int .u8 0, .int .u8 0, .int .u8 0, .int .u8 0, .int .u8 0, .int .u8 0, .int .u8 0, .int .u8 0, .int .u8 0, .int .u8 0, .int .u8 0, .int .u8 0, .int .u8 0, .int .u8 0, .int .u8 0, .int .u8 0, .int .u8 0, .int .u8 0, .int .u8 0, .int .u8 0, .int .u8 0] := ⟨by kernel_rfl⟩
instance : PlainT Tryd.prog 74 := ⟨by kernel_rfl⟩
instance : CellT Tryd.prog 75 := ⟨by kernel_rfl⟩
instance : ZeroT Tryd.prog 75 [.nilFunc] := ⟨by kernel_rfl⟩
instance : PlainT Tryd.prog 75 := ⟨by kernel_rfl⟩
instance : CellT Tryd.prog 76 := ⟨by kernel_rfl⟩
instance : ZeroT Tryd.prog 76 [.int .i64 0] := ⟨by kernel_rfl⟩
instance : PlainT Tryd.prog 76 := ⟨by kernel_rfl⟩
instance : CellT Tryd.prog 78 := ⟨by kernel_rfl⟩
instance : ZeroT Tryd.prog 78 [.nilFunc] := ⟨by kernel_rfl⟩
instance : PlainT Tryd.prog 78 := ⟨by kernel_rfl⟩
instance : CellT Tryd.prog 79 := ⟨by kernel_rfl⟩
instance : ZeroT Tryd.prog 79 [.nilFunc] := ⟨by kernel_rfl⟩
instance : PlainT Tryd.prog 79 := ⟨by kernel_rfl⟩
instance : CellT Tryd.prog 80 := ⟨by kernel_rfl⟩
instance : ZeroT Tryd.prog 80 [.nilFunc] := ⟨by kernel_rfl⟩
instance : PlainT Tryd.prog 80 := ⟨by kernel_rfl⟩
instance : CellT Tryd.prog 82 := ⟨by kernel_rfl⟩
instance : ZeroT Tryd.prog 82 [.nilFunc] := ⟨by kernel_rfl⟩
instance : PlainT Tryd.prog 82 := ⟨by kernel_rfl⟩
instance : CellT Tryd.prog 83 := ⟨by kernel_rfl⟩
instance : ZeroT Tryd.prog 83 [.nilFunc] := ⟨by kernel_rfl⟩
instance : PlainT Tryd.prog 83 := ⟨by kernel_rfl⟩
instance : CellT Tryd.prog 84 := ⟨by kernel_rfl⟩
instance : ZeroT Tryd.prog 84 [.int .u32 0] := ⟨by kernel_rfl⟩
instance : PlainT Tryd.prog 84 := ⟨by kernel_rfl⟩
instance : CellT Tryd.prog 85 := ⟨by kernel_rfl⟩
instance : ZeroT Tryd.prog 85 [.nilFunc] := ⟨by kernel_rfl⟩
instance : PlainT Tryd.prog 85 := ⟨by kernel_rfl⟩
instance : CellT Tryd.prog 86 := ⟨by kernel_rfl⟩
instance : ZeroT Tryd.prog 86 [.nilIface] := ⟨by kernel_rfl⟩
instance : IfaceT Tryd.prog 86 := ⟨by kernel_rfl⟩
instance : CellT Tryd.prog 87 := ⟨by kernel_rfl⟩
instance : ZeroT Tryd.prog 87 [.nilIface] := ⟨by kernel_rfl⟩
instance : IfaceT Tryd.prog 87 := ⟨by kernel_rfl⟩
instance : CellT Tryd.prog 88 := ⟨by kernel_rfl⟩
instance : ZeroT Tryd.prog 88 [.nilFunc] := ⟨by kernel_rfl⟩
instance : PlainT Tryd.prog 88 := ⟨by kernel_rfl⟩
instance : CellT Tryd.prog 89 := ⟨by kernel_rfl⟩
instance : ZeroT Tryd.prog 89 [.nilFunc] := ⟨by kernel_rfl⟩
instance : PlainT Tryd.prog 89 := ⟨by kernel_rfl⟩
instance : CellT Tryd.prog 90 := ⟨by kernel_rfl⟩
instance : ZeroT Tryd.prog 90 [.nilFunc] := ⟨by kernel_rfl⟩
instance : PlainT Tryd.prog 90 := ⟨by kernel_rfl⟩
instance : CellT Tryd.prog 91 := ⟨by kernel_rfl⟩
instance : ZeroT Tryd.prog 91 [.nilFunc] := ⟨by kernel_rfl⟩
instance : PlainT Tryd.prog 91 := ⟨by kernel_rfl⟩
instance : CellT Tryd.prog 92 := ⟨by kernel_rfl⟩
instance : ZeroT Tryd.prog 92 [.nilFunc] := ⟨by kernel_rfl⟩
instance : PlainT Tryd.prog 92 := ⟨by kernel_rfl⟩
instance : SliceT Tryd.prog 93 4 1 1 := ⟨by kernel_rfl⟩
instance : CellT Tryd.prog 93 := ⟨by kernel_rfl⟩
instance : ZeroT Tryd.prog 93 [.slice none 0 0] := ⟨by kernel_rfl⟩
instance : PlainT Tryd.prog 93 := ⟨by kernel_rfl⟩
instance : CellT Tryd.prog 94 := ⟨by kernel_rfl⟩
instance : ZeroT Tryd.prog 94 [.int .u64 0] := ⟨by kernel_rfl⟩
instance : PlainT Tryd.prog 94 := ⟨by kernel_rfl⟩
instance : CellT Tryd.prog 95 := ⟨by kernel_rfl⟩
instance : ZeroT Tryd.prog 95 [.nilFunc] := ⟨by kernel_rfl⟩
instance : PlainT Tryd.prog 95 := ⟨by kernel_rfl⟩
instance : CellT Tryd.prog 96 := ⟨by kernel_rfl⟩
instance : ZeroT Tryd.prog 96 [.nilFunc] := ⟨by kernel_rfl⟩
instance : PlainT Tryd.prog 96 := ⟨by kernel_rfl⟩
instance : CellT Tryd.prog 97 := ⟨by kernel_rfl⟩
instance : ZeroT Tryd.prog 97 [.nilFunc] := ⟨by kernel_rfl⟩
instance : PlainT Tryd.prog 97 := ⟨by kernel_rfl⟩
instance : CellT Tryd.prog 98 := ⟨by kernel_rfl⟩
instance : ZeroT Tryd.prog 98 [.pointer none] := ⟨by kernel_rfl⟩
instance : PtrT Tryd.prog 98 := ⟨by kernel_rfl⟩
instance : PlainT Tryd.prog 98 := ⟨by kernel_rfl⟩
instance : CellT Tryd.prog 99 := ⟨by kernel_rfl⟩
instance : ZeroT Tryd.prog 99 [.nilFunc] := ⟨by kernel_rfl⟩
instance : PlainT Tryd.prog 99 := ⟨by kernel_rfl⟩
instance : CellT Tryd.prog 100 := ⟨by kernel_rfl⟩
instance : ZeroT Tryd.prog 100 [.nilFunc] := ⟨by kernel_rfl⟩
instance : PlainT Tryd.prog 100 := ⟨by kernel_rfl⟩
instance : CellT Tryd.prog 101 := ⟨by kernel_rfl⟩
instance : ZeroT Tryd.prog 101 [.pointer none] := ⟨by kernel_rfl⟩
instance : MethT Tryd.prog 101 "Next" 54 true 94 := ⟨by kernel_rfl⟩
instance : PtrT Tryd.prog 101 := ⟨by kernel_rfl⟩
instance : PlainT Tryd.prog 101 := ⟨by kernel_rfl⟩
instance : CellT Tryd.prog 103 := ⟨by kernel_rfl⟩
instance : ZeroT Tryd.prog 103 [.nilFunc] := ⟨by kernel_rfl⟩
instance : PlainT Tryd.prog 103 := ⟨by kernel_rfl⟩
instance : CellT Tryd.prog 104 := ⟨by kernel_rfl⟩
instance : ZeroT Tryd.prog 104 [.nilFunc] := ⟨by kernel_rfl⟩
instance : PlainT Tryd.prog 104 := ⟨by kernel_rfl⟩
instance : AggT Tryd.prog 105 4 := ⟨by kernel_rfl⟩
instance : ZeroT Tryd.prog 105 [.pointer none, .pointer none, .pointer none, .string ByteArray.empty] := ⟨by kernel_rfl⟩
instance : PlainT Tryd.prog 105 := ⟨by kernel_rfl⟩
instance : FieldT Tryd.prog 105 0 0 17 := ⟨by kernel_rfl⟩
instance : FieldT Tryd.prog 105 1 1 17 := ⟨by kernel_rfl⟩
instance : FieldT Tryd.prog 105 2 2 17 := ⟨by kernel_rfl⟩
instance : FieldT Tryd.prog 105 3 3 9 := ⟨by kernel_rfl⟩
instance : StructT Tryd.prog 105 [(0, 1), (1, 1), (2, 1), (3, 1)] := ⟨by kernel_rfl⟩
instance : AggT Tryd.prog 106 4 := ⟨by kernel_rfl⟩
instance : ZeroT Tryd.prog 106 [.pointer none, .pointer none, .pointer none, .string ByteArray.empty] := ⟨by kernel_rfl⟩
instance : PlainT Tryd.prog 106 := ⟨by kernel_rfl⟩
instance : FieldT Tryd.prog 106 0 0 17 := ⟨by kernel_rfl⟩
instance : FieldT Tryd.prog 106 1 1 17 := ⟨by kernel_rfl⟩
instance : FieldT Tryd.prog 106 2 2 17 := ⟨by kernel_rfl⟩
instance : FieldT Tryd.prog 106 3 3 9 := ⟨by kernel_rfl⟩
instance : StructT Tryd.prog 106 [(0, 1), (1, 1), (2, 1), (3, 1)] := ⟨by kernel_rfl⟩
instance : AggT Tryd.prog 107 0 := ⟨by kernel_rfl⟩
instance : ZeroT Tryd.prog 107 [] := ⟨by kernel_rfl⟩
instance : PlainT Tryd.prog 107 := ⟨by kernel_rfl⟩
instance : AggT Tryd.prog 108 0 := ⟨by kernel_rfl⟩
instance : ZeroT Tryd.prog 108 [] := ⟨by kernel_rfl⟩
instance : PlainT Tryd.prog 108 := ⟨by kernel_rfl⟩
instance : StructT Tryd.prog 108 [(0, 0)] := ⟨by kernel_rfl⟩
instance : AggT Tryd.prog 109 0 := ⟨by kernel_rfl⟩
instance : ZeroT Tryd.prog 109 [] := ⟨by kernel_rfl⟩
instance : PlainT Tryd.prog 109 := ⟨by kernel_rfl⟩
instance : StructT Tryd.prog 109 [(0, 0)] := ⟨by kernel_rfl⟩
instance : CellT Tryd.prog 110 := ⟨by kernel_rfl⟩
instance : ZeroT Tryd.prog 110 [.int .u8 0] := ⟨by kernel_rfl⟩
instance : PlainT Tryd.prog 110 := ⟨by kernel_rfl⟩
instance : CellT Tryd.prog 111 := ⟨by kernel_rfl⟩
instance : ZeroT Tryd.prog 111 [.int .u8 0] := ⟨by kernel_rfl⟩
instance : PlainT Tryd.prog 111 := ⟨by kernel_rfl⟩
instance : CellT Tryd.prog 112 := ⟨by kernel_rfl⟩
instance : ZeroT Tryd.prog 112 [.nilFunc] := ⟨by kernel_rfl⟩
instance : PlainT Tryd.prog 112 := ⟨by kernel_rfl⟩
instance : CellT Tryd.prog 113 := ⟨by kernel_rfl⟩
instance : ZeroT Tryd.prog 113 [.pointer none] := ⟨by kernel_rfl⟩
instance : PtrT Tryd.prog 113 := ⟨by kernel_rfl⟩
instance : PlainT Tryd.prog 113 := ⟨by kernel_rfl⟩
instance : CellT Tryd.prog 114 := ⟨by kernel_rfl⟩
instance : ZeroT Tryd.prog 114 [.int .i32 0] := ⟨by kernel_rfl⟩
instance : PlainT Tryd.prog 114 := ⟨by kernel_rfl⟩
instance : CellT Tryd.prog 115 := ⟨by kernel_rfl⟩
instance : ZeroT Tryd.prog 115 [.int .i32 0] := ⟨by kernel_rfl⟩
instance : PlainT Tryd.prog 115 := ⟨by kernel_rfl⟩
instance : AggT Tryd.prog 116 11 := ⟨by kernel_rfl⟩
instance : ZeroT Tryd.prog 116 [.int .u64 0, .int .u64 0, .int .u32 0, .int .u8 0, .int .u8 0, .int .u8 0, .int .u8 0, .nilFunc, .pointer none, .int .i32 0, .int .i32 0] := ⟨by kernel_rfl⟩
instance : PlainT Tryd.prog 116 := ⟨by kernel_rfl⟩
instance : FieldT Tryd.prog 116 0 0 12 := ⟨by kernel_rfl⟩
instance : FieldT Tryd.prog 116 1 1 12 := ⟨by kernel_rfl⟩
instance : FieldT Tryd.prog 116 2 2 84 := ⟨by kernel_rfl⟩
instance : FieldT Tryd.prog 116 3 3 110 := ⟨by kernel_rfl⟩
instance : FieldT Tryd.prog 116 4 4 5 := ⟨by kernel_rfl⟩
instance : FieldT Tryd.prog 116 5 5 5 := ⟨by kernel_rfl⟩
instance : FieldT Tryd.prog 116 6 6 111 := ⟨by kernel_rfl⟩
instance : FieldT Tryd.prog 116 7 7 112 := ⟨by kernel_rfl⟩
instance : FieldT Tryd.prog 116 8 8 113 := ⟨by kernel_rfl⟩
instance : FieldT Tryd.prog 116 9 9 114 := ⟨by kernel_rfl⟩
instance : FieldT Tryd.prog 116 10 10 115 := ⟨by kernel_rfl⟩
instance : StructT Tryd.prog 116 [(0, 1), (1, 1), (2, 1), (3, 1), (4, 1), (5, 1), (6, 1), (7, 1), (8, 1), (9, 1), (10, 1)] := ⟨by kernel_rfl⟩
instance : AggT Tryd.prog 117 11 := ⟨by kernel_rfl⟩
instance : ZeroT Tryd.prog 117 [.int .u64 0, .int .u64 0, .int .u32 0, .int .u8 0, .int .u8 0, .int .u8 0, .int .u8 0, .nilFunc, .pointer none, .int .i32 0, .int .i32 0] := ⟨by kernel_rfl⟩
instance : PlainT Tryd.prog 117 := ⟨by kernel_rfl⟩
instance : FieldT Tryd.prog 117 0 0 12 := ⟨by kernel_rfl⟩
instance : FieldT Tryd.prog 117 1 1 12 := ⟨by kernel_rfl⟩
instance : FieldT Tryd.prog 117 2 2 84 := ⟨by kernel_rfl⟩
instance : FieldT Tryd.prog 117 3 3 110 := ⟨by kernel_rfl⟩
instance : FieldT Tryd.prog 117 4 4 5 := ⟨by kernel_rfl⟩
instance : FieldT Tryd.prog 117 5 5 5 := ⟨by kernel_rfl⟩
instance : FieldT Tryd.prog 117 6 6 111 := ⟨by kernel_rfl⟩
instance : FieldT Tryd.prog 117 7 7 112 := ⟨by kernel_rfl⟩
instance : FieldT Tryd.prog 117 8 8 113 := ⟨by kernel_rfl⟩
instance : FieldT Tryd.prog 117 9 9 114 := ⟨by kernel_rfl⟩
instance : FieldT Tryd.prog 117 10 10 115 := ⟨by kernel_rfl⟩
instance : StructT Tryd.prog 117 [(0, 1), (1, 1), (2, 1), (3, 1), (4, 1), (5, 1), (6, 1), (7, 1), (8, 1), (9, 1), (10, 1)] := ⟨by kernel_rfl⟩
instance : CellT Tryd.prog 118 := ⟨by kernel_rfl⟩
instance : ZeroT Tryd.prog 118 [.pointer none] := ⟨by kernel_rfl⟩
instance : PlainT Tryd.prog 118 := ⟨by kernel_rfl⟩
-- 3 stratagem/stratagemlaw04.GraphCliques
instance : CallT Tryd.prog 3 := ⟨by kernel_rfl⟩
-- 4 stratagem/stratagemlaw04.GraphLimits
instance : CallT Tryd.prog 4 := ⟨by kernel_rfl⟩
-- 5 stratagem/stratagemlaw04.awake
instance : CallT Tryd.prog 5 := ⟨by kernel_rfl⟩
-- 6 stratagem/graph.Cliques
instance : CallT Tryd.prog 6 := ⟨by kernel_rfl⟩
-- 7 stratagem/stratagemref04.Check
instance : CallT Tryd.prog 7 := ⟨by kernel_rfl⟩
-- 8 stratagem/stratagembase.Num
instance : CallT Tryd.prog 8 := ⟨by kernel_rfl⟩
-- 9 stratagem/stratagemref04.Cliques
instance : CallT Tryd.prog 9 := ⟨by kernel_rfl⟩
-- 10 stratagem/stratagembase.Ints
instance : CallT Tryd.prog 10 := ⟨by kernel_rfl⟩
-- 11 stratagem/stratagembase.Is
instance : CallT Tryd.prog 11 := ⟨by kernel_rfl⟩
-- 12 stratagem/graph.Floyd
instance : CallT Tryd.prog 12 := ⟨by kernel_rfl⟩
-- 13 stratagem/graph.Order
instance : CallT Tryd.prog 13 := ⟨by kernel_rfl⟩
-- 14 stratagem/graph.Components
instance : CallT Tryd.prog 14 := ⟨by kernel_rfl⟩
-- 15 stratagem/graph.Shortest
instance : CallT Tryd.prog 15 := ⟨by kernel_rfl⟩
-- 16 stratagem/graph.check
instance : CallT Tryd.prog 16 := ⟨by kernel_rfl⟩
-- 17 (*stratagem/graph.finder).find
instance : CallT Tryd.prog 17 := ⟨by kernel_rfl⟩
-- 18 slices.SortFunc[[][]int,[]int]
instance : CallT Tryd.prog 18 := ⟨by kernel_rfl⟩
-- 19 slices.Compare[[]int,int]
instance : CallT Tryd.prog 19 := ⟨by kernel_rfl⟩
-- 20 stratagem/stratagemref04.extend
instance : CallT Tryd.prog 20 := ⟨by kernel_rfl⟩
-- 21 stratagem/graph.beyond
instance : CallT Tryd.prog 21 := ⟨by kernel_rfl⟩
-- 22 stratagem/graph.order
instance : CallT Tryd.prog 22 := ⟨by kernel_rfl⟩
-- 23 stratagem/graph.components
instance : CallT Tryd.prog 23 := ⟨by kernel_rfl⟩
-- 24 math/bits.TrailingZeros64
instance : CallT Tryd.prog 24 := ⟨by kernel_rfl⟩
-- 25 math/bits.OnesCount64
instance : CallT Tryd.prog 25 := ⟨by kernel_rfl⟩
-- 26 slices.pdqsortCmpFunc[[]int]
instance : CallT Tryd.prog 26 := ⟨by kernel_rfl⟩
-- 27 math/bits.Len
instance : CallT Tryd.prog 27 := ⟨by kernel_rfl⟩
-- 28 cmp.Compare[int]
instance : CallT Tryd.prog 28 := ⟨by kernel_rfl⟩
-- 29 stratagem/stratagemref04.Edge
instance : CallT Tryd.prog 29 := ⟨by kernel_rfl⟩
-- 30 slices.ContainsFunc[[]int,int]
instance : CallT Tryd.prog 30 := ⟨by kernel_rfl⟩
-- 31 stratagem/graph.beyond$1
instance : CallT Tryd.prog 31 := ⟨by kernel_rfl⟩
-- 32 container/heap.Push
instance : CallT Tryd.prog 32 := ⟨by kernel_rfl⟩
-- 33 stratagem/graph.next
instance : CallT Tryd.prog 33 := ⟨by kernel_rfl⟩
-- 34 (stratagem/graph.nodes).Len
instance : CallT Tryd.prog 34 := ⟨by kernel_rfl⟩
-- 35 container/heap.Pop
instance : CallT Tryd.prog 35 := ⟨by kernel_rfl⟩
-- 36 stratagem/graph.finish
instance : CallT Tryd.prog 36 := ⟨by kernel_rfl⟩
-- 37 slices.Min[[]int,int]
instance : CallT Tryd.prog 37 := ⟨by kernel_rfl⟩
-- 38 slices.insertionSortCmpFunc[[]int]
instance : CallT Tryd.prog 38 := ⟨by kernel_rfl⟩
-- 39 slices.heapSortCmpFunc[[]int]
instance : CallT Tryd.prog 39 := ⟨by kernel_rfl⟩
-- 40 slices.breakPatternsCmpFunc[[]int]
instance : CallT Tryd.prog 40 := ⟨by kernel_rfl⟩
-- 41 slices.choosePivotCmpFunc[[]int]
instance : CallT Tryd.prog 41 := ⟨by kernel_rfl⟩
-- 42 slices.reverseRangeCmpFunc[[]int]
instance : CallT Tryd.prog 42 := ⟨by kernel_rfl⟩
-- 43 slices.partialInsertionSortCmpFunc[[]int]
instance : CallT Tryd.prog 43 := ⟨by kernel_rfl⟩
-- 44 slices.partitionEqualCmpFunc[[]int]
instance : CallT Tryd.prog 44 := ⟨by kernel_rfl⟩
-- 45 slices.partitionCmpFunc[[]int]
instance : CallT Tryd.prog 45 := ⟨by kernel_rfl⟩
-- 46 math/bits.Len32
instance : CallT Tryd.prog 46 := ⟨by kernel_rfl⟩
-- 47 math/bits.Len64
instance : CallT Tryd.prog 47 := ⟨by kernel_rfl⟩
-- 48 cmp.isNaN[int]
instance : CallT Tryd.prog 48 := ⟨by kernel_rfl⟩
-- 49 slices.IndexFunc[[]int,int]
instance : CallT Tryd.prog 49 := ⟨by kernel_rfl⟩
-- 50 container/heap.up
instance : CallT Tryd.prog 50 := ⟨by kernel_rfl⟩
-- 51 container/heap.down
instance : CallT Tryd.prog 51 := ⟨by kernel_rfl⟩
-- 52 slices.siftDownCmpFunc[[]int]
instance : CallT Tryd.prog 52 := ⟨by kernel_rfl⟩
-- 53 slices.nextPowerOfTwo
instance : CallT Tryd.prog 53 := ⟨by kernel_rfl⟩
-- 55 slices.medianAdjacentCmpFunc[[]int]
instance : CallT Tryd.prog 55 := ⟨by kernel_rfl⟩
-- 56 slices.medianCmpFunc[[]int]
instance : CallT Tryd.prog 56 := ⟨by kernel_rfl⟩
-- 57 slices.order2CmpFunc[[]int]
instance : CallT Tryd.prog 57 := ⟨by kernel_rfl⟩
-- 75 (stratagem/graph.nodes).Less
instance : CallT Tryd.prog 75 := ⟨by kernel_rfl⟩
-- 76 (*stratagem/graph.nodes).Pop
instance : CallT Tryd.prog 76 := ⟨by kernel_rfl⟩
-- 77 (*stratagem/graph.nodes).Push
instance : CallT Tryd.prog 77 := ⟨by kernel_rfl⟩
-- 78 (stratagem/graph.nodes).Swap
instance : CallT Tryd.prog 78 := ⟨by kernel_rfl⟩
theorem mixed : Tryd.prog.follows .mixedOrders = true := by kernel_rfl
end Go.Proofs.YtnoiagnmbipppaaDoor
