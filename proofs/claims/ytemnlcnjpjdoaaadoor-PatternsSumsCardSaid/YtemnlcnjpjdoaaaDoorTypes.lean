
/-
  The types of this seat, as the steps of the generator ask for them: closed facts on the program.
-/
import Derived.Test.YtemnlcnjpjdoaaaDoorMSlA
import Derived.Test.YtemnlcnjpjdoaaaDoorProg
import Derived.KernelRfl
set_option linter.unusedSimpArgs false
set_option linter.unusedVariables false
namespace Go.Proofs.YtemnlcnjpjdoaaaDoor
open Go.Sl
instance : CellT Tryd.prog 1 := ⟨by kernel_rfl⟩
instance : ZeroT Tryd.prog 1 [.nilFunc] := ⟨by kernel_rfl⟩
instance : PlainT Tryd.prog 1 := ⟨by kernel_rfl⟩
instance : CellT Tryd.prog 2 := ⟨by kernel_rfl⟩
instance : ZeroT Tryd.prog 2 [.int .i64 0] := ⟨by kernel_rfl⟩
instance : PlainT Tryd.prog 2 := ⟨by kernel_rfl⟩
instance : CellT Tryd.prog 3 := ⟨by kernel_rfl⟩
instance : ZeroT Tryd.prog 3 [.int .i64 0] := ⟨by kernel_rfl⟩
instance : PlainT Tryd.prog 3 := ⟨by kernel_rfl⟩
instance : CellT Tryd.prog 4 := ⟨by kernel_rfl⟩
instance : ZeroT Tryd.prog 4 [.bool false] := ⟨by kernel_rfl⟩
instance : BoolT Tryd.prog 4 := ⟨by kernel_rfl⟩
instance : PlainT Tryd.prog 4 := ⟨by kernel_rfl⟩
instance : CellT Tryd.prog 5 := ⟨by kernel_rfl⟩
instance : ZeroT Tryd.prog 5 [.int .u8 0] := ⟨by kernel_rfl⟩
instance : PlainT Tryd.prog 5 := ⟨by kernel_rfl⟩
instance : CellT Tryd.prog 6 := ⟨by kernel_rfl⟩
instance : ZeroT Tryd.prog 6 [.int .u8 0] := ⟨by kernel_rfl⟩
instance : PlainT Tryd.prog 6 := ⟨by kernel_rfl⟩
instance : AggT Tryd.prog 7 4 := ⟨by kernel_rfl⟩
instance : ZeroT Tryd.prog 7 [.int .i64 0, .int .i64 0, .bool false, .int .u8 0] := ⟨by kernel_rfl⟩
instance : PlainT Tryd.prog 7 := ⟨by kernel_rfl⟩
instance : FieldT Tryd.prog 7 0 0 2 := ⟨by kernel_rfl⟩
instance : FieldT Tryd.prog 7 1 1 3 := ⟨by kernel_rfl⟩
instance : FieldT Tryd.prog 7 2 2 4 := ⟨by kernel_rfl⟩
instance : FieldT Tryd.prog 7 3 3 6 := ⟨by kernel_rfl⟩
instance : StructT Tryd.prog 7 [(0, 1), (1, 1), (2, 1), (3, 1)] := ⟨by kernel_rfl⟩
instance : AggT Tryd.prog 8 4 := ⟨by kernel_rfl⟩
instance : ZeroT Tryd.prog 8 [.int .i64 0, .int .i64 0, .bool false, .int .u8 0] := ⟨by kernel_rfl⟩
instance : PlainT Tryd.prog 8 := ⟨by kernel_rfl⟩
instance : FieldT Tryd.prog 8 0 0 2 := ⟨by kernel_rfl⟩
instance : FieldT Tryd.prog 8 1 1 3 := ⟨by kernel_rfl⟩
instance : FieldT Tryd.prog 8 2 2 4 := ⟨by kernel_rfl⟩
instance : FieldT Tryd.prog 8 3 3 6 := ⟨by kernel_rfl⟩
instance : StructT Tryd.prog 8 [(0, 1), (1, 1), (2, 1), (3, 1)] := ⟨by kernel_rfl⟩
instance : CellT Tryd.prog 9 := ⟨by kernel_rfl⟩
instance : ZeroT Tryd.prog 9 [.string ByteArray.empty] := ⟨by kernel_rfl⟩
instance : StrT Tryd.prog 9 := ⟨by kernel_rfl⟩
instance : PlainT Tryd.prog 9 := ⟨by kernel_rfl⟩
instance : CellT Tryd.prog 10 := ⟨by kernel_rfl⟩
instance : ZeroT Tryd.prog 10 [.string ByteArray.empty] := ⟨by kernel_rfl⟩
instance : StrT Tryd.prog 10 := ⟨by kernel_rfl⟩
instance : PlainT Tryd.prog 10 := ⟨by kernel_rfl⟩
instance : CellT Tryd.prog 11 := ⟨by kernel_rfl⟩
instance : ZeroT Tryd.prog 11 [.string ByteArray.empty] := ⟨by kernel_rfl⟩
instance : StrT Tryd.prog 11 := ⟨by kernel_rfl⟩
instance : PlainT Tryd.prog 11 := ⟨by kernel_rfl⟩
instance : CellT Tryd.prog 12 := ⟨by kernel_rfl⟩
instance : ZeroT Tryd.prog 12 [.int .u64 0] := ⟨by kernel_rfl⟩
instance : PlainT Tryd.prog 12 := ⟨by kernel_rfl⟩
instance : AggT Tryd.prog 13 2 := ⟨by kernel_rfl⟩
instance : ZeroT Tryd.prog 13 [.string ByteArray.empty, .int .u64 0] := ⟨by kernel_rfl⟩
instance : PlainT Tryd.prog 13 := ⟨by kernel_rfl⟩
instance : FieldT Tryd.prog 13 0 0 9 := ⟨by kernel_rfl⟩
instance : FieldT Tryd.prog 13 1 1 12 := ⟨by kernel_rfl⟩
instance : StructT Tryd.prog 13 [(0, 1), (1, 1)] := ⟨by kernel_rfl⟩
instance : AggT Tryd.prog 14 2 := ⟨by kernel_rfl⟩
instance : ZeroT Tryd.prog 14 [.string ByteArray.empty, .int .u64 0] := ⟨by kernel_rfl⟩
instance : PlainT Tryd.prog 14 := ⟨by kernel_rfl⟩
instance : FieldT Tryd.prog 14 0 0 9 := ⟨by kernel_rfl⟩
instance : FieldT Tryd.prog 14 1 1 12 := ⟨by kernel_rfl⟩
instance : StructT Tryd.prog 14 [(0, 1), (1, 1)] := ⟨by kernel_rfl⟩
instance : CellT Tryd.prog 15 := ⟨by kernel_rfl⟩
instance : ZeroT Tryd.prog 15 [.pointer none] := ⟨by kernel_rfl⟩
instance : MethT Tryd.prog 15 "Error" 103 true 171 := ⟨by kernel_rfl⟩
instance : MethT Tryd.prog 15 "RuntimeError" 104 true 171 := ⟨by kernel_rfl⟩
instance : PtrT Tryd.prog 15 := ⟨by kernel_rfl⟩
instance : PlainT Tryd.prog 15 := ⟨by kernel_rfl⟩
instance : CellT Tryd.prog 16 := ⟨by kernel_rfl⟩
instance : ZeroT Tryd.prog 16 [.pointer none] := ⟨by kernel_rfl⟩
instance : MethT Tryd.prog 16 "Error" 105 true 174 := ⟨by kernel_rfl⟩
instance : MethT Tryd.prog 16 "RuntimeError" 106 true 174 := ⟨by kernel_rfl⟩
instance : PtrT Tryd.prog 16 := ⟨by kernel_rfl⟩
instance : PlainT Tryd.prog 16 := ⟨by kernel_rfl⟩
instance : CellT Tryd.prog 17 := ⟨by kernel_rfl⟩
instance : ZeroT Tryd.prog 17 [.pointer none] := ⟨by kernel_rfl⟩
instance : MethT Tryd.prog 17 "Align" 107 true 182 := ⟨by kernel_rfl⟩
instance : MethT Tryd.prog 17 "Len" 108 true 182 := ⟨by kernel_rfl⟩
instance : PtrT Tryd.prog 17 := ⟨by kernel_rfl⟩
instance : PlainT Tryd.prog 17 := ⟨by kernel_rfl⟩
instance : AggT Tryd.prog 18 1 := ⟨by kernel_rfl⟩
instance : ZeroT Tryd.prog 18 [.pointer none] := ⟨by kernel_rfl⟩
instance : PlainT Tryd.prog 18 := ⟨by kernel_rfl⟩
instance : FieldT Tryd.prog 18 0 0 17 := ⟨by kernel_rfl⟩
instance : StructT Tryd.prog 18 [(0, 1)] := ⟨by kernel_rfl⟩
instance : AggT Tryd.prog 19 1 := ⟨by kernel_rfl⟩
instance : ZeroT Tryd.prog 19 [.pointer none] := ⟨by kernel_rfl⟩
instance : PlainT Tryd.prog 19 := ⟨by kernel_rfl⟩
instance : FieldT Tryd.prog 19 0 0 17 := ⟨by kernel_rfl⟩
instance : StructT Tryd.prog 19 [(0, 1)] := ⟨by kernel_rfl⟩
instance : CellT Tryd.prog 20 := ⟨by kernel_rfl⟩
instance : ZeroT Tryd.prog 20 [.nilIface] := ⟨by kernel_rfl⟩
instance : IfaceT Tryd.prog 20 := ⟨by kernel_rfl⟩
instance : CellT Tryd.prog 21 := ⟨by kernel_rfl⟩
instance : ZeroT Tryd.prog 21 [.int .i32 0] := ⟨by kernel_rfl⟩
instance : PlainT Tryd.prog 21 := ⟨by kernel_rfl⟩
instance : SliceT Tryd.prog 22 29 1 2 := ⟨by kernel_rfl⟩
instance : CellT Tryd.prog 22 := ⟨by kernel_rfl⟩
instance : ZeroT Tryd.prog 22 [.slice none 0 0] := ⟨by kernel_rfl⟩
instance : PlainT Tryd.prog 22 := ⟨by kernel_rfl⟩
instance : CellT Tryd.prog 23 := ⟨by kernel_rfl⟩
instance : ZeroT Tryd.prog 23 [.nilFunc] := ⟨by kernel_rfl⟩
instance : PlainT Tryd.prog 23 := ⟨by kernel_rfl⟩
instance : SliceT Tryd.prog 24 3 1 8 := ⟨by kernel_rfl⟩
instance : CellT Tryd.prog 24 := ⟨by kernel_rfl⟩
instance : ZeroT Tryd.prog 24 [.slice none 0 0] := ⟨by kernel_rfl⟩
instance : PlainT Tryd.prog 24 := ⟨by kernel_rfl⟩
instance : SliceT Tryd.prog 25 31 2 16 := ⟨by kernel_rfl⟩
instance : CellT Tryd.prog 25 := ⟨by kernel_rfl⟩
instance : ZeroT Tryd.prog 25 [.slice none 0 0] := ⟨by kernel_rfl⟩
instance : PlainT Tryd.prog 25 := ⟨by kernel_rfl⟩
instance : SliceT Tryd.prog 26 36 4 72 := ⟨by kernel_rfl⟩
instance : CellT Tryd.prog 26 := ⟨by kernel_rfl⟩
instance : ZeroT Tryd.prog 26 [.slice none 0 0] := ⟨by kernel_rfl⟩
instance : PlainT Tryd.prog 26 := ⟨by kernel_rfl⟩
instance : AggT Tryd.prog 27 4 := ⟨by kernel_rfl⟩
instance : ZeroT Tryd.prog 27 [.slice none 0 0, .slice none 0 0, .slice none 0 0, .slice none 0 0] := ⟨by kernel_rfl⟩
instance : PlainT Tryd.prog 27 := ⟨by kernel_rfl⟩
instance : FieldT Tryd.prog 27 0 0 24 := ⟨by kernel_rfl⟩
instance : FieldT Tryd.prog 27 1 1 24 := ⟨by kernel_rfl⟩
instance : FieldT Tryd.prog 27 2 2 25 := ⟨by kernel_rfl⟩
instance : FieldT Tryd.prog 27 3 3 26 := ⟨by kernel_rfl⟩
instance : StructT Tryd.prog 27 [(0, 1), (1, 1), (2, 1), (3, 1)] := ⟨by kernel_rfl⟩
instance : AggT Tryd.prog 28 4 := ⟨by kernel_rfl⟩
instance : ZeroT Tryd.prog 28 [.slice none 0 0, .slice none 0 0, .slice none 0 0, .slice none 0 0] := ⟨by kernel_rfl⟩
instance : PlainT Tryd.prog 28 := ⟨by kernel_rfl⟩
instance : FieldT Tryd.prog 28 0 0 24 := ⟨by kernel_rfl⟩
instance : FieldT Tryd.prog 28 1 1 24 := ⟨by kernel_rfl⟩
instance : FieldT Tryd.prog 28 2 2 25 := ⟨by kernel_rfl⟩
instance : FieldT Tryd.prog 28 3 3 26 := ⟨by kernel_rfl⟩
instance : StructT Tryd.prog 28 [(0, 1), (1, 1), (2, 1), (3, 1)] := ⟨by kernel_rfl⟩
instance : CellT Tryd.prog 29 := ⟨by kernel_rfl⟩
instance : ZeroT Tryd.prog 29 [.int .u16 0] := ⟨by kernel_rfl⟩
instance : PlainT Tryd.prog 29 := ⟨by kernel_rfl⟩
instance : AggT Tryd.prog 30 2 := ⟨by kernel_rfl⟩
instance : ZeroT Tryd.prog 30 [.int .i64 0, .int .i64 0] := ⟨by kernel_rfl⟩
instance : PlainT Tryd.prog 30 := ⟨by kernel_rfl⟩
instance : FieldT Tryd.prog 30 0 0 3 := ⟨by kernel_rfl⟩
instance : FieldT Tryd.prog 30 1 1 3 := ⟨by kernel_rfl⟩
instance : StructT Tryd.prog 30 [(0, 1), (1, 1)] := ⟨by kernel_rfl⟩
instance : AggT Tryd.prog 31 2 := ⟨by kernel_rfl⟩
instance : ZeroT Tryd.prog 31 [.int .i64 0, .int .i64 0] := ⟨by kernel_rfl⟩
instance : PlainT Tryd.prog 31 := ⟨by kernel_rfl⟩
instance : FieldT Tryd.prog 31 0 0 3 := ⟨by kernel_rfl⟩
instance : FieldT Tryd.prog 31 1 1 3 := ⟨by kernel_rfl⟩
instance : StructT Tryd.prog 31 [(0, 1), (1, 1)] := ⟨by kernel_rfl⟩
instance : AggT Tryd.prog 32 3 := ⟨by kernel_rfl⟩
instance : ZeroT Tryd.prog 32 [.slice none 0 0, .int .i64 0, .int .i64 0] := ⟨by kernel_rfl⟩
instance : PlainT Tryd.prog 32 := ⟨by kernel_rfl⟩
instance : FieldT Tryd.prog 32 0 0 25 := ⟨by kernel_rfl⟩
instance : FieldT Tryd.prog 32 1 1 3 := ⟨by kernel_rfl⟩
instance : FieldT Tryd.prog 32 2 2 3 := ⟨by kernel_rfl⟩
instance : StructT Tryd.prog 32 [(0, 1), (1, 1), (2, 1)] := ⟨by kernel_rfl⟩
instance : AggT Tryd.prog 33 3 := ⟨by kernel_rfl⟩
instance : ZeroT Tryd.prog 33 [.slice none 0 0, .int .i64 0, .int .i64 0] := ⟨by kernel_rfl⟩
instance : PlainT Tryd.prog 33 := ⟨by kernel_rfl⟩
instance : FieldT Tryd.prog 33 0 0 25 := ⟨by kernel_rfl⟩
instance : FieldT Tryd.prog 33 1 1 3 := ⟨by kernel_rfl⟩
instance : FieldT Tryd.prog 33 2 2 3 := ⟨by kernel_rfl⟩
instance : StructT Tryd.prog 33 [(0, 1), (1, 1), (2, 1)] := ⟨by kernel_rfl⟩
instance : SliceT Tryd.prog 34 33 3 40 := ⟨by kernel_rfl⟩
instance : CellT Tryd.prog 34 := ⟨by kernel_rfl⟩
instance : ZeroT Tryd.prog 34 [.slice none 0 0] := ⟨by kernel_rfl⟩
instance : PlainT Tryd.prog 34 := ⟨by kernel_rfl⟩
instance : AggT Tryd.prog 35 4 := ⟨by kernel_rfl⟩
instance : ZeroT Tryd.prog 35 [.string ByteArray.empty, .int .i64 0, .slice none 0 0, .slice none 0 0] := ⟨by kernel_rfl⟩
instance : PlainT Tryd.prog 35 := ⟨by kernel_rfl⟩
instance : FieldT Tryd.prog 35 0 0 9 := ⟨by kernel_rfl⟩
instance : FieldT Tryd.prog 35 1 1 3 := ⟨by kernel_rfl⟩
instance : FieldT Tryd.prog 35 2 2 25 := ⟨by kernel_rfl⟩
instance : FieldT Tryd.prog 35 3 3 34 := ⟨by kernel_rfl⟩
instance : StructT Tryd.prog 35 [(0, 1), (1, 1), (2, 1), (3, 1)] := ⟨by kernel_rfl⟩
instance : AggT Tryd.prog 36 4 := ⟨by kernel_rfl⟩
instance : ZeroT Tryd.prog 36 [.string ByteArray.empty, .int .i64 0, .slice none 0 0, .slice none 0 0] := ⟨by kernel_rfl⟩
instance : PlainT Tryd.prog 36 := ⟨by kernel_rfl⟩
instance : FieldT Tryd.prog 36 0 0 9 := ⟨by kernel_rfl⟩
instance : FieldT Tryd.prog 36 1 1 3 := ⟨by kernel_rfl⟩
instance : FieldT Tryd.prog 36 2 2 25 := ⟨by kernel_rfl⟩
instance : FieldT Tryd.prog 36 3 3 34 := ⟨by kernel_rfl⟩
instance : StructT Tryd.prog 36 [(0, 1), (1, 1), (2, 1), (3, 1)] := ⟨by kernel_rfl⟩
instance : SliceT Tryd.prog 37 24 1 24 := ⟨by kernel_rfl⟩
instance : CellT Tryd.prog 37 := ⟨by kernel_rfl⟩
instance : ZeroT Tryd.prog 37 [.slice none 0 0] := ⟨by kernel_rfl⟩
instance : PlainT Tryd.prog 37 := ⟨by kernel_rfl⟩
instance : CellT Tryd.prog 38 := ⟨by kernel_rfl⟩
instance : ZeroT Tryd.prog 38 [.nilIface] := ⟨by kernel_rfl⟩
instance : IfaceT Tryd.prog 38 := ⟨by kernel_rfl⟩
instance : CellT Tryd.prog 39 := ⟨by kernel_rfl⟩
instance : ZeroT Tryd.prog 39 [.nilIface] := ⟨by kernel_rfl⟩
instance : IfaceT Tryd.prog 39 := ⟨by kernel_rfl⟩
instance : CellT Tryd.prog 41 := ⟨by kernel_rfl⟩
instance : ZeroT Tryd.prog 41 [.nilFunc] := ⟨by kernel_rfl⟩
instance : PlainT Tryd.prog 41 := ⟨by kernel_rfl⟩
instance : CellT Tryd.prog 42 := ⟨by kernel_rfl⟩
instance : ZeroT Tryd.prog 42 [.pointer none] := ⟨by kernel_rfl⟩
instance : MethT Tryd.prog 42 "Value" 7 true 61 := ⟨by kernel_rfl⟩
instance : PtrT Tryd.prog 42 := ⟨by kernel_rfl⟩
instance : PlainT Tryd.prog 42 := ⟨by kernel_rfl⟩
instance : CellT Tryd.prog 44 := ⟨by kernel_rfl⟩
instance : ZeroT Tryd.prog 44 [.nilFunc] := ⟨by kernel_rfl⟩
instance : PlainT Tryd.prog 44 := ⟨by kernel_rfl⟩
instance : CellT Tryd.prog 45 := ⟨by kernel_rfl⟩
instance : ZeroT Tryd.prog 45 [.nilFunc] := ⟨by kernel_rfl⟩
instance : PlainT Tryd.prog 45 := ⟨by kernel_rfl⟩
instance : CellT Tryd.prog 46 := ⟨by kernel_rfl⟩
instance : ZeroT Tryd.prog 46 [.nilFunc] := ⟨by kernel_rfl⟩
instance : PlainT Tryd.prog 46 := ⟨by kernel_rfl⟩
instance : CellT Tryd.prog 47 := ⟨by kernel_rfl⟩
instance : ZeroT Tryd.prog 47 [.nilFunc] := ⟨by kernel_rfl⟩
instance : PlainT Tryd.prog 47 := ⟨by kernel_rfl⟩
instance : CellT Tryd.prog 48 := ⟨by kernel_rfl⟩
instance : ZeroT Tryd.prog 48 [.nilFunc] := ⟨by kernel_rfl⟩
instance : PlainT Tryd.prog 48 := ⟨by kernel_rfl⟩
instance : SliceT Tryd.prog 49 55 3 24 := ⟨by kernel_rfl⟩
instance : CellT Tryd.prog 49 := ⟨by kernel_rfl⟩
instance : ZeroT Tryd.prog 49 [.slice none 0 0] := ⟨by kernel_rfl⟩
instance : PlainT Tryd.prog 49 := ⟨by kernel_rfl⟩
instance : CellT Tryd.prog 51 := ⟨by kernel_rfl⟩
instance : ZeroT Tryd.prog 51 [.nilFunc] := ⟨by kernel_rfl⟩
instance : PlainT Tryd.prog 51 := ⟨by kernel_rfl⟩
instance : SliceT Tryd.prog 52 53 1 24 := ⟨by kernel_rfl⟩
instance : CellT Tryd.prog 52 := ⟨by kernel_rfl⟩
instance : ZeroT Tryd.prog 52 [.slice none 0 0] := ⟨by kernel_rfl⟩
instance : PlainT Tryd.prog 52 := ⟨by kernel_rfl⟩
instance : SliceT Tryd.prog 53 4 1 1 := ⟨by kernel_rfl⟩
instance : CellT Tryd.prog 53 := ⟨by kernel_rfl⟩
instance : ZeroT Tryd.prog 53 [.slice none 0 0] := ⟨by kernel_rfl⟩
instance : PlainT Tryd.prog 53 := ⟨by kernel_rfl⟩
instance : AggT Tryd.prog 54 3 := ⟨by kernel_rfl⟩
instance : ZeroT Tryd.prog 54 [.int .i64 0, .int .i64 0, .int .i64 0] := ⟨by kernel_rfl⟩
instance : PlainT Tryd.prog 54 := ⟨by kernel_rfl⟩
instance : FieldT Tryd.prog 54 0 0 3 := ⟨by kernel_rfl⟩
instance : FieldT Tryd.prog 54 1 1 3 := ⟨by kernel_rfl⟩
instance : FieldT Tryd.prog 54 2 2 3 := ⟨by kernel_rfl⟩
instance : StructT Tryd.prog 54 [(0, 1), (1, 1), (2, 1)] := ⟨by kernel_rfl⟩
instance : AggT Tryd.prog 55 3 := ⟨by kernel_rfl⟩
instance : ZeroT Tryd.prog 55 [.int .i64 0, .int .i64 0, .int .i64 0] := ⟨by kernel_rfl⟩
instance : PlainT Tryd.prog 55 := ⟨by kernel_rfl⟩
instance : FieldT Tryd.prog 55 0 0 3 := ⟨by kernel_rfl⟩
instance : FieldT Tryd.prog 55 1 1 3 := ⟨by kernel_rfl⟩
instance : FieldT Tryd.prog 55 2 2 3 := ⟨by kernel_rfl⟩
instance : StructT Tryd.prog 55 [(0, 1), (1, 1), (2, 1)] := ⟨by kernel_rfl⟩
instance : CellT Tryd.prog 56 := ⟨by kernel_rfl⟩
instance : ZeroT Tryd.prog 56 [.int .i64 0] := ⟨by kernel_rfl⟩
instance : PlainT Tryd.prog 56 := ⟨by kernel_rfl⟩
instance : CellT Tryd.prog 57 := ⟨by kernel_rfl⟩
instance : ZeroT Tryd.prog 57 [.nilFunc] := ⟨by kernel_rfl⟩
instance : PlainT Tryd.prog 57 := ⟨by kernel_rfl⟩
instance : CellT Tryd.prog 58 := ⟨by kernel_rfl⟩
instance : ZeroT Tryd.prog 58 [.nilFunc] := ⟨by kernel_rfl⟩
instance : PlainT Tryd.prog 58 := ⟨by kernel_rfl⟩
instance : SliceT Tryd.prog 59 62 1 8 := ⟨by kernel_rfl⟩
instance : CellT Tryd.prog 59 := ⟨by kernel_rfl⟩
instance : ZeroT Tryd.prog 59 [.slice none 0 0] := ⟨by kernel_rfl⟩
instance : PlainT Tryd.prog 59 := ⟨by kernel_rfl⟩
instance : AggT Tryd.prog 60 3 := ⟨by kernel_rfl⟩
instance : ZeroT Tryd.prog 60 [.slice none 0 0, .slice none 0 0, .slice none 0 0] := ⟨by kernel_rfl⟩
instance : PlainT Tryd.prog 60 := ⟨by kernel_rfl⟩
instance : FieldT Tryd.prog 60 0 0 24 := ⟨by kernel_rfl⟩
instance : FieldT Tryd.prog 60 1 1 59 := ⟨by kernel_rfl⟩
instance : FieldT Tryd.prog 60 2 2 37 := ⟨by kernel_rfl⟩
instance : StructT Tryd.prog 60 [(0, 1), (1, 1), (2, 1)] := ⟨by kernel_rfl⟩
instance : AggT Tryd.prog 61 3 := ⟨by kernel_rfl⟩
instance : ZeroT Tryd.prog 61 [.slice none 0 0, .slice none 0 0, .slice none 0 0] := ⟨by kernel_rfl⟩
instance : PlainT Tryd.prog 61 := ⟨by kernel_rfl⟩
instance : FieldT Tryd.prog 61 0 0 24 := ⟨by kernel_rfl⟩
instance : FieldT Tryd.prog 61 1 1 59 := ⟨by kernel_rfl⟩
instance : FieldT Tryd.prog 61 2 2 37 := ⟨by kernel_rfl⟩
instance : StructT Tryd.prog 61 [(0, 1), (1, 1), (2, 1)] := ⟨by kernel_rfl⟩
instance : CellT Tryd.prog 62 := ⟨by kernel_rfl⟩
instance : ZeroT Tryd.prog 62 [.pointer none] := ⟨by kernel_rfl⟩
instance : MethT Tryd.prog 62 "Pattern" 112 true 79 := ⟨by kernel_rfl⟩
instance : MethT Tryd.prog 62 "Value" 15 true 79 := ⟨by kernel_rfl⟩
instance : PtrT Tryd.prog 62 := ⟨by kernel_rfl⟩
instance : PlainT Tryd.prog 62 := ⟨by kernel_rfl⟩
instance : CellT Tryd.prog 64 := ⟨by kernel_rfl⟩
instance : ZeroT Tryd.prog 64 [.nilFunc] := ⟨by kernel_rfl⟩
instance : PlainT Tryd.prog 64 := ⟨by kernel_rfl⟩
instance : CellT Tryd.prog 65 := ⟨by kernel_rfl⟩
instance : ZeroT Tryd.prog 65 [.nilFunc] := ⟨by kernel_rfl⟩
instance : PlainT Tryd.prog 65 := ⟨by kernel_rfl⟩
instance : CellT Tryd.prog 66 := ⟨by kernel_rfl⟩
instance : ZeroT Tryd.prog 66 [.nilFunc] := ⟨by kernel_rfl⟩
instance : PlainT Tryd.prog 66 := ⟨by kernel_rfl⟩
instance : CellT Tryd.prog 67 := ⟨by kernel_rfl⟩
instance : ZeroT Tryd.prog 67 [.nilFunc] := ⟨by kernel_rfl⟩
instance : PlainT Tryd.prog 67 := ⟨by kernel_rfl⟩
instance : CellT Tryd.prog 68 := ⟨by kernel_rfl⟩
instance : ZeroT Tryd.prog 68 [.nilFunc] := ⟨by kernel_rfl⟩
instance : PlainT Tryd.prog 68 := ⟨by kernel_rfl⟩
instance : CellT Tryd.prog 69 := ⟨by kernel_rfl⟩
instance : ZeroT Tryd.prog 69 [.nilFunc] := ⟨by kernel_rfl⟩
instance : PlainT Tryd.prog 69 := ⟨by kernel_rfl⟩
instance : CellT Tryd.prog 70 := ⟨by kernel_rfl⟩
instance : ZeroT Tryd.prog 70 [.nilFunc] := ⟨by kernel_rfl⟩
instance : PlainT Tryd.prog 70 := ⟨by kernel_rfl⟩
instance : CellT Tryd.prog 71 := ⟨by kernel_rfl⟩
instance : ZeroT Tryd.prog 71 [.nilFunc] := ⟨by kernel_rfl⟩
instance : PlainT Tryd.prog 71 := ⟨by kernel_rfl⟩
instance : SliceT Tryd.prog 72 104 3 24 := ⟨by kernel_rfl⟩
instance : CellT Tryd.prog 72 := ⟨by kernel_rfl⟩
instance : ZeroT Tryd.prog 72 [.slice none 0 0] := ⟨by kernel_rfl⟩
instance : PlainT Tryd.prog 72 := ⟨by kernel_rfl⟩
instance : AggT Tryd.prog 73 5 := ⟨by kernel_rfl⟩
instance : ZeroT Tryd.prog 73 [.int .i64 0, .int .i64 0, .slice none 0 0, .slice none 0 0, .slice none 0 0] := ⟨by kernel_rfl⟩
instance : PlainT Tryd.prog 73 := ⟨by kernel_rfl⟩
instance : FieldT Tryd.prog 73 0 0 3 := ⟨by kernel_rfl⟩
instance : FieldT Tryd.prog 73 1 1 3 := ⟨by kernel_rfl⟩
instance : FieldT Tryd.prog 73 2 2 24 := ⟨by kernel_rfl⟩
instance : FieldT Tryd.prog 73 3 3 72 := ⟨by kernel_rfl⟩
instance : FieldT Tryd.prog 73 4 4 53 := ⟨by kernel_rfl⟩
instance : StructT Tryd.prog 73 [(0, 1), (1, 1), (2, 1), (3, 1), (4, 1)] := ⟨by kernel_rfl⟩
instance : AggT Tryd.prog 74 5 := ⟨by kernel_rfl⟩
instance : ZeroT Tryd.prog 74 [.int .i64 0, .int .i64 0, .slice none 0 0, .slice none 0 0, .slice none 0 0] := ⟨by kernel_rfl⟩
instance : PlainT Tryd.prog 74 := ⟨by kernel_rfl⟩
instance : FieldT Tryd.prog 74 0 0 3 := ⟨by kernel_rfl⟩
instance : FieldT Tryd.prog 74 1 1 3 := ⟨by kernel_rfl⟩
instance : FieldT Tryd.prog 74 2 2 24 := ⟨by kernel_rfl⟩
instance : FieldT Tryd.prog 74 3 3 72 := ⟨by kernel_rfl⟩
instance : FieldT Tryd.prog 74 4 4 53 := ⟨by kernel_rfl⟩
instance : StructT Tryd.prog 74 [(0, 1), (1, 1), (2, 1), (3, 1), (4, 1)] := ⟨by kernel_rfl⟩
instance : CellT Tryd.prog 76 := ⟨by kernel_rfl⟩
instance : ZeroT Tryd.prog 76 [.nilFunc] := ⟨by kernel_rfl⟩
instance : PlainT Tryd.prog 76 := ⟨by kernel_rfl⟩
instance : CellT Tryd.prog 77 := ⟨by kernel_rfl⟩
instance : ZeroT Tryd.prog 77 [.nilFunc] := ⟨by kernel_rfl⟩
instance : PlainT Tryd.prog 77 := ⟨by kernel_rfl⟩
instance : AggT Tryd.prog 78 8 := ⟨by kernel_rfl⟩
instance : ZeroT Tryd.prog 78 [.slice none 0 0, .slice none 0 0, .int .i64 0, .int .i64 0, .slice none 0 0, .slice none 0 0, .slice none 0 0, .slice none 0 0] := ⟨by kernel_rfl⟩
instance : PlainT Tryd.prog 78 := ⟨by kernel_rfl⟩
instance : FieldT Tryd.prog 78 0 0 24 := ⟨by kernel_rfl⟩
instance : FieldT Tryd.prog 78 1 1 24 := ⟨by kernel_rfl⟩
instance : FieldT Tryd.prog 78 2 2 74 := ⟨by kernel_rfl⟩
instance : FieldT Tryd.prog 78 3 7 24 := ⟨by kernel_rfl⟩
instance : StructT Tryd.prog 78 [(0, 1), (1, 1), (2, 5), (7, 1)] := ⟨by kernel_rfl⟩
instance : AggT Tryd.prog 79 8 := ⟨by kernel_rfl⟩
instance : ZeroT Tryd.prog 79 [.slice none 0 0, .slice none 0 0, .int .i64 0, .int .i64 0, .slice none 0 0, .slice none 0 0, .slice none 0 0, .slice none 0 0] := ⟨by kernel_rfl⟩
instance : PlainT Tryd.prog 79 := ⟨by kernel_rfl⟩
instance : FieldT Tryd.prog 79 0 0 24 := ⟨by kernel_rfl⟩
instance : FieldT Tryd.prog 79 1 1 24 := ⟨by kernel_rfl⟩
instance : FieldT Tryd.prog 79 2 2 74 := ⟨by kernel_rfl⟩
instance : FieldT Tryd.prog 79 3 7 24 := ⟨by kernel_rfl⟩
instance : StructT Tryd.prog 79 [(0, 1), (1, 1), (2, 5), (7, 1)] := ⟨by kernel_rfl⟩
instance : CellT Tryd.prog 80 := ⟨by kernel_rfl⟩
instance : ZeroT Tryd.prog 80 [.nilFunc] := ⟨by kernel_rfl⟩
instance : PlainT Tryd.prog 80 := ⟨by kernel_rfl⟩
instance : SliceT Tryd.prog 81 25 1 24 := ⟨by kernel_rfl⟩
instance : CellT Tryd.prog 81 := ⟨by kernel_rfl⟩
instance : ZeroT Tryd.prog 81 [.slice none 0 0] := ⟨by kernel_rfl⟩
instance : PlainT Tryd.prog 81 := ⟨by kernel_rfl⟩
instance : CellT Tryd.prog 82 := ⟨by kernel_rfl⟩
instance : ZeroT Tryd.prog 82 [.nilFunc] := ⟨by kernel_rfl⟩
instance : PlainT Tryd.prog 82 := ⟨by kernel_rfl⟩
instance : CellT Tryd.prog 83 := ⟨by kernel_rfl⟩
instance : ZeroT Tryd.prog 83 [.nilFunc] := ⟨by kernel_rfl⟩
instance : PlainT Tryd.prog 83 := ⟨by kernel_rfl⟩
instance : CellT Tryd.prog 84 := ⟨by kernel_rfl⟩
instance : ZeroT Tryd.prog 84 [.nilFunc] := ⟨by kernel_rfl⟩
instance : PlainT Tryd.prog 84 := ⟨by kernel_rfl⟩
instance : CellT Tryd.prog 85 := ⟨by kernel_rfl⟩
instance : ZeroT Tryd.prog 85 [.nilFunc] := ⟨by kernel_rfl⟩
instance : PlainT Tryd.prog 85 := ⟨by kernel_rfl⟩
instance : CellT Tryd.prog 86 := ⟨by kernel_rfl⟩
instance : ZeroT Tryd.prog 86 [.nilFunc] := ⟨by kernel_rfl⟩
instance : PlainT Tryd.prog 86 := ⟨by kernel_rfl⟩
instance : CellT Tryd.prog 87 := ⟨by kernel_rfl⟩
instance : ZeroT Tryd.prog 87 [.pointer none] := ⟨by kernel_rfl⟩
instance : MethT Tryd.prog 87 "stratagem/graph.find" 31 true 90 := ⟨by kernel_rfl⟩
instance : PtrT Tryd.prog 87 := ⟨by kernel_rfl⟩
instance : PlainT Tryd.prog 87 := ⟨by kernel_rfl⟩
instance : SliceT Tryd.prog 88 91 1 8 := ⟨by kernel_rfl⟩
instance : CellT Tryd.prog 88 := ⟨by kernel_rfl⟩
instance : ZeroT Tryd.prog 88 [.slice none 0 0] := ⟨by kernel_rfl⟩
instance : PlainT Tryd.prog 88 := ⟨by kernel_rfl⟩
instance : AggT Tryd.prog 89 2 := ⟨by kernel_rfl⟩
instance : ZeroT Tryd.prog 89 [.slice none 0 0, .slice none 0 0] := ⟨by kernel_rfl⟩
instance : PlainT Tryd.prog 89 := ⟨by kernel_rfl⟩
instance : FieldT Tryd.prog 89 0 0 88 := ⟨by kernel_rfl⟩
instance : FieldT Tryd.prog 89 1 1 37 := ⟨by kernel_rfl⟩
instance : StructT Tryd.prog 89 [(0, 1), (1, 1)] := ⟨by kernel_rfl⟩
instance : AggT Tryd.prog 90 2 := ⟨by kernel_rfl⟩
instance : ZeroT Tryd.prog 90 [.slice none 0 0, .slice none 0 0] := ⟨by kernel_rfl⟩
instance : PlainT Tryd.prog 90 := ⟨by kernel_rfl⟩
instance : FieldT Tryd.prog 90 0 0 88 := ⟨by kernel_rfl⟩
instance : FieldT Tryd.prog 90 1 1 37 := ⟨by kernel_rfl⟩
instance : StructT Tryd.prog 90 [(0, 1), (1, 1)] := ⟨by kernel_rfl⟩
instance : CellT Tryd.prog 91 := ⟨by kernel_rfl⟩
instance : ZeroT Tryd.prog 91 [.int .u64 0] := ⟨by kernel_rfl⟩
instance : PlainT Tryd.prog 91 := ⟨by kernel_rfl⟩
instance : CellT Tryd.prog 92 := ⟨by kernel_rfl⟩
instance : ZeroT Tryd.prog 92 [.nilFunc] := ⟨by kernel_rfl⟩
instance : PlainT Tryd.prog 92 := ⟨by kernel_rfl⟩
instance : CellT Tryd.prog 93 := ⟨by kernel_rfl⟩
instance : ZeroT Tryd.prog 93 [.nilFunc] := ⟨by kernel_rfl⟩
instance : PlainT Tryd.prog 93 := ⟨by kernel_rfl⟩
instance : CellT Tryd.prog 94 := ⟨by kernel_rfl⟩
instance : ZeroT Tryd.prog 94 [.nilFunc] := ⟨by kernel_rfl⟩
instance : PlainT Tryd.prog 94 := ⟨by kernel_rfl⟩
instance : CellT Tryd.prog 95 := ⟨by kernel_rfl⟩
instance : ZeroT Tryd.prog 95 [.nilFunc] := ⟨by kernel_rfl⟩
instance : PlainT Tryd.prog 95 := ⟨by kernel_rfl⟩
instance : CellT Tryd.prog 96 := ⟨by kernel_rfl⟩
instance : ZeroT Tryd.prog 96 [.nilFunc] := ⟨by kernel_rfl⟩
instance : PlainT Tryd.prog 96 := ⟨by kernel_rfl⟩
instance : CellT Tryd.prog 98 := ⟨by kernel_rfl⟩
instance : ZeroT Tryd.prog 98 [.nilFunc] := ⟨by kernel_rfl⟩
instance : PlainT Tryd.prog 98 := ⟨by kernel_rfl⟩
instance : CellT Tryd.prog 99 := ⟨by kernel_rfl⟩
instance : ZeroT Tryd.prog 99 [.nilFunc] := ⟨by kernel_rfl⟩
instance : PlainT Tryd.prog 99 := ⟨by kernel_rfl⟩
instance : CellT Tryd.prog 100 := ⟨by kernel_rfl⟩
instance : ZeroT Tryd.prog 100 [.nilFunc] := ⟨by kernel_rfl⟩
instance : PlainT Tryd.prog 100 := ⟨by kernel_rfl⟩
instance : CellT Tryd.prog 101 := ⟨by kernel_rfl⟩
instance : ZeroT Tryd.prog 101 [.nilFunc] := ⟨by kernel_rfl⟩
instance : PlainT Tryd.prog 101 := ⟨by kernel_rfl⟩
instance : CellT Tryd.prog 102 := ⟨by kernel_rfl⟩
instance : ZeroT Tryd.prog 102 [.nilFunc] := ⟨by kernel_rfl⟩
instance : PlainT Tryd.prog 102 := ⟨by kernel_rfl⟩
instance : AggT Tryd.prog 103 3 := ⟨by kernel_rfl⟩
instance : ZeroT Tryd.prog 103 [.int .i64 0, .int .i64 0, .int .i64 0] := ⟨by kernel_rfl⟩
instance : PlainT Tryd.prog 103 := ⟨by kernel_rfl⟩
instance : FieldT Tryd.prog 103 0 0 3 := ⟨by kernel_rfl⟩
instance : FieldT Tryd.prog 103 1 1 3 := ⟨by kernel_rfl⟩
instance : FieldT Tryd.prog 103 2 2 3 := ⟨by kernel_rfl⟩
instance : StructT Tryd.prog 103 [(0, 1), (1, 1), (2, 1)] := ⟨by kernel_rfl⟩
instance : AggT Tryd.prog 104 3 := ⟨by kernel_rfl⟩
instance : ZeroT Tryd.prog 104 [.int .i64 0, .int .i64 0, .int .i64 0] := ⟨by kernel_rfl⟩
instance : PlainT Tryd.prog 104 := ⟨by kernel_rfl⟩
instance : FieldT Tryd.prog 104 0 0 3 := ⟨by kernel_rfl⟩
instance : FieldT Tryd.prog 104 1 1 3 := ⟨by kernel_rfl⟩
instance : FieldT Tryd.prog 104 2 2 3 := ⟨by kernel_rfl⟩
instance : StructT Tryd.prog 104 [(0, 1), (1, 1), (2, 1)] := ⟨by kernel_rfl⟩
instance : SliceT Tryd.prog 105 72 1 24 := ⟨by kernel_rfl⟩
instance : CellT Tryd.prog 105 := ⟨by kernel_rfl⟩
instance : ZeroT Tryd.prog 105 [.slice none 0 0] := ⟨by kernel_rfl⟩
instance : PlainT Tryd.prog 105 := ⟨by kernel_rfl⟩
instance : CellT Tryd.prog 106 := ⟨by kernel_rfl⟩
instance : ZeroT Tryd.prog 106 [.pointer none] := ⟨by kernel_rfl⟩
instance : MethT Tryd.prog 106 "Len" 42 false 108 := ⟨by kernel_rfl⟩
instance : MethT Tryd.prog 106 "Less" 113 false 108 := ⟨by kernel_rfl⟩
instance : MethT Tryd.prog 106 "Pop" 114 true 108 := ⟨by kernel_rfl⟩
instance : MethT Tryd.prog 106 "Push" 115 true 108 := ⟨by kernel_rfl⟩
instance : MethT Tryd.prog 106 "Swap" 116 false 108 := ⟨by kernel_rfl⟩
instance : PtrT Tryd.prog 106 := ⟨by kernel_rfl⟩
instance : PlainT Tryd.prog 106 := ⟨by kernel_rfl⟩
instance : SliceT Tryd.prog 107 111 2 16 := ⟨by kernel_rfl⟩
instance : CellT Tryd.prog 107 := ⟨by kernel_rfl⟩
instance : ZeroT Tryd.prog 107 [.slice none 0 0] := ⟨by kernel_rfl⟩
instance : PlainT Tryd.prog 107 := ⟨by kernel_rfl⟩
instance : SliceT Tryd.prog 108 111 2 16 := ⟨by kernel_rfl⟩
instance : CellT Tryd.prog 108 := ⟨by kernel_rfl⟩
instance : ZeroT Tryd.prog 108 [.slice none 0 0] := ⟨by kernel_rfl⟩
instance : PlainT Tryd.prog 108 := ⟨by kernel_rfl⟩
instance : CellT Tryd.prog 109 := ⟨by kernel_rfl⟩
instance : ZeroT Tryd.prog 109 [.nilFunc] := ⟨by kernel_rfl⟩
instance : PlainT Tryd.prog 109 := ⟨by kernel_rfl⟩
instance : AggT Tryd.prog 110 2 := ⟨by kernel_rfl⟩
instance : ZeroT Tryd.prog 110 [.int .i64 0, .int .i64 0] := ⟨by kernel_rfl⟩
instance : PlainT Tryd.prog 110 := ⟨by kernel_rfl⟩
instance : FieldT Tryd.prog 110 0 0 3 := ⟨by kernel_rfl⟩
instance : FieldT Tryd.prog 110 1 1 3 := ⟨by kernel_rfl⟩
instance : StructT Tryd.prog 110 [(0, 1), (1, 1)] := ⟨by kernel_rfl⟩
instance : AggT Tryd.prog 111 2 := ⟨by kernel_rfl⟩
instance : ZeroT Tryd.prog 111 [.int .i64 0, .int .i64 0] := ⟨by kernel_rfl⟩
instance : PlainT Tryd.prog 111 := ⟨by kernel_rfl⟩
instance : FieldT Tryd.prog 111 0 0 3 := ⟨by kernel_rfl⟩
instance : FieldT Tryd.prog 111 1 1 3 := ⟨by kernel_rfl⟩
instance : StructT Tryd.prog 111 [(0, 1), (1, 1)] := ⟨by kernel_rfl⟩
instance : CellT Tryd.prog 112 := ⟨by kernel_rfl⟩
instance : ZeroT Tryd.prog 112 [.nilFunc] := ⟨by kernel_rfl⟩
instance : PlainT Tryd.prog 112 := ⟨by kernel_rfl⟩
instance : CellT Tryd.prog 114 := ⟨by kernel_rfl⟩
instance : ZeroT Tryd.prog 114 [.nilFunc] := ⟨by kernel_rfl⟩
instance : PlainT Tryd.prog 114 := ⟨by kernel_rfl⟩
instance : CellT Tryd.prog 115 := ⟨by kernel_rfl⟩
instance : ZeroT Tryd.prog 115 [.nilFunc] := ⟨by kernel_rfl⟩
instance : PlainT Tryd.prog 115 := ⟨by kernel_rfl⟩
instance : CellT Tryd.prog 116 := ⟨by kernel_rfl⟩
instance : ZeroT Tryd.prog 116 [.nilFunc] := ⟨by kernel_rfl⟩
instance : PlainT Tryd.prog 116 := ⟨by kernel_rfl⟩
instance : CellT Tryd.prog 117 := ⟨by kernel_rfl⟩
instance : ZeroT Tryd.prog 117 [.nilFunc] := ⟨by kernel_rfl⟩
instance : PlainT Tryd.prog 117 := ⟨by kernel_rfl⟩
instance : CellT Tryd.prog 118 := ⟨by kernel_rfl⟩
instance : ZeroT Tryd.prog 118 [.nilFunc] := ⟨by kernel_rfl⟩
instance : PlainT Tryd.prog 118 := ⟨by kernel_rfl⟩
instance : CellT Tryd.prog 119 := ⟨by kernel_rfl⟩
instance : ZeroT Tryd.prog 119 [.nilFunc] := ⟨by kernel_rfl⟩
instance : PlainT Tryd.prog 119 := ⟨by kernel_rfl⟩
instance : CellT Tryd.prog 120 := ⟨by kernel_rfl⟩
instance : ZeroT Tryd.prog 120 [.nilFunc] := ⟨by kernel_rfl⟩
instance : PlainT Tryd.prog 120 := ⟨by kernel_rfl⟩
instance : CellT Tryd.prog 121 := ⟨by kernel_rfl⟩
instance : ZeroT Tryd.prog 121 [.int .u64 0] := ⟨by kernel_rfl⟩
instance : PlainT Tryd.prog 121 := ⟨by kernel_rfl⟩
instance : CellT Tryd.prog 122 := ⟨by kernel_rfl⟩
instance : ZeroT Tryd.prog 122 [.nilFunc] := ⟨by kernel_rfl⟩
instance : PlainT Tryd.prog 122 := ⟨by kernel_rfl⟩
instance : CellT Tryd.prog 123 := ⟨by kernel_rfl⟩
instance : ZeroT Tryd.prog 123 [.nilFunc] := ⟨by kernel_rfl⟩
instance : PlainT Tryd.prog 123 := ⟨by kernel_rfl⟩
instance : CellT Tryd.prog 124 := ⟨by kernel_rfl⟩
instance : ZeroT Tryd.prog 124 [.nilFunc] := ⟨by kernel_rfl⟩
instance : PlainT Tryd.prog 124 := ⟨by kernel_rfl⟩
instance : CellT Tryd.prog 125 := ⟨by kernel_rfl⟩
instance : ZeroT Tryd.prog 125 [.nilFunc] := ⟨by kernel_rfl⟩
instance : PlainT Tryd.prog 125 := ⟨by kernel_rfl⟩
instance : CellT Tryd.prog 126 := ⟨by kernel_rfl⟩
instance : ZeroT Tryd.prog 126 [.nilFunc] := ⟨by kernel_rfl⟩
instance : PlainT Tryd.prog 126 := ⟨by kernel_rfl⟩
instance : CellT Tryd.prog 127 := ⟨by kernel_rfl⟩
instance : ZeroT Tryd.prog 127 [.nilFunc] := ⟨by kernel_rfl⟩
instance : PlainT Tryd.prog 127 := ⟨by kernel_rfl⟩
instance : CellT Tryd.prog 128 := ⟨by kernel_rfl⟩
instance : ZeroT Tryd.prog 128 [.nilFunc] := ⟨by kernel_rfl⟩
instance : PlainT Tryd.prog 128 := ⟨by kernel_rfl⟩
instance : CellT Tryd.prog 129 := ⟨by kernel_rfl⟩
instance : ZeroT Tryd.prog 129 [.nilIface] := ⟨by kernel_rfl⟩
instance : IfaceT Tryd.prog 129 := ⟨by kernel_rfl⟩
instance : CellT Tryd.prog 130 := ⟨by kernel_rfl⟩
instance : ZeroT Tryd.prog 130 [.nilIface] := ⟨by kernel_rfl⟩
instance : IfaceT Tryd.prog 130 := ⟨by kernel_rfl⟩
instance : CellT Tryd.prog 131 := ⟨by kernel_rfl⟩
instance : ZeroT Tryd.prog 131 [.nilFunc] := ⟨by kernel_rfl⟩
instance : PlainT Tryd.prog 131 := ⟨by kernel_rfl⟩
instance : CellT Tryd.prog 132 := ⟨by kernel_rfl⟩
instance : ZeroT Tryd.prog 132 [.nilFunc] := ⟨by kernel_rfl⟩
instance : PlainT Tryd.prog 132 := ⟨by kernel_rfl⟩
instance : CellT Tryd.prog 133 := ⟨by kernel_rfl⟩
instance : ZeroT Tryd.prog 133 [.nilFunc] := ⟨by kernel_rfl⟩
instance : PlainT Tryd.prog 133 := ⟨by kernel_rfl⟩
instance : CellT Tryd.prog 134 := ⟨by kernel_rfl⟩
instance : ZeroT Tryd.prog 134 [.nilFunc] := ⟨by kernel_rfl⟩
instance : PlainT Tryd.prog 134 := ⟨by kernel_rfl⟩
instance : CellT Tryd.prog 135 := ⟨by kernel_rfl⟩
instance : ZeroT Tryd.prog 135 [.nilFunc] := ⟨by kernel_rfl⟩
instance : PlainT Tryd.prog 135 := ⟨by kernel_rfl⟩
instance : CellT Tryd.prog 136 := ⟨by kernel_rfl⟩
instance : ZeroT Tryd.prog 136 [.nilFunc] := ⟨by kernel_rfl⟩
instance : PlainT Tryd.prog 136 := ⟨by kernel_rfl⟩
instance : AggT Tryd.prog 137 64 := ⟨by kernel_rfl⟩
instance : ZeroT Tryd.prog 137 [.int .u8 0, .int .u8 0, .int .u8 0, .int .u8 0, .int .u8 0, .int .u8 0, .int .u8 0, .int .u8 0, .int .u8 0, .int .u8 0, .int .u8 0, .int .u8 0, .int .u8 0, .int .u8 0, .int .u8 0, .int .u8 0, .int .u8 0, .int .u8 0, .int .u8 0, .int .u8 0, .int .u8 0, .int .u8 0, .int .u8 0, .int .u8 0, .int .u8 0, .int .u8 0, .int .u8 0, .int .u8 0, .int .u8 0, .int .u8 0, .int .u8 0, .int .u8 0, .int .u8 0, .int .u8 0, .int .u8 0, .int .u8 0, .int .u8 0, .int .u8 0, .int .u8 0, .int .u8 0, .int .u8 0, .int .u8 0, .int .u8 0, .int .u8 0, .int .u8 0, .int .u8 0, .int .u8 0, .int .u8 0, .int .u8 0, .int .u8 0, .int .u8 0, .int .u8 0, .int .u8 0, .int .u8 0, .int .u8 0, .int .u8 0, .int .u8 0, .int .u8 0, .int .u8 0, .int .u8 0, .int .u8 0, .int .u8 0, .int .u8 0, .int .u8 0] := ⟨by kernel_rfl⟩
instance : PlainT Tryd.prog 137 := ⟨by kernel_rfl⟩
instance : CellT Tryd.prog 138 := ⟨by kernel_rfl⟩
instance : ZeroT Tryd.prog 138 [.nilFunc] := ⟨by kernel_rfl⟩
instance : PlainT Tryd.prog 138 := ⟨by kernel_rfl⟩
instance : CellT Tryd.prog 139 := ⟨by kernel_rfl⟩
instance : ZeroT Tryd.prog 139 [.int .i64 0] := ⟨by kernel_rfl⟩
instance : PlainT Tryd.prog 139 := ⟨by kernel_rfl⟩
instance : CellT Tryd.prog 141 := ⟨by kernel_rfl⟩
instance : ZeroT Tryd.prog 141 [.nilFunc] := ⟨by kernel_rfl⟩
instance : PlainT Tryd.prog 141 := ⟨by kernel_rfl⟩
instance : CellT Tryd.prog 142 := ⟨by kernel_rfl⟩
instance : ZeroT Tryd.prog 142 [.nilFunc] := ⟨by kernel_rfl⟩
instance : PlainT Tryd.prog 142 := ⟨by kernel_rfl⟩
instance : CellT Tryd.prog 143 := ⟨by kernel_rfl⟩
instance : ZeroT Tryd.prog 143 [.nilFunc] := ⟨by kernel_rfl⟩
instance : PlainT Tryd.prog 143 := ⟨by kernel_rfl⟩
instance : CellT Tryd.prog 144 := ⟨by kernel_rfl⟩
instance : ZeroT Tryd.prog 144 [.nilFunc] := ⟨by kernel_rfl⟩
instance : PlainT Tryd.prog 144 := ⟨by kernel_rfl⟩
instance : CellT Tryd.prog 145 := ⟨by kernel_rfl⟩
instance : ZeroT Tryd.prog 145 [.nilFunc] := ⟨by kernel_rfl⟩
instance : PlainT Tryd.prog 145 := ⟨by kernel_rfl⟩
instance : CellT Tryd.prog 146 := ⟨by kernel_rfl⟩
instance : ZeroT Tryd.prog 146 [.int .u32 0] := ⟨by kernel_rfl⟩
instance : PlainT Tryd.prog 146 := ⟨by kernel_rfl⟩
instance : CellT Tryd.prog 147 := ⟨by kernel_rfl⟩
instance : ZeroT Tryd.prog 147 [.nilFunc] := ⟨by kernel_rfl⟩
instance : PlainT Tryd.prog 147 := ⟨by kernel_rfl⟩
instance : CellT Tryd.prog 148 := ⟨by kernel_rfl⟩
instance : ZeroT Tryd.prog 148 [.nilFunc] := ⟨by kernel_rfl⟩
instance : PlainT Tryd.prog 148 := ⟨by kernel_rfl⟩
instance : CellT Tryd.prog 149 := ⟨by kernel_rfl⟩
instance : ZeroT Tryd.prog 149 [.nilFunc] := ⟨by kernel_rfl⟩
instance : PlainT Tryd.prog 149 := ⟨by kernel_rfl⟩
instance : CellT Tryd.prog 150 := ⟨by kernel_rfl⟩
instance : ZeroT Tryd.prog 150 [.nilFunc] := ⟨by kernel_rfl⟩
instance : PlainT Tryd.prog 150 := ⟨by kernel_rfl⟩
instance : CellT Tryd.prog 151 := ⟨by kernel_rfl⟩
instance : ZeroT Tryd.prog 151 [.int .u64 0] := ⟨by kernel_rfl⟩
instance : PlainT Tryd.prog 151 := ⟨by kernel_rfl⟩
instance : CellT Tryd.prog 152 := ⟨by kernel_rfl⟩
instance : ZeroT Tryd.prog 152 [.nilFunc] := ⟨by kernel_rfl⟩
instance : PlainT Tryd.prog 152 := ⟨by kernel_rfl⟩
instance : CellT Tryd.prog 153 := ⟨by kernel_rfl⟩
instance : ZeroT Tryd.prog 153 [.nilFunc] := ⟨by kernel_rfl⟩
instance : PlainT Tryd.prog 153 := ⟨by kernel_rfl⟩
instance : CellT Tryd.prog 154 := ⟨by kernel_rfl⟩
instance : ZeroT Tryd.prog 154 [.nilFunc] := ⟨by kernel_rfl⟩
instance : PlainT Tryd.prog 154 := ⟨by kernel_rfl⟩
instance : CellT Tryd.prog 155 := ⟨by kernel_rfl⟩
instance : ZeroT Tryd.prog 155 [.pointer none] := ⟨by kernel_rfl⟩
instance : PtrT Tryd.prog 155 := ⟨by kernel_rfl⟩
instance : PlainT Tryd.prog 155 := ⟨by kernel_rfl⟩
instance : CellT Tryd.prog 156 := ⟨by kernel_rfl⟩
instance : ZeroT Tryd.prog 156 [.nilFunc] := ⟨by kernel_rfl⟩
instance : PlainT Tryd.prog 156 := ⟨by kernel_rfl⟩
instance : CellT Tryd.prog 157 := ⟨by kernel_rfl⟩
instance : ZeroT Tryd.prog 157 [.nilFunc] := ⟨by kernel_rfl⟩
instance : PlainT Tryd.prog 157 := ⟨by kernel_rfl⟩
instance : CellT Tryd.prog 158 := ⟨by kernel_rfl⟩
instance : ZeroT Tryd.prog 158 [.nilFunc] := ⟨by kernel_rfl⟩
instance : PlainT Tryd.prog 158 := ⟨by kernel_rfl⟩
instance : CellT Tryd.prog 159 := ⟨by kernel_rfl⟩
instance : ZeroT Tryd.prog 159 [.nilFunc] := ⟨by kernel_rfl⟩
instance : PlainT Tryd.prog 159 := ⟨by kernel_rfl⟩
instance : CellT Tryd.prog 160 := ⟨by kernel_rfl⟩
instance : ZeroT Tryd.prog 160 [.nilFunc] := ⟨by kernel_rfl⟩
instance : PlainT Tryd.prog 160 := ⟨by kernel_rfl⟩
instance : CellT Tryd.prog 161 := ⟨by kernel_rfl⟩
instance : ZeroT Tryd.prog 161 [.nilFunc] := ⟨by kernel_rfl⟩
instance : PlainT Tryd.prog 161 := ⟨by kernel_rfl⟩
instance : CellT Tryd.prog 162 := ⟨by kernel_rfl⟩
instance : ZeroT Tryd.prog 162 [.nilFunc] := ⟨by kernel_rfl⟩
instance : PlainT Tryd.prog 162 := ⟨by kernel_rfl⟩
instance : CellT Tryd.prog 163 := ⟨by kernel_rfl⟩
instance : ZeroT Tryd.prog 163 [.pointer none] := ⟨by kernel_rfl⟩
instance : MethT Tryd.prog 163 "Next" 77 true 151 := ⟨by kernel_rfl⟩
instance : PtrT Tryd.prog 163 := ⟨by kernel_rfl⟩
instance : PlainT Tryd.prog 163 := ⟨by kernel_rfl⟩
instance : CellT Tryd.prog 165 := ⟨by kernel_rfl⟩
instance : ZeroT Tryd.prog 165 [.nilFunc] := ⟨by kernel_rfl⟩
instance : PlainT Tryd.prog 165 := ⟨by kernel_rfl⟩
instance : CellT Tryd.prog 166 := ⟨by kernel_rfl⟩
instance : ZeroT Tryd.prog 166 [.nilFunc] := ⟨by kernel_rfl⟩
instance : PlainT Tryd.prog 166 := ⟨by kernel_rfl⟩
instance : CellT Tryd.prog 167 := ⟨by kernel_rfl⟩
instance : ZeroT Tryd.prog 167 [.nilFunc] := ⟨by kernel_rfl⟩
instance : PlainT Tryd.prog 167 := ⟨by kernel_rfl⟩
instance : CellT Tryd.prog 168 := ⟨by kernel_rfl⟩
instance : ZeroT Tryd.prog 168 [.nilFunc] := ⟨by kernel_rfl⟩
instance : PlainT Tryd.prog 168 := ⟨by kernel_rfl⟩
instance : CellT Tryd.prog 169 := ⟨by kernel_rfl⟩
instance : ZeroT Tryd.prog 169 [.nilFunc] := ⟨by kernel_rfl⟩
instance : PlainT Tryd.prog 169 := ⟨by kernel_rfl⟩
instance : AggT Tryd.prog 170 4 := ⟨by kernel_rfl⟩
instance : ZeroT Tryd.prog 170 [.pointer none, .pointer none, .pointer none, .string ByteArray.empty] := ⟨by kernel_rfl⟩
instance : PlainT Tryd.prog 170 := ⟨by kernel_rfl⟩
instance : FieldT Tryd.prog 170 0 0 17 := ⟨by kernel_rfl⟩
instance : FieldT Tryd.prog 170 1 1 17 := ⟨by kernel_rfl⟩
instance : FieldT Tryd.prog 170 2 2 17 := ⟨by kernel_rfl⟩
instance : FieldT Tryd.prog 170 3 3 9 := ⟨by kernel_rfl⟩
instance : StructT Tryd.prog 170 [(0, 1), (1, 1), (2, 1), (3, 1)] := ⟨by kernel_rfl⟩
instance : AggT Tryd.prog 171 4 := ⟨by kernel_rfl⟩
instance : ZeroT Tryd.prog 171 [.pointer none, .pointer none, .pointer none, .string ByteArray.empty] := ⟨by kernel_rfl⟩
instance : PlainT Tryd.prog 171 := ⟨by kernel_rfl⟩
instance : FieldT Tryd.prog 171 0 0 17 := ⟨by kernel_rfl⟩
instance : FieldT Tryd.prog 171 1 1 17 := ⟨by kernel_rfl⟩
instance : FieldT Tryd.prog 171 2 2 17 := ⟨by kernel_rfl⟩
instance : FieldT Tryd.prog 171 3 3 9 := ⟨by kernel_rfl⟩
instance : StructT Tryd.prog 171 [(0, 1), (1, 1), (2, 1), (3, 1)] := ⟨by kernel_rfl⟩
instance : AggT Tryd.prog 172 0 := ⟨by kernel_rfl⟩
instance : ZeroT Tryd.prog 172 [] := ⟨by kernel_rfl⟩
instance : PlainT Tryd.prog 172 := ⟨by kernel_rfl⟩
instance : AggT Tryd.prog 173 0 := ⟨by kernel_rfl⟩
instance : ZeroT Tryd.prog 173 [] := ⟨by kernel_rfl⟩
instance : PlainT Tryd.prog 173 := ⟨by kernel_rfl⟩
instance : StructT Tryd.prog 173 [(0, 0)] := ⟨by kernel_rfl⟩
instance : AggT Tryd.prog 174 0 := ⟨by kernel_rfl⟩
instance : ZeroT Tryd.prog 174 [] := ⟨by kernel_rfl⟩
instance : PlainT Tryd.prog 174 := ⟨by kernel_rfl⟩
instance : StructT Tryd.prog 174 [(0, 0)] := ⟨by kernel_rfl⟩
instance : CellT Tryd.prog 175 := ⟨by kernel_rfl⟩
instance : ZeroT Tryd.prog 175 [.int .u8 0] := ⟨by kernel_rfl⟩
instance : PlainT Tryd.prog 175 := ⟨by kernel_rfl⟩
instance : CellT Tryd.prog 176 := ⟨by kernel_rfl⟩
instance : ZeroT Tryd.prog 176 [.int .u8 0] := ⟨by kernel_rfl⟩
instance : PlainT Tryd.prog 176 := ⟨by kernel_rfl⟩
instance : CellT Tryd.prog 177 := ⟨by kernel_rfl⟩
instance : ZeroT Tryd.prog 177 [.nilFunc] := ⟨by kernel_rfl⟩
instance : PlainT Tryd.prog 177 := ⟨by kernel_rfl⟩
instance : CellT Tryd.prog 178 := ⟨by kernel_rfl⟩
instance : ZeroT Tryd.prog 178 [.pointer none] := ⟨by kernel_rfl⟩
instance : PtrT Tryd.prog 178 := ⟨by kernel_rfl⟩
instance : PlainT Tryd.prog 178 := ⟨by kernel_rfl⟩
instance : CellT Tryd.prog 179 := ⟨by kernel_rfl⟩
instance : ZeroT Tryd.prog 179 [.int .i32 0] := ⟨by kernel_rfl⟩
instance : PlainT Tryd.prog 179 := ⟨by kernel_rfl⟩
instance : CellT Tryd.prog 180 := ⟨by kernel_rfl⟩
instance : ZeroT Tryd.prog 180 [.int .i32 0] := ⟨by kernel_rfl⟩
instance : PlainT Tryd.prog 180 := ⟨by kernel_rfl⟩
instance : AggT Tryd.prog 181 11 := ⟨by kernel_rfl⟩
instance : ZeroT Tryd.prog 181 [.int .u64 0, .int .u64 0, .int .u32 0, .int .u8 0, .int .u8 0, .int .u8 0, .int .u8 0, .nilFunc, .pointer none, .int .i32 0, .int .i32 0] := ⟨by kernel_rfl⟩
instance : PlainT Tryd.prog 181 := ⟨by kernel_rfl⟩
instance : FieldT Tryd.prog 181 0 0 12 := ⟨by kernel_rfl⟩
instance : FieldT Tryd.prog 181 1 1 12 := ⟨by kernel_rfl⟩
instance : FieldT Tryd.prog 181 2 2 146 := ⟨by kernel_rfl⟩
instance : FieldT Tryd.prog 181 3 3 175 := ⟨by kernel_rfl⟩
instance : FieldT Tryd.prog 181 4 4 5 := ⟨by kernel_rfl⟩
instance : FieldT Tryd.prog 181 5 5 5 := ⟨by kernel_rfl⟩
instance : FieldT Tryd.prog 181 6 6 176 := ⟨by kernel_rfl⟩
instance : FieldT Tryd.prog 181 7 7 177 := ⟨by kernel_rfl⟩
instance : FieldT Tryd.prog 181 8 8 178 := ⟨by kernel_rfl⟩
instance : FieldT Tryd.prog 181 9 9 179 := ⟨by kernel_rfl⟩
instance : FieldT Tryd.prog 181 10 10 180 := ⟨by kernel_rfl⟩
instance : StructT Tryd.prog 181 [(0, 1), (1, 1), (2, 1), (3, 1), (4, 1), (5, 1), (6, 1), (7, 1), (8, 1), (9, 1), (10, 1)] := ⟨by kernel_rfl⟩
instance : AggT Tryd.prog 182 11 := ⟨by kernel_rfl⟩
instance : ZeroT Tryd.prog 182 [.int .u64 0, .int .u64 0, .int .u32 0, .int .u8 0, .int .u8 0, .int .u8 0, .int .u8 0, .nilFunc, .pointer none, .int .i32 0, .int .i32 0] := ⟨by kernel_rfl⟩
instance : PlainT Tryd.prog 182 := ⟨by kernel_rfl⟩
instance : FieldT Tryd.prog 182 0 0 12 := ⟨by kernel_rfl⟩
instance : FieldT Tryd.prog 182 1 1 12 := ⟨by kernel_rfl⟩
instance : FieldT Tryd.prog 182 2 2 146 := ⟨by kernel_rfl⟩
instance : FieldT Tryd.prog 182 3 3 175 := ⟨by kernel_rfl⟩
instance : FieldT Tryd.prog 182 4 4 5 := ⟨by kernel_rfl⟩
instance : FieldT Tryd.prog 182 5 5 5 := ⟨by kernel_rfl⟩
instance : FieldT Tryd.prog 182 6 6 176 := ⟨by kernel_rfl⟩
instance : FieldT Tryd.prog 182 7 7 177 := ⟨by kernel_rfl⟩
instance : FieldT Tryd.prog 182 8 8 178 := ⟨by kernel_rfl⟩
instance : FieldT Tryd.prog 182 9 9 179 := ⟨by kernel_rfl⟩
instance : FieldT Tryd.prog 182 10 10 180 := ⟨by kernel_rfl⟩
instance : StructT Tryd.prog 182 [(0, 1), (1, 1), (2, 1), (3, 1), (4, 1), (5, 1), (6, 1), (7, 1), (8, 1), (9, 1), (10, 1)] := ⟨by kernel_rfl⟩
instance : CellT Tryd.prog 183 := ⟨by kernel_rfl⟩
instance : ZeroT Tryd.prog 183 [.nilFunc] := ⟨by kernel_rfl⟩
instance : PlainT Tryd.prog 183 := ⟨by kernel_rfl⟩
instance : CellT Tryd.prog 184 := ⟨by kernel_rfl⟩
instance : ZeroT Tryd.prog 184 [.pointer none] := ⟨by kernel_rfl⟩
instance : PlainT Tryd.prog 184 := ⟨by kernel_rfl⟩
-- 3 stratagem/stratagemlaw42.PatternsSums
instance : CallT Tryd.prog 3 := ⟨by kernel_rfl⟩
-- 4 stratagem/stratagemlaw42.awake
instance : CallT Tryd.prog 4 := ⟨by kernel_rfl⟩
-- 5 stratagem/patterns.Systematic
instance : CallT Tryd.prog 5 := ⟨by kernel_rfl⟩
-- 6 stratagem/patterns.New
instance : CallT Tryd.prog 6 := ⟨by kernel_rfl⟩
-- 7 (*stratagem/patterns.Canonical).Value
instance : CallT Tryd.prog 7 := ⟨by kernel_rfl⟩
-- 8 stratagem/stratagemlaw42.example
instance : CallT Tryd.prog 8 := ⟨by kernel_rfl⟩
-- 9 stratagem/stratagembase.Ints
instance : CallT Tryd.prog 9 := ⟨by kernel_rfl⟩
-- 10 stratagem/causal.Arcs
instance : CallT Tryd.prog 10 := ⟨by kernel_rfl⟩
-- 11 stratagem/patterns.Cliques
instance : CallT Tryd.prog 11 := ⟨by kernel_rfl⟩
-- 12 slices.Clone[[]int,int]
instance : CallT Tryd.prog 12 := ⟨by kernel_rfl⟩
-- 13 stratagem/pdb.Build
instance : CallT Tryd.prog 13 := ⟨by kernel_rfl⟩
-- 14 stratagem/task.Proper
instance : CallT Tryd.prog 14 := ⟨by kernel_rfl⟩
-- 15 (*stratagem/pdb.Database).Value
instance : CallT Tryd.prog 15 := ⟨by kernel_rfl⟩
-- 16 stratagem/task.Check
instance : CallT Tryd.prog 16 := ⟨by kernel_rfl⟩
-- 17 stratagem/causal.depends
instance : CallT Tryd.prog 17 := ⟨by kernel_rfl⟩
-- 18 stratagem/patterns.check
instance : CallT Tryd.prog 18 := ⟨by kernel_rfl⟩
-- 19 stratagem/patterns.additive
instance : CallT Tryd.prog 19 := ⟨by kernel_rfl⟩
-- 20 stratagem/graph.Cliques
instance : CallT Tryd.prog 20 := ⟨by kernel_rfl⟩
-- 21 slices.ContainsFunc[[]int,int]
instance : CallT Tryd.prog 21 := ⟨by kernel_rfl⟩
-- 22 stratagem/pdb.Build$1
instance : CallT Tryd.prog 22 := ⟨by kernel_rfl⟩
-- 23 stratagem/project.Project
instance : CallT Tryd.prog 23 := ⟨by kernel_rfl⟩
-- 24 stratagem/pdb.distances
instance : CallT Tryd.prog 24 := ⟨by kernel_rfl⟩
-- 25 stratagem/task.large
instance : CallT Tryd.prog 25 := ⟨by kernel_rfl⟩
-- 26 stratagem/task.conditions
instance : CallT Tryd.prog 26 := ⟨by kernel_rfl⟩
-- 27 stratagem/task.Facts
instance : CallT Tryd.prog 27 := ⟨by kernel_rfl⟩
-- 28 stratagem/task.named
instance : CallT Tryd.prog 28 := ⟨by kernel_rfl⟩
-- 29 slices.Contains[[]int,int]
instance : CallT Tryd.prog 29 := ⟨by kernel_rfl⟩
-- 30 stratagem/graph.check
instance : CallT Tryd.prog 30 := ⟨by kernel_rfl⟩
-- 31 (*stratagem/graph.finder).find
instance : CallT Tryd.prog 31 := ⟨by kernel_rfl⟩
-- 32 slices.SortFunc[[][]int,[]int]
instance : CallT Tryd.prog 32 := ⟨by kernel_rfl⟩
-- 33 slices.Compare[[]int,int]
instance : CallT Tryd.prog 33 := ⟨by kernel_rfl⟩
-- 34 slices.IndexFunc[[]int,int]
instance : CallT Tryd.prog 34 := ⟨by kernel_rfl⟩
-- 35 stratagem/project.check
instance : CallT Tryd.prog 35 := ⟨by kernel_rfl⟩
-- 36 stratagem/project.count
instance : CallT Tryd.prog 36 := ⟨by kernel_rfl⟩
-- 37 stratagem/project.number
instance : CallT Tryd.prog 37 := ⟨by kernel_rfl⟩
-- 38 stratagem/project.outside
instance : CallT Tryd.prog 38 := ⟨by kernel_rfl⟩
-- 39 stratagem/project.put
instance : CallT Tryd.prog 39 := ⟨by kernel_rfl⟩
-- 40 stratagem/project.targets
instance : CallT Tryd.prog 40 := ⟨by kernel_rfl⟩
-- 41 container/heap.Push
instance : CallT Tryd.prog 41 := ⟨by kernel_rfl⟩
-- 42 (stratagem/pdb.queue).Len
instance : CallT Tryd.prog 42 := ⟨by kernel_rfl⟩
-- 43 container/heap.Pop
instance : CallT Tryd.prog 43 := ⟨by kernel_rfl⟩
-- 44 slices.ContainsFunc[[][]stratagem/api.Fact,[]stratagem/api.Fact]
instance : CallT Tryd.prog 44 := ⟨by kernel_rfl⟩
-- 45 stratagem/task.large$1
instance : CallT Tryd.prog 45 := ⟨by kernel_rfl⟩
-- 46 slices.Index[[]int,int]
instance : CallT Tryd.prog 46 := ⟨by kernel_rfl⟩
-- 47 math/bits.TrailingZeros64
instance : CallT Tryd.prog 47 := ⟨by kernel_rfl⟩
-- 48 math/bits.OnesCount64
instance : CallT Tryd.prog 48 := ⟨by kernel_rfl⟩
-- 49 slices.pdqsortCmpFunc[[]int]
instance : CallT Tryd.prog 49 := ⟨by kernel_rfl⟩
-- 50 math/bits.Len
instance : CallT Tryd.prog 50 := ⟨by kernel_rfl⟩
-- 51 cmp.Compare[int]
instance : CallT Tryd.prog 51 := ⟨by kernel_rfl⟩
-- 52 stratagem/project.has
instance : CallT Tryd.prog 52 := ⟨by kernel_rfl⟩
-- 53 slices.Sort[[]int,int]
instance : CallT Tryd.prog 53 := ⟨by kernel_rfl⟩
-- 54 slices.Backward[[]int,int]
instance : CallT Tryd.prog 54 := ⟨by kernel_rfl⟩
-- 55 stratagem/task.Holds
instance : CallT Tryd.prog 55 := ⟨by kernel_rfl⟩
-- 56 slices.Compact[[]int,int]
instance : CallT Tryd.prog 56 := ⟨by kernel_rfl⟩
-- 57 container/heap.up
instance : CallT Tryd.prog 57 := ⟨by kernel_rfl⟩
-- 58 container/heap.down
instance : CallT Tryd.prog 58 := ⟨by kernel_rfl⟩
-- 59 slices.IndexFunc[[][]stratagem/api.Fact,[]stratagem/api.Fact]
instance : CallT Tryd.prog 59 := ⟨by kernel_rfl⟩
-- 60 slices.insertionSortCmpFunc[[]int]
instance : CallT Tryd.prog 60 := ⟨by kernel_rfl⟩
-- 61 slices.heapSortCmpFunc[[]int]
instance : CallT Tryd.prog 61 := ⟨by kernel_rfl⟩
-- 62 slices.breakPatternsCmpFunc[[]int]
instance : CallT Tryd.prog 62 := ⟨by kernel_rfl⟩
-- 63 slices.choosePivotCmpFunc[[]int]
instance : CallT Tryd.prog 63 := ⟨by kernel_rfl⟩
-- 64 slices.reverseRangeCmpFunc[[]int]
instance : CallT Tryd.prog 64 := ⟨by kernel_rfl⟩
-- 65 slices.partialInsertionSortCmpFunc[[]int]
instance : CallT Tryd.prog 65 := ⟨by kernel_rfl⟩
-- 66 slices.partitionEqualCmpFunc[[]int]
instance : CallT Tryd.prog 66 := ⟨by kernel_rfl⟩
-- 67 slices.partitionCmpFunc[[]int]
instance : CallT Tryd.prog 67 := ⟨by kernel_rfl⟩
-- 68 math/bits.Len32
instance : CallT Tryd.prog 68 := ⟨by kernel_rfl⟩
-- 69 math/bits.Len64
instance : CallT Tryd.prog 69 := ⟨by kernel_rfl⟩
-- 70 cmp.isNaN[int]
instance : CallT Tryd.prog 70 := ⟨by kernel_rfl⟩
-- 71 slices.ContainsFunc[[]stratagem/api.Fact,stratagem/api.Fact]
instance : CallT Tryd.prog 71 := ⟨by kernel_rfl⟩
-- 72 stratagem/project.has$1
instance : CallT Tryd.prog 72 := ⟨by kernel_rfl⟩
-- 73 slices.pdqsortOrdered[int]
instance : CallT Tryd.prog 73 := ⟨by kernel_rfl⟩
-- 74 slices.Backward[[]int,int]$1
instance : CallT Tryd.prog 74 := ⟨by kernel_rfl⟩
-- 75 slices.siftDownCmpFunc[[]int]
instance : CallT Tryd.prog 75 := ⟨by kernel_rfl⟩
-- 76 slices.nextPowerOfTwo
instance : CallT Tryd.prog 76 := ⟨by kernel_rfl⟩
-- 78 slices.medianAdjacentCmpFunc[[]int]
instance : CallT Tryd.prog 78 := ⟨by kernel_rfl⟩
-- 79 slices.medianCmpFunc[[]int]
instance : CallT Tryd.prog 79 := ⟨by kernel_rfl⟩
-- 80 slices.IndexFunc[[]stratagem/api.Fact,stratagem/api.Fact]
instance : CallT Tryd.prog 80 := ⟨by kernel_rfl⟩
-- 81 slices.insertionSortOrdered[int]
instance : CallT Tryd.prog 81 := ⟨by kernel_rfl⟩
-- 82 slices.heapSortOrdered[int]
instance : CallT Tryd.prog 82 := ⟨by kernel_rfl⟩
-- 83 slices.breakPatternsOrdered[int]
instance : CallT Tryd.prog 83 := ⟨by kernel_rfl⟩
-- 84 slices.choosePivotOrdered[int]
instance : CallT Tryd.prog 84 := ⟨by kernel_rfl⟩
-- 85 slices.reverseRangeOrdered[int]
instance : CallT Tryd.prog 85 := ⟨by kernel_rfl⟩
-- 86 slices.partialInsertionSortOrdered[int]
instance : CallT Tryd.prog 86 := ⟨by kernel_rfl⟩
-- 87 cmp.Less[int]
instance : CallT Tryd.prog 87 := ⟨by kernel_rfl⟩
-- 88 slices.partitionEqualOrdered[int]
instance : CallT Tryd.prog 88 := ⟨by kernel_rfl⟩
-- 89 slices.partitionOrdered[int]
instance : CallT Tryd.prog 89 := ⟨by kernel_rfl⟩
-- 90 slices.order2CmpFunc[[]int]
instance : CallT Tryd.prog 90 := ⟨by kernel_rfl⟩
-- 91 slices.siftDownOrdered[int]
instance : CallT Tryd.prog 91 := ⟨by kernel_rfl⟩
-- 92 slices.medianAdjacentOrdered[int]
instance : CallT Tryd.prog 92 := ⟨by kernel_rfl⟩
-- 93 slices.medianOrdered[int]
instance : CallT Tryd.prog 93 := ⟨by kernel_rfl⟩
-- 94 slices.order2Ordered[int]
instance : CallT Tryd.prog 94 := ⟨by kernel_rfl⟩
-- 113 (stratagem/pdb.queue).Less
instance : CallT Tryd.prog 113 := ⟨by kernel_rfl⟩
-- 114 (*stratagem/pdb.queue).Pop
instance : CallT Tryd.prog 114 := ⟨by kernel_rfl⟩
-- 115 (*stratagem/pdb.queue).Push
instance : CallT Tryd.prog 115 := ⟨by kernel_rfl⟩
-- 116 (stratagem/pdb.queue).Swap
instance : CallT Tryd.prog 116 := ⟨by kernel_rfl⟩
theorem mixed : Tryd.prog.follows .mixedOrders = true := by kernel_rfl
end Go.Proofs.YtemnlcnjpjdoaaaDoor
