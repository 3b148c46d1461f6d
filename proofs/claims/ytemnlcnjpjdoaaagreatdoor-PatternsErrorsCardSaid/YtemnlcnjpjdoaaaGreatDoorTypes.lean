
/-
  The types of this seat, as the steps of the generator ask for them: closed facts on the program.
-/
import Derived.Test.YtemnlcnjpjdoaaaGreatDoorMSlA
import Derived.Test.YtemnlcnjpjdoaaaGreatDoorProg
import Derived.KernelRfl
set_option linter.unusedSimpArgs false
set_option linter.unusedVariables false
namespace Go.Proofs.YtemnlcnjpjdoaaaGreatDoor
open Go.Sl
instance : CellT Tryz.prog 1 := ⟨by kernel_rfl⟩
instance : ZeroT Tryz.prog 1 [.nilFunc] := ⟨by kernel_rfl⟩
instance : PlainT Tryz.prog 1 := ⟨by kernel_rfl⟩
instance : CellT Tryz.prog 2 := ⟨by kernel_rfl⟩
instance : ZeroT Tryz.prog 2 [.int .i64 0] := ⟨by kernel_rfl⟩
instance : PlainT Tryz.prog 2 := ⟨by kernel_rfl⟩
instance : CellT Tryz.prog 3 := ⟨by kernel_rfl⟩
instance : ZeroT Tryz.prog 3 [.int .i64 0] := ⟨by kernel_rfl⟩
instance : PlainT Tryz.prog 3 := ⟨by kernel_rfl⟩
instance : CellT Tryz.prog 4 := ⟨by kernel_rfl⟩
instance : ZeroT Tryz.prog 4 [.bool false] := ⟨by kernel_rfl⟩
instance : BoolT Tryz.prog 4 := ⟨by kernel_rfl⟩
instance : PlainT Tryz.prog 4 := ⟨by kernel_rfl⟩
instance : CellT Tryz.prog 5 := ⟨by kernel_rfl⟩
instance : ZeroT Tryz.prog 5 [.int .u8 0] := ⟨by kernel_rfl⟩
instance : PlainT Tryz.prog 5 := ⟨by kernel_rfl⟩
instance : CellT Tryz.prog 6 := ⟨by kernel_rfl⟩
instance : ZeroT Tryz.prog 6 [.int .u8 0] := ⟨by kernel_rfl⟩
instance : PlainT Tryz.prog 6 := ⟨by kernel_rfl⟩
instance : AggT Tryz.prog 7 4 := ⟨by kernel_rfl⟩
instance : ZeroT Tryz.prog 7 [.int .i64 0, .int .i64 0, .bool false, .int .u8 0] := ⟨by kernel_rfl⟩
instance : PlainT Tryz.prog 7 := ⟨by kernel_rfl⟩
instance : FieldT Tryz.prog 7 0 0 2 := ⟨by kernel_rfl⟩
instance : FieldT Tryz.prog 7 1 1 3 := ⟨by kernel_rfl⟩
instance : FieldT Tryz.prog 7 2 2 4 := ⟨by kernel_rfl⟩
instance : FieldT Tryz.prog 7 3 3 6 := ⟨by kernel_rfl⟩
instance : StructT Tryz.prog 7 [(0, 1), (1, 1), (2, 1), (3, 1)] := ⟨by kernel_rfl⟩
instance : AggT Tryz.prog 8 4 := ⟨by kernel_rfl⟩
instance : ZeroT Tryz.prog 8 [.int .i64 0, .int .i64 0, .bool false, .int .u8 0] := ⟨by kernel_rfl⟩
instance : PlainT Tryz.prog 8 := ⟨by kernel_rfl⟩
instance : FieldT Tryz.prog 8 0 0 2 := ⟨by kernel_rfl⟩
instance : FieldT Tryz.prog 8 1 1 3 := ⟨by kernel_rfl⟩
instance : FieldT Tryz.prog 8 2 2 4 := ⟨by kernel_rfl⟩
instance : FieldT Tryz.prog 8 3 3 6 := ⟨by kernel_rfl⟩
instance : StructT Tryz.prog 8 [(0, 1), (1, 1), (2, 1), (3, 1)] := ⟨by kernel_rfl⟩
instance : CellT Tryz.prog 9 := ⟨by kernel_rfl⟩
instance : ZeroT Tryz.prog 9 [.string ByteArray.empty] := ⟨by kernel_rfl⟩
instance : StrT Tryz.prog 9 := ⟨by kernel_rfl⟩
instance : PlainT Tryz.prog 9 := ⟨by kernel_rfl⟩
instance : CellT Tryz.prog 10 := ⟨by kernel_rfl⟩
instance : ZeroT Tryz.prog 10 [.string ByteArray.empty] := ⟨by kernel_rfl⟩
instance : StrT Tryz.prog 10 := ⟨by kernel_rfl⟩
instance : PlainT Tryz.prog 10 := ⟨by kernel_rfl⟩
instance : CellT Tryz.prog 11 := ⟨by kernel_rfl⟩
instance : ZeroT Tryz.prog 11 [.string ByteArray.empty] := ⟨by kernel_rfl⟩
instance : StrT Tryz.prog 11 := ⟨by kernel_rfl⟩
instance : PlainT Tryz.prog 11 := ⟨by kernel_rfl⟩
instance : CellT Tryz.prog 12 := ⟨by kernel_rfl⟩
instance : ZeroT Tryz.prog 12 [.int .u64 0] := ⟨by kernel_rfl⟩
instance : PlainT Tryz.prog 12 := ⟨by kernel_rfl⟩
instance : AggT Tryz.prog 13 2 := ⟨by kernel_rfl⟩
instance : ZeroT Tryz.prog 13 [.string ByteArray.empty, .int .u64 0] := ⟨by kernel_rfl⟩
instance : PlainT Tryz.prog 13 := ⟨by kernel_rfl⟩
instance : FieldT Tryz.prog 13 0 0 9 := ⟨by kernel_rfl⟩
instance : FieldT Tryz.prog 13 1 1 12 := ⟨by kernel_rfl⟩
instance : StructT Tryz.prog 13 [(0, 1), (1, 1)] := ⟨by kernel_rfl⟩
instance : AggT Tryz.prog 14 2 := ⟨by kernel_rfl⟩
instance : ZeroT Tryz.prog 14 [.string ByteArray.empty, .int .u64 0] := ⟨by kernel_rfl⟩
instance : PlainT Tryz.prog 14 := ⟨by kernel_rfl⟩
instance : FieldT Tryz.prog 14 0 0 9 := ⟨by kernel_rfl⟩
instance : FieldT Tryz.prog 14 1 1 12 := ⟨by kernel_rfl⟩
instance : StructT Tryz.prog 14 [(0, 1), (1, 1)] := ⟨by kernel_rfl⟩
instance : CellT Tryz.prog 15 := ⟨by kernel_rfl⟩
instance : ZeroT Tryz.prog 15 [.pointer none] := ⟨by kernel_rfl⟩
instance : MethT Tryz.prog 15 "Error" 144 true 204 := ⟨by kernel_rfl⟩
instance : MethT Tryz.prog 15 "RuntimeError" 145 true 204 := ⟨by kernel_rfl⟩
instance : PtrT Tryz.prog 15 := ⟨by kernel_rfl⟩
instance : PlainT Tryz.prog 15 := ⟨by kernel_rfl⟩
instance : CellT Tryz.prog 16 := ⟨by kernel_rfl⟩
instance : ZeroT Tryz.prog 16 [.pointer none] := ⟨by kernel_rfl⟩
instance : MethT Tryz.prog 16 "Error" 146 true 207 := ⟨by kernel_rfl⟩
instance : MethT Tryz.prog 16 "RuntimeError" 147 true 207 := ⟨by kernel_rfl⟩
instance : PtrT Tryz.prog 16 := ⟨by kernel_rfl⟩
instance : PlainT Tryz.prog 16 := ⟨by kernel_rfl⟩
instance : CellT Tryz.prog 17 := ⟨by kernel_rfl⟩
instance : ZeroT Tryz.prog 17 [.pointer none] := ⟨by kernel_rfl⟩
instance : MethT Tryz.prog 17 "Align" 148 true 215 := ⟨by kernel_rfl⟩
instance : MethT Tryz.prog 17 "Len" 149 true 215 := ⟨by kernel_rfl⟩
instance : PtrT Tryz.prog 17 := ⟨by kernel_rfl⟩
instance : PlainT Tryz.prog 17 := ⟨by kernel_rfl⟩
instance : AggT Tryz.prog 18 1 := ⟨by kernel_rfl⟩
instance : ZeroT Tryz.prog 18 [.pointer none] := ⟨by kernel_rfl⟩
instance : PlainT Tryz.prog 18 := ⟨by kernel_rfl⟩
instance : FieldT Tryz.prog 18 0 0 17 := ⟨by kernel_rfl⟩
instance : StructT Tryz.prog 18 [(0, 1)] := ⟨by kernel_rfl⟩
instance : AggT Tryz.prog 19 1 := ⟨by kernel_rfl⟩
instance : ZeroT Tryz.prog 19 [.pointer none] := ⟨by kernel_rfl⟩
instance : PlainT Tryz.prog 19 := ⟨by kernel_rfl⟩
instance : FieldT Tryz.prog 19 0 0 17 := ⟨by kernel_rfl⟩
instance : StructT Tryz.prog 19 [(0, 1)] := ⟨by kernel_rfl⟩
instance : CellT Tryz.prog 20 := ⟨by kernel_rfl⟩
instance : ZeroT Tryz.prog 20 [.nilIface] := ⟨by kernel_rfl⟩
instance : IfaceT Tryz.prog 20 := ⟨by kernel_rfl⟩
instance : CellT Tryz.prog 21 := ⟨by kernel_rfl⟩
instance : ZeroT Tryz.prog 21 [.int .i32 0] := ⟨by kernel_rfl⟩
instance : PlainT Tryz.prog 21 := ⟨by kernel_rfl⟩
instance : SliceT Tryz.prog 22 3 1 8 := ⟨by kernel_rfl⟩
instance : CellT Tryz.prog 22 := ⟨by kernel_rfl⟩
instance : ZeroT Tryz.prog 22 [.slice none 0 0] := ⟨by kernel_rfl⟩
instance : PlainT Tryz.prog 22 := ⟨by kernel_rfl⟩
instance : SliceT Tryz.prog 23 84 2 16 := ⟨by kernel_rfl⟩
instance : CellT Tryz.prog 23 := ⟨by kernel_rfl⟩
instance : ZeroT Tryz.prog 23 [.slice none 0 0] := ⟨by kernel_rfl⟩
instance : PlainT Tryz.prog 23 := ⟨by kernel_rfl⟩
instance : SliceT Tryz.prog 24 58 4 72 := ⟨by kernel_rfl⟩
instance : CellT Tryz.prog 24 := ⟨by kernel_rfl⟩
instance : ZeroT Tryz.prog 24 [.slice none 0 0] := ⟨by kernel_rfl⟩
instance : PlainT Tryz.prog 24 := ⟨by kernel_rfl⟩
instance : AggT Tryz.prog 25 4 := ⟨by kernel_rfl⟩
instance : ZeroT Tryz.prog 25 [.slice none 0 0, .slice none 0 0, .slice none 0 0, .slice none 0 0] := ⟨by kernel_rfl⟩
instance : PlainT Tryz.prog 25 := ⟨by kernel_rfl⟩
instance : FieldT Tryz.prog 25 0 0 22 := ⟨by kernel_rfl⟩
instance : FieldT Tryz.prog 25 1 1 22 := ⟨by kernel_rfl⟩
instance : FieldT Tryz.prog 25 2 2 23 := ⟨by kernel_rfl⟩
instance : FieldT Tryz.prog 25 3 3 24 := ⟨by kernel_rfl⟩
instance : StructT Tryz.prog 25 [(0, 1), (1, 1), (2, 1), (3, 1)] := ⟨by kernel_rfl⟩
instance : AggT Tryz.prog 26 4 := ⟨by kernel_rfl⟩
instance : ZeroT Tryz.prog 26 [.slice none 0 0, .slice none 0 0, .slice none 0 0, .slice none 0 0] := ⟨by kernel_rfl⟩
instance : PlainT Tryz.prog 26 := ⟨by kernel_rfl⟩
instance : FieldT Tryz.prog 26 0 0 22 := ⟨by kernel_rfl⟩
instance : FieldT Tryz.prog 26 1 1 22 := ⟨by kernel_rfl⟩
instance : FieldT Tryz.prog 26 2 2 23 := ⟨by kernel_rfl⟩
instance : FieldT Tryz.prog 26 3 3 24 := ⟨by kernel_rfl⟩
instance : StructT Tryz.prog 26 [(0, 1), (1, 1), (2, 1), (3, 1)] := ⟨by kernel_rfl⟩
instance : CellT Tryz.prog 27 := ⟨by kernel_rfl⟩
instance : ZeroT Tryz.prog 27 [.nilFunc] := ⟨by kernel_rfl⟩
instance : PlainT Tryz.prog 27 := ⟨by kernel_rfl⟩
instance : CellT Tryz.prog 28 := ⟨by kernel_rfl⟩
instance : ZeroT Tryz.prog 28 [.nilFunc] := ⟨by kernel_rfl⟩
instance : PlainT Tryz.prog 28 := ⟨by kernel_rfl⟩
instance : SliceT Tryz.prog 29 22 1 24 := ⟨by kernel_rfl⟩
instance : CellT Tryz.prog 29 := ⟨by kernel_rfl⟩
instance : ZeroT Tryz.prog 29 [.slice none 0 0] := ⟨by kernel_rfl⟩
instance : PlainT Tryz.prog 29 := ⟨by kernel_rfl⟩
instance : CellT Tryz.prog 30 := ⟨by kernel_rfl⟩
instance : ZeroT Tryz.prog 30 [.nilIface] := ⟨by kernel_rfl⟩
instance : IfaceT Tryz.prog 30 := ⟨by kernel_rfl⟩
instance : CellT Tryz.prog 31 := ⟨by kernel_rfl⟩
instance : ZeroT Tryz.prog 31 [.nilIface] := ⟨by kernel_rfl⟩
instance : IfaceT Tryz.prog 31 := ⟨by kernel_rfl⟩
instance : CellT Tryz.prog 33 := ⟨by kernel_rfl⟩
instance : ZeroT Tryz.prog 33 [.nilFunc] := ⟨by kernel_rfl⟩
instance : PlainT Tryz.prog 33 := ⟨by kernel_rfl⟩
instance : CellT Tryz.prog 34 := ⟨by kernel_rfl⟩
instance : ZeroT Tryz.prog 34 [.nilFunc] := ⟨by kernel_rfl⟩
instance : PlainT Tryz.prog 34 := ⟨by kernel_rfl⟩
instance : CellT Tryz.prog 35 := ⟨by kernel_rfl⟩
instance : ZeroT Tryz.prog 35 [.nilFunc] := ⟨by kernel_rfl⟩
instance : PlainT Tryz.prog 35 := ⟨by kernel_rfl⟩
instance : CellT Tryz.prog 36 := ⟨by kernel_rfl⟩
instance : ZeroT Tryz.prog 36 [.nilFunc] := ⟨by kernel_rfl⟩
instance : PlainT Tryz.prog 36 := ⟨by kernel_rfl⟩
instance : SliceT Tryz.prog 37 59 1 2 := ⟨by kernel_rfl⟩
instance : CellT Tryz.prog 37 := ⟨by kernel_rfl⟩
instance : ZeroT Tryz.prog 37 [.slice none 0 0] := ⟨by kernel_rfl⟩
instance : PlainT Tryz.prog 37 := ⟨by kernel_rfl⟩
instance : CellT Tryz.prog 39 := ⟨by kernel_rfl⟩
instance : ZeroT Tryz.prog 39 [.nilFunc] := ⟨by kernel_rfl⟩
instance : PlainT Tryz.prog 39 := ⟨by kernel_rfl⟩
instance : CellT Tryz.prog 40 := ⟨by kernel_rfl⟩
instance : ZeroT Tryz.prog 40 [.pointer none] := ⟨by kernel_rfl⟩
instance : MethT Tryz.prog 40 "Value" 20 true 92 := ⟨by kernel_rfl⟩
instance : PtrT Tryz.prog 40 := ⟨by kernel_rfl⟩
instance : PlainT Tryz.prog 40 := ⟨by kernel_rfl⟩
instance : CellT Tryz.prog 42 := ⟨by kernel_rfl⟩
instance : ZeroT Tryz.prog 42 [.nilFunc] := ⟨by kernel_rfl⟩
instance : PlainT Tryz.prog 42 := ⟨by kernel_rfl⟩
instance : CellT Tryz.prog 43 := ⟨by kernel_rfl⟩
instance : ZeroT Tryz.prog 43 [.nilFunc] := ⟨by kernel_rfl⟩
instance : PlainT Tryz.prog 43 := ⟨by kernel_rfl⟩
instance : CellT Tryz.prog 44 := ⟨by kernel_rfl⟩
instance : ZeroT Tryz.prog 44 [.nilFunc] := ⟨by kernel_rfl⟩
instance : PlainT Tryz.prog 44 := ⟨by kernel_rfl⟩
instance : CellT Tryz.prog 45 := ⟨by kernel_rfl⟩
instance : ZeroT Tryz.prog 45 [.nilFunc] := ⟨by kernel_rfl⟩
instance : PlainT Tryz.prog 45 := ⟨by kernel_rfl⟩
instance : CellT Tryz.prog 46 := ⟨by kernel_rfl⟩
instance : ZeroT Tryz.prog 46 [.nilFunc] := ⟨by kernel_rfl⟩
instance : PlainT Tryz.prog 46 := ⟨by kernel_rfl⟩
instance : CellT Tryz.prog 47 := ⟨by kernel_rfl⟩
instance : ZeroT Tryz.prog 47 [.nilFunc] := ⟨by kernel_rfl⟩
instance : PlainT Tryz.prog 47 := ⟨by kernel_rfl⟩
instance : CellT Tryz.prog 48 := ⟨by kernel_rfl⟩
instance : ZeroT Tryz.prog 48 [.nilFunc] := ⟨by kernel_rfl⟩
instance : PlainT Tryz.prog 48 := ⟨by kernel_rfl⟩
instance : CellT Tryz.prog 49 := ⟨by kernel_rfl⟩
instance : ZeroT Tryz.prog 49 [.nilFunc] := ⟨by kernel_rfl⟩
instance : PlainT Tryz.prog 49 := ⟨by kernel_rfl⟩
instance : CellT Tryz.prog 50 := ⟨by kernel_rfl⟩
instance : ZeroT Tryz.prog 50 [.nilFunc] := ⟨by kernel_rfl⟩
instance : PlainT Tryz.prog 50 := ⟨by kernel_rfl⟩
instance : CellT Tryz.prog 51 := ⟨by kernel_rfl⟩
instance : ZeroT Tryz.prog 51 [.nilFunc] := ⟨by kernel_rfl⟩
instance : PlainT Tryz.prog 51 := ⟨by kernel_rfl⟩
instance : SliceT Tryz.prog 52 55 3 24 := ⟨by kernel_rfl⟩
instance : CellT Tryz.prog 52 := ⟨by kernel_rfl⟩
instance : ZeroT Tryz.prog 52 [.slice none 0 0] := ⟨by kernel_rfl⟩
instance : PlainT Tryz.prog 52 := ⟨by kernel_rfl⟩
instance : CellT Tryz.prog 53 := ⟨by kernel_rfl⟩
instance : ZeroT Tryz.prog 53 [.nilFunc] := ⟨by kernel_rfl⟩
instance : PlainT Tryz.prog 53 := ⟨by kernel_rfl⟩
instance : AggT Tryz.prog 54 3 := ⟨by kernel_rfl⟩
instance : ZeroT Tryz.prog 54 [.int .i64 0, .int .i64 0, .int .i64 0] := ⟨by kernel_rfl⟩
instance : PlainT Tryz.prog 54 := ⟨by kernel_rfl⟩
instance : FieldT Tryz.prog 54 0 0 3 := ⟨by kernel_rfl⟩
instance : FieldT Tryz.prog 54 1 1 3 := ⟨by kernel_rfl⟩
instance : FieldT Tryz.prog 54 2 2 3 := ⟨by kernel_rfl⟩
instance : StructT Tryz.prog 54 [(0, 1), (1, 1), (2, 1)] := ⟨by kernel_rfl⟩
instance : AggT Tryz.prog 55 3 := ⟨by kernel_rfl⟩
instance : ZeroT Tryz.prog 55 [.int .i64 0, .int .i64 0, .int .i64 0] := ⟨by kernel_rfl⟩
instance : PlainT Tryz.prog 55 := ⟨by kernel_rfl⟩
instance : FieldT Tryz.prog 55 0 0 3 := ⟨by kernel_rfl⟩
instance : FieldT Tryz.prog 55 1 1 3 := ⟨by kernel_rfl⟩
instance : FieldT Tryz.prog 55 2 2 3 := ⟨by kernel_rfl⟩
instance : StructT Tryz.prog 55 [(0, 1), (1, 1), (2, 1)] := ⟨by kernel_rfl⟩
instance : SliceT Tryz.prog 56 117 3 40 := ⟨by kernel_rfl⟩
instance : CellT Tryz.prog 56 := ⟨by kernel_rfl⟩
instance : ZeroT Tryz.prog 56 [.slice none 0 0] := ⟨by kernel_rfl⟩
instance : PlainT Tryz.prog 56 := ⟨by kernel_rfl⟩
instance : AggT Tryz.prog 57 4 := ⟨by kernel_rfl⟩
instance : ZeroT Tryz.prog 57 [.string ByteArray.empty, .int .i64 0, .slice none 0 0, .slice none 0 0] := ⟨by kernel_rfl⟩
instance : PlainT Tryz.prog 57 := ⟨by kernel_rfl⟩
instance : FieldT Tryz.prog 57 0 0 9 := ⟨by kernel_rfl⟩
instance : FieldT Tryz.prog 57 1 1 3 := ⟨by kernel_rfl⟩
instance : FieldT Tryz.prog 57 2 2 23 := ⟨by kernel_rfl⟩
instance : FieldT Tryz.prog 57 3 3 56 := ⟨by kernel_rfl⟩
instance : StructT Tryz.prog 57 [(0, 1), (1, 1), (2, 1), (3, 1)] := ⟨by kernel_rfl⟩
instance : AggT Tryz.prog 58 4 := ⟨by kernel_rfl⟩
instance : ZeroT Tryz.prog 58 [.string ByteArray.empty, .int .i64 0, .slice none 0 0, .slice none 0 0] := ⟨by kernel_rfl⟩
instance : PlainT Tryz.prog 58 := ⟨by kernel_rfl⟩
instance : FieldT Tryz.prog 58 0 0 9 := ⟨by kernel_rfl⟩
instance : FieldT Tryz.prog 58 1 1 3 := ⟨by kernel_rfl⟩
instance : FieldT Tryz.prog 58 2 2 23 := ⟨by kernel_rfl⟩
instance : FieldT Tryz.prog 58 3 3 56 := ⟨by kernel_rfl⟩
instance : StructT Tryz.prog 58 [(0, 1), (1, 1), (2, 1), (3, 1)] := ⟨by kernel_rfl⟩
instance : CellT Tryz.prog 59 := ⟨by kernel_rfl⟩
instance : ZeroT Tryz.prog 59 [.int .u16 0] := ⟨by kernel_rfl⟩
instance : PlainT Tryz.prog 59 := ⟨by kernel_rfl⟩
instance : CellT Tryz.prog 60 := ⟨by kernel_rfl⟩
instance : ZeroT Tryz.prog 60 [.pointer none] := ⟨by kernel_rfl⟩
instance : MethT Tryz.prog 60 "Pattern" 152 true 107 := ⟨by kernel_rfl⟩
instance : MethT Tryz.prog 60 "Value" 26 true 107 := ⟨by kernel_rfl⟩
instance : PtrT Tryz.prog 60 := ⟨by kernel_rfl⟩
instance : PlainT Tryz.prog 60 := ⟨by kernel_rfl⟩
instance : CellT Tryz.prog 62 := ⟨by kernel_rfl⟩
instance : ZeroT Tryz.prog 62 [.nilFunc] := ⟨by kernel_rfl⟩
instance : PlainT Tryz.prog 62 := ⟨by kernel_rfl⟩
instance : CellT Tryz.prog 63 := ⟨by kernel_rfl⟩
instance : ZeroT Tryz.prog 63 [.nilFunc] := ⟨by kernel_rfl⟩
instance : PlainT Tryz.prog 63 := ⟨by kernel_rfl⟩
instance : CellT Tryz.prog 65 := ⟨by kernel_rfl⟩
instance : ZeroT Tryz.prog 65 [.nilFunc] := ⟨by kernel_rfl⟩
instance : PlainT Tryz.prog 65 := ⟨by kernel_rfl⟩
instance : CellT Tryz.prog 66 := ⟨by kernel_rfl⟩
instance : ZeroT Tryz.prog 66 [.nilFunc] := ⟨by kernel_rfl⟩
instance : PlainT Tryz.prog 66 := ⟨by kernel_rfl⟩
instance : CellT Tryz.prog 67 := ⟨by kernel_rfl⟩
instance : ZeroT Tryz.prog 67 [.nilFunc] := ⟨by kernel_rfl⟩
instance : PlainT Tryz.prog 67 := ⟨by kernel_rfl⟩
instance : CellT Tryz.prog 68 := ⟨by kernel_rfl⟩
instance : ZeroT Tryz.prog 68 [.nilFunc] := ⟨by kernel_rfl⟩
instance : PlainT Tryz.prog 68 := ⟨by kernel_rfl⟩
instance : CellT Tryz.prog 69 := ⟨by kernel_rfl⟩
instance : ZeroT Tryz.prog 69 [.nilFunc] := ⟨by kernel_rfl⟩
instance : PlainT Tryz.prog 69 := ⟨by kernel_rfl⟩
instance : CellT Tryz.prog 70 := ⟨by kernel_rfl⟩
instance : ZeroT Tryz.prog 70 [.nilFunc] := ⟨by kernel_rfl⟩
instance : PlainT Tryz.prog 70 := ⟨by kernel_rfl⟩
instance : CellT Tryz.prog 71 := ⟨by kernel_rfl⟩
instance : ZeroT Tryz.prog 71 [.nilFunc] := ⟨by kernel_rfl⟩
instance : PlainT Tryz.prog 71 := ⟨by kernel_rfl⟩
instance : CellT Tryz.prog 72 := ⟨by kernel_rfl⟩
instance : ZeroT Tryz.prog 72 [.nilFunc] := ⟨by kernel_rfl⟩
instance : PlainT Tryz.prog 72 := ⟨by kernel_rfl⟩
instance : CellT Tryz.prog 73 := ⟨by kernel_rfl⟩
instance : ZeroT Tryz.prog 73 [.nilFunc] := ⟨by kernel_rfl⟩
instance : PlainT Tryz.prog 73 := ⟨by kernel_rfl⟩
instance : CellT Tryz.prog 74 := ⟨by kernel_rfl⟩
instance : ZeroT Tryz.prog 74 [.nilFunc] := ⟨by kernel_rfl⟩
instance : PlainT Tryz.prog 74 := ⟨by kernel_rfl⟩
instance : CellT Tryz.prog 75 := ⟨by kernel_rfl⟩
instance : ZeroT Tryz.prog 75 [.nilFunc] := ⟨by kernel_rfl⟩
instance : PlainT Tryz.prog 75 := ⟨by kernel_rfl⟩
instance : SliceT Tryz.prog 76 82 3 24 := ⟨by kernel_rfl⟩
instance : CellT Tryz.prog 76 := ⟨by kernel_rfl⟩
instance : ZeroT Tryz.prog 76 [.slice none 0 0] := ⟨by kernel_rfl⟩
instance : PlainT Tryz.prog 76 := ⟨by kernel_rfl⟩
instance : CellT Tryz.prog 78 := ⟨by kernel_rfl⟩
instance : ZeroT Tryz.prog 78 [.nilFunc] := ⟨by kernel_rfl⟩
instance : PlainT Tryz.prog 78 := ⟨by kernel_rfl⟩
instance : SliceT Tryz.prog 79 80 1 24 := ⟨by kernel_rfl⟩
instance : CellT Tryz.prog 79 := ⟨by kernel_rfl⟩
instance : ZeroT Tryz.prog 79 [.slice none 0 0] := ⟨by kernel_rfl⟩
instance : PlainT Tryz.prog 79 := ⟨by kernel_rfl⟩
instance : SliceT Tryz.prog 80 4 1 1 := ⟨by kernel_rfl⟩
instance : CellT Tryz.prog 80 := ⟨by kernel_rfl⟩
instance : ZeroT Tryz.prog 80 [.slice none 0 0] := ⟨by kernel_rfl⟩
instance : PlainT Tryz.prog 80 := ⟨by kernel_rfl⟩
instance : AggT Tryz.prog 81 3 := ⟨by kernel_rfl⟩
instance : ZeroT Tryz.prog 81 [.int .i64 0, .int .i64 0, .int .i64 0] := ⟨by kernel_rfl⟩
instance : PlainT Tryz.prog 81 := ⟨by kernel_rfl⟩
instance : FieldT Tryz.prog 81 0 0 3 := ⟨by kernel_rfl⟩
instance : FieldT Tryz.prog 81 1 1 3 := ⟨by kernel_rfl⟩
instance : FieldT Tryz.prog 81 2 2 3 := ⟨by kernel_rfl⟩
instance : StructT Tryz.prog 81 [(0, 1), (1, 1), (2, 1)] := ⟨by kernel_rfl⟩
instance : AggT Tryz.prog 82 3 := ⟨by kernel_rfl⟩
instance : ZeroT Tryz.prog 82 [.int .i64 0, .int .i64 0, .int .i64 0] := ⟨by kernel_rfl⟩
instance : PlainT Tryz.prog 82 := ⟨by kernel_rfl⟩
instance : FieldT Tryz.prog 82 0 0 3 := ⟨by kernel_rfl⟩
instance : FieldT Tryz.prog 82 1 1 3 := ⟨by kernel_rfl⟩
instance : FieldT Tryz.prog 82 2 2 3 := ⟨by kernel_rfl⟩
instance : StructT Tryz.prog 82 [(0, 1), (1, 1), (2, 1)] := ⟨by kernel_rfl⟩
instance : AggT Tryz.prog 83 2 := ⟨by kernel_rfl⟩
instance : ZeroT Tryz.prog 83 [.int .i64 0, .int .i64 0] := ⟨by kernel_rfl⟩
instance : PlainT Tryz.prog 83 := ⟨by kernel_rfl⟩
instance : FieldT Tryz.prog 83 0 0 3 := ⟨by kernel_rfl⟩
instance : FieldT Tryz.prog 83 1 1 3 := ⟨by kernel_rfl⟩
instance : StructT Tryz.prog 83 [(0, 1), (1, 1)] := ⟨by kernel_rfl⟩
instance : AggT Tryz.prog 84 2 := ⟨by kernel_rfl⟩
instance : ZeroT Tryz.prog 84 [.int .i64 0, .int .i64 0] := ⟨by kernel_rfl⟩
instance : PlainT Tryz.prog 84 := ⟨by kernel_rfl⟩
instance : FieldT Tryz.prog 84 0 0 3 := ⟨by kernel_rfl⟩
instance : FieldT Tryz.prog 84 1 1 3 := ⟨by kernel_rfl⟩
instance : StructT Tryz.prog 84 [(0, 1), (1, 1)] := ⟨by kernel_rfl⟩
instance : CellT Tryz.prog 85 := ⟨by kernel_rfl⟩
instance : ZeroT Tryz.prog 85 [.int .i64 0] := ⟨by kernel_rfl⟩
instance : PlainT Tryz.prog 85 := ⟨by kernel_rfl⟩
instance : CellT Tryz.prog 86 := ⟨by kernel_rfl⟩
instance : ZeroT Tryz.prog 86 [.nilFunc] := ⟨by kernel_rfl⟩
instance : PlainT Tryz.prog 86 := ⟨by kernel_rfl⟩
instance : CellT Tryz.prog 87 := ⟨by kernel_rfl⟩
instance : ZeroT Tryz.prog 87 [.nilFunc] := ⟨by kernel_rfl⟩
instance : PlainT Tryz.prog 87 := ⟨by kernel_rfl⟩
instance : CellT Tryz.prog 88 := ⟨by kernel_rfl⟩
instance : ZeroT Tryz.prog 88 [.nilFunc] := ⟨by kernel_rfl⟩
instance : PlainT Tryz.prog 88 := ⟨by kernel_rfl⟩
instance : CellT Tryz.prog 89 := ⟨by kernel_rfl⟩
instance : ZeroT Tryz.prog 89 [.nilFunc] := ⟨by kernel_rfl⟩
instance : PlainT Tryz.prog 89 := ⟨by kernel_rfl⟩
instance : SliceT Tryz.prog 90 60 1 8 := ⟨by kernel_rfl⟩
instance : CellT Tryz.prog 90 := ⟨by kernel_rfl⟩
instance : ZeroT Tryz.prog 90 [.slice none 0 0] := ⟨by kernel_rfl⟩
instance : PlainT Tryz.prog 90 := ⟨by kernel_rfl⟩
instance : AggT Tryz.prog 91 3 := ⟨by kernel_rfl⟩
instance : ZeroT Tryz.prog 91 [.slice none 0 0, .slice none 0 0, .slice none 0 0] := ⟨by kernel_rfl⟩
instance : PlainT Tryz.prog 91 := ⟨by kernel_rfl⟩
instance : FieldT Tryz.prog 91 0 0 22 := ⟨by kernel_rfl⟩
instance : FieldT Tryz.prog 91 1 1 90 := ⟨by kernel_rfl⟩
instance : FieldT Tryz.prog 91 2 2 29 := ⟨by kernel_rfl⟩
instance : StructT Tryz.prog 91 [(0, 1), (1, 1), (2, 1)] := ⟨by kernel_rfl⟩
instance : AggT Tryz.prog 92 3 := ⟨by kernel_rfl⟩
instance : ZeroT Tryz.prog 92 [.slice none 0 0, .slice none 0 0, .slice none 0 0] := ⟨by kernel_rfl⟩
instance : PlainT Tryz.prog 92 := ⟨by kernel_rfl⟩
instance : FieldT Tryz.prog 92 0 0 22 := ⟨by kernel_rfl⟩
instance : FieldT Tryz.prog 92 1 1 90 := ⟨by kernel_rfl⟩
instance : FieldT Tryz.prog 92 2 2 29 := ⟨by kernel_rfl⟩
instance : StructT Tryz.prog 92 [(0, 1), (1, 1), (2, 1)] := ⟨by kernel_rfl⟩
instance : CellT Tryz.prog 93 := ⟨by kernel_rfl⟩
instance : ZeroT Tryz.prog 93 [.nilFunc] := ⟨by kernel_rfl⟩
instance : PlainT Tryz.prog 93 := ⟨by kernel_rfl⟩
instance : SliceT Tryz.prog 94 122 3 24 := ⟨by kernel_rfl⟩
instance : CellT Tryz.prog 94 := ⟨by kernel_rfl⟩
instance : ZeroT Tryz.prog 94 [.slice none 0 0] := ⟨by kernel_rfl⟩
instance : PlainT Tryz.prog 94 := ⟨by kernel_rfl⟩
instance : AggT Tryz.prog 95 5 := ⟨by kernel_rfl⟩
instance : ZeroT Tryz.prog 95 [.int .i64 0, .int .i64 0, .slice none 0 0, .slice none 0 0, .slice none 0 0] := ⟨by kernel_rfl⟩
instance : PlainT Tryz.prog 95 := ⟨by kernel_rfl⟩
instance : FieldT Tryz.prog 95 0 0 3 := ⟨by kernel_rfl⟩
instance : FieldT Tryz.prog 95 1 1 3 := ⟨by kernel_rfl⟩
instance : FieldT Tryz.prog 95 2 2 22 := ⟨by kernel_rfl⟩
instance : FieldT Tryz.prog 95 3 3 94 := ⟨by kernel_rfl⟩
instance : FieldT Tryz.prog 95 4 4 80 := ⟨by kernel_rfl⟩
instance : StructT Tryz.prog 95 [(0, 1), (1, 1), (2, 1), (3, 1), (4, 1)] := ⟨by kernel_rfl⟩
instance : AggT Tryz.prog 96 5 := ⟨by kernel_rfl⟩
instance : ZeroT Tryz.prog 96 [.int .i64 0, .int .i64 0, .slice none 0 0, .slice none 0 0, .slice none 0 0] := ⟨by kernel_rfl⟩
instance : PlainT Tryz.prog 96 := ⟨by kernel_rfl⟩
instance : FieldT Tryz.prog 96 0 0 3 := ⟨by kernel_rfl⟩
instance : FieldT Tryz.prog 96 1 1 3 := ⟨by kernel_rfl⟩
instance : FieldT Tryz.prog 96 2 2 22 := ⟨by kernel_rfl⟩
instance : FieldT Tryz.prog 96 3 3 94 := ⟨by kernel_rfl⟩
instance : FieldT Tryz.prog 96 4 4 80 := ⟨by kernel_rfl⟩
instance : StructT Tryz.prog 96 [(0, 1), (1, 1), (2, 1), (3, 1), (4, 1)] := ⟨by kernel_rfl⟩
instance : CellT Tryz.prog 97 := ⟨by kernel_rfl⟩
instance : ZeroT Tryz.prog 97 [.nilFunc] := ⟨by kernel_rfl⟩
instance : PlainT Tryz.prog 97 := ⟨by kernel_rfl⟩
instance : CellT Tryz.prog 98 := ⟨by kernel_rfl⟩
instance : ZeroT Tryz.prog 98 [.nilFunc] := ⟨by kernel_rfl⟩
instance : PlainT Tryz.prog 98 := ⟨by kernel_rfl⟩
instance : CellT Tryz.prog 100 := ⟨by kernel_rfl⟩
instance : ZeroT Tryz.prog 100 [.nilFunc] := ⟨by kernel_rfl⟩
instance : PlainT Tryz.prog 100 := ⟨by kernel_rfl⟩
instance : CellT Tryz.prog 101 := ⟨by kernel_rfl⟩
instance : ZeroT Tryz.prog 101 [.nilFunc] := ⟨by kernel_rfl⟩
instance : PlainT Tryz.prog 101 := ⟨by kernel_rfl⟩
instance : CellT Tryz.prog 102 := ⟨by kernel_rfl⟩
instance : ZeroT Tryz.prog 102 [.nilFunc] := ⟨by kernel_rfl⟩
instance : PlainT Tryz.prog 102 := ⟨by kernel_rfl⟩
instance : CellT Tryz.prog 103 := ⟨by kernel_rfl⟩
instance : ZeroT Tryz.prog 103 [.nilFunc] := ⟨by kernel_rfl⟩
instance : PlainT Tryz.prog 103 := ⟨by kernel_rfl⟩
instance : CellT Tryz.prog 105 := ⟨by kernel_rfl⟩
instance : ZeroT Tryz.prog 105 [.nilFunc] := ⟨by kernel_rfl⟩
instance : PlainT Tryz.prog 105 := ⟨by kernel_rfl⟩
instance : AggT Tryz.prog 106 8 := ⟨by kernel_rfl⟩
instance : ZeroT Tryz.prog 106 [.slice none 0 0, .slice none 0 0, .int .i64 0, .int .i64 0, .slice none 0 0, .slice none 0 0, .slice none 0 0, .slice none 0 0] := ⟨by kernel_rfl⟩
instance : PlainT Tryz.prog 106 := ⟨by kernel_rfl⟩
instance : FieldT Tryz.prog 106 0 0 22 := ⟨by kernel_rfl⟩
instance : FieldT Tryz.prog 106 1 1 22 := ⟨by kernel_rfl⟩
instance : FieldT Tryz.prog 106 2 2 96 := ⟨by kernel_rfl⟩
instance : FieldT Tryz.prog 106 3 7 22 := ⟨by kernel_rfl⟩
instance : StructT Tryz.prog 106 [(0, 1), (1, 1), (2, 5), (7, 1)] := ⟨by kernel_rfl⟩
instance : AggT Tryz.prog 107 8 := ⟨by kernel_rfl⟩
instance : ZeroT Tryz.prog 107 [.slice none 0 0, .slice none 0 0, .int .i64 0, .int .i64 0, .slice none 0 0, .slice none 0 0, .slice none 0 0, .slice none 0 0] := ⟨by kernel_rfl⟩
instance : PlainT Tryz.prog 107 := ⟨by kernel_rfl⟩
instance : FieldT Tryz.prog 107 0 0 22 := ⟨by kernel_rfl⟩
instance : FieldT Tryz.prog 107 1 1 22 := ⟨by kernel_rfl⟩
instance : FieldT Tryz.prog 107 2 2 96 := ⟨by kernel_rfl⟩
instance : FieldT Tryz.prog 107 3 7 22 := ⟨by kernel_rfl⟩
instance : StructT Tryz.prog 107 [(0, 1), (1, 1), (2, 5), (7, 1)] := ⟨by kernel_rfl⟩
instance : CellT Tryz.prog 108 := ⟨by kernel_rfl⟩
instance : ZeroT Tryz.prog 108 [.nilFunc] := ⟨by kernel_rfl⟩
instance : PlainT Tryz.prog 108 := ⟨by kernel_rfl⟩
instance : CellT Tryz.prog 109 := ⟨by kernel_rfl⟩
instance : ZeroT Tryz.prog 109 [.nilFunc] := ⟨by kernel_rfl⟩
instance : PlainT Tryz.prog 109 := ⟨by kernel_rfl⟩
instance : CellT Tryz.prog 110 := ⟨by kernel_rfl⟩
instance : ZeroT Tryz.prog 110 [.nilFunc] := ⟨by kernel_rfl⟩
instance : PlainT Tryz.prog 110 := ⟨by kernel_rfl⟩
instance : CellT Tryz.prog 111 := ⟨by kernel_rfl⟩
instance : ZeroT Tryz.prog 111 [.nilFunc] := ⟨by kernel_rfl⟩
instance : PlainT Tryz.prog 111 := ⟨by kernel_rfl⟩
instance : CellT Tryz.prog 112 := ⟨by kernel_rfl⟩
instance : ZeroT Tryz.prog 112 [.nilFunc] := ⟨by kernel_rfl⟩
instance : PlainT Tryz.prog 112 := ⟨by kernel_rfl⟩
instance : SliceT Tryz.prog 114 23 1 24 := ⟨by kernel_rfl⟩
instance : CellT Tryz.prog 114 := ⟨by kernel_rfl⟩
instance : ZeroT Tryz.prog 114 [.slice none 0 0] := ⟨by kernel_rfl⟩
instance : PlainT Tryz.prog 114 := ⟨by kernel_rfl⟩
instance : CellT Tryz.prog 115 := ⟨by kernel_rfl⟩
instance : ZeroT Tryz.prog 115 [.nilFunc] := ⟨by kernel_rfl⟩
instance : PlainT Tryz.prog 115 := ⟨by kernel_rfl⟩
instance : AggT Tryz.prog 116 3 := ⟨by kernel_rfl⟩
instance : ZeroT Tryz.prog 116 [.slice none 0 0, .int .i64 0, .int .i64 0] := ⟨by kernel_rfl⟩
instance : PlainT Tryz.prog 116 := ⟨by kernel_rfl⟩
instance : FieldT Tryz.prog 116 0 0 23 := ⟨by kernel_rfl⟩
instance : FieldT Tryz.prog 116 1 1 3 := ⟨by kernel_rfl⟩
instance : FieldT Tryz.prog 116 2 2 3 := ⟨by kernel_rfl⟩
instance : StructT Tryz.prog 116 [(0, 1), (1, 1), (2, 1)] := ⟨by kernel_rfl⟩
instance : AggT Tryz.prog 117 3 := ⟨by kernel_rfl⟩
instance : ZeroT Tryz.prog 117 [.slice none 0 0, .int .i64 0, .int .i64 0] := ⟨by kernel_rfl⟩
instance : PlainT Tryz.prog 117 := ⟨by kernel_rfl⟩
instance : FieldT Tryz.prog 117 0 0 23 := ⟨by kernel_rfl⟩
instance : FieldT Tryz.prog 117 1 1 3 := ⟨by kernel_rfl⟩
instance : FieldT Tryz.prog 117 2 2 3 := ⟨by kernel_rfl⟩
instance : StructT Tryz.prog 117 [(0, 1), (1, 1), (2, 1)] := ⟨by kernel_rfl⟩
instance : CellT Tryz.prog 118 := ⟨by kernel_rfl⟩
instance : ZeroT Tryz.prog 118 [.nilFunc] := ⟨by kernel_rfl⟩
instance : PlainT Tryz.prog 118 := ⟨by kernel_rfl⟩
instance : CellT Tryz.prog 119 := ⟨by kernel_rfl⟩
instance : ZeroT Tryz.prog 119 [.nilFunc] := ⟨by kernel_rfl⟩
instance : PlainT Tryz.prog 119 := ⟨by kernel_rfl⟩
instance : CellT Tryz.prog 120 := ⟨by kernel_rfl⟩
instance : ZeroT Tryz.prog 120 [.nilFunc] := ⟨by kernel_rfl⟩
instance : PlainT Tryz.prog 120 := ⟨by kernel_rfl⟩
instance : AggT Tryz.prog 121 3 := ⟨by kernel_rfl⟩
instance : ZeroT Tryz.prog 121 [.int .i64 0, .int .i64 0, .int .i64 0] := ⟨by kernel_rfl⟩
instance : PlainT Tryz.prog 121 := ⟨by kernel_rfl⟩
instance : FieldT Tryz.prog 121 0 0 3 := ⟨by kernel_rfl⟩
instance : FieldT Tryz.prog 121 1 1 3 := ⟨by kernel_rfl⟩
instance : FieldT Tryz.prog 121 2 2 3 := ⟨by kernel_rfl⟩
instance : StructT Tryz.prog 121 [(0, 1), (1, 1), (2, 1)] := ⟨by kernel_rfl⟩
instance : AggT Tryz.prog 122 3 := ⟨by kernel_rfl⟩
instance : ZeroT Tryz.prog 122 [.int .i64 0, .int .i64 0, .int .i64 0] := ⟨by kernel_rfl⟩
instance : PlainT Tryz.prog 122 := ⟨by kernel_rfl⟩
instance : FieldT Tryz.prog 122 0 0 3 := ⟨by kernel_rfl⟩
instance : FieldT Tryz.prog 122 1 1 3 := ⟨by kernel_rfl⟩
instance : FieldT Tryz.prog 122 2 2 3 := ⟨by kernel_rfl⟩
instance : StructT Tryz.prog 122 [(0, 1), (1, 1), (2, 1)] := ⟨by kernel_rfl⟩
instance : CellT Tryz.prog 123 := ⟨by kernel_rfl⟩
instance : ZeroT Tryz.prog 123 [.nilFunc] := ⟨by kernel_rfl⟩
instance : PlainT Tryz.prog 123 := ⟨by kernel_rfl⟩
instance : CellT Tryz.prog 124 := ⟨by kernel_rfl⟩
instance : ZeroT Tryz.prog 124 [.nilFunc] := ⟨by kernel_rfl⟩
instance : PlainT Tryz.prog 124 := ⟨by kernel_rfl⟩
instance : CellT Tryz.prog 125 := ⟨by kernel_rfl⟩
instance : ZeroT Tryz.prog 125 [.nilFunc] := ⟨by kernel_rfl⟩
instance : PlainT Tryz.prog 125 := ⟨by kernel_rfl⟩
instance : CellT Tryz.prog 127 := ⟨by kernel_rfl⟩
instance : ZeroT Tryz.prog 127 [.nilFunc] := ⟨by kernel_rfl⟩
instance : PlainT Tryz.prog 127 := ⟨by kernel_rfl⟩
instance : CellT Tryz.prog 128 := ⟨by kernel_rfl⟩
instance : ZeroT Tryz.prog 128 [.nilFunc] := ⟨by kernel_rfl⟩
instance : PlainT Tryz.prog 128 := ⟨by kernel_rfl⟩
instance : CellT Tryz.prog 129 := ⟨by kernel_rfl⟩
instance : ZeroT Tryz.prog 129 [.nilFunc] := ⟨by kernel_rfl⟩
instance : PlainT Tryz.prog 129 := ⟨by kernel_rfl⟩
instance : CellT Tryz.prog 130 := ⟨by kernel_rfl⟩
instance : ZeroT Tryz.prog 130 [.nilFunc] := ⟨by kernel_rfl⟩
instance : PlainT Tryz.prog 130 := ⟨by kernel_rfl⟩
instance : CellT Tryz.prog 131 := ⟨by kernel_rfl⟩
instance : ZeroT Tryz.prog 131 [.nilFunc] := ⟨by kernel_rfl⟩
instance : PlainT Tryz.prog 131 := ⟨by kernel_rfl⟩
instance : SliceT Tryz.prog 132 94 1 24 := ⟨by kernel_rfl⟩
instance : CellT Tryz.prog 132 := ⟨by kernel_rfl⟩
instance : ZeroT Tryz.prog 132 [.slice none 0 0] := ⟨by kernel_rfl⟩
instance : PlainT Tryz.prog 132 := ⟨by kernel_rfl⟩
instance : CellT Tryz.prog 133 := ⟨by kernel_rfl⟩
instance : ZeroT Tryz.prog 133 [.pointer none] := ⟨by kernel_rfl⟩
instance : MethT Tryz.prog 133 "Len" 78 false 135 := ⟨by kernel_rfl⟩
instance : MethT Tryz.prog 133 "Less" 154 false 135 := ⟨by kernel_rfl⟩
instance : MethT Tryz.prog 133 "Pop" 155 true 135 := ⟨by kernel_rfl⟩
instance : MethT Tryz.prog 133 "Push" 156 true 135 := ⟨by kernel_rfl⟩
instance : MethT Tryz.prog 133 "Swap" 157 false 135 := ⟨by kernel_rfl⟩
instance : PtrT Tryz.prog 133 := ⟨by kernel_rfl⟩
instance : PlainT Tryz.prog 133 := ⟨by kernel_rfl⟩
instance : SliceT Tryz.prog 134 138 2 16 := ⟨by kernel_rfl⟩
instance : CellT Tryz.prog 134 := ⟨by kernel_rfl⟩
instance : ZeroT Tryz.prog 134 [.slice none 0 0] := ⟨by kernel_rfl⟩
instance : PlainT Tryz.prog 134 := ⟨by kernel_rfl⟩
instance : SliceT Tryz.prog 135 138 2 16 := ⟨by kernel_rfl⟩
instance : CellT Tryz.prog 135 := ⟨by kernel_rfl⟩
instance : ZeroT Tryz.prog 135 [.slice none 0 0] := ⟨by kernel_rfl⟩
instance : PlainT Tryz.prog 135 := ⟨by kernel_rfl⟩
instance : CellT Tryz.prog 136 := ⟨by kernel_rfl⟩
instance : ZeroT Tryz.prog 136 [.nilFunc] := ⟨by kernel_rfl⟩
instance : PlainT Tryz.prog 136 := ⟨by kernel_rfl⟩
instance : AggT Tryz.prog 137 2 := ⟨by kernel_rfl⟩
instance : ZeroT Tryz.prog 137 [.int .i64 0, .int .i64 0] := ⟨by kernel_rfl⟩
instance : PlainT Tryz.prog 137 := ⟨by kernel_rfl⟩
instance : FieldT Tryz.prog 137 0 0 3 := ⟨by kernel_rfl⟩
instance : FieldT Tryz.prog 137 1 1 3 := ⟨by kernel_rfl⟩
instance : StructT Tryz.prog 137 [(0, 1), (1, 1)] := ⟨by kernel_rfl⟩
instance : AggT Tryz.prog 138 2 := ⟨by kernel_rfl⟩
instance : ZeroT Tryz.prog 138 [.int .i64 0, .int .i64 0] := ⟨by kernel_rfl⟩
instance : PlainT Tryz.prog 138 := ⟨by kernel_rfl⟩
instance : FieldT Tryz.prog 138 0 0 3 := ⟨by kernel_rfl⟩
instance : FieldT Tryz.prog 138 1 1 3 := ⟨by kernel_rfl⟩
instance : StructT Tryz.prog 138 [(0, 1), (1, 1)] := ⟨by kernel_rfl⟩
instance : CellT Tryz.prog 139 := ⟨by kernel_rfl⟩
instance : ZeroT Tryz.prog 139 [.nilFunc] := ⟨by kernel_rfl⟩
instance : PlainT Tryz.prog 139 := ⟨by kernel_rfl⟩
instance : CellT Tryz.prog 141 := ⟨by kernel_rfl⟩
instance : ZeroT Tryz.prog 141 [.nilFunc] := ⟨by kernel_rfl⟩
instance : PlainT Tryz.prog 141 := ⟨by kernel_rfl⟩
instance : CellT Tryz.prog 142 := ⟨by kernel_rfl⟩
instance : ZeroT Tryz.prog 142 [.nilFunc] := ⟨by kernel_rfl⟩
instance : PlainT Tryz.prog 142 := ⟨by kernel_rfl⟩
instance : CellT Tryz.prog 143 := ⟨by kernel_rfl⟩
instance : ZeroT Tryz.prog 143 [.pointer none] := ⟨by kernel_rfl⟩
instance : MethT Tryz.prog 143 "stratagem/graph.find" 81 true 146 := ⟨by kernel_rfl⟩
instance : PtrT Tryz.prog 143 := ⟨by kernel_rfl⟩
instance : PlainT Tryz.prog 143 := ⟨by kernel_rfl⟩
instance : SliceT Tryz.prog 144 147 1 8 := ⟨by kernel_rfl⟩
instance : CellT Tryz.prog 144 := ⟨by kernel_rfl⟩
instance : ZeroT Tryz.prog 144 [.slice none 0 0] := ⟨by kernel_rfl⟩
instance : PlainT Tryz.prog 144 := ⟨by kernel_rfl⟩
instance : AggT Tryz.prog 145 2 := ⟨by kernel_rfl⟩
instance : ZeroT Tryz.prog 145 [.slice none 0 0, .slice none 0 0] := ⟨by kernel_rfl⟩
instance : PlainT Tryz.prog 145 := ⟨by kernel_rfl⟩
instance : FieldT Tryz.prog 145 0 0 144 := ⟨by kernel_rfl⟩
instance : FieldT Tryz.prog 145 1 1 29 := ⟨by kernel_rfl⟩
instance : StructT Tryz.prog 145 [(0, 1), (1, 1)] := ⟨by kernel_rfl⟩
instance : AggT Tryz.prog 146 2 := ⟨by kernel_rfl⟩
instance : ZeroT Tryz.prog 146 [.slice none 0 0, .slice none 0 0] := ⟨by kernel_rfl⟩
instance : PlainT Tryz.prog 146 := ⟨by kernel_rfl⟩
instance : FieldT Tryz.prog 146 0 0 144 := ⟨by kernel_rfl⟩
instance : FieldT Tryz.prog 146 1 1 29 := ⟨by kernel_rfl⟩
instance : StructT Tryz.prog 146 [(0, 1), (1, 1)] := ⟨by kernel_rfl⟩
instance : CellT Tryz.prog 147 := ⟨by kernel_rfl⟩
instance : ZeroT Tryz.prog 147 [.int .u64 0] := ⟨by kernel_rfl⟩
instance : PlainT Tryz.prog 147 := ⟨by kernel_rfl⟩
instance : CellT Tryz.prog 148 := ⟨by kernel_rfl⟩
instance : ZeroT Tryz.prog 148 [.nilFunc] := ⟨by kernel_rfl⟩
instance : PlainT Tryz.prog 148 := ⟨by kernel_rfl⟩
instance : CellT Tryz.prog 149 := ⟨by kernel_rfl⟩
instance : ZeroT Tryz.prog 149 [.nilFunc] := ⟨by kernel_rfl⟩
instance : PlainT Tryz.prog 149 := ⟨by kernel_rfl⟩
instance : CellT Tryz.prog 150 := ⟨by kernel_rfl⟩
instance : ZeroT Tryz.prog 150 [.nilFunc] := ⟨by kernel_rfl⟩
instance : PlainT Tryz.prog 150 := ⟨by kernel_rfl⟩
instance : CellT Tryz.prog 151 := ⟨by kernel_rfl⟩
instance : ZeroT Tryz.prog 151 [.nilFunc] := ⟨by kernel_rfl⟩
instance : PlainT Tryz.prog 151 := ⟨by kernel_rfl⟩
instance : CellT Tryz.prog 152 := ⟨by kernel_rfl⟩
instance : ZeroT Tryz.prog 152 [.nilFunc] := ⟨by kernel_rfl⟩
instance : PlainT Tryz.prog 152 := ⟨by kernel_rfl⟩
instance : CellT Tryz.prog 153 := ⟨by kernel_rfl⟩
instance : ZeroT Tryz.prog 153 [.nilFunc] := ⟨by kernel_rfl⟩
instance : PlainT Tryz.prog 153 := ⟨by kernel_rfl⟩
instance : CellT Tryz.prog 154 := ⟨by kernel_rfl⟩
instance : ZeroT Tryz.prog 154 [.nilFunc] := ⟨by kernel_rfl⟩
instance : PlainT Tryz.prog 154 := ⟨by kernel_rfl⟩
instance : CellT Tryz.prog 155 := ⟨by kernel_rfl⟩
instance : ZeroT Tryz.prog 155 [.nilFunc] := ⟨by kernel_rfl⟩
instance : PlainT Tryz.prog 155 := ⟨by kernel_rfl⟩
instance : CellT Tryz.prog 156 := ⟨by kernel_rfl⟩
instance : ZeroT Tryz.prog 156 [.nilFunc] := ⟨by kernel_rfl⟩
instance : PlainT Tryz.prog 156 := ⟨by kernel_rfl⟩
instance : CellT Tryz.prog 157 := ⟨by kernel_rfl⟩
instance : ZeroT Tryz.prog 157 [.nilIface] := ⟨by kernel_rfl⟩
instance : IfaceT Tryz.prog 157 := ⟨by kernel_rfl⟩
instance : CellT Tryz.prog 158 := ⟨by kernel_rfl⟩
instance : ZeroT Tryz.prog 158 [.nilIface] := ⟨by kernel_rfl⟩
instance : IfaceT Tryz.prog 158 := ⟨by kernel_rfl⟩
instance : CellT Tryz.prog 159 := ⟨by kernel_rfl⟩
instance : ZeroT Tryz.prog 159 [.nilFunc] := ⟨by kernel_rfl⟩
instance : PlainT Tryz.prog 159 := ⟨by kernel_rfl⟩
instance : CellT Tryz.prog 160 := ⟨by kernel_rfl⟩
instance : ZeroT Tryz.prog 160 [.nilFunc] := ⟨by kernel_rfl⟩
instance : PlainT Tryz.prog 160 := ⟨by kernel_rfl⟩
instance : CellT Tryz.prog 161 := ⟨by kernel_rfl⟩
instance : ZeroT Tryz.prog 161 [.nilFunc] := ⟨by kernel_rfl⟩
instance : PlainT Tryz.prog 161 := ⟨by kernel_rfl⟩
instance : CellT Tryz.prog 162 := ⟨by kernel_rfl⟩
instance : ZeroT Tryz.prog 162 [.nilFunc] := ⟨by kernel_rfl⟩
instance : PlainT Tryz.prog 162 := ⟨by kernel_rfl⟩
instance : CellT Tryz.prog 163 := ⟨by kernel_rfl⟩
instance : ZeroT Tryz.prog 163 [.nilFunc] := ⟨by kernel_rfl⟩
instance : PlainT Tryz.prog 163 := ⟨by kernel_rfl⟩
instance : CellT Tryz.prog 164 := ⟨by kernel_rfl⟩
instance : ZeroT Tryz.prog 164 [.nilFunc] := ⟨by kernel_rfl⟩
instance : PlainT Tryz.prog 164 := ⟨by kernel_rfl⟩
instance : CellT Tryz.prog 165 := ⟨by kernel_rfl⟩
instance : ZeroT Tryz.prog 165 [.nilFunc] := ⟨by kernel_rfl⟩
instance : PlainT Tryz.prog 165 := ⟨by kernel_rfl⟩
instance : CellT Tryz.prog 166 := ⟨by kernel_rfl⟩
instance : ZeroT Tryz.prog 166 [.nilFunc] := ⟨by kernel_rfl⟩
instance : PlainT Tryz.prog 166 := ⟨by kernel_rfl⟩
instance : CellT Tryz.prog 167 := ⟨by kernel_rfl⟩
instance : ZeroT Tryz.prog 167 [.int .u64 0] := ⟨by kernel_rfl⟩
instance : PlainT Tryz.prog 167 := ⟨by kernel_rfl⟩
instance : CellT Tryz.prog 168 := ⟨by kernel_rfl⟩
instance : ZeroT Tryz.prog 168 [.nilFunc] := ⟨by kernel_rfl⟩
instance : PlainT Tryz.prog 168 := ⟨by kernel_rfl⟩
instance : CellT Tryz.prog 169 := ⟨by kernel_rfl⟩
instance : ZeroT Tryz.prog 169 [.nilFunc] := ⟨by kernel_rfl⟩
instance : PlainT Tryz.prog 169 := ⟨by kernel_rfl⟩
instance : CellT Tryz.prog 170 := ⟨by kernel_rfl⟩
instance : ZeroT Tryz.prog 170 [.nilFunc] := ⟨by kernel_rfl⟩
instance : PlainT Tryz.prog 170 := ⟨by kernel_rfl⟩
instance : CellT Tryz.prog 171 := ⟨by kernel_rfl⟩
instance : ZeroT Tryz.prog 171 [.nilFunc] := ⟨by kernel_rfl⟩
instance : PlainT Tryz.prog 171 := ⟨by kernel_rfl⟩
instance : CellT Tryz.prog 172 := ⟨by kernel_rfl⟩
instance : ZeroT Tryz.prog 172 [.nilFunc] := ⟨by kernel_rfl⟩
instance : PlainT Tryz.prog 172 := ⟨by kernel_rfl⟩
instance : CellT Tryz.prog 173 := ⟨by kernel_rfl⟩
instance : ZeroT Tryz.prog 173 [.nilFunc] := ⟨by kernel_rfl⟩
instance : PlainT Tryz.prog 173 := ⟨by kernel_rfl⟩
instance : AggT Tryz.prog 174 64 := ⟨by kernel_rfl⟩
instance : ZeroT Tryz.prog 174 [.int .u8 0, .int .u8 0, .int .u8 0, .int .u8 0, .int .u8 0, .int .u8 0, .int .u8 0, .int .u8 0, .int .u8 0, .int .u8 0, .int .u8 0, .int .u8 0, .int .u8 0, .int .u8 0, .int .u8 0, .int .u8 0, .int .u8 0, .int .u8 0, .int .u8 0, .int .u8 0, .int .u8 0, .int .u8 0, .int .u8 0, .int .u8 0, .int .u8 0, .int .u8 0, .int .u8 0, .int .u8 0, .int .u8 0, .int .u8 0, .int .u8 0, .int .u8 0, .int .u8 0, .int .u8 0, .int .u8 0, .int .u8 0, .int .u8 0, .int .u8 0, .int .u8 0, .int .u8 0, .int .u8 0, .int .u8 0, .int .u8 0, .int .u8 0, .int .u8 0, .int .u8 0, .int .u8 0, .int .u8 0, .int .u8 0, .int .u8 0, .int .u8 0, .int .u8 0, .int .u8 0, .int .u8 0, .int .u8 0, .int .u8 0, .int .u8 0, .int .u8 0, .int .u8 0, .int .u8 0, .int .u8 0, .int .u8 0, .int .u8 0, .int .u8 0] := ⟨by kernel_rfl⟩
instance : PlainT Tryz.prog 174 := ⟨by kernel_rfl⟩
instance : CellT Tryz.prog 175 := ⟨by kernel_rfl⟩
instance : ZeroT Tryz.prog 175 [.nilFunc] := ⟨by kernel_rfl⟩
instance : PlainT Tryz.prog 175 := ⟨by kernel_rfl⟩
instance : CellT Tryz.prog 176 := ⟨by kernel_rfl⟩
instance : ZeroT Tryz.prog 176 [.int .i64 0] := ⟨by kernel_rfl⟩
instance : PlainT Tryz.prog 176 := ⟨by kernel_rfl⟩
instance : CellT Tryz.prog 178 := ⟨by kernel_rfl⟩
instance : ZeroT Tryz.prog 178 [.nilFunc] := ⟨by kernel_rfl⟩
instance : PlainT Tryz.prog 178 := ⟨by kernel_rfl⟩
instance : CellT Tryz.prog 179 := ⟨by kernel_rfl⟩
instance : ZeroT Tryz.prog 179 [.nilFunc] := ⟨by kernel_rfl⟩
instance : PlainT Tryz.prog 179 := ⟨by kernel_rfl⟩
instance : CellT Tryz.prog 180 := ⟨by kernel_rfl⟩
instance : ZeroT Tryz.prog 180 [.nilFunc] := ⟨by kernel_rfl⟩
instance : PlainT Tryz.prog 180 := ⟨by kernel_rfl⟩
instance : CellT Tryz.prog 181 := ⟨by kernel_rfl⟩
instance : ZeroT Tryz.prog 181 [.nilFunc] := ⟨by kernel_rfl⟩
instance : PlainT Tryz.prog 181 := ⟨by kernel_rfl⟩
instance : CellT Tryz.prog 182 := ⟨by kernel_rfl⟩
instance : ZeroT Tryz.prog 182 [.nilFunc] := ⟨by kernel_rfl⟩
instance : PlainT Tryz.prog 182 := ⟨by kernel_rfl⟩
instance : CellT Tryz.prog 183 := ⟨by kernel_rfl⟩
instance : ZeroT Tryz.prog 183 [.int .u32 0] := ⟨by kernel_rfl⟩
instance : PlainT Tryz.prog 183 := ⟨by kernel_rfl⟩
instance : CellT Tryz.prog 184 := ⟨by kernel_rfl⟩
instance : ZeroT Tryz.prog 184 [.nilFunc] := ⟨by kernel_rfl⟩
instance : PlainT Tryz.prog 184 := ⟨by kernel_rfl⟩
instance : CellT Tryz.prog 185 := ⟨by kernel_rfl⟩
instance : ZeroT Tryz.prog 185 [.nilFunc] := ⟨by kernel_rfl⟩
instance : PlainT Tryz.prog 185 := ⟨by kernel_rfl⟩
instance : CellT Tryz.prog 186 := ⟨by kernel_rfl⟩
instance : ZeroT Tryz.prog 186 [.nilFunc] := ⟨by kernel_rfl⟩
instance : PlainT Tryz.prog 186 := ⟨by kernel_rfl⟩
instance : CellT Tryz.prog 187 := ⟨by kernel_rfl⟩
instance : ZeroT Tryz.prog 187 [.nilFunc] := ⟨by kernel_rfl⟩
instance : PlainT Tryz.prog 187 := ⟨by kernel_rfl⟩
instance : CellT Tryz.prog 188 := ⟨by kernel_rfl⟩
instance : ZeroT Tryz.prog 188 [.nilFunc] := ⟨by kernel_rfl⟩
instance : PlainT Tryz.prog 188 := ⟨by kernel_rfl⟩
instance : CellT Tryz.prog 189 := ⟨by kernel_rfl⟩
instance : ZeroT Tryz.prog 189 [.nilFunc] := ⟨by kernel_rfl⟩
instance : PlainT Tryz.prog 189 := ⟨by kernel_rfl⟩
instance : CellT Tryz.prog 190 := ⟨by kernel_rfl⟩
instance : ZeroT Tryz.prog 190 [.int .u64 0] := ⟨by kernel_rfl⟩
instance : PlainT Tryz.prog 190 := ⟨by kernel_rfl⟩
instance : CellT Tryz.prog 191 := ⟨by kernel_rfl⟩
instance : ZeroT Tryz.prog 191 [.nilFunc] := ⟨by kernel_rfl⟩
instance : PlainT Tryz.prog 191 := ⟨by kernel_rfl⟩
instance : CellT Tryz.prog 192 := ⟨by kernel_rfl⟩
instance : ZeroT Tryz.prog 192 [.nilFunc] := ⟨by kernel_rfl⟩
instance : PlainT Tryz.prog 192 := ⟨by kernel_rfl⟩
instance : CellT Tryz.prog 193 := ⟨by kernel_rfl⟩
instance : ZeroT Tryz.prog 193 [.nilFunc] := ⟨by kernel_rfl⟩
instance : PlainT Tryz.prog 193 := ⟨by kernel_rfl⟩
instance : CellT Tryz.prog 194 := ⟨by kernel_rfl⟩
instance : ZeroT Tryz.prog 194 [.pointer none] := ⟨by kernel_rfl⟩
instance : PtrT Tryz.prog 194 := ⟨by kernel_rfl⟩
instance : PlainT Tryz.prog 194 := ⟨by kernel_rfl⟩
instance : CellT Tryz.prog 195 := ⟨by kernel_rfl⟩
instance : ZeroT Tryz.prog 195 [.nilFunc] := ⟨by kernel_rfl⟩
instance : PlainT Tryz.prog 195 := ⟨by kernel_rfl⟩
instance : CellT Tryz.prog 196 := ⟨by kernel_rfl⟩
instance : ZeroT Tryz.prog 196 [.nilFunc] := ⟨by kernel_rfl⟩
instance : PlainT Tryz.prog 196 := ⟨by kernel_rfl⟩
instance : CellT Tryz.prog 197 := ⟨by kernel_rfl⟩
instance : ZeroT Tryz.prog 197 [.nilFunc] := ⟨by kernel_rfl⟩
instance : PlainT Tryz.prog 197 := ⟨by kernel_rfl⟩
instance : CellT Tryz.prog 198 := ⟨by kernel_rfl⟩
instance : ZeroT Tryz.prog 198 [.pointer none] := ⟨by kernel_rfl⟩
instance : MethT Tryz.prog 198 "Next" 128 true 190 := ⟨by kernel_rfl⟩
instance : PtrT Tryz.prog 198 := ⟨by kernel_rfl⟩
instance : PlainT Tryz.prog 198 := ⟨by kernel_rfl⟩
instance : CellT Tryz.prog 200 := ⟨by kernel_rfl⟩
instance : ZeroT Tryz.prog 200 [.nilFunc] := ⟨by kernel_rfl⟩
instance : PlainT Tryz.prog 200 := ⟨by kernel_rfl⟩
instance : CellT Tryz.prog 201 := ⟨by kernel_rfl⟩
instance : ZeroT Tryz.prog 201 [.nilFunc] := ⟨by kernel_rfl⟩
instance : PlainT Tryz.prog 201 := ⟨by kernel_rfl⟩
instance : CellT Tryz.prog 202 := ⟨by kernel_rfl⟩
instance : ZeroT Tryz.prog 202 [.nilFunc] := ⟨by kernel_rfl⟩
instance : PlainT Tryz.prog 202 := ⟨by kernel_rfl⟩
instance : AggT Tryz.prog 203 4 := ⟨by kernel_rfl⟩
instance : ZeroT Tryz.prog 203 [.pointer none, .pointer none, .pointer none, .string ByteArray.empty] := ⟨by kernel_rfl⟩
instance : PlainT Tryz.prog 203 := ⟨by kernel_rfl⟩
instance : FieldT Tryz.prog 203 0 0 17 := ⟨by kernel_rfl⟩
instance : FieldT Tryz.prog 203 1 1 17 := ⟨by kernel_rfl⟩
instance : FieldT Tryz.prog 203 2 2 17 := ⟨by kernel_rfl⟩
instance : FieldT Tryz.prog 203 3 3 9 := ⟨by kernel_rfl⟩
instance : StructT Tryz.prog 203 [(0, 1), (1, 1), (2, 1), (3, 1)] := ⟨by kernel_rfl⟩
instance : AggT Tryz.prog 204 4 := ⟨by kernel_rfl⟩
instance : ZeroT Tryz.prog 204 [.pointer none, .pointer none, .pointer none, .string ByteArray.empty] := ⟨by kernel_rfl⟩
instance : PlainT Tryz.prog 204 := ⟨by kernel_rfl⟩
instance : FieldT Tryz.prog 204 0 0 17 := ⟨by kernel_rfl⟩
instance : FieldT Tryz.prog 204 1 1 17 := ⟨by kernel_rfl⟩
instance : FieldT Tryz.prog 204 2 2 17 := ⟨by kernel_rfl⟩
instance : FieldT Tryz.prog 204 3 3 9 := ⟨by kernel_rfl⟩
instance : StructT Tryz.prog 204 [(0, 1), (1, 1), (2, 1), (3, 1)] := ⟨by kernel_rfl⟩
instance : AggT Tryz.prog 205 0 := ⟨by kernel_rfl⟩
instance : ZeroT Tryz.prog 205 [] := ⟨by kernel_rfl⟩
instance : PlainT Tryz.prog 205 := ⟨by kernel_rfl⟩
instance : AggT Tryz.prog 206 0 := ⟨by kernel_rfl⟩
instance : ZeroT Tryz.prog 206 [] := ⟨by kernel_rfl⟩
instance : PlainT Tryz.prog 206 := ⟨by kernel_rfl⟩
instance : StructT Tryz.prog 206 [(0, 0)] := ⟨by kernel_rfl⟩
instance : AggT Tryz.prog 207 0 := ⟨by kernel_rfl⟩
instance : ZeroT Tryz.prog 207 [] := ⟨by kernel_rfl⟩
instance : PlainT Tryz.prog 207 := ⟨by kernel_rfl⟩
instance : StructT Tryz.prog 207 [(0, 0)] := ⟨by kernel_rfl⟩
instance : CellT Tryz.prog 208 := ⟨by kernel_rfl⟩
instance : ZeroT Tryz.prog 208 [.int .u8 0] := ⟨by kernel_rfl⟩
instance : PlainT Tryz.prog 208 := ⟨by kernel_rfl⟩
instance : CellT Tryz.prog 209 := ⟨by kernel_rfl⟩
instance : ZeroT Tryz.prog 209 [.int .u8 0] := ⟨by kernel_rfl⟩
instance : PlainT Tryz.prog 209 := ⟨by kernel_rfl⟩
instance : CellT Tryz.prog 210 := ⟨by kernel_rfl⟩
instance : ZeroT Tryz.prog 210 [.nilFunc] := ⟨by kernel_rfl⟩
instance : PlainT Tryz.prog 210 := ⟨by kernel_rfl⟩
instance : CellT Tryz.prog 211 := ⟨by kernel_rfl⟩
instance : ZeroT Tryz.prog 211 [.pointer none] := ⟨by kernel_rfl⟩
instance : PtrT Tryz.prog 211 := ⟨by kernel_rfl⟩
instance : PlainT Tryz.prog 211 := ⟨by kernel_rfl⟩
instance : CellT Tryz.prog 212 := ⟨by kernel_rfl⟩
instance : ZeroT Tryz.prog 212 [.int .i32 0] := ⟨by kernel_rfl⟩
instance : PlainT Tryz.prog 212 := ⟨by kernel_rfl⟩
instance : CellT Tryz.prog 213 := ⟨by kernel_rfl⟩
instance : ZeroT Tryz.prog 213 [.int .i32 0] := ⟨by kernel_rfl⟩
instance : PlainT Tryz.prog 213 := ⟨by kernel_rfl⟩
instance : AggT Tryz.prog 214 11 := ⟨by kernel_rfl⟩
instance : ZeroT Tryz.prog 214 [.int .u64 0, .int .u64 0, .int .u32 0, .int .u8 0, .int .u8 0, .int .u8 0, .int .u8 0, .nilFunc, .pointer none, .int .i32 0, .int .i32 0] := ⟨by kernel_rfl⟩
instance : PlainT Tryz.prog 214 := ⟨by kernel_rfl⟩
instance : FieldT Tryz.prog 214 0 0 12 := ⟨by kernel_rfl⟩
instance : FieldT Tryz.prog 214 1 1 12 := ⟨by kernel_rfl⟩
instance : FieldT Tryz.prog 214 2 2 183 := ⟨by kernel_rfl⟩
instance : FieldT Tryz.prog 214 3 3 208 := ⟨by kernel_rfl⟩
instance : FieldT Tryz.prog 214 4 4 5 := ⟨by kernel_rfl⟩
instance : FieldT Tryz.prog 214 5 5 5 := ⟨by kernel_rfl⟩
instance : FieldT Tryz.prog 214 6 6 209 := ⟨by kernel_rfl⟩
instance : FieldT Tryz.prog 214 7 7 210 := ⟨by kernel_rfl⟩
instance : FieldT Tryz.prog 214 8 8 211 := ⟨by kernel_rfl⟩
instance : FieldT Tryz.prog 214 9 9 212 := ⟨by kernel_rfl⟩
instance : FieldT Tryz.prog 214 10 10 213 := ⟨by kernel_rfl⟩
instance : StructT Tryz.prog 214 [(0, 1), (1, 1), (2, 1), (3, 1), (4, 1), (5, 1), (6, 1), (7, 1), (8, 1), (9, 1), (10, 1)] := ⟨by kernel_rfl⟩
instance : AggT Tryz.prog 215 11 := ⟨by kernel_rfl⟩
instance : ZeroT Tryz.prog 215 [.int .u64 0, .int .u64 0, .int .u32 0, .int .u8 0, .int .u8 0, .int .u8 0, .int .u8 0, .nilFunc, .pointer none, .int .i32 0, .int .i32 0] := ⟨by kernel_rfl⟩
instance : PlainT Tryz.prog 215 := ⟨by kernel_rfl⟩
instance : FieldT Tryz.prog 215 0 0 12 := ⟨by kernel_rfl⟩
instance : FieldT Tryz.prog 215 1 1 12 := ⟨by kernel_rfl⟩
instance : FieldT Tryz.prog 215 2 2 183 := ⟨by kernel_rfl⟩
instance : FieldT Tryz.prog 215 3 3 208 := ⟨by kernel_rfl⟩
instance : FieldT Tryz.prog 215 4 4 5 := ⟨by kernel_rfl⟩
instance : FieldT Tryz.prog 215 5 5 5 := ⟨by kernel_rfl⟩
instance : FieldT Tryz.prog 215 6 6 209 := ⟨by kernel_rfl⟩
instance : FieldT Tryz.prog 215 7 7 210 := ⟨by kernel_rfl⟩
instance : FieldT Tryz.prog 215 8 8 211 := ⟨by kernel_rfl⟩
instance : FieldT Tryz.prog 215 9 9 212 := ⟨by kernel_rfl⟩
instance : FieldT Tryz.prog 215 10 10 213 := ⟨by kernel_rfl⟩
instance : StructT Tryz.prog 215 [(0, 1), (1, 1), (2, 1), (3, 1), (4, 1), (5, 1), (6, 1), (7, 1), (8, 1), (9, 1), (10, 1)] := ⟨by kernel_rfl⟩
instance : CellT Tryz.prog 216 := ⟨by kernel_rfl⟩
instance : ZeroT Tryz.prog 216 [.nilFunc] := ⟨by kernel_rfl⟩
instance : PlainT Tryz.prog 216 := ⟨by kernel_rfl⟩
instance : CellT Tryz.prog 217 := ⟨by kernel_rfl⟩
instance : ZeroT Tryz.prog 217 [.pointer none] := ⟨by kernel_rfl⟩
instance : PlainT Tryz.prog 217 := ⟨by kernel_rfl⟩
-- 3 stratagem/stratagemlaw42.PatternsSystematic
instance : CallT Tryz.prog 3 := ⟨by kernel_rfl⟩
-- 4 stratagem/stratagemlaw42.PatternsCanonical
instance : CallT Tryz.prog 4 := ⟨by kernel_rfl⟩
-- 5 stratagem/stratagemlaw42.PatternsAdmissible
instance : CallT Tryz.prog 5 := ⟨by kernel_rfl⟩
-- 6 stratagem/stratagemlaw42.PatternsMore
instance : CallT Tryz.prog 6 := ⟨by kernel_rfl⟩
-- 7 stratagem/stratagemlaw42.PatternsAdditive
instance : CallT Tryz.prog 7 := ⟨by kernel_rfl⟩
-- 8 stratagem/stratagemlaw42.PatternsErrors
instance : CallT Tryz.prog 8 := ⟨by kernel_rfl⟩
-- 9 stratagem/stratagembase.Small
instance : CallT Tryz.prog 9 := ⟨by kernel_rfl⟩
-- 10 stratagem/stratagemlaw42.awake
instance : CallT Tryz.prog 10 := ⟨by kernel_rfl⟩
-- 11 stratagem/patterns.Systematic
instance : CallT Tryz.prog 11 := ⟨by kernel_rfl⟩
-- 12 stratagem/stratagemlaw42.lists
instance : CallT Tryz.prog 12 := ⟨by kernel_rfl⟩
-- 13 stratagem/stratagemref42.Systematic
instance : CallT Tryz.prog 13 := ⟨by kernel_rfl⟩
-- 14 stratagem/stratagemlaw42.picked
instance : CallT Tryz.prog 14 := ⟨by kernel_rfl⟩
-- 15 stratagem/patterns.New
instance : CallT Tryz.prog 15 := ⟨by kernel_rfl⟩
-- 16 stratagem/stratagemref42.Cliques
instance : CallT Tryz.prog 16 := ⟨by kernel_rfl⟩
-- 17 stratagem/stratagemref42.Tables
instance : CallT Tryz.prog 17 := ⟨by kernel_rfl⟩
-- 18 stratagem/stratagemref34.Costs
instance : CallT Tryz.prog 18 := ⟨by kernel_rfl⟩
-- 19 stratagem/stratagembase.States
instance : CallT Tryz.prog 19 := ⟨by kernel_rfl⟩
-- 20 (*stratagem/patterns.Canonical).Value
instance : CallT Tryz.prog 20 := ⟨by kernel_rfl⟩
-- 21 stratagem/stratagemref42.Value
instance : CallT Tryz.prog 21 := ⟨by kernel_rfl⟩
-- 22 stratagem/stratagembase.Distances
instance : CallT Tryz.prog 22 := ⟨by kernel_rfl⟩
-- 23 stratagem/stratagembase.Holds
instance : CallT Tryz.prog 23 := ⟨by kernel_rfl⟩
-- 24 stratagem/stratagembase.Edges
instance : CallT Tryz.prog 24 := ⟨by kernel_rfl⟩
-- 25 stratagem/pdb.Build
instance : CallT Tryz.prog 25 := ⟨by kernel_rfl⟩
-- 26 (*stratagem/pdb.Database).Value
instance : CallT Tryz.prog 26 := ⟨by kernel_rfl⟩
-- 27 stratagem/patterns.Additive
instance : CallT Tryz.prog 27 := ⟨by kernel_rfl⟩
-- 28 stratagem/stratagemref42.Additive
instance : CallT Tryz.prog 28 := ⟨by kernel_rfl⟩
-- 29 stratagem/patterns.Cliques
instance : CallT Tryz.prog 29 := ⟨by kernel_rfl⟩
-- 30 stratagem/stratagembase.Good
instance : CallT Tryz.prog 30 := ⟨by kernel_rfl⟩
-- 31 stratagem/stratagembase.Num
instance : CallT Tryz.prog 31 := ⟨by kernel_rfl⟩
-- 32 stratagem/task.Check
instance : CallT Tryz.prog 32 := ⟨by kernel_rfl⟩
-- 33 stratagem/stratagemref40.Pattern
instance : CallT Tryz.prog 33 := ⟨by kernel_rfl⟩
-- 34 stratagem/stratagemref40.Many
instance : CallT Tryz.prog 34 := ⟨by kernel_rfl⟩
-- 35 stratagem/stratagembase.Many
instance : CallT Tryz.prog 35 := ⟨by kernel_rfl⟩
-- 36 stratagem/stratagemlaw42.example
instance : CallT Tryz.prog 36 := ⟨by kernel_rfl⟩
-- 37 stratagem/stratagembase.Ints
instance : CallT Tryz.prog 37 := ⟨by kernel_rfl⟩
-- 38 stratagem/causal.Arcs
instance : CallT Tryz.prog 38 := ⟨by kernel_rfl⟩
-- 39 stratagem/stratagembase.Clip
instance : CallT Tryz.prog 39 := ⟨by kernel_rfl⟩
-- 40 stratagem/stratagemref42.grown
instance : CallT Tryz.prog 40 := ⟨by kernel_rfl⟩
-- 41 stratagem/stratagemref39.Connected
instance : CallT Tryz.prog 41 := ⟨by kernel_rfl⟩
-- 42 stratagem/stratagemlaw42.chosen
instance : CallT Tryz.prog 42 := ⟨by kernel_rfl⟩
-- 43 slices.Clone[[]int,int]
instance : CallT Tryz.prog 43 := ⟨by kernel_rfl⟩
-- 44 stratagem/stratagemref42.less
instance : CallT Tryz.prog 44 := ⟨by kernel_rfl⟩
-- 45 stratagem/stratagemref40.Distances
instance : CallT Tryz.prog 45 := ⟨by kernel_rfl⟩
-- 46 stratagem/stratagemref40.Project
instance : CallT Tryz.prog 46 := ⟨by kernel_rfl⟩
-- 47 stratagem/task.Proper
instance : CallT Tryz.prog 47 := ⟨by kernel_rfl⟩
-- 48 stratagem/stratagemref40.Index
instance : CallT Tryz.prog 48 := ⟨by kernel_rfl⟩
-- 49 stratagem/stratagembase.Apply
instance : CallT Tryz.prog 49 := ⟨by kernel_rfl⟩
-- 50 stratagem/stratagembase.Rank
instance : CallT Tryz.prog 50 := ⟨by kernel_rfl⟩
-- 51 slices.ContainsFunc[[]int,int]
instance : CallT Tryz.prog 51 := ⟨by kernel_rfl⟩
-- 52 stratagem/pdb.Build$1
instance : CallT Tryz.prog 52 := ⟨by kernel_rfl⟩
-- 53 stratagem/project.Project
instance : CallT Tryz.prog 53 := ⟨by kernel_rfl⟩
-- 54 stratagem/pdb.distances
instance : CallT Tryz.prog 54 := ⟨by kernel_rfl⟩
-- 55 stratagem/patterns.check
instance : CallT Tryz.prog 55 := ⟨by kernel_rfl⟩
-- 56 stratagem/patterns.additive
instance : CallT Tryz.prog 56 := ⟨by kernel_rfl⟩
-- 57 stratagem/stratagemref42.affects
instance : CallT Tryz.prog 57 := ⟨by kernel_rfl⟩
-- 58 stratagem/graph.Cliques
instance : CallT Tryz.prog 58 := ⟨by kernel_rfl⟩
-- 59 stratagem/stratagembase.State
instance : CallT Tryz.prog 59 := ⟨by kernel_rfl⟩
-- 60 stratagem/stratagembase.Proper
instance : CallT Tryz.prog 60 := ⟨by kernel_rfl⟩
-- 61 stratagem/stratagembase.operator
instance : CallT Tryz.prog 61 := ⟨by kernel_rfl⟩
-- 62 stratagem/task.large
instance : CallT Tryz.prog 62 := ⟨by kernel_rfl⟩
-- 63 stratagem/task.conditions
instance : CallT Tryz.prog 63 := ⟨by kernel_rfl⟩
-- 64 stratagem/task.Facts
instance : CallT Tryz.prog 64 := ⟨by kernel_rfl⟩
-- 65 stratagem/task.named
instance : CallT Tryz.prog 65 := ⟨by kernel_rfl⟩
-- 66 stratagem/causal.depends
instance : CallT Tryz.prog 66 := ⟨by kernel_rfl⟩
-- 67 stratagem/stratagemref39.Arc
instance : CallT Tryz.prog 67 := ⟨by kernel_rfl⟩
-- 68 stratagem/stratagemref40.Goals
instance : CallT Tryz.prog 68 := ⟨by kernel_rfl⟩
-- 69 slices.IndexFunc[[]int,int]
instance : CallT Tryz.prog 69 := ⟨by kernel_rfl⟩
-- 70 stratagem/project.check
instance : CallT Tryz.prog 70 := ⟨by kernel_rfl⟩
-- 71 stratagem/project.count
instance : CallT Tryz.prog 71 := ⟨by kernel_rfl⟩
-- 72 stratagem/project.number
instance : CallT Tryz.prog 72 := ⟨by kernel_rfl⟩
-- 73 stratagem/project.outside
instance : CallT Tryz.prog 73 := ⟨by kernel_rfl⟩
-- 74 stratagem/project.put
instance : CallT Tryz.prog 74 := ⟨by kernel_rfl⟩
-- 75 slices.Contains[[]int,int]
instance : CallT Tryz.prog 75 := ⟨by kernel_rfl⟩
-- 76 stratagem/project.targets
instance : CallT Tryz.prog 76 := ⟨by kernel_rfl⟩
-- 77 container/heap.Push
instance : CallT Tryz.prog 77 := ⟨by kernel_rfl⟩
-- 78 (stratagem/pdb.queue).Len
instance : CallT Tryz.prog 78 := ⟨by kernel_rfl⟩
-- 79 container/heap.Pop
instance : CallT Tryz.prog 79 := ⟨by kernel_rfl⟩
-- 80 stratagem/graph.check
instance : CallT Tryz.prog 80 := ⟨by kernel_rfl⟩
-- 81 (*stratagem/graph.finder).find
instance : CallT Tryz.prog 81 := ⟨by kernel_rfl⟩
-- 82 slices.SortFunc[[][]int,[]int]
instance : CallT Tryz.prog 82 := ⟨by kernel_rfl⟩
-- 83 slices.Compare[[]int,int]
instance : CallT Tryz.prog 83 := ⟨by kernel_rfl⟩
-- 84 slices.ContainsFunc[[][]stratagem/api.Fact,[]stratagem/api.Fact]
instance : CallT Tryz.prog 84 := ⟨by kernel_rfl⟩
-- 85 stratagem/task.large$1
instance : CallT Tryz.prog 85 := ⟨by kernel_rfl⟩
-- 86 stratagem/stratagemref39.on
instance : CallT Tryz.prog 86 := ⟨by kernel_rfl⟩
-- 87 stratagem/project.has
instance : CallT Tryz.prog 87 := ⟨by kernel_rfl⟩
-- 88 slices.Sort[[]int,int]
instance : CallT Tryz.prog 88 := ⟨by kernel_rfl⟩
-- 89 slices.Backward[[]int,int]
instance : CallT Tryz.prog 89 := ⟨by kernel_rfl⟩
-- 90 slices.Index[[]int,int]
instance : CallT Tryz.prog 90 := ⟨by kernel_rfl⟩
-- 91 stratagem/task.Holds
instance : CallT Tryz.prog 91 := ⟨by kernel_rfl⟩
-- 92 slices.Compact[[]int,int]
instance : CallT Tryz.prog 92 := ⟨by kernel_rfl⟩
-- 93 container/heap.up
instance : CallT Tryz.prog 93 := ⟨by kernel_rfl⟩
-- 94 container/heap.down
instance : CallT Tryz.prog 94 := ⟨by kernel_rfl⟩
-- 95 math/bits.TrailingZeros64
instance : CallT Tryz.prog 95 := ⟨by kernel_rfl⟩
-- 96 math/bits.OnesCount64
instance : CallT Tryz.prog 96 := ⟨by kernel_rfl⟩
-- 97 slices.pdqsortCmpFunc[[]int]
instance : CallT Tryz.prog 97 := ⟨by kernel_rfl⟩
-- 98 math/bits.Len
instance : CallT Tryz.prog 98 := ⟨by kernel_rfl⟩
-- 99 cmp.Compare[int]
instance : CallT Tryz.prog 99 := ⟨by kernel_rfl⟩
-- 100 slices.IndexFunc[[][]stratagem/api.Fact,[]stratagem/api.Fact]
instance : CallT Tryz.prog 100 := ⟨by kernel_rfl⟩
-- 101 slices.ContainsFunc[[]stratagem/api.Fact,stratagem/api.Fact]
instance : CallT Tryz.prog 101 := ⟨by kernel_rfl⟩
-- 102 stratagem/project.has$1
instance : CallT Tryz.prog 102 := ⟨by kernel_rfl⟩
-- 103 slices.pdqsortOrdered[int]
instance : CallT Tryz.prog 103 := ⟨by kernel_rfl⟩
-- 104 slices.Backward[[]int,int]$1
instance : CallT Tryz.prog 104 := ⟨by kernel_rfl⟩
-- 105 slices.insertionSortCmpFunc[[]int]
instance : CallT Tryz.prog 105 := ⟨by kernel_rfl⟩
-- 106 slices.heapSortCmpFunc[[]int]
instance : CallT Tryz.prog 106 := ⟨by kernel_rfl⟩
-- 107 slices.breakPatternsCmpFunc[[]int]
instance : CallT Tryz.prog 107 := ⟨by kernel_rfl⟩
-- 108 slices.choosePivotCmpFunc[[]int]
instance : CallT Tryz.prog 108 := ⟨by kernel_rfl⟩
-- 109 slices.reverseRangeCmpFunc[[]int]
instance : CallT Tryz.prog 109 := ⟨by kernel_rfl⟩
-- 110 slices.partialInsertionSortCmpFunc[[]int]
instance : CallT Tryz.prog 110 := ⟨by kernel_rfl⟩
-- 111 slices.partitionEqualCmpFunc[[]int]
instance : CallT Tryz.prog 111 := ⟨by kernel_rfl⟩
-- 112 slices.partitionCmpFunc[[]int]
instance : CallT Tryz.prog 112 := ⟨by kernel_rfl⟩
-- 113 math/bits.Len32
instance : CallT Tryz.prog 113 := ⟨by kernel_rfl⟩
-- 114 math/bits.Len64
instance : CallT Tryz.prog 114 := ⟨by kernel_rfl⟩
-- 115 cmp.isNaN[int]
instance : CallT Tryz.prog 115 := ⟨by kernel_rfl⟩
-- 116 slices.IndexFunc[[]stratagem/api.Fact,stratagem/api.Fact]
instance : CallT Tryz.prog 116 := ⟨by kernel_rfl⟩
-- 117 slices.insertionSortOrdered[int]
instance : CallT Tryz.prog 117 := ⟨by kernel_rfl⟩
-- 118 slices.heapSortOrdered[int]
instance : CallT Tryz.prog 118 := ⟨by kernel_rfl⟩
-- 119 slices.breakPatternsOrdered[int]
instance : CallT Tryz.prog 119 := ⟨by kernel_rfl⟩
-- 120 slices.choosePivotOrdered[int]
instance : CallT Tryz.prog 120 := ⟨by kernel_rfl⟩
-- 121 slices.reverseRangeOrdered[int]
instance : CallT Tryz.prog 121 := ⟨by kernel_rfl⟩
-- 122 slices.partialInsertionSortOrdered[int]
instance : CallT Tryz.prog 122 := ⟨by kernel_rfl⟩
-- 123 cmp.Less[int]
instance : CallT Tryz.prog 123 := ⟨by kernel_rfl⟩
-- 124 slices.partitionEqualOrdered[int]
instance : CallT Tryz.prog 124 := ⟨by kernel_rfl⟩
-- 125 slices.partitionOrdered[int]
instance : CallT Tryz.prog 125 := ⟨by kernel_rfl⟩
-- 126 slices.siftDownCmpFunc[[]int]
instance : CallT Tryz.prog 126 := ⟨by kernel_rfl⟩
-- 127 slices.nextPowerOfTwo
instance : CallT Tryz.prog 127 := ⟨by kernel_rfl⟩
-- 129 slices.medianAdjacentCmpFunc[[]int]
instance : CallT Tryz.prog 129 := ⟨by kernel_rfl⟩
-- 130 slices.medianCmpFunc[[]int]
instance : CallT Tryz.prog 130 := ⟨by kernel_rfl⟩
-- 131 slices.siftDownOrdered[int]
instance : CallT Tryz.prog 131 := ⟨by kernel_rfl⟩
-- 132 slices.medianAdjacentOrdered[int]
instance : CallT Tryz.prog 132 := ⟨by kernel_rfl⟩
-- 133 slices.medianOrdered[int]
instance : CallT Tryz.prog 133 := ⟨by kernel_rfl⟩
-- 134 slices.order2CmpFunc[[]int]
instance : CallT Tryz.prog 134 := ⟨by kernel_rfl⟩
-- 135 slices.order2Ordered[int]
instance : CallT Tryz.prog 135 := ⟨by kernel_rfl⟩
-- 154 (stratagem/pdb.queue).Less
instance : CallT Tryz.prog 154 := ⟨by kernel_rfl⟩
-- 155 (*stratagem/pdb.queue).Pop
instance : CallT Tryz.prog 155 := ⟨by kernel_rfl⟩
-- 156 (*stratagem/pdb.queue).Push
instance : CallT Tryz.prog 156 := ⟨by kernel_rfl⟩
-- 157 (stratagem/pdb.queue).Swap
instance : CallT Tryz.prog 157 := ⟨by kernel_rfl⟩
theorem mixed : Tryz.prog.follows .mixedOrders = true := by kernel_rfl
end Go.Proofs.YtemnlcnjpjdoaaaGreatDoor
