
/-
  The types of this seat, as the steps of the generator ask for them: closed facts on the program.
-/
import Derived.Test.YtoddgmmkpiojlaaMSlA
import Derived.Test.YtoddgmmkpiojlaaProg
import Derived.KernelRfl
set_option linter.unusedSimpArgs false
set_option linter.unusedVariables false
namespace Go.Proofs.Ytoddgmmkpiojlaa
open Go.Sl
instance : CellT Try.prog 1 := ⟨by kernel_rfl⟩
instance : ZeroT Try.prog 1 [.nilFunc] := ⟨by kernel_rfl⟩
instance : PlainT Try.prog 1 := ⟨by kernel_rfl⟩
instance : CellT Try.prog 2 := ⟨by kernel_rfl⟩
instance : ZeroT Try.prog 2 [.int .i64 0] := ⟨by kernel_rfl⟩
instance : PlainT Try.prog 2 := ⟨by kernel_rfl⟩
instance : CellT Try.prog 3 := ⟨by kernel_rfl⟩
instance : ZeroT Try.prog 3 [.int .i64 0] := ⟨by kernel_rfl⟩
instance : PlainT Try.prog 3 := ⟨by kernel_rfl⟩
instance : CellT Try.prog 4 := ⟨by kernel_rfl⟩
instance : ZeroT Try.prog 4 [.bool false] := ⟨by kernel_rfl⟩
instance : BoolT Try.prog 4 := ⟨by kernel_rfl⟩
instance : PlainT Try.prog 4 := ⟨by kernel_rfl⟩
instance : CellT Try.prog 5 := ⟨by kernel_rfl⟩
instance : ZeroT Try.prog 5 [.int .u8 0] := ⟨by kernel_rfl⟩
instance : PlainT Try.prog 5 := ⟨by kernel_rfl⟩
instance : CellT Try.prog 6 := ⟨by kernel_rfl⟩
instance : ZeroT Try.prog 6 [.int .u8 0] := ⟨by kernel_rfl⟩
instance : PlainT Try.prog 6 := ⟨by kernel_rfl⟩
instance : AggT Try.prog 7 4 := ⟨by kernel_rfl⟩
instance : ZeroT Try.prog 7 [.int .i64 0, .int .i64 0, .bool false, .int .u8 0] := ⟨by kernel_rfl⟩
instance : PlainT Try.prog 7 := ⟨by kernel_rfl⟩
instance : FieldT Try.prog 7 0 0 2 := ⟨by kernel_rfl⟩
instance : FieldT Try.prog 7 1 1 3 := ⟨by kernel_rfl⟩
instance : FieldT Try.prog 7 2 2 4 := ⟨by kernel_rfl⟩
instance : FieldT Try.prog 7 3 3 6 := ⟨by kernel_rfl⟩
instance : StructT Try.prog 7 [(0, 1), (1, 1), (2, 1), (3, 1)] := ⟨by kernel_rfl⟩
instance : AggT Try.prog 8 4 := ⟨by kernel_rfl⟩
instance : ZeroT Try.prog 8 [.int .i64 0, .int .i64 0, .bool false, .int .u8 0] := ⟨by kernel_rfl⟩
instance : PlainT Try.prog 8 := ⟨by kernel_rfl⟩
instance : FieldT Try.prog 8 0 0 2 := ⟨by kernel_rfl⟩
instance : FieldT Try.prog 8 1 1 3 := ⟨by kernel_rfl⟩
instance : FieldT Try.prog 8 2 2 4 := ⟨by kernel_rfl⟩
instance : FieldT Try.prog 8 3 3 6 := ⟨by kernel_rfl⟩
instance : StructT Try.prog 8 [(0, 1), (1, 1), (2, 1), (3, 1)] := ⟨by kernel_rfl⟩
instance : CellT Try.prog 9 := ⟨by kernel_rfl⟩
instance : ZeroT Try.prog 9 [.string ByteArray.empty] := ⟨by kernel_rfl⟩
instance : StrT Try.prog 9 := ⟨by kernel_rfl⟩
instance : PlainT Try.prog 9 := ⟨by kernel_rfl⟩
instance : CellT Try.prog 10 := ⟨by kernel_rfl⟩
instance : ZeroT Try.prog 10 [.string ByteArray.empty] := ⟨by kernel_rfl⟩
instance : StrT Try.prog 10 := ⟨by kernel_rfl⟩
instance : PlainT Try.prog 10 := ⟨by kernel_rfl⟩
instance : CellT Try.prog 11 := ⟨by kernel_rfl⟩
instance : ZeroT Try.prog 11 [.string ByteArray.empty] := ⟨by kernel_rfl⟩
instance : StrT Try.prog 11 := ⟨by kernel_rfl⟩
instance : PlainT Try.prog 11 := ⟨by kernel_rfl⟩
instance : CellT Try.prog 12 := ⟨by kernel_rfl⟩
instance : ZeroT Try.prog 12 [.int .u64 0] := ⟨by kernel_rfl⟩
instance : PlainT Try.prog 12 := ⟨by kernel_rfl⟩
instance : AggT Try.prog 13 2 := ⟨by kernel_rfl⟩
instance : ZeroT Try.prog 13 [.string ByteArray.empty, .int .u64 0] := ⟨by kernel_rfl⟩
instance : PlainT Try.prog 13 := ⟨by kernel_rfl⟩
instance : FieldT Try.prog 13 0 0 9 := ⟨by kernel_rfl⟩
instance : FieldT Try.prog 13 1 1 12 := ⟨by kernel_rfl⟩
instance : StructT Try.prog 13 [(0, 1), (1, 1)] := ⟨by kernel_rfl⟩
instance : AggT Try.prog 14 2 := ⟨by kernel_rfl⟩
instance : ZeroT Try.prog 14 [.string ByteArray.empty, .int .u64 0] := ⟨by kernel_rfl⟩
instance : PlainT Try.prog 14 := ⟨by kernel_rfl⟩
instance : FieldT Try.prog 14 0 0 9 := ⟨by kernel_rfl⟩
instance : FieldT Try.prog 14 1 1 12 := ⟨by kernel_rfl⟩
instance : StructT Try.prog 14 [(0, 1), (1, 1)] := ⟨by kernel_rfl⟩
instance : CellT Try.prog 15 := ⟨by kernel_rfl⟩
instance : ZeroT Try.prog 15 [.pointer none] := ⟨by kernel_rfl⟩
instance : MethT Try.prog 15 "Error" 116 true 184 := ⟨by kernel_rfl⟩
instance : MethT Try.prog 15 "RuntimeError" 117 true 184 := ⟨by kernel_rfl⟩
instance : PtrT Try.prog 15 := ⟨by kernel_rfl⟩
instance : PlainT Try.prog 15 := ⟨by kernel_rfl⟩
instance : CellT Try.prog 16 := ⟨by kernel_rfl⟩
instance : ZeroT Try.prog 16 [.pointer none] := ⟨by kernel_rfl⟩
instance : MethT Try.prog 16 "Error" 118 true 187 := ⟨by kernel_rfl⟩
instance : MethT Try.prog 16 "RuntimeError" 119 true 187 := ⟨by kernel_rfl⟩
instance : PtrT Try.prog 16 := ⟨by kernel_rfl⟩
instance : PlainT Try.prog 16 := ⟨by kernel_rfl⟩
instance : CellT Try.prog 17 := ⟨by kernel_rfl⟩
instance : ZeroT Try.prog 17 [.pointer none] := ⟨by kernel_rfl⟩
instance : MethT Try.prog 17 "Align" 120 true 196 := ⟨by kernel_rfl⟩
instance : MethT Try.prog 17 "Len" 144 true 196 := ⟨by kernel_rfl⟩
instance : PtrT Try.prog 17 := ⟨by kernel_rfl⟩
instance : PlainT Try.prog 17 := ⟨by kernel_rfl⟩
instance : AggT Try.prog 18 1 := ⟨by kernel_rfl⟩
instance : ZeroT Try.prog 18 [.pointer none] := ⟨by kernel_rfl⟩
instance : PlainT Try.prog 18 := ⟨by kernel_rfl⟩
instance : FieldT Try.prog 18 0 0 17 := ⟨by kernel_rfl⟩
instance : StructT Try.prog 18 [(0, 1)] := ⟨by kernel_rfl⟩
instance : AggT Try.prog 19 1 := ⟨by kernel_rfl⟩
instance : ZeroT Try.prog 19 [.pointer none] := ⟨by kernel_rfl⟩
instance : PlainT Try.prog 19 := ⟨by kernel_rfl⟩
instance : FieldT Try.prog 19 0 0 17 := ⟨by kernel_rfl⟩
instance : StructT Try.prog 19 [(0, 1)] := ⟨by kernel_rfl⟩
instance : CellT Try.prog 20 := ⟨by kernel_rfl⟩
instance : ZeroT Try.prog 20 [.nilIface] := ⟨by kernel_rfl⟩
instance : IfaceT Try.prog 20 := ⟨by kernel_rfl⟩
instance : CellT Try.prog 21 := ⟨by kernel_rfl⟩
instance : ZeroT Try.prog 21 [.int .i32 0] := ⟨by kernel_rfl⟩
instance : PlainT Try.prog 21 := ⟨by kernel_rfl⟩
instance : SliceT Try.prog 22 3 1 8 := ⟨by kernel_rfl⟩
instance : CellT Try.prog 22 := ⟨by kernel_rfl⟩
instance : ZeroT Try.prog 22 [.slice none 0 0] := ⟨by kernel_rfl⟩
instance : PlainT Try.prog 22 := ⟨by kernel_rfl⟩
instance : SliceT Try.prog 23 72 2 16 := ⟨by kernel_rfl⟩
instance : CellT Try.prog 23 := ⟨by kernel_rfl⟩
instance : ZeroT Try.prog 23 [.slice none 0 0] := ⟨by kernel_rfl⟩
instance : PlainT Try.prog 23 := ⟨by kernel_rfl⟩
instance : SliceT Try.prog 24 36 4 72 := ⟨by kernel_rfl⟩
instance : CellT Try.prog 24 := ⟨by kernel_rfl⟩
instance : ZeroT Try.prog 24 [.slice none 0 0] := ⟨by kernel_rfl⟩
instance : PlainT Try.prog 24 := ⟨by kernel_rfl⟩
instance : AggT Try.prog 25 4 := ⟨by kernel_rfl⟩
instance : ZeroT Try.prog 25 [.slice none 0 0, .slice none 0 0, .slice none 0 0, .slice none 0 0] := ⟨by kernel_rfl⟩
instance : PlainT Try.prog 25 := ⟨by kernel_rfl⟩
instance : FieldT Try.prog 25 0 0 22 := ⟨by kernel_rfl⟩
instance : FieldT Try.prog 25 1 1 22 := ⟨by kernel_rfl⟩
instance : FieldT Try.prog 25 2 2 23 := ⟨by kernel_rfl⟩
instance : FieldT Try.prog 25 3 3 24 := ⟨by kernel_rfl⟩
instance : StructT Try.prog 25 [(0, 1), (1, 1), (2, 1), (3, 1)] := ⟨by kernel_rfl⟩
instance : AggT Try.prog 26 4 := ⟨by kernel_rfl⟩
instance : ZeroT Try.prog 26 [.slice none 0 0, .slice none 0 0, .slice none 0 0, .slice none 0 0] := ⟨by kernel_rfl⟩
instance : PlainT Try.prog 26 := ⟨by kernel_rfl⟩
instance : FieldT Try.prog 26 0 0 22 := ⟨by kernel_rfl⟩
instance : FieldT Try.prog 26 1 1 22 := ⟨by kernel_rfl⟩
instance : FieldT Try.prog 26 2 2 23 := ⟨by kernel_rfl⟩
instance : FieldT Try.prog 26 3 3 24 := ⟨by kernel_rfl⟩
instance : StructT Try.prog 26 [(0, 1), (1, 1), (2, 1), (3, 1)] := ⟨by kernel_rfl⟩
instance : CellT Try.prog 27 := ⟨by kernel_rfl⟩
instance : ZeroT Try.prog 27 [.nilFunc] := ⟨by kernel_rfl⟩
instance : PlainT Try.prog 27 := ⟨by kernel_rfl⟩
instance : CellT Try.prog 28 := ⟨by kernel_rfl⟩
instance : ZeroT Try.prog 28 [.nilFunc] := ⟨by kernel_rfl⟩
instance : PlainT Try.prog 28 := ⟨by kernel_rfl⟩
instance : CellT Try.prog 29 := ⟨by kernel_rfl⟩
instance : ZeroT Try.prog 29 [.pointer none] := ⟨by kernel_rfl⟩
instance : MethT Try.prog 29 "Dead" 13 true 76 := ⟨by kernel_rfl⟩
instance : MethT Try.prog 29 "For" 28 true 76 := ⟨by kernel_rfl⟩
instance : MethT Try.prog 29 "Value" 12 true 76 := ⟨by kernel_rfl⟩
instance : PtrT Try.prog 29 := ⟨by kernel_rfl⟩
instance : PlainT Try.prog 29 := ⟨by kernel_rfl⟩
instance : CellT Try.prog 30 := ⟨by kernel_rfl⟩
instance : ZeroT Try.prog 30 [.nilIface] := ⟨by kernel_rfl⟩
instance : IfaceT Try.prog 30 := ⟨by kernel_rfl⟩
instance : CellT Try.prog 31 := ⟨by kernel_rfl⟩
instance : ZeroT Try.prog 31 [.nilIface] := ⟨by kernel_rfl⟩
instance : IfaceT Try.prog 31 := ⟨by kernel_rfl⟩
instance : CellT Try.prog 33 := ⟨by kernel_rfl⟩
instance : ZeroT Try.prog 33 [.nilFunc] := ⟨by kernel_rfl⟩
instance : PlainT Try.prog 33 := ⟨by kernel_rfl⟩
instance : SliceT Try.prog 34 99 3 40 := ⟨by kernel_rfl⟩
instance : CellT Try.prog 34 := ⟨by kernel_rfl⟩
instance : ZeroT Try.prog 34 [.slice none 0 0] := ⟨by kernel_rfl⟩
instance : PlainT Try.prog 34 := ⟨by kernel_rfl⟩
instance : AggT Try.prog 35 4 := ⟨by kernel_rfl⟩
instance : ZeroT Try.prog 35 [.string ByteArray.empty, .int .i64 0, .slice none 0 0, .slice none 0 0] := ⟨by kernel_rfl⟩
instance : PlainT Try.prog 35 := ⟨by kernel_rfl⟩
instance : FieldT Try.prog 35 0 0 9 := ⟨by kernel_rfl⟩
instance : FieldT Try.prog 35 1 1 3 := ⟨by kernel_rfl⟩
instance : FieldT Try.prog 35 2 2 23 := ⟨by kernel_rfl⟩
instance : FieldT Try.prog 35 3 3 34 := ⟨by kernel_rfl⟩
instance : StructT Try.prog 35 [(0, 1), (1, 1), (2, 1), (3, 1)] := ⟨by kernel_rfl⟩
instance : AggT Try.prog 36 4 := ⟨by kernel_rfl⟩
instance : ZeroT Try.prog 36 [.string ByteArray.empty, .int .i64 0, .slice none 0 0, .slice none 0 0] := ⟨by kernel_rfl⟩
instance : PlainT Try.prog 36 := ⟨by kernel_rfl⟩
instance : FieldT Try.prog 36 0 0 9 := ⟨by kernel_rfl⟩
instance : FieldT Try.prog 36 1 1 3 := ⟨by kernel_rfl⟩
instance : FieldT Try.prog 36 2 2 23 := ⟨by kernel_rfl⟩
instance : FieldT Try.prog 36 3 3 34 := ⟨by kernel_rfl⟩
instance : StructT Try.prog 36 [(0, 1), (1, 1), (2, 1), (3, 1)] := ⟨by kernel_rfl⟩
instance : CellT Try.prog 37 := ⟨by kernel_rfl⟩
instance : ZeroT Try.prog 37 [.nilFunc] := ⟨by kernel_rfl⟩
instance : PlainT Try.prog 37 := ⟨by kernel_rfl⟩
instance : SliceT Try.prog 38 22 1 24 := ⟨by kernel_rfl⟩
instance : CellT Try.prog 38 := ⟨by kernel_rfl⟩
instance : ZeroT Try.prog 38 [.slice none 0 0] := ⟨by kernel_rfl⟩
instance : PlainT Try.prog 38 := ⟨by kernel_rfl⟩
instance : CellT Try.prog 39 := ⟨by kernel_rfl⟩
instance : ZeroT Try.prog 39 [.nilFunc] := ⟨by kernel_rfl⟩
instance : PlainT Try.prog 39 := ⟨by kernel_rfl⟩
instance : CellT Try.prog 40 := ⟨by kernel_rfl⟩
instance : ZeroT Try.prog 40 [.nilFunc] := ⟨by kernel_rfl⟩
instance : PlainT Try.prog 40 := ⟨by kernel_rfl⟩
instance : CellT Try.prog 41 := ⟨by kernel_rfl⟩
instance : ZeroT Try.prog 41 [.nilFunc] := ⟨by kernel_rfl⟩
instance : PlainT Try.prog 41 := ⟨by kernel_rfl⟩
instance : CellT Try.prog 42 := ⟨by kernel_rfl⟩
instance : ZeroT Try.prog 42 [.nilFunc] := ⟨by kernel_rfl⟩
instance : PlainT Try.prog 42 := ⟨by kernel_rfl⟩
instance : CellT Try.prog 43 := ⟨by kernel_rfl⟩
instance : ZeroT Try.prog 43 [.nilFunc] := ⟨by kernel_rfl⟩
instance : PlainT Try.prog 43 := ⟨by kernel_rfl⟩
instance : CellT Try.prog 44 := ⟨by kernel_rfl⟩
instance : ZeroT Try.prog 44 [.nilFunc] := ⟨by kernel_rfl⟩
instance : PlainT Try.prog 44 := ⟨by kernel_rfl⟩
instance : CellT Try.prog 45 := ⟨by kernel_rfl⟩
instance : ZeroT Try.prog 45 [.nilFunc] := ⟨by kernel_rfl⟩
instance : PlainT Try.prog 45 := ⟨by kernel_rfl⟩
instance : CellT Try.prog 46 := ⟨by kernel_rfl⟩
instance : ZeroT Try.prog 46 [.nilFunc] := ⟨by kernel_rfl⟩
instance : PlainT Try.prog 46 := ⟨by kernel_rfl⟩
instance : SliceT Try.prog 47 48 1 2 := ⟨by kernel_rfl⟩
instance : CellT Try.prog 47 := ⟨by kernel_rfl⟩
instance : ZeroT Try.prog 47 [.slice none 0 0] := ⟨by kernel_rfl⟩
instance : PlainT Try.prog 47 := ⟨by kernel_rfl⟩
instance : CellT Try.prog 48 := ⟨by kernel_rfl⟩
instance : ZeroT Try.prog 48 [.int .u16 0] := ⟨by kernel_rfl⟩
instance : PlainT Try.prog 48 := ⟨by kernel_rfl⟩
instance : CellT Try.prog 50 := ⟨by kernel_rfl⟩
instance : ZeroT Try.prog 50 [.nilFunc] := ⟨by kernel_rfl⟩
instance : PlainT Try.prog 50 := ⟨by kernel_rfl⟩
instance : AggT Try.prog 51 4 := ⟨by kernel_rfl⟩
instance : ZeroT Try.prog 51 [.int .i64 0, .slice none 0 0, .int .i64 0, .int .i64 0] := ⟨by kernel_rfl⟩
instance : PlainT Try.prog 51 := ⟨by kernel_rfl⟩
instance : FieldT Try.prog 51 0 0 3 := ⟨by kernel_rfl⟩
instance : FieldT Try.prog 51 1 1 22 := ⟨by kernel_rfl⟩
instance : FieldT Try.prog 51 2 2 3 := ⟨by kernel_rfl⟩
instance : FieldT Try.prog 51 3 3 3 := ⟨by kernel_rfl⟩
instance : StructT Try.prog 51 [(0, 1), (1, 1), (2, 1), (3, 1)] := ⟨by kernel_rfl⟩
instance : AggT Try.prog 52 4 := ⟨by kernel_rfl⟩
instance : ZeroT Try.prog 52 [.int .i64 0, .slice none 0 0, .int .i64 0, .int .i64 0] := ⟨by kernel_rfl⟩
instance : PlainT Try.prog 52 := ⟨by kernel_rfl⟩
instance : FieldT Try.prog 52 0 0 3 := ⟨by kernel_rfl⟩
instance : FieldT Try.prog 52 1 1 22 := ⟨by kernel_rfl⟩
instance : FieldT Try.prog 52 2 2 3 := ⟨by kernel_rfl⟩
instance : FieldT Try.prog 52 3 3 3 := ⟨by kernel_rfl⟩
instance : StructT Try.prog 52 [(0, 1), (1, 1), (2, 1), (3, 1)] := ⟨by kernel_rfl⟩
instance : CellT Try.prog 54 := ⟨by kernel_rfl⟩
instance : ZeroT Try.prog 54 [.nilFunc] := ⟨by kernel_rfl⟩
instance : PlainT Try.prog 54 := ⟨by kernel_rfl⟩
instance : CellT Try.prog 55 := ⟨by kernel_rfl⟩
instance : ZeroT Try.prog 55 [.nilFunc] := ⟨by kernel_rfl⟩
instance : PlainT Try.prog 55 := ⟨by kernel_rfl⟩
instance : CellT Try.prog 56 := ⟨by kernel_rfl⟩
instance : ZeroT Try.prog 56 [.int .i64 0] := ⟨by kernel_rfl⟩
instance : PlainT Try.prog 56 := ⟨by kernel_rfl⟩
instance : CellT Try.prog 57 := ⟨by kernel_rfl⟩
instance : ZeroT Try.prog 57 [.nilFunc] := ⟨by kernel_rfl⟩
instance : PlainT Try.prog 57 := ⟨by kernel_rfl⟩
instance : CellT Try.prog 58 := ⟨by kernel_rfl⟩
instance : ZeroT Try.prog 58 [.nilFunc] := ⟨by kernel_rfl⟩
instance : PlainT Try.prog 58 := ⟨by kernel_rfl⟩
instance : CellT Try.prog 59 := ⟨by kernel_rfl⟩
instance : ZeroT Try.prog 59 [.nilFunc] := ⟨by kernel_rfl⟩
instance : PlainT Try.prog 59 := ⟨by kernel_rfl⟩
instance : CellT Try.prog 60 := ⟨by kernel_rfl⟩
instance : ZeroT Try.prog 60 [.nilFunc] := ⟨by kernel_rfl⟩
instance : PlainT Try.prog 60 := ⟨by kernel_rfl⟩
instance : SliceT Try.prog 61 29 1 8 := ⟨by kernel_rfl⟩
instance : CellT Try.prog 61 := ⟨by kernel_rfl⟩
instance : ZeroT Try.prog 61 [.slice none 0 0] := ⟨by kernel_rfl⟩
instance : PlainT Try.prog 61 := ⟨by kernel_rfl⟩
instance : CellT Try.prog 62 := ⟨by kernel_rfl⟩
instance : ZeroT Try.prog 62 [.nilFunc] := ⟨by kernel_rfl⟩
instance : PlainT Try.prog 62 := ⟨by kernel_rfl⟩
instance : CellT Try.prog 63 := ⟨by kernel_rfl⟩
instance : ZeroT Try.prog 63 [.nilFunc] := ⟨by kernel_rfl⟩
instance : PlainT Try.prog 63 := ⟨by kernel_rfl⟩
instance : AggT Try.prog 64 2 := ⟨by kernel_rfl⟩
instance : ZeroT Try.prog 64 [.slice none 0 0, .int .i64 0] := ⟨by kernel_rfl⟩
instance : PlainT Try.prog 64 := ⟨by kernel_rfl⟩
instance : FieldT Try.prog 64 0 0 23 := ⟨by kernel_rfl⟩
instance : FieldT Try.prog 64 1 1 3 := ⟨by kernel_rfl⟩
instance : StructT Try.prog 64 [(0, 1), (1, 1)] := ⟨by kernel_rfl⟩
instance : AggT Try.prog 65 2 := ⟨by kernel_rfl⟩
instance : ZeroT Try.prog 65 [.slice none 0 0, .int .i64 0] := ⟨by kernel_rfl⟩
instance : PlainT Try.prog 65 := ⟨by kernel_rfl⟩
instance : FieldT Try.prog 65 0 0 23 := ⟨by kernel_rfl⟩
instance : FieldT Try.prog 65 1 1 3 := ⟨by kernel_rfl⟩
instance : StructT Try.prog 65 [(0, 1), (1, 1)] := ⟨by kernel_rfl⟩
instance : CellT Try.prog 66 := ⟨by kernel_rfl⟩
instance : ZeroT Try.prog 66 [.nilFunc] := ⟨by kernel_rfl⟩
instance : PlainT Try.prog 66 := ⟨by kernel_rfl⟩
instance : SliceT Try.prog 67 70 3 24 := ⟨by kernel_rfl⟩
instance : CellT Try.prog 67 := ⟨by kernel_rfl⟩
instance : ZeroT Try.prog 67 [.slice none 0 0] := ⟨by kernel_rfl⟩
instance : PlainT Try.prog 67 := ⟨by kernel_rfl⟩
instance : CellT Try.prog 68 := ⟨by kernel_rfl⟩
instance : ZeroT Try.prog 68 [.nilFunc] := ⟨by kernel_rfl⟩
instance : PlainT Try.prog 68 := ⟨by kernel_rfl⟩
instance : AggT Try.prog 69 3 := ⟨by kernel_rfl⟩
instance : ZeroT Try.prog 69 [.int .i64 0, .int .i64 0, .int .i64 0] := ⟨by kernel_rfl⟩
instance : PlainT Try.prog 69 := ⟨by kernel_rfl⟩
instance : FieldT Try.prog 69 0 0 3 := ⟨by kernel_rfl⟩
instance : FieldT Try.prog 69 1 1 3 := ⟨by kernel_rfl⟩
instance : FieldT Try.prog 69 2 2 3 := ⟨by kernel_rfl⟩
instance : StructT Try.prog 69 [(0, 1), (1, 1), (2, 1)] := ⟨by kernel_rfl⟩
instance : AggT Try.prog 70 3 := ⟨by kernel_rfl⟩
instance : ZeroT Try.prog 70 [.int .i64 0, .int .i64 0, .int .i64 0] := ⟨by kernel_rfl⟩
instance : PlainT Try.prog 70 := ⟨by kernel_rfl⟩
instance : FieldT Try.prog 70 0 0 3 := ⟨by kernel_rfl⟩
instance : FieldT Try.prog 70 1 1 3 := ⟨by kernel_rfl⟩
instance : FieldT Try.prog 70 2 2 3 := ⟨by kernel_rfl⟩
instance : StructT Try.prog 70 [(0, 1), (1, 1), (2, 1)] := ⟨by kernel_rfl⟩
instance : AggT Try.prog 71 2 := ⟨by kernel_rfl⟩
instance : ZeroT Try.prog 71 [.int .i64 0, .int .i64 0] := ⟨by kernel_rfl⟩
instance : PlainT Try.prog 71 := ⟨by kernel_rfl⟩
instance : FieldT Try.prog 71 0 0 3 := ⟨by kernel_rfl⟩
instance : FieldT Try.prog 71 1 1 3 := ⟨by kernel_rfl⟩
instance : StructT Try.prog 71 [(0, 1), (1, 1)] := ⟨by kernel_rfl⟩
instance : AggT Try.prog 72 2 := ⟨by kernel_rfl⟩
instance : ZeroT Try.prog 72 [.int .i64 0, .int .i64 0] := ⟨by kernel_rfl⟩
instance : PlainT Try.prog 72 := ⟨by kernel_rfl⟩
instance : FieldT Try.prog 72 0 0 3 := ⟨by kernel_rfl⟩
instance : FieldT Try.prog 72 1 1 3 := ⟨by kernel_rfl⟩
instance : StructT Try.prog 72 [(0, 1), (1, 1)] := ⟨by kernel_rfl⟩
instance : CellT Try.prog 73 := ⟨by kernel_rfl⟩
instance : ZeroT Try.prog 73 [.nilIface] := ⟨by kernel_rfl⟩
instance : IfaceT Try.prog 73 := ⟨by kernel_rfl⟩
instance : CellT Try.prog 74 := ⟨by kernel_rfl⟩
instance : ZeroT Try.prog 74 [.nilIface] := ⟨by kernel_rfl⟩
instance : IfaceT Try.prog 74 := ⟨by kernel_rfl⟩
instance : AggT Try.prog 75 5 := ⟨by kernel_rfl⟩
instance : ZeroT Try.prog 75 [.slice none 0 0, .slice none 0 0, .slice none 0 0, .slice none 0 0, .nilIface] := ⟨by kernel_rfl⟩
instance : PlainT Try.prog 75 := ⟨by kernel_rfl⟩
instance : FieldT Try.prog 75 0 0 26 := ⟨by kernel_rfl⟩
instance : FieldT Try.prog 75 1 4 74 := ⟨by kernel_rfl⟩
instance : StructT Try.prog 75 [(0, 4), (4, 1)] := ⟨by kernel_rfl⟩
instance : AggT Try.prog 76 5 := ⟨by kernel_rfl⟩
instance : ZeroT Try.prog 76 [.slice none 0 0, .slice none 0 0, .slice none 0 0, .slice none 0 0, .nilIface] := ⟨by kernel_rfl⟩
instance : PlainT Try.prog 76 := ⟨by kernel_rfl⟩
instance : FieldT Try.prog 76 0 0 26 := ⟨by kernel_rfl⟩
instance : FieldT Try.prog 76 1 4 74 := ⟨by kernel_rfl⟩
instance : StructT Try.prog 76 [(0, 4), (4, 1)] := ⟨by kernel_rfl⟩
instance : CellT Try.prog 77 := ⟨by kernel_rfl⟩
instance : ZeroT Try.prog 77 [.nilFunc] := ⟨by kernel_rfl⟩
instance : PlainT Try.prog 77 := ⟨by kernel_rfl⟩
instance : CellT Try.prog 78 := ⟨by kernel_rfl⟩
instance : ZeroT Try.prog 78 [.nilFunc] := ⟨by kernel_rfl⟩
instance : PlainT Try.prog 78 := ⟨by kernel_rfl⟩
instance : CellT Try.prog 79 := ⟨by kernel_rfl⟩
instance : ZeroT Try.prog 79 [.nilFunc] := ⟨by kernel_rfl⟩
instance : PlainT Try.prog 79 := ⟨by kernel_rfl⟩
instance : CellT Try.prog 80 := ⟨by kernel_rfl⟩
instance : ZeroT Try.prog 80 [.nilFunc] := ⟨by kernel_rfl⟩
instance : PlainT Try.prog 80 := ⟨by kernel_rfl⟩
instance : CellT Try.prog 81 := ⟨by kernel_rfl⟩
instance : ZeroT Try.prog 81 [.nilFunc] := ⟨by kernel_rfl⟩
instance : PlainT Try.prog 81 := ⟨by kernel_rfl⟩
instance : AggT Try.prog 82 5 := ⟨by kernel_rfl⟩
instance : ZeroT Try.prog 82 [.slice none 0 0, .slice none 0 0, .slice none 0 0, .slice none 0 0, .slice none 0 0] := ⟨by kernel_rfl⟩
instance : PlainT Try.prog 82 := ⟨by kernel_rfl⟩
instance : FieldT Try.prog 82 0 0 26 := ⟨by kernel_rfl⟩
instance : FieldT Try.prog 82 1 4 22 := ⟨by kernel_rfl⟩
instance : StructT Try.prog 82 [(0, 4), (4, 1)] := ⟨by kernel_rfl⟩
instance : AggT Try.prog 83 5 := ⟨by kernel_rfl⟩
instance : ZeroT Try.prog 83 [.slice none 0 0, .slice none 0 0, .slice none 0 0, .slice none 0 0, .slice none 0 0] := ⟨by kernel_rfl⟩
instance : PlainT Try.prog 83 := ⟨by kernel_rfl⟩
instance : FieldT Try.prog 83 0 0 26 := ⟨by kernel_rfl⟩
instance : FieldT Try.prog 83 1 4 22 := ⟨by kernel_rfl⟩
instance : StructT Try.prog 83 [(0, 4), (4, 1)] := ⟨by kernel_rfl⟩
instance : CellT Try.prog 85 := ⟨by kernel_rfl⟩
instance : ZeroT Try.prog 85 [.nilFunc] := ⟨by kernel_rfl⟩
instance : PlainT Try.prog 85 := ⟨by kernel_rfl⟩
instance : CellT Try.prog 86 := ⟨by kernel_rfl⟩
instance : ZeroT Try.prog 86 [.pointer none] := ⟨by kernel_rfl⟩
instance : MethT Try.prog 86 "stratagem/idastar.visit" 61 true 92 := ⟨by kernel_rfl⟩
instance : PtrT Try.prog 86 := ⟨by kernel_rfl⟩
instance : PlainT Try.prog 86 := ⟨by kernel_rfl⟩
instance : CellT Try.prog 88 := ⟨by kernel_rfl⟩
instance : ZeroT Try.prog 88 [.nilFunc] := ⟨by kernel_rfl⟩
instance : PlainT Try.prog 88 := ⟨by kernel_rfl⟩
instance : CellT Try.prog 89 := ⟨by kernel_rfl⟩
instance : ZeroT Try.prog 89 [.pointer none] := ⟨by kernel_rfl⟩
instance : MethT Try.prog 89 "Applicable" 83 true 136 := ⟨by kernel_rfl⟩
instance : MethT Try.prog 89 "Count" 128 true 136 := ⟨by kernel_rfl⟩
instance : MethT Try.prog 89 "Successors" 76 true 136 := ⟨by kernel_rfl⟩
instance : MethT Try.prog 89 "stratagem/succgen.build" 73 true 136 := ⟨by kernel_rfl⟩
instance : MethT Try.prog 89 "stratagem/succgen.fact" 82 true 136 := ⟨by kernel_rfl⟩
instance : MethT Try.prog 89 "stratagem/succgen.find" 85 true 136 := ⟨by kernel_rfl⟩
instance : PtrT Try.prog 89 := ⟨by kernel_rfl⟩
instance : PlainT Try.prog 89 := ⟨by kernel_rfl⟩
instance : CellT Try.prog 90 := ⟨by kernel_rfl⟩
instance : ZeroT Try.prog 90 [.map none] := ⟨by kernel_rfl⟩
instance : PlainT Try.prog 90 := ⟨by kernel_rfl⟩
instance : AggT Try.prog 91 13 := ⟨by kernel_rfl⟩
instance : ZeroT Try.prog 91 [.slice none 0 0, .slice none 0 0, .slice none 0 0, .slice none 0 0, .pointer none, .pointer none, .int .i64 0, .int .i64 0, .int .i64 0, .int .i64 0, .map none, .slice none 0 0, .slice none 0 0] := ⟨by kernel_rfl⟩
instance : PlainT Try.prog 91 := ⟨by kernel_rfl⟩
instance : FieldT Try.prog 91 0 0 26 := ⟨by kernel_rfl⟩
instance : FieldT Try.prog 91 1 4 29 := ⟨by kernel_rfl⟩
instance : FieldT Try.prog 91 2 5 89 := ⟨by kernel_rfl⟩
instance : FieldT Try.prog 91 3 6 3 := ⟨by kernel_rfl⟩
instance : FieldT Try.prog 91 4 7 3 := ⟨by kernel_rfl⟩
instance : FieldT Try.prog 91 5 8 3 := ⟨by kernel_rfl⟩
instance : FieldT Try.prog 91 6 9 3 := ⟨by kernel_rfl⟩
instance : FieldT Try.prog 91 7 10 90 := ⟨by kernel_rfl⟩
instance : FieldT Try.prog 91 8 11 22 := ⟨by kernel_rfl⟩
instance : FieldT Try.prog 91 9 12 22 := ⟨by kernel_rfl⟩
instance : StructT Try.prog 91 [(0, 4), (4, 1), (5, 1), (6, 1), (7, 1), (8, 1), (9, 1), (10, 1), (11, 1), (12, 1)] := ⟨by kernel_rfl⟩
instance : AggT Try.prog 92 13 := ⟨by kernel_rfl⟩
instance : ZeroT Try.prog 92 [.slice none 0 0, .slice none 0 0, .slice none 0 0, .slice none 0 0, .pointer none, .pointer none, .int .i64 0, .int .i64 0, .int .i64 0, .int .i64 0, .map none, .slice none 0 0, .slice none 0 0] := ⟨by kernel_rfl⟩
instance : PlainT Try.prog 92 := ⟨by kernel_rfl⟩
instance : FieldT Try.prog 92 0 0 26 := ⟨by kernel_rfl⟩
instance : FieldT Try.prog 92 1 4 29 := ⟨by kernel_rfl⟩
instance : FieldT Try.prog 92 2 5 89 := ⟨by kernel_rfl⟩
instance : FieldT Try.prog 92 3 6 3 := ⟨by kernel_rfl⟩
instance : FieldT Try.prog 92 4 7 3 := ⟨by kernel_rfl⟩
instance : FieldT Try.prog 92 5 8 3 := ⟨by kernel_rfl⟩
instance : FieldT Try.prog 92 6 9 3 := ⟨by kernel_rfl⟩
instance : FieldT Try.prog 92 7 10 90 := ⟨by kernel_rfl⟩
instance : FieldT Try.prog 92 8 11 22 := ⟨by kernel_rfl⟩
instance : FieldT Try.prog 92 9 12 22 := ⟨by kernel_rfl⟩
instance : StructT Try.prog 92 [(0, 4), (4, 1), (5, 1), (6, 1), (7, 1), (8, 1), (9, 1), (10, 1), (11, 1), (12, 1)] := ⟨by kernel_rfl⟩
instance : CellT Try.prog 93 := ⟨by kernel_rfl⟩
instance : ZeroT Try.prog 93 [.nilFunc] := ⟨by kernel_rfl⟩
instance : PlainT Try.prog 93 := ⟨by kernel_rfl⟩
instance : CellT Try.prog 95 := ⟨by kernel_rfl⟩
instance : ZeroT Try.prog 95 [.nilFunc] := ⟨by kernel_rfl⟩
instance : PlainT Try.prog 95 := ⟨by kernel_rfl⟩
instance : CellT Try.prog 96 := ⟨by kernel_rfl⟩
instance : ZeroT Try.prog 96 [.nilFunc] := ⟨by kernel_rfl⟩
instance : PlainT Try.prog 96 := ⟨by kernel_rfl⟩
instance : CellT Try.prog 97 := ⟨by kernel_rfl⟩
instance : ZeroT Try.prog 97 [.nilFunc] := ⟨by kernel_rfl⟩
instance : PlainT Try.prog 97 := ⟨by kernel_rfl⟩
instance : AggT Try.prog 98 3 := ⟨by kernel_rfl⟩
instance : ZeroT Try.prog 98 [.slice none 0 0, .int .i64 0, .int .i64 0] := ⟨by kernel_rfl⟩
instance : PlainT Try.prog 98 := ⟨by kernel_rfl⟩
instance : FieldT Try.prog 98 0 0 23 := ⟨by kernel_rfl⟩
instance : FieldT Try.prog 98 1 1 3 := ⟨by kernel_rfl⟩
instance : FieldT Try.prog 98 2 2 3 := ⟨by kernel_rfl⟩
instance : StructT Try.prog 98 [(0, 1), (1, 1), (2, 1)] := ⟨by kernel_rfl⟩
instance : AggT Try.prog 99 3 := ⟨by kernel_rfl⟩
instance : ZeroT Try.prog 99 [.slice none 0 0, .int .i64 0, .int .i64 0] := ⟨by kernel_rfl⟩
instance : PlainT Try.prog 99 := ⟨by kernel_rfl⟩
instance : FieldT Try.prog 99 0 0 23 := ⟨by kernel_rfl⟩
instance : FieldT Try.prog 99 1 1 3 := ⟨by kernel_rfl⟩
instance : FieldT Try.prog 99 2 2 3 := ⟨by kernel_rfl⟩
instance : StructT Try.prog 99 [(0, 1), (1, 1), (2, 1)] := ⟨by kernel_rfl⟩
instance : CellT Try.prog 100 := ⟨by kernel_rfl⟩
instance : ZeroT Try.prog 100 [.pointer none] := ⟨by kernel_rfl⟩
instance : MethT Try.prog 100 "Max" 129 true 123 := ⟨by kernel_rfl⟩
instance : MethT Try.prog 100 "stratagem/relax.add" 63 true 123 := ⟨by kernel_rfl⟩
instance : MethT Try.prog 100 "stratagem/relax.number" 64 true 123 := ⟨by kernel_rfl⟩
instance : MethT Try.prog 100 "stratagem/relax.values" 131 true 123 := ⟨by kernel_rfl⟩
instance : PtrT Try.prog 100 := ⟨by kernel_rfl⟩
instance : PlainT Try.prog 100 := ⟨by kernel_rfl⟩
instance : CellT Try.prog 102 := ⟨by kernel_rfl⟩
instance : ZeroT Try.prog 102 [.nilFunc] := ⟨by kernel_rfl⟩
instance : PlainT Try.prog 102 := ⟨by kernel_rfl⟩
instance : AggT Try.prog 103 1 := ⟨by kernel_rfl⟩
instance : ZeroT Try.prog 103 [.pointer none] := ⟨by kernel_rfl⟩
instance : PlainT Try.prog 103 := ⟨by kernel_rfl⟩
instance : FieldT Try.prog 103 0 0 100 := ⟨by kernel_rfl⟩
instance : StructT Try.prog 103 [(0, 1)] := ⟨by kernel_rfl⟩
instance : AggT Try.prog 104 1 := ⟨by kernel_rfl⟩
instance : ZeroT Try.prog 104 [.pointer none] := ⟨by kernel_rfl⟩
instance : PlainT Try.prog 104 := ⟨by kernel_rfl⟩
instance : FieldT Try.prog 104 0 0 100 := ⟨by kernel_rfl⟩
instance : StructT Try.prog 104 [(0, 1)] := ⟨by kernel_rfl⟩
instance : CellT Try.prog 105 := ⟨by kernel_rfl⟩
instance : ZeroT Try.prog 105 [.nilFunc] := ⟨by kernel_rfl⟩
instance : PlainT Try.prog 105 := ⟨by kernel_rfl⟩
instance : CellT Try.prog 106 := ⟨by kernel_rfl⟩
instance : ZeroT Try.prog 106 [.nilFunc] := ⟨by kernel_rfl⟩
instance : PlainT Try.prog 106 := ⟨by kernel_rfl⟩
instance : SliceT Try.prog 107 29 1 8 := ⟨by kernel_rfl⟩
instance : CellT Try.prog 107 := ⟨by kernel_rfl⟩
instance : ZeroT Try.prog 107 [.slice none 0 0] := ⟨by kernel_rfl⟩
instance : PlainT Try.prog 107 := ⟨by kernel_rfl⟩
instance : CellT Try.prog 108 := ⟨by kernel_rfl⟩
instance : ZeroT Try.prog 108 [.nilFunc] := ⟨by kernel_rfl⟩
instance : PlainT Try.prog 108 := ⟨by kernel_rfl⟩
instance : SliceT Try.prog 109 23 1 24 := ⟨by kernel_rfl⟩
instance : CellT Try.prog 109 := ⟨by kernel_rfl⟩
instance : ZeroT Try.prog 109 [.slice none 0 0] := ⟨by kernel_rfl⟩
instance : PlainT Try.prog 109 := ⟨by kernel_rfl⟩
instance : CellT Try.prog 110 := ⟨by kernel_rfl⟩
instance : ZeroT Try.prog 110 [.nilFunc] := ⟨by kernel_rfl⟩
instance : PlainT Try.prog 110 := ⟨by kernel_rfl⟩
instance : CellT Try.prog 111 := ⟨by kernel_rfl⟩
instance : ZeroT Try.prog 111 [.nilFunc] := ⟨by kernel_rfl⟩
instance : PlainT Try.prog 111 := ⟨by kernel_rfl⟩
instance : CellT Try.prog 113 := ⟨by kernel_rfl⟩
instance : ZeroT Try.prog 113 [.nilFunc] := ⟨by kernel_rfl⟩
instance : PlainT Try.prog 113 := ⟨by kernel_rfl⟩
instance : CellT Try.prog 114 := ⟨by kernel_rfl⟩
instance : ZeroT Try.prog 114 [.nilFunc] := ⟨by kernel_rfl⟩
instance : PlainT Try.prog 114 := ⟨by kernel_rfl⟩
instance : CellT Try.prog 115 := ⟨by kernel_rfl⟩
instance : ZeroT Try.prog 115 [.nilFunc] := ⟨by kernel_rfl⟩
instance : PlainT Try.prog 115 := ⟨by kernel_rfl⟩
instance : CellT Try.prog 117 := ⟨by kernel_rfl⟩
instance : ZeroT Try.prog 117 [.nilFunc] := ⟨by kernel_rfl⟩
instance : PlainT Try.prog 117 := ⟨by kernel_rfl⟩
instance : CellT Try.prog 119 := ⟨by kernel_rfl⟩
instance : ZeroT Try.prog 119 [.nilFunc] := ⟨by kernel_rfl⟩
instance : PlainT Try.prog 119 := ⟨by kernel_rfl⟩
instance : CellT Try.prog 120 := ⟨by kernel_rfl⟩
instance : ZeroT Try.prog 120 [.nilFunc] := ⟨by kernel_rfl⟩
instance : PlainT Try.prog 120 := ⟨by kernel_rfl⟩
instance : SliceT Try.prog 121 127 5 56 := ⟨by kernel_rfl⟩
instance : CellT Try.prog 121 := ⟨by kernel_rfl⟩
instance : ZeroT Try.prog 121 [.slice none 0 0] := ⟨by kernel_rfl⟩
instance : PlainT Try.prog 121 := ⟨by kernel_rfl⟩
instance : AggT Try.prog 122 9 := ⟨by kernel_rfl⟩
instance : ZeroT Try.prog 122 [.slice none 0 0, .slice none 0 0, .slice none 0 0, .slice none 0 0, .slice none 0 0, .int .i64 0, .slice none 0 0, .slice none 0 0, .slice none 0 0] := ⟨by kernel_rfl⟩
instance : PlainT Try.prog 122 := ⟨by kernel_rfl⟩
instance : FieldT Try.prog 122 0 0 26 := ⟨by kernel_rfl⟩
instance : FieldT Try.prog 122 1 4 22 := ⟨by kernel_rfl⟩
instance : FieldT Try.prog 122 2 5 3 := ⟨by kernel_rfl⟩
instance : FieldT Try.prog 122 3 6 121 := ⟨by kernel_rfl⟩
instance : FieldT Try.prog 122 4 7 38 := ⟨by kernel_rfl⟩
instance : FieldT Try.prog 122 5 8 22 := ⟨by kernel_rfl⟩
instance : StructT Try.prog 122 [(0, 4), (4, 1), (5, 1), (6, 1), (7, 1), (8, 1)] := ⟨by kernel_rfl⟩
instance : AggT Try.prog 123 9 := ⟨by kernel_rfl⟩
instance : ZeroT Try.prog 123 [.slice none 0 0, .slice none 0 0, .slice none 0 0, .slice none 0 0, .slice none 0 0, .int .i64 0, .slice none 0 0, .slice none 0 0, .slice none 0 0] := ⟨by kernel_rfl⟩
instance : PlainT Try.prog 123 := ⟨by kernel_rfl⟩
instance : FieldT Try.prog 123 0 0 26 := ⟨by kernel_rfl⟩
instance : FieldT Try.prog 123 1 4 22 := ⟨by kernel_rfl⟩
instance : FieldT Try.prog 123 2 5 3 := ⟨by kernel_rfl⟩
instance : FieldT Try.prog 123 3 6 121 := ⟨by kernel_rfl⟩
instance : FieldT Try.prog 123 4 7 38 := ⟨by kernel_rfl⟩
instance : FieldT Try.prog 123 5 8 22 := ⟨by kernel_rfl⟩
instance : StructT Try.prog 123 [(0, 4), (4, 1), (5, 1), (6, 1), (7, 1), (8, 1)] := ⟨by kernel_rfl⟩
instance : CellT Try.prog 124 := ⟨by kernel_rfl⟩
instance : ZeroT Try.prog 124 [.nilFunc] := ⟨by kernel_rfl⟩
instance : PlainT Try.prog 124 := ⟨by kernel_rfl⟩
instance : CellT Try.prog 125 := ⟨by kernel_rfl⟩
instance : ZeroT Try.prog 125 [.nilFunc] := ⟨by kernel_rfl⟩
instance : PlainT Try.prog 125 := ⟨by kernel_rfl⟩
instance : AggT Try.prog 126 5 := ⟨by kernel_rfl⟩
instance : ZeroT Try.prog 126 [.int .i64 0, .int .i64 0, .int .i64 0, .int .i64 0, .slice none 0 0] := ⟨by kernel_rfl⟩
instance : PlainT Try.prog 126 := ⟨by kernel_rfl⟩
instance : FieldT Try.prog 126 0 0 3 := ⟨by kernel_rfl⟩
instance : FieldT Try.prog 126 1 1 3 := ⟨by kernel_rfl⟩
instance : FieldT Try.prog 126 2 2 3 := ⟨by kernel_rfl⟩
instance : FieldT Try.prog 126 3 3 3 := ⟨by kernel_rfl⟩
instance : FieldT Try.prog 126 4 4 22 := ⟨by kernel_rfl⟩
instance : StructT Try.prog 126 [(0, 1), (1, 1), (2, 1), (3, 1), (4, 1)] := ⟨by kernel_rfl⟩
instance : AggT Try.prog 127 5 := ⟨by kernel_rfl⟩
instance : ZeroT Try.prog 127 [.int .i64 0, .int .i64 0, .int .i64 0, .int .i64 0, .slice none 0 0] := ⟨by kernel_rfl⟩
instance : PlainT Try.prog 127 := ⟨by kernel_rfl⟩
instance : FieldT Try.prog 127 0 0 3 := ⟨by kernel_rfl⟩
instance : FieldT Try.prog 127 1 1 3 := ⟨by kernel_rfl⟩
instance : FieldT Try.prog 127 2 2 3 := ⟨by kernel_rfl⟩
instance : FieldT Try.prog 127 3 3 3 := ⟨by kernel_rfl⟩
instance : FieldT Try.prog 127 4 4 22 := ⟨by kernel_rfl⟩
instance : StructT Try.prog 127 [(0, 1), (1, 1), (2, 1), (3, 1), (4, 1)] := ⟨by kernel_rfl⟩
instance : CellT Try.prog 128 := ⟨by kernel_rfl⟩
instance : ZeroT Try.prog 128 [.nilFunc] := ⟨by kernel_rfl⟩
instance : PlainT Try.prog 128 := ⟨by kernel_rfl⟩
instance : CellT Try.prog 129 := ⟨by kernel_rfl⟩
instance : ZeroT Try.prog 129 [.nilFunc] := ⟨by kernel_rfl⟩
instance : PlainT Try.prog 129 := ⟨by kernel_rfl⟩
instance : CellT Try.prog 130 := ⟨by kernel_rfl⟩
instance : ZeroT Try.prog 130 [.nilFunc] := ⟨by kernel_rfl⟩
instance : PlainT Try.prog 130 := ⟨by kernel_rfl⟩
instance : CellT Try.prog 131 := ⟨by kernel_rfl⟩
instance : ZeroT Try.prog 131 [.nilFunc] := ⟨by kernel_rfl⟩
instance : PlainT Try.prog 131 := ⟨by kernel_rfl⟩
instance : CellT Try.prog 132 := ⟨by kernel_rfl⟩
instance : ZeroT Try.prog 132 [.nilFunc] := ⟨by kernel_rfl⟩
instance : PlainT Try.prog 132 := ⟨by kernel_rfl⟩
instance : CellT Try.prog 133 := ⟨by kernel_rfl⟩
instance : ZeroT Try.prog 133 [.nilFunc] := ⟨by kernel_rfl⟩
instance : PlainT Try.prog 133 := ⟨by kernel_rfl⟩
instance : CellT Try.prog 134 := ⟨by kernel_rfl⟩
instance : ZeroT Try.prog 134 [.pointer none] := ⟨by kernel_rfl⟩
instance : MethT Try.prog 134 "stratagem/succgen.collect" 86 true 151 := ⟨by kernel_rfl⟩
instance : PtrT Try.prog 134 := ⟨by kernel_rfl⟩
instance : PlainT Try.prog 134 := ⟨by kernel_rfl⟩
instance : AggT Try.prog 135 5 := ⟨by kernel_rfl⟩
instance : ZeroT Try.prog 135 [.slice none 0 0, .slice none 0 0, .slice none 0 0, .slice none 0 0, .pointer none] := ⟨by kernel_rfl⟩
instance : PlainT Try.prog 135 := ⟨by kernel_rfl⟩
instance : FieldT Try.prog 135 0 0 26 := ⟨by kernel_rfl⟩
instance : FieldT Try.prog 135 1 4 134 := ⟨by kernel_rfl⟩
instance : StructT Try.prog 135 [(0, 4), (4, 1)] := ⟨by kernel_rfl⟩
instance : AggT Try.prog 136 5 := ⟨by kernel_rfl⟩
instance : ZeroT Try.prog 136 [.slice none 0 0, .slice none 0 0, .slice none 0 0, .slice none 0 0, .pointer none] := ⟨by kernel_rfl⟩
instance : PlainT Try.prog 136 := ⟨by kernel_rfl⟩
instance : FieldT Try.prog 136 0 0 26 := ⟨by kernel_rfl⟩
instance : FieldT Try.prog 136 1 4 134 := ⟨by kernel_rfl⟩
instance : StructT Try.prog 136 [(0, 4), (4, 1)] := ⟨by kernel_rfl⟩
instance : CellT Try.prog 137 := ⟨by kernel_rfl⟩
instance : ZeroT Try.prog 137 [.nilFunc] := ⟨by kernel_rfl⟩
instance : PlainT Try.prog 137 := ⟨by kernel_rfl⟩
instance : CellT Try.prog 138 := ⟨by kernel_rfl⟩
instance : ZeroT Try.prog 138 [.nilFunc] := ⟨by kernel_rfl⟩
instance : PlainT Try.prog 138 := ⟨by kernel_rfl⟩
instance : SliceT Try.prog 139 142 2 32 := ⟨by kernel_rfl⟩
instance : CellT Try.prog 139 := ⟨by kernel_rfl⟩
instance : ZeroT Try.prog 139 [.slice none 0 0] := ⟨by kernel_rfl⟩
instance : PlainT Try.prog 139 := ⟨by kernel_rfl⟩
instance : CellT Try.prog 140 := ⟨by kernel_rfl⟩
instance : ZeroT Try.prog 140 [.nilFunc] := ⟨by kernel_rfl⟩
instance : PlainT Try.prog 140 := ⟨by kernel_rfl⟩
instance : AggT Try.prog 141 2 := ⟨by kernel_rfl⟩
instance : ZeroT Try.prog 141 [.int .i64 0, .slice none 0 0] := ⟨by kernel_rfl⟩
instance : PlainT Try.prog 141 := ⟨by kernel_rfl⟩
instance : FieldT Try.prog 141 0 0 3 := ⟨by kernel_rfl⟩
instance : FieldT Try.prog 141 1 1 22 := ⟨by kernel_rfl⟩
instance : StructT Try.prog 141 [(0, 1), (1, 1)] := ⟨by kernel_rfl⟩
instance : AggT Try.prog 142 2 := ⟨by kernel_rfl⟩
instance : ZeroT Try.prog 142 [.int .i64 0, .slice none 0 0] := ⟨by kernel_rfl⟩
instance : PlainT Try.prog 142 := ⟨by kernel_rfl⟩
instance : FieldT Try.prog 142 0 0 3 := ⟨by kernel_rfl⟩
instance : FieldT Try.prog 142 1 1 22 := ⟨by kernel_rfl⟩
instance : StructT Try.prog 142 [(0, 1), (1, 1)] := ⟨by kernel_rfl⟩
instance : CellT Try.prog 143 := ⟨by kernel_rfl⟩
instance : ZeroT Try.prog 143 [.nilFunc] := ⟨by kernel_rfl⟩
instance : PlainT Try.prog 143 := ⟨by kernel_rfl⟩
instance : CellT Try.prog 144 := ⟨by kernel_rfl⟩
instance : ZeroT Try.prog 144 [.nilFunc] := ⟨by kernel_rfl⟩
instance : PlainT Try.prog 144 := ⟨by kernel_rfl⟩
instance : CellT Try.prog 145 := ⟨by kernel_rfl⟩
instance : ZeroT Try.prog 145 [.nilFunc] := ⟨by kernel_rfl⟩
instance : PlainT Try.prog 145 := ⟨by kernel_rfl⟩
instance : CellT Try.prog 146 := ⟨by kernel_rfl⟩
instance : ZeroT Try.prog 146 [.nilFunc] := ⟨by kernel_rfl⟩
instance : PlainT Try.prog 146 := ⟨by kernel_rfl⟩
instance : CellT Try.prog 148 := ⟨by kernel_rfl⟩
instance : ZeroT Try.prog 148 [.nilFunc] := ⟨by kernel_rfl⟩
instance : PlainT Try.prog 148 := ⟨by kernel_rfl⟩
instance : SliceT Try.prog 149 134 1 8 := ⟨by kernel_rfl⟩
instance : CellT Try.prog 149 := ⟨by kernel_rfl⟩
instance : ZeroT Try.prog 149 [.slice none 0 0] := ⟨by kernel_rfl⟩
instance : PlainT Try.prog 149 := ⟨by kernel_rfl⟩
instance : AggT Try.prog 150 5 := ⟨by kernel_rfl⟩
instance : ZeroT Try.prog 150 [.slice none 0 0, .bool false, .int .i64 0, .slice none 0 0, .pointer none] := ⟨by kernel_rfl⟩
instance : PlainT Try.prog 150 := ⟨by kernel_rfl⟩
instance : FieldT Try.prog 150 0 0 22 := ⟨by kernel_rfl⟩
instance : FieldT Try.prog 150 1 1 4 := ⟨by kernel_rfl⟩
instance : FieldT Try.prog 150 2 2 3 := ⟨by kernel_rfl⟩
instance : FieldT Try.prog 150 3 3 149 := ⟨by kernel_rfl⟩
instance : FieldT Try.prog 150 4 4 134 := ⟨by kernel_rfl⟩
instance : StructT Try.prog 150 [(0, 1), (1, 1), (2, 1), (3, 1), (4, 1)] := ⟨by kernel_rfl⟩
instance : AggT Try.prog 151 5 := ⟨by kernel_rfl⟩
instance : ZeroT Try.prog 151 [.slice none 0 0, .bool false, .int .i64 0, .slice none 0 0, .pointer none] := ⟨by kernel_rfl⟩
instance : PlainT Try.prog 151 := ⟨by kernel_rfl⟩
instance : FieldT Try.prog 151 0 0 22 := ⟨by kernel_rfl⟩
instance : FieldT Try.prog 151 1 1 4 := ⟨by kernel_rfl⟩
instance : FieldT Try.prog 151 2 2 3 := ⟨by kernel_rfl⟩
instance : FieldT Try.prog 151 3 3 149 := ⟨by kernel_rfl⟩
instance : FieldT Try.prog 151 4 4 134 := ⟨by kernel_rfl⟩
instance : StructT Try.prog 151 [(0, 1), (1, 1), (2, 1), (3, 1), (4, 1)] := ⟨by kernel_rfl⟩
instance : SliceT Try.prog 152 5 1 1 := ⟨by kernel_rfl⟩
instance : CellT Try.prog 152 := ⟨by kernel_rfl⟩
instance : ZeroT Try.prog 152 [.slice none 0 0] := ⟨by kernel_rfl⟩
instance : PlainT Try.prog 152 := ⟨by kernel_rfl⟩
instance : CellT Try.prog 154 := ⟨by kernel_rfl⟩
instance : ZeroT Try.prog 154 [.nilFunc] := ⟨by kernel_rfl⟩
instance : PlainT Try.prog 154 := ⟨by kernel_rfl⟩
instance : SliceT Try.prog 155 4 1 1 := ⟨by kernel_rfl⟩
instance : CellT Try.prog 155 := ⟨by kernel_rfl⟩
instance : ZeroT Try.prog 155 [.slice none 0 0] := ⟨by kernel_rfl⟩
instance : PlainT Try.prog 155 := ⟨by kernel_rfl⟩
instance : CellT Try.prog 156 := ⟨by kernel_rfl⟩
instance : ZeroT Try.prog 156 [.nilFunc] := ⟨by kernel_rfl⟩
instance : PlainT Try.prog 156 := ⟨by kernel_rfl⟩
instance : CellT Try.prog 157 := ⟨by kernel_rfl⟩
instance : ZeroT Try.prog 157 [.nilFunc] := ⟨by kernel_rfl⟩
instance : PlainT Try.prog 157 := ⟨by kernel_rfl⟩
instance : CellT Try.prog 158 := ⟨by kernel_rfl⟩
instance : ZeroT Try.prog 158 [.nilFunc] := ⟨by kernel_rfl⟩
instance : PlainT Try.prog 158 := ⟨by kernel_rfl⟩
instance : CellT Try.prog 159 := ⟨by kernel_rfl⟩
instance : ZeroT Try.prog 159 [.nilFunc] := ⟨by kernel_rfl⟩
instance : PlainT Try.prog 159 := ⟨by kernel_rfl⟩
instance : CellT Try.prog 160 := ⟨by kernel_rfl⟩
instance : ZeroT Try.prog 160 [.int .u64 0] := ⟨by kernel_rfl⟩
instance : PlainT Try.prog 160 := ⟨by kernel_rfl⟩
instance : CellT Try.prog 161 := ⟨by kernel_rfl⟩
instance : ZeroT Try.prog 161 [.nilFunc] := ⟨by kernel_rfl⟩
instance : PlainT Try.prog 161 := ⟨by kernel_rfl⟩
instance : CellT Try.prog 162 := ⟨by kernel_rfl⟩
instance : ZeroT Try.prog 162 [.int .i64 0] := ⟨by kernel_rfl⟩
instance : PlainT Try.prog 162 := ⟨by kernel_rfl⟩
instance : CellT Try.prog 164 := ⟨by kernel_rfl⟩
instance : ZeroT Try.prog 164 [.nilFunc] := ⟨by kernel_rfl⟩
instance : PlainT Try.prog 164 := ⟨by kernel_rfl⟩
instance : CellT Try.prog 165 := ⟨by kernel_rfl⟩
instance : ZeroT Try.prog 165 [.nilFunc] := ⟨by kernel_rfl⟩
instance : PlainT Try.prog 165 := ⟨by kernel_rfl⟩
instance : CellT Try.prog 166 := ⟨by kernel_rfl⟩
instance : ZeroT Try.prog 166 [.nilFunc] := ⟨by kernel_rfl⟩
instance : PlainT Try.prog 166 := ⟨by kernel_rfl⟩
instance : CellT Try.prog 167 := ⟨by kernel_rfl⟩
instance : ZeroT Try.prog 167 [.nilFunc] := ⟨by kernel_rfl⟩
instance : PlainT Try.prog 167 := ⟨by kernel_rfl⟩
instance : CellT Try.prog 168 := ⟨by kernel_rfl⟩
instance : ZeroT Try.prog 168 [.nilFunc] := ⟨by kernel_rfl⟩
instance : PlainT Try.prog 168 := ⟨by kernel_rfl⟩
instance : CellT Try.prog 169 := ⟨by kernel_rfl⟩
instance : ZeroT Try.prog 169 [.nilFunc] := ⟨by kernel_rfl⟩
instance : PlainT Try.prog 169 := ⟨by kernel_rfl⟩
instance : CellT Try.prog 170 := ⟨by kernel_rfl⟩
instance : ZeroT Try.prog 170 [.int .u32 0] := ⟨by kernel_rfl⟩
instance : PlainT Try.prog 170 := ⟨by kernel_rfl⟩
instance : CellT Try.prog 171 := ⟨by kernel_rfl⟩
instance : ZeroT Try.prog 171 [.nilFunc] := ⟨by kernel_rfl⟩
instance : PlainT Try.prog 171 := ⟨by kernel_rfl⟩
instance : CellT Try.prog 172 := ⟨by kernel_rfl⟩
instance : ZeroT Try.prog 172 [.int .u64 0] := ⟨by kernel_rfl⟩
instance : PlainT Try.prog 172 := ⟨by kernel_rfl⟩
instance : CellT Try.prog 173 := ⟨by kernel_rfl⟩
instance : ZeroT Try.prog 173 [.int .u64 0] := ⟨by kernel_rfl⟩
instance : PlainT Try.prog 173 := ⟨by kernel_rfl⟩
instance : CellT Try.prog 174 := ⟨by kernel_rfl⟩
instance : ZeroT Try.prog 174 [.nilFunc] := ⟨by kernel_rfl⟩
instance : PlainT Try.prog 174 := ⟨by kernel_rfl⟩
instance : CellT Try.prog 175 := ⟨by kernel_rfl⟩
instance : ZeroT Try.prog 175 [.nilFunc] := ⟨by kernel_rfl⟩
instance : PlainT Try.prog 175 := ⟨by kernel_rfl⟩
instance : CellT Try.prog 176 := ⟨by kernel_rfl⟩
instance : ZeroT Try.prog 176 [.nilFunc] := ⟨by kernel_rfl⟩
instance : PlainT Try.prog 176 := ⟨by kernel_rfl⟩
instance : CellT Try.prog 177 := ⟨by kernel_rfl⟩
instance : ZeroT Try.prog 177 [.pointer none] := ⟨by kernel_rfl⟩
instance : PtrT Try.prog 177 := ⟨by kernel_rfl⟩
instance : PlainT Try.prog 177 := ⟨by kernel_rfl⟩
instance : CellT Try.prog 178 := ⟨by kernel_rfl⟩
instance : ZeroT Try.prog 178 [.nilFunc] := ⟨by kernel_rfl⟩
instance : PlainT Try.prog 178 := ⟨by kernel_rfl⟩
instance : CellT Try.prog 179 := ⟨by kernel_rfl⟩
instance : ZeroT Try.prog 179 [.pointer none] := ⟨by kernel_rfl⟩
instance : MethT Try.prog 179 "Next" 103 true 173 := ⟨by kernel_rfl⟩
instance : PtrT Try.prog 179 := ⟨by kernel_rfl⟩
instance : PlainT Try.prog 179 := ⟨by kernel_rfl⟩
instance : CellT Try.prog 181 := ⟨by kernel_rfl⟩
instance : ZeroT Try.prog 181 [.nilFunc] := ⟨by kernel_rfl⟩
instance : PlainT Try.prog 181 := ⟨by kernel_rfl⟩
instance : CellT Try.prog 182 := ⟨by kernel_rfl⟩
instance : ZeroT Try.prog 182 [.nilFunc] := ⟨by kernel_rfl⟩
instance : PlainT Try.prog 182 := ⟨by kernel_rfl⟩
instance : AggT Try.prog 183 4 := ⟨by kernel_rfl⟩
instance : ZeroT Try.prog 183 [.pointer none, .pointer none, .pointer none, .string ByteArray.empty] := ⟨by kernel_rfl⟩
instance : PlainT Try.prog 183 := ⟨by kernel_rfl⟩
instance : FieldT Try.prog 183 0 0 17 := ⟨by kernel_rfl⟩
instance : FieldT Try.prog 183 1 1 17 := ⟨by kernel_rfl⟩
instance : FieldT Try.prog 183 2 2 17 := ⟨by kernel_rfl⟩
instance : FieldT Try.prog 183 3 3 9 := ⟨by kernel_rfl⟩
instance : StructT Try.prog 183 [(0, 1), (1, 1), (2, 1), (3, 1)] := ⟨by kernel_rfl⟩
instance : AggT Try.prog 184 4 := ⟨by kernel_rfl⟩
instance : ZeroT Try.prog 184 [.pointer none, .pointer none, .pointer none, .string ByteArray.empty] := ⟨by kernel_rfl⟩
instance : PlainT Try.prog 184 := ⟨by kernel_rfl⟩
instance : FieldT Try.prog 184 0 0 17 := ⟨by kernel_rfl⟩
instance : FieldT Try.prog 184 1 1 17 := ⟨by kernel_rfl⟩
instance : FieldT Try.prog 184 2 2 17 := ⟨by kernel_rfl⟩
instance : FieldT Try.prog 184 3 3 9 := ⟨by kernel_rfl⟩
instance : StructT Try.prog 184 [(0, 1), (1, 1), (2, 1), (3, 1)] := ⟨by kernel_rfl⟩
instance : AggT Try.prog 185 0 := ⟨by kernel_rfl⟩
instance : ZeroT Try.prog 185 [] := ⟨by kernel_rfl⟩
instance : PlainT Try.prog 185 := ⟨by kernel_rfl⟩
instance : AggT Try.prog 186 0 := ⟨by kernel_rfl⟩
instance : ZeroT Try.prog 186 [] := ⟨by kernel_rfl⟩
instance : PlainT Try.prog 186 := ⟨by kernel_rfl⟩
instance : StructT Try.prog 186 [(0, 0)] := ⟨by kernel_rfl⟩
instance : AggT Try.prog 187 0 := ⟨by kernel_rfl⟩
instance : ZeroT Try.prog 187 [] := ⟨by kernel_rfl⟩
instance : PlainT Try.prog 187 := ⟨by kernel_rfl⟩
instance : StructT Try.prog 187 [(0, 0)] := ⟨by kernel_rfl⟩
instance : CellT Try.prog 188 := ⟨by kernel_rfl⟩
instance : ZeroT Try.prog 188 [.nilFunc] := ⟨by kernel_rfl⟩
instance : PlainT Try.prog 188 := ⟨by kernel_rfl⟩
instance : CellT Try.prog 189 := ⟨by kernel_rfl⟩
instance : ZeroT Try.prog 189 [.int .u8 0] := ⟨by kernel_rfl⟩
instance : PlainT Try.prog 189 := ⟨by kernel_rfl⟩
instance : CellT Try.prog 190 := ⟨by kernel_rfl⟩
instance : ZeroT Try.prog 190 [.int .u8 0] := ⟨by kernel_rfl⟩
instance : PlainT Try.prog 190 := ⟨by kernel_rfl⟩
instance : CellT Try.prog 191 := ⟨by kernel_rfl⟩
instance : ZeroT Try.prog 191 [.nilFunc] := ⟨by kernel_rfl⟩
instance : PlainT Try.prog 191 := ⟨by kernel_rfl⟩
instance : CellT Try.prog 192 := ⟨by kernel_rfl⟩
instance : ZeroT Try.prog 192 [.pointer none] := ⟨by kernel_rfl⟩
instance : PtrT Try.prog 192 := ⟨by kernel_rfl⟩
instance : PlainT Try.prog 192 := ⟨by kernel_rfl⟩
instance : CellT Try.prog 193 := ⟨by kernel_rfl⟩
instance : ZeroT Try.prog 193 [.int .i32 0] := ⟨by kernel_rfl⟩
instance : PlainT Try.prog 193 := ⟨by kernel_rfl⟩
instance : CellT Try.prog 194 := ⟨by kernel_rfl⟩
instance : ZeroT Try.prog 194 [.int .i32 0] := ⟨by kernel_rfl⟩
instance : PlainT Try.prog 194 := ⟨by kernel_rfl⟩
instance : AggT Try.prog 195 11 := ⟨by kernel_rfl⟩
instance : ZeroT Try.prog 195 [.int .u64 0, .int .u64 0, .int .u32 0, .int .u8 0, .int .u8 0, .int .u8 0, .int .u8 0, .nilFunc, .pointer none, .int .i32 0, .int .i32 0] := ⟨by kernel_rfl⟩
instance : PlainT Try.prog 195 := ⟨by kernel_rfl⟩
instance : FieldT Try.prog 195 0 0 12 := ⟨by kernel_rfl⟩
instance : FieldT Try.prog 195 1 1 12 := ⟨by kernel_rfl⟩
instance : FieldT Try.prog 195 2 2 170 := ⟨by kernel_rfl⟩
instance : FieldT Try.prog 195 3 3 189 := ⟨by kernel_rfl⟩
instance : FieldT Try.prog 195 4 4 5 := ⟨by kernel_rfl⟩
instance : FieldT Try.prog 195 5 5 5 := ⟨by kernel_rfl⟩
instance : FieldT Try.prog 195 6 6 190 := ⟨by kernel_rfl⟩
instance : FieldT Try.prog 195 7 7 191 := ⟨by kernel_rfl⟩
instance : FieldT Try.prog 195 8 8 192 := ⟨by kernel_rfl⟩
instance : FieldT Try.prog 195 9 9 193 := ⟨by kernel_rfl⟩
instance : FieldT Try.prog 195 10 10 194 := ⟨by kernel_rfl⟩
instance : StructT Try.prog 195 [(0, 1), (1, 1), (2, 1), (3, 1), (4, 1), (5, 1), (6, 1), (7, 1), (8, 1), (9, 1), (10, 1)] := ⟨by kernel_rfl⟩
instance : AggT Try.prog 196 11 := ⟨by kernel_rfl⟩
instance : ZeroT Try.prog 196 [.int .u64 0, .int .u64 0, .int .u32 0, .int .u8 0, .int .u8 0, .int .u8 0, .int .u8 0, .nilFunc, .pointer none, .int .i32 0, .int .i32 0] := ⟨by kernel_rfl⟩
instance : PlainT Try.prog 196 := ⟨by kernel_rfl⟩
instance : FieldT Try.prog 196 0 0 12 := ⟨by kernel_rfl⟩
instance : FieldT Try.prog 196 1 1 12 := ⟨by kernel_rfl⟩
instance : FieldT Try.prog 196 2 2 170 := ⟨by kernel_rfl⟩
instance : FieldT Try.prog 196 3 3 189 := ⟨by kernel_rfl⟩
instance : FieldT Try.prog 196 4 4 5 := ⟨by kernel_rfl⟩
instance : FieldT Try.prog 196 5 5 5 := ⟨by kernel_rfl⟩
instance : FieldT Try.prog 196 6 6 190 := ⟨by kernel_rfl⟩
instance : FieldT Try.prog 196 7 7 191 := ⟨by kernel_rfl⟩
instance : FieldT Try.prog 196 8 8 192 := ⟨by kernel_rfl⟩
instance : FieldT Try.prog 196 9 9 193 := ⟨by kernel_rfl⟩
instance : FieldT Try.prog 196 10 10 194 := ⟨by kernel_rfl⟩
instance : StructT Try.prog 196 [(0, 1), (1, 1), (2, 1), (3, 1), (4, 1), (5, 1), (6, 1), (7, 1), (8, 1), (9, 1), (10, 1)] := ⟨by kernel_rfl⟩
instance : CellT Try.prog 198 := ⟨by kernel_rfl⟩
instance : ZeroT Try.prog 198 [.nilFunc] := ⟨by kernel_rfl⟩
instance : PlainT Try.prog 198 := ⟨by kernel_rfl⟩
instance : CellT Try.prog 199 := ⟨by kernel_rfl⟩
instance : ZeroT Try.prog 199 [.nilFunc] := ⟨by kernel_rfl⟩
instance : PlainT Try.prog 199 := ⟨by kernel_rfl⟩
instance : CellT Try.prog 200 := ⟨by kernel_rfl⟩
instance : ZeroT Try.prog 200 [.nilFunc] := ⟨by kernel_rfl⟩
instance : PlainT Try.prog 200 := ⟨by kernel_rfl⟩
instance : CellT Try.prog 201 := ⟨by kernel_rfl⟩
instance : ZeroT Try.prog 201 [.map none] := ⟨by kernel_rfl⟩
instance : PlainT Try.prog 201 := ⟨by kernel_rfl⟩
instance : SliceT Try.prog 202 207 2 16 := ⟨by kernel_rfl⟩
instance : CellT Try.prog 202 := ⟨by kernel_rfl⟩
instance : ZeroT Try.prog 202 [.slice none 0 0] := ⟨by kernel_rfl⟩
instance : PlainT Try.prog 202 := ⟨by kernel_rfl⟩
instance : SliceT Try.prog 203 207 2 16 := ⟨by kernel_rfl⟩
instance : CellT Try.prog 203 := ⟨by kernel_rfl⟩
instance : ZeroT Try.prog 203 [.slice none 0 0] := ⟨by kernel_rfl⟩
instance : PlainT Try.prog 203 := ⟨by kernel_rfl⟩
instance : CellT Try.prog 204 := ⟨by kernel_rfl⟩
instance : ZeroT Try.prog 204 [.nilFunc] := ⟨by kernel_rfl⟩
instance : PlainT Try.prog 204 := ⟨by kernel_rfl⟩
instance : CellT Try.prog 205 := ⟨by kernel_rfl⟩
instance : ZeroT Try.prog 205 [.pointer none] := ⟨by kernel_rfl⟩
instance : MethT Try.prog 205 "Len" 134 false 203 := ⟨by kernel_rfl⟩
instance : MethT Try.prog 205 "Less" 140 false 203 := ⟨by kernel_rfl⟩
instance : MethT Try.prog 205 "Pop" 142 true 203 := ⟨by kernel_rfl⟩
instance : MethT Try.prog 205 "Push" 143 true 203 := ⟨by kernel_rfl⟩
instance : MethT Try.prog 205 "Swap" 141 false 203 := ⟨by kernel_rfl⟩
instance : PtrT Try.prog 205 := ⟨by kernel_rfl⟩
instance : PlainT Try.prog 205 := ⟨by kernel_rfl⟩
instance : AggT Try.prog 206 2 := ⟨by kernel_rfl⟩
instance : ZeroT Try.prog 206 [.int .i64 0, .int .i64 0] := ⟨by kernel_rfl⟩
instance : PlainT Try.prog 206 := ⟨by kernel_rfl⟩
instance : FieldT Try.prog 206 0 0 3 := ⟨by kernel_rfl⟩
instance : FieldT Try.prog 206 1 1 3 := ⟨by kernel_rfl⟩
instance : StructT Try.prog 206 [(0, 1), (1, 1)] := ⟨by kernel_rfl⟩
instance : AggT Try.prog 207 2 := ⟨by kernel_rfl⟩
instance : ZeroT Try.prog 207 [.int .i64 0, .int .i64 0] := ⟨by kernel_rfl⟩
instance : PlainT Try.prog 207 := ⟨by kernel_rfl⟩
instance : FieldT Try.prog 207 0 0 3 := ⟨by kernel_rfl⟩
instance : FieldT Try.prog 207 1 1 3 := ⟨by kernel_rfl⟩
instance : StructT Try.prog 207 [(0, 1), (1, 1)] := ⟨by kernel_rfl⟩
instance : CellT Try.prog 208 := ⟨by kernel_rfl⟩
instance : ZeroT Try.prog 208 [.nilFunc] := ⟨by kernel_rfl⟩
instance : PlainT Try.prog 208 := ⟨by kernel_rfl⟩
instance : CellT Try.prog 210 := ⟨by kernel_rfl⟩
instance : ZeroT Try.prog 210 [.nilFunc] := ⟨by kernel_rfl⟩
instance : PlainT Try.prog 210 := ⟨by kernel_rfl⟩
instance : CellT Try.prog 211 := ⟨by kernel_rfl⟩
instance : ZeroT Try.prog 211 [.nilIface] := ⟨by kernel_rfl⟩
instance : IfaceT Try.prog 211 := ⟨by kernel_rfl⟩
instance : CellT Try.prog 212 := ⟨by kernel_rfl⟩
instance : ZeroT Try.prog 212 [.nilIface] := ⟨by kernel_rfl⟩
instance : IfaceT Try.prog 212 := ⟨by kernel_rfl⟩
instance : CellT Try.prog 213 := ⟨by kernel_rfl⟩
instance : ZeroT Try.prog 213 [.nilFunc] := ⟨by kernel_rfl⟩
instance : PlainT Try.prog 213 := ⟨by kernel_rfl⟩
instance : CellT Try.prog 214 := ⟨by kernel_rfl⟩
instance : ZeroT Try.prog 214 [.nilFunc] := ⟨by kernel_rfl⟩
instance : PlainT Try.prog 214 := ⟨by kernel_rfl⟩
instance : CellT Try.prog 215 := ⟨by kernel_rfl⟩
instance : ZeroT Try.prog 215 [.nilFunc] := ⟨by kernel_rfl⟩
instance : PlainT Try.prog 215 := ⟨by kernel_rfl⟩
instance : CellT Try.prog 216 := ⟨by kernel_rfl⟩
instance : ZeroT Try.prog 216 [.nilFunc] := ⟨by kernel_rfl⟩
instance : PlainT Try.prog 216 := ⟨by kernel_rfl⟩
instance : CellT Try.prog 217 := ⟨by kernel_rfl⟩
instance : ZeroT Try.prog 217 [.pointer none] := ⟨by kernel_rfl⟩
instance : PlainT Try.prog 217 := ⟨by kernel_rfl⟩
-- 3 stratagem/stratagemlaw47.EstimateBlind
instance : CallT Try.prog 3 := ⟨by kernel_rfl⟩
-- 4 stratagem/stratagemlaw47.EstimateTable
instance : CallT Try.prog 4 := ⟨by kernel_rfl⟩
-- 5 stratagem/stratagemlaw50.IdastarRounds
instance : CallT Try.prog 5 := ⟨by kernel_rfl⟩
-- 6 stratagem/stratagembase.Small
instance : CallT Try.prog 6 := ⟨by kernel_rfl⟩
-- 7 stratagem/stratagemlaw47.awake
instance : CallT Try.prog 7 := ⟨by kernel_rfl⟩
-- 8 stratagem/estimate.Blind
instance : CallT Try.prog 8 := ⟨by kernel_rfl⟩
-- 9 stratagem/stratagembase.Distances
instance : CallT Try.prog 9 := ⟨by kernel_rfl⟩
-- 10 stratagem/stratagembase.States
instance : CallT Try.prog 10 := ⟨by kernel_rfl⟩
-- 11 stratagem/stratagembase.Holds
instance : CallT Try.prog 11 := ⟨by kernel_rfl⟩
-- 12 (*stratagem/estimate.Estimate).Value
instance : CallT Try.prog 12 := ⟨by kernel_rfl⟩
-- 13 (*stratagem/estimate.Estimate).Dead
instance : CallT Try.prog 13 := ⟨by kernel_rfl⟩
-- 14 stratagem/estimate.Table
instance : CallT Try.prog 14 := ⟨by kernel_rfl⟩
-- 15 stratagem/stratagembase.Many
instance : CallT Try.prog 15 := ⟨by kernel_rfl⟩
-- 16 stratagem/stratagembase.Num
instance : CallT Try.prog 16 := ⟨by kernel_rfl⟩
-- 17 stratagem/stratagemlaw50.fits
instance : CallT Try.prog 17 := ⟨by kernel_rfl⟩
-- 18 stratagem/stratagemlaw50.awake
instance : CallT Try.prog 18 := ⟨by kernel_rfl⟩
-- 19 stratagem/idastar.Rounds
instance : CallT Try.prog 19 := ⟨by kernel_rfl⟩
-- 20 stratagem/idastar.Search
instance : CallT Try.prog 20 := ⟨by kernel_rfl⟩
-- 21 stratagem/stratagembase.Is
instance : CallT Try.prog 21 := ⟨by kernel_rfl⟩
-- 22 stratagem/stratagembase.Ints
instance : CallT Try.prog 22 := ⟨by kernel_rfl⟩
-- 23 stratagem/stratagemref50.Rounds
instance : CallT Try.prog 23 := ⟨by kernel_rfl⟩
-- 24 stratagem/stratagembase.Good
instance : CallT Try.prog 24 := ⟨by kernel_rfl⟩
-- 25 stratagem/stratagemlaw47.chain
instance : CallT Try.prog 25 := ⟨by kernel_rfl⟩
-- 26 stratagem/estimate.HMax
instance : CallT Try.prog 26 := ⟨by kernel_rfl⟩
-- 27 stratagem/estimate.Best
instance : CallT Try.prog 27 := ⟨by kernel_rfl⟩
-- 28 (*stratagem/estimate.Estimate).For
instance : CallT Try.prog 28 := ⟨by kernel_rfl⟩
-- 29 stratagem/estimate.made
instance : CallT Try.prog 29 := ⟨by kernel_rfl⟩
-- 30 stratagem/estimate.facts
instance : CallT Try.prog 30 := ⟨by kernel_rfl⟩
-- 31 stratagem/task.Check
instance : CallT Try.prog 31 := ⟨by kernel_rfl⟩
-- 32 stratagem/stratagembase.Edges
instance : CallT Try.prog 32 := ⟨by kernel_rfl⟩
-- 33 stratagem/task.Proper
instance : CallT Try.prog 33 := ⟨by kernel_rfl⟩
-- 34 stratagem/task.States
instance : CallT Try.prog 34 := ⟨by kernel_rfl⟩
-- 35 slices.ContainsFunc[[]int,int]
instance : CallT Try.prog 35 := ⟨by kernel_rfl⟩
-- 36 stratagem/estimate.Table$1
instance : CallT Try.prog 36 := ⟨by kernel_rfl⟩
-- 37 stratagem/estimate.copied
instance : CallT Try.prog 37 := ⟨by kernel_rfl⟩
-- 38 slices.Clone[[]int,int]
instance : CallT Try.prog 38 := ⟨by kernel_rfl⟩
-- 39 stratagem/stratagemlaw50.example
instance : CallT Try.prog 39 := ⟨by kernel_rfl⟩
-- 40 stratagem/stratagembase.Result
instance : CallT Try.prog 40 := ⟨by kernel_rfl⟩
-- 41 stratagem/idastar.run
instance : CallT Try.prog 41 := ⟨by kernel_rfl⟩
-- 42 stratagem/stratagembase.Rank
instance : CallT Try.prog 42 := ⟨by kernel_rfl⟩
-- 43 stratagem/stratagemref50.Round
instance : CallT Try.prog 43 := ⟨by kernel_rfl⟩
-- 44 stratagem/stratagembase.State
instance : CallT Try.prog 44 := ⟨by kernel_rfl⟩
-- 45 stratagem/stratagembase.Proper
instance : CallT Try.prog 45 := ⟨by kernel_rfl⟩
-- 46 stratagem/stratagembase.operator
instance : CallT Try.prog 46 := ⟨by kernel_rfl⟩
-- 47 stratagem/relax.New
instance : CallT Try.prog 47 := ⟨by kernel_rfl⟩
-- 48 slices.Contains[[]*stratagem/estimate.Estimate,*stratagem/estimate.Estimate]
instance : CallT Try.prog 48 := ⟨by kernel_rfl⟩
-- 49 stratagem/estimate.same
instance : CallT Try.prog 49 := ⟨by kernel_rfl⟩
-- 50 slices.Clone[[]*stratagem/estimate.Estimate,*stratagem/estimate.Estimate]
instance : CallT Try.prog 50 := ⟨by kernel_rfl⟩
-- 51 slices.Clone[[]stratagem/api.Fact,stratagem/api.Fact]
instance : CallT Try.prog 51 := ⟨by kernel_rfl⟩
-- 52 stratagem/task.large
instance : CallT Try.prog 52 := ⟨by kernel_rfl⟩
-- 53 stratagem/task.conditions
instance : CallT Try.prog 53 := ⟨by kernel_rfl⟩
-- 54 stratagem/task.Facts
instance : CallT Try.prog 54 := ⟨by kernel_rfl⟩
-- 55 stratagem/task.named
instance : CallT Try.prog 55 := ⟨by kernel_rfl⟩
-- 56 stratagem/stratagembase.Apply
instance : CallT Try.prog 56 := ⟨by kernel_rfl⟩
-- 57 slices.IndexFunc[[]int,int]
instance : CallT Try.prog 57 := ⟨by kernel_rfl⟩
-- 58 slices.Clone[[]stratagem/api.Effect,stratagem/api.Effect]
instance : CallT Try.prog 58 := ⟨by kernel_rfl⟩
-- 59 stratagem/stratagembase.Cost
instance : CallT Try.prog 59 := ⟨by kernel_rfl⟩
-- 60 stratagem/succgen.New
instance : CallT Try.prog 60 := ⟨by kernel_rfl⟩
-- 61 (*stratagem/idastar.search).visit
instance : CallT Try.prog 61 := ⟨by kernel_rfl⟩
-- 62 stratagem/stratagemref50.visit
instance : CallT Try.prog 62 := ⟨by kernel_rfl⟩
-- 63 (*stratagem/relax.Relaxation).add
instance : CallT Try.prog 63 := ⟨by kernel_rfl⟩
-- 64 (*stratagem/relax.Relaxation).number
instance : CallT Try.prog 64 := ⟨by kernel_rfl⟩
-- 65 slices.Index[[]*stratagem/estimate.Estimate,*stratagem/estimate.Estimate]
instance : CallT Try.prog 65 := ⟨by kernel_rfl⟩
-- 66 slices.Equal[[]int,int]
instance : CallT Try.prog 66 := ⟨by kernel_rfl⟩
-- 67 slices.Equal[[]stratagem/api.Fact,stratagem/api.Fact]
instance : CallT Try.prog 67 := ⟨by kernel_rfl⟩
-- 68 slices.EqualFunc[[]stratagem/api.Op,[]stratagem/api.Op,stratagem/api.Op,stratagem/api.Op]
instance : CallT Try.prog 68 := ⟨by kernel_rfl⟩
-- 69 stratagem/estimate.sameOp
instance : CallT Try.prog 69 := ⟨by kernel_rfl⟩
-- 70 slices.ContainsFunc[[][]stratagem/api.Fact,[]stratagem/api.Fact]
instance : CallT Try.prog 70 := ⟨by kernel_rfl⟩
-- 71 stratagem/task.large$1
instance : CallT Try.prog 71 := ⟨by kernel_rfl⟩
-- 72 stratagem/succgen.copied
instance : CallT Try.prog 72 := ⟨by kernel_rfl⟩
-- 73 (*stratagem/succgen.Generator).build
instance : CallT Try.prog 73 := ⟨by kernel_rfl⟩
-- 74 stratagem/idastar.key
instance : CallT Try.prog 74 := ⟨by kernel_rfl⟩
-- 75 stratagem/task.Holds
instance : CallT Try.prog 75 := ⟨by kernel_rfl⟩
-- 76 (*stratagem/succgen.Generator).Successors
instance : CallT Try.prog 76 := ⟨by kernel_rfl⟩
-- 77 slices.Contains[[]int,int]
instance : CallT Try.prog 77 := ⟨by kernel_rfl⟩
-- 78 slices.EqualFunc[[]stratagem/api.Effect,[]stratagem/api.Effect,stratagem/api.Effect,stratagem/api.Effect]
instance : CallT Try.prog 78 := ⟨by kernel_rfl⟩
-- 79 stratagem/estimate.sameEffect
instance : CallT Try.prog 79 := ⟨by kernel_rfl⟩
-- 80 slices.IndexFunc[[][]stratagem/api.Fact,[]stratagem/api.Fact]
instance : CallT Try.prog 80 := ⟨by kernel_rfl⟩
-- 81 (*stratagem/succgen.Generator).build$1
instance : CallT Try.prog 81 := ⟨by kernel_rfl⟩
-- 82 (*stratagem/succgen.Generator).fact
instance : CallT Try.prog 82 := ⟨by kernel_rfl⟩
-- 83 (*stratagem/succgen.Generator).Applicable
instance : CallT Try.prog 83 := ⟨by kernel_rfl⟩
-- 84 slices.Index[[]int,int]
instance : CallT Try.prog 84 := ⟨by kernel_rfl⟩
-- 85 (*stratagem/succgen.Generator).find
instance : CallT Try.prog 85 := ⟨by kernel_rfl⟩
-- 86 (*stratagem/succgen.node).collect
instance : CallT Try.prog 86 := ⟨by kernel_rfl⟩
-- 87 slices.Sort[[]int,int]
instance : CallT Try.prog 87 := ⟨by kernel_rfl⟩
-- 88 slices.pdqsortOrdered[int]
instance : CallT Try.prog 88 := ⟨by kernel_rfl⟩
-- 89 math/bits.Len
instance : CallT Try.prog 89 := ⟨by kernel_rfl⟩
-- 90 slices.insertionSortOrdered[int]
instance : CallT Try.prog 90 := ⟨by kernel_rfl⟩
-- 91 slices.heapSortOrdered[int]
instance : CallT Try.prog 91 := ⟨by kernel_rfl⟩
-- 92 slices.breakPatternsOrdered[int]
instance : CallT Try.prog 92 := ⟨by kernel_rfl⟩
-- 93 slices.choosePivotOrdered[int]
instance : CallT Try.prog 93 := ⟨by kernel_rfl⟩
-- 94 slices.reverseRangeOrdered[int]
instance : CallT Try.prog 94 := ⟨by kernel_rfl⟩
-- 95 slices.partialInsertionSortOrdered[int]
instance : CallT Try.prog 95 := ⟨by kernel_rfl⟩
-- 96 cmp.Less[int]
instance : CallT Try.prog 96 := ⟨by kernel_rfl⟩
-- 97 slices.partitionEqualOrdered[int]
instance : CallT Try.prog 97 := ⟨by kernel_rfl⟩
-- 98 slices.partitionOrdered[int]
instance : CallT Try.prog 98 := ⟨by kernel_rfl⟩
-- 99 math/bits.Len32
instance : CallT Try.prog 99 := ⟨by kernel_rfl⟩
-- 100 math/bits.Len64
instance : CallT Try.prog 100 := ⟨by kernel_rfl⟩
-- 101 slices.siftDownOrdered[int]
instance : CallT Try.prog 101 := ⟨by kernel_rfl⟩
-- 102 slices.nextPowerOfTwo
instance : CallT Try.prog 102 := ⟨by kernel_rfl⟩
-- 104 slices.medianAdjacentOrdered[int]
instance : CallT Try.prog 104 := ⟨by kernel_rfl⟩
-- 105 slices.medianOrdered[int]
instance : CallT Try.prog 105 := ⟨by kernel_rfl⟩
-- 106 cmp.isNaN[int]
instance : CallT Try.prog 106 := ⟨by kernel_rfl⟩
-- 107 slices.order2Ordered[int]
instance : CallT Try.prog 107 := ⟨by kernel_rfl⟩
-- 124 (stratagem/estimate.blind).Value
instance : CallT Try.prog 124 := ⟨by kernel_rfl⟩
-- 125 (stratagem/estimate.table).Value
instance : CallT Try.prog 125 := ⟨by kernel_rfl⟩
-- 126 stratagem/task.Rank
instance : CallT Try.prog 126 := ⟨by kernel_rfl⟩
-- 127 stratagem/task.counted
instance : CallT Try.prog 127 := ⟨by kernel_rfl⟩
-- 129 (*stratagem/relax.Relaxation).Max
instance : CallT Try.prog 129 := ⟨by kernel_rfl⟩
-- 130 (stratagem/estimate.hmax).Value
instance : CallT Try.prog 130 := ⟨by kernel_rfl⟩
-- 131 (*stratagem/relax.Relaxation).values
instance : CallT Try.prog 131 := ⟨by kernel_rfl⟩
-- 132 (*stratagem/relax.Relaxation).values$1
instance : CallT Try.prog 132 := ⟨by kernel_rfl⟩
-- 133 container/heap.Push
instance : CallT Try.prog 133 := ⟨by kernel_rfl⟩
-- 134 (stratagem/relax.open).Len
instance : CallT Try.prog 134 := ⟨by kernel_rfl⟩
-- 135 container/heap.Pop
instance : CallT Try.prog 135 := ⟨by kernel_rfl⟩
-- 136 container/heap.up
instance : CallT Try.prog 136 := ⟨by kernel_rfl⟩
-- 137 container/heap.down
instance : CallT Try.prog 137 := ⟨by kernel_rfl⟩
-- 138 (stratagem/estimate.best).Value
instance : CallT Try.prog 138 := ⟨by kernel_rfl⟩
-- 140 (stratagem/relax.open).Less
instance : CallT Try.prog 140 := ⟨by kernel_rfl⟩
-- 141 (stratagem/relax.open).Swap
instance : CallT Try.prog 141 := ⟨by kernel_rfl⟩
-- 142 (*stratagem/relax.open).Pop
instance : CallT Try.prog 142 := ⟨by kernel_rfl⟩
-- 143 (*stratagem/relax.open).Push
instance : CallT Try.prog 143 := ⟨by kernel_rfl⟩
theorem mixed : Try.prog.follows .mixedOrders = true := by kernel_rfl
end Go.Proofs.Ytoddgmmkpiojlaa
