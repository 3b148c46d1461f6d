/-
  The types of this seat, as the steps of the generator ask for them: closed facts on the program.
-/
import Derived.Test.YtnichjjloipghaaMSlA
import Derived.Test.YtnichjjloipghaaProg
import Derived.KernelRfl
set_option linter.unusedSimpArgs false
set_option linter.unusedVariables false
namespace Go.Proofs.Ytnichjjloipghaa
open Go.Sl
instance : CellT Try.prog 1 := ⟨by kernel_rfl⟩
instance : ZeroT Try.prog 1 [.nilFunc] := ⟨by kernel_rfl⟩
instance : PlainT Try.prog 1 := ⟨by kernel_rfl⟩
instance : CellT Try.prog 2 := ⟨by kernel_rfl⟩
instance : ZeroT Try.prog 2 [.int .i64 0] := ⟨by kernel_rfl⟩
instance : PlainT Try.prog 2 := ⟨by kernel_rfl⟩
instance : CellT Try.prog 3 := ⟨by kernel_rfl⟩
instance : ZeroT Try.prog 3 [.int .i64 0] := ⟨by kernel_rfl⟩
instance : PlainT Try.prog 3 := ⟨by kernel_rfl⟩
instance : CellT Try.prog 4 := ⟨by kernel_rfl⟩
instance : ZeroT Try.prog 4 [.bool false] := ⟨by kernel_rfl⟩
instance : BoolT Try.prog 4 := ⟨by kernel_rfl⟩
instance : PlainT Try.prog 4 := ⟨by kernel_rfl⟩
instance : CellT Try.prog 5 := ⟨by kernel_rfl⟩
instance : ZeroT Try.prog 5 [.int .u8 0] := ⟨by kernel_rfl⟩
instance : PlainT Try.prog 5 := ⟨by kernel_rfl⟩
instance : CellT Try.prog 6 := ⟨by kernel_rfl⟩
instance : ZeroT Try.prog 6 [.int .u8 0] := ⟨by kernel_rfl⟩
instance : PlainT Try.prog 6 := ⟨by kernel_rfl⟩
instance : AggT Try.prog 7 4 := ⟨by kernel_rfl⟩
instance : ZeroT Try.prog 7 [.int .i64 0, .int .i64 0, .bool false, .int .u8 0] := ⟨by kernel_rfl⟩
instance : PlainT Try.prog 7 := ⟨by kernel_rfl⟩
instance : FieldT Try.prog 7 0 0 2 := ⟨by kernel_rfl⟩
instance : FieldT Try.prog 7 1 1 3 := ⟨by kernel_rfl⟩
instance : FieldT Try.prog 7 2 2 4 := ⟨by kernel_rfl⟩
instance : FieldT Try.prog 7 3 3 6 := ⟨by kernel_rfl⟩
instance : StructT Try.prog 7 [(0, 1), (1, 1), (2, 1), (3, 1)] := ⟨by kernel_rfl⟩
instance : AggT Try.prog 8 4 := ⟨by kernel_rfl⟩
instance : ZeroT Try.prog 8 [.int .i64 0, .int .i64 0, .bool false, .int .u8 0] := ⟨by kernel_rfl⟩
instance : PlainT Try.prog 8 := ⟨by kernel_rfl⟩
instance : FieldT Try.prog 8 0 0 2 := ⟨by kernel_rfl⟩
instance : FieldT Try.prog 8 1 1 3 := ⟨by kernel_rfl⟩
instance : FieldT Try.prog 8 2 2 4 := ⟨by kernel_rfl⟩
instance : FieldT Try.prog 8 3 3 6 := ⟨by kernel_rfl⟩
instance : StructT Try.prog 8 [(0, 1), (1, 1), (2, 1), (3, 1)] := ⟨by kernel_rfl⟩
instance : CellT Try.prog 9 := ⟨by kernel_rfl⟩
instance : ZeroT Try.prog 9 [.string ByteArray.empty] := ⟨by kernel_rfl⟩
instance : StrT Try.prog 9 := ⟨by kernel_rfl⟩
instance : PlainT Try.prog 9 := ⟨by kernel_rfl⟩
instance : CellT Try.prog 10 := ⟨by kernel_rfl⟩
instance : ZeroT Try.prog 10 [.string ByteArray.empty] := ⟨by kernel_rfl⟩
instance : StrT Try.prog 10 := ⟨by kernel_rfl⟩
instance : PlainT Try.prog 10 := ⟨by kernel_rfl⟩
instance : CellT Try.prog 11 := ⟨by kernel_rfl⟩
instance : ZeroT Try.prog 11 [.string ByteArray.empty] := ⟨by kernel_rfl⟩
instance : StrT Try.prog 11 := ⟨by kernel_rfl⟩
instance : PlainT Try.prog 11 := ⟨by kernel_rfl⟩
instance : CellT Try.prog 12 := ⟨by kernel_rfl⟩
instance : ZeroT Try.prog 12 [.int .u64 0] := ⟨by kernel_rfl⟩
instance : PlainT Try.prog 12 := ⟨by kernel_rfl⟩
instance : AggT Try.prog 13 2 := ⟨by kernel_rfl⟩
instance : ZeroT Try.prog 13 [.string ByteArray.empty, .int .u64 0] := ⟨by kernel_rfl⟩
instance : PlainT Try.prog 13 := ⟨by kernel_rfl⟩
instance : FieldT Try.prog 13 0 0 9 := ⟨by kernel_rfl⟩
instance : FieldT Try.prog 13 1 1 12 := ⟨by kernel_rfl⟩
instance : StructT Try.prog 13 [(0, 1), (1, 1)] := ⟨by kernel_rfl⟩
instance : AggT Try.prog 14 2 := ⟨by kernel_rfl⟩
instance : ZeroT Try.prog 14 [.string ByteArray.empty, .int .u64 0] := ⟨by kernel_rfl⟩
instance : PlainT Try.prog 14 := ⟨by kernel_rfl⟩
instance : FieldT Try.prog 14 0 0 9 := ⟨by kernel_rfl⟩
instance : FieldT Try.prog 14 1 1 12 := ⟨by kernel_rfl⟩
instance : StructT Try.prog 14 [(0, 1), (1, 1)] := ⟨by kernel_rfl⟩
instance : CellT Try.prog 15 := ⟨by kernel_rfl⟩
instance : ZeroT Try.prog 15 [.pointer none] := ⟨by kernel_rfl⟩
instance : MethT Try.prog 15 "Error" 124 true 173 := ⟨by kernel_rfl⟩
instance : MethT Try.prog 15 "RuntimeError" 125 true 173 := ⟨by kernel_rfl⟩
instance : PtrT Try.prog 15 := ⟨by kernel_rfl⟩
instance : PlainT Try.prog 15 := ⟨by kernel_rfl⟩
instance : CellT Try.prog 16 := ⟨by kernel_rfl⟩
instance : ZeroT Try.prog 16 [.pointer none] := ⟨by kernel_rfl⟩
instance : MethT Try.prog 16 "Error" 126 true 176 := ⟨by kernel_rfl⟩
instance : MethT Try.prog 16 "RuntimeError" 127 true 176 := ⟨by kernel_rfl⟩
instance : PtrT Try.prog 16 := ⟨by kernel_rfl⟩
instance : PlainT Try.prog 16 := ⟨by kernel_rfl⟩
instance : CellT Try.prog 17 := ⟨by kernel_rfl⟩
instance : ZeroT Try.prog 17 [.pointer none] := ⟨by kernel_rfl⟩
instance : MethT Try.prog 17 "Align" 128 true 184 := ⟨by kernel_rfl⟩
instance : MethT Try.prog 17 "Len" 129 true 184 := ⟨by kernel_rfl⟩
instance : PtrT Try.prog 17 := ⟨by kernel_rfl⟩
instance : PlainT Try.prog 17 := ⟨by kernel_rfl⟩
instance : AggT Try.prog 18 1 := ⟨by kernel_rfl⟩
instance : ZeroT Try.prog 18 [.pointer none] := ⟨by kernel_rfl⟩
instance : PlainT Try.prog 18 := ⟨by kernel_rfl⟩
instance : FieldT Try.prog 18 0 0 17 := ⟨by kernel_rfl⟩
instance : StructT Try.prog 18 [(0, 1)] := ⟨by kernel_rfl⟩
instance : AggT Try.prog 19 1 := ⟨by kernel_rfl⟩
instance : ZeroT Try.prog 19 [.pointer none] := ⟨by kernel_rfl⟩
instance : PlainT Try.prog 19 := ⟨by kernel_rfl⟩
instance : FieldT Try.prog 19 0 0 17 := ⟨by kernel_rfl⟩
instance : StructT Try.prog 19 [(0, 1)] := ⟨by kernel_rfl⟩
instance : CellT Try.prog 20 := ⟨by kernel_rfl⟩
instance : ZeroT Try.prog 20 [.nilIface] := ⟨by kernel_rfl⟩
instance : IfaceT Try.prog 20 := ⟨by kernel_rfl⟩
instance : CellT Try.prog 21 := ⟨by kernel_rfl⟩
instance : ZeroT Try.prog 21 [.int .i32 0] := ⟨by kernel_rfl⟩
instance : PlainT Try.prog 21 := ⟨by kernel_rfl⟩
instance : SliceT Try.prog 22 3 1 8 := ⟨by kernel_rfl⟩
instance : CellT Try.prog 22 := ⟨by kernel_rfl⟩
instance : ZeroT Try.prog 22 [.slice none 0 0] := ⟨by kernel_rfl⟩
instance : PlainT Try.prog 22 := ⟨by kernel_rfl⟩
instance : SliceT Try.prog 23 94 2 16 := ⟨by kernel_rfl⟩
instance : CellT Try.prog 23 := ⟨by kernel_rfl⟩
instance : ZeroT Try.prog 23 [.slice none 0 0] := ⟨by kernel_rfl⟩
instance : PlainT Try.prog 23 := ⟨by kernel_rfl⟩
instance : SliceT Try.prog 24 65 4 72 := ⟨by kernel_rfl⟩
instance : CellT Try.prog 24 := ⟨by kernel_rfl⟩
instance : ZeroT Try.prog 24 [.slice none 0 0] := ⟨by kernel_rfl⟩
instance : PlainT Try.prog 24 := ⟨by kernel_rfl⟩
instance : AggT Try.prog 25 4 := ⟨by kernel_rfl⟩
instance : ZeroT Try.prog 25 [.slice none 0 0, .slice none 0 0, .slice none 0 0, .slice none 0 0] := ⟨by kernel_rfl⟩
instance : PlainT Try.prog 25 := ⟨by kernel_rfl⟩
instance : FieldT Try.prog 25 0 0 22 := ⟨by kernel_rfl⟩
instance : FieldT Try.prog 25 1 1 22 := ⟨by kernel_rfl⟩
instance : FieldT Try.prog 25 2 2 23 := ⟨by kernel_rfl⟩
instance : FieldT Try.prog 25 3 3 24 := ⟨by kernel_rfl⟩
instance : StructT Try.prog 25 [(0, 1), (1, 1), (2, 1), (3, 1)] := ⟨by kernel_rfl⟩
instance : AggT Try.prog 26 4 := ⟨by kernel_rfl⟩
instance : ZeroT Try.prog 26 [.slice none 0 0, .slice none 0 0, .slice none 0 0, .slice none 0 0] := ⟨by kernel_rfl⟩
instance : PlainT Try.prog 26 := ⟨by kernel_rfl⟩
instance : FieldT Try.prog 26 0 0 22 := ⟨by kernel_rfl⟩
instance : FieldT Try.prog 26 1 1 22 := ⟨by kernel_rfl⟩
instance : FieldT Try.prog 26 2 2 23 := ⟨by kernel_rfl⟩
instance : FieldT Try.prog 26 3 3 24 := ⟨by kernel_rfl⟩
instance : StructT Try.prog 26 [(0, 1), (1, 1), (2, 1), (3, 1)] := ⟨by kernel_rfl⟩
instance : CellT Try.prog 27 := ⟨by kernel_rfl⟩
instance : ZeroT Try.prog 27 [.int .u16 0] := ⟨by kernel_rfl⟩
instance : PlainT Try.prog 27 := ⟨by kernel_rfl⟩
instance : SliceT Try.prog 28 27 1 2 := ⟨by kernel_rfl⟩
instance : CellT Try.prog 28 := ⟨by kernel_rfl⟩
instance : ZeroT Try.prog 28 [.slice none 0 0] := ⟨by kernel_rfl⟩
instance : PlainT Try.prog 28 := ⟨by kernel_rfl⟩
instance : CellT Try.prog 29 := ⟨by kernel_rfl⟩
instance : ZeroT Try.prog 29 [.nilFunc] := ⟨by kernel_rfl⟩
instance : PlainT Try.prog 29 := ⟨by kernel_rfl⟩
instance : CellT Try.prog 30 := ⟨by kernel_rfl⟩
instance : ZeroT Try.prog 30 [.nilFunc] := ⟨by kernel_rfl⟩
instance : PlainT Try.prog 30 := ⟨by kernel_rfl⟩
instance : CellT Try.prog 32 := ⟨by kernel_rfl⟩
instance : ZeroT Try.prog 32 [.nilFunc] := ⟨by kernel_rfl⟩
instance : PlainT Try.prog 32 := ⟨by kernel_rfl⟩
instance : CellT Try.prog 33 := ⟨by kernel_rfl⟩
instance : ZeroT Try.prog 33 [.pointer none] := ⟨by kernel_rfl⟩
instance : MethT Try.prog 33 "Dead" 35 true 92 := ⟨by kernel_rfl⟩
instance : MethT Try.prog 33 "Pattern" 32 true 92 := ⟨by kernel_rfl⟩
instance : MethT Try.prog 33 "Saturated" 28 true 92 := ⟨by kernel_rfl⟩
instance : MethT Try.prog 33 "Table" 27 true 92 := ⟨by kernel_rfl⟩
instance : MethT Try.prog 33 "Value" 24 true 92 := ⟨by kernel_rfl⟩
instance : PtrT Try.prog 33 := ⟨by kernel_rfl⟩
instance : PlainT Try.prog 33 := ⟨by kernel_rfl⟩
instance : CellT Try.prog 34 := ⟨by kernel_rfl⟩
instance : ZeroT Try.prog 34 [.nilIface] := ⟨by kernel_rfl⟩
instance : IfaceT Try.prog 34 := ⟨by kernel_rfl⟩
instance : CellT Try.prog 35 := ⟨by kernel_rfl⟩
instance : ZeroT Try.prog 35 [.nilIface] := ⟨by kernel_rfl⟩
instance : IfaceT Try.prog 35 := ⟨by kernel_rfl⟩
instance : CellT Try.prog 37 := ⟨by kernel_rfl⟩
instance : ZeroT Try.prog 37 [.nilFunc] := ⟨by kernel_rfl⟩
instance : PlainT Try.prog 37 := ⟨by kernel_rfl⟩
instance : CellT Try.prog 38 := ⟨by kernel_rfl⟩
instance : ZeroT Try.prog 38 [.nilFunc] := ⟨by kernel_rfl⟩
instance : PlainT Try.prog 38 := ⟨by kernel_rfl⟩
instance : CellT Try.prog 39 := ⟨by kernel_rfl⟩
instance : ZeroT Try.prog 39 [.nilFunc] := ⟨by kernel_rfl⟩
instance : PlainT Try.prog 39 := ⟨by kernel_rfl⟩
instance : SliceT Try.prog 40 22 1 24 := ⟨by kernel_rfl⟩
instance : CellT Try.prog 40 := ⟨by kernel_rfl⟩
instance : ZeroT Try.prog 40 [.slice none 0 0] := ⟨by kernel_rfl⟩
instance : PlainT Try.prog 40 := ⟨by kernel_rfl⟩
instance : CellT Try.prog 41 := ⟨by kernel_rfl⟩
instance : ZeroT Try.prog 41 [.nilFunc] := ⟨by kernel_rfl⟩
instance : PlainT Try.prog 41 := ⟨by kernel_rfl⟩
instance : CellT Try.prog 42 := ⟨by kernel_rfl⟩
instance : ZeroT Try.prog 42 [.nilFunc] := ⟨by kernel_rfl⟩
instance : PlainT Try.prog 42 := ⟨by kernel_rfl⟩
instance : CellT Try.prog 43 := ⟨by kernel_rfl⟩
instance : ZeroT Try.prog 43 [.nilFunc] := ⟨by kernel_rfl⟩
instance : PlainT Try.prog 43 := ⟨by kernel_rfl⟩
instance : SliceT Try.prog 44 47 3 24 := ⟨by kernel_rfl⟩
instance : CellT Try.prog 44 := ⟨by kernel_rfl⟩
instance : ZeroT Try.prog 44 [.slice none 0 0] := ⟨by kernel_rfl⟩
instance : PlainT Try.prog 44 := ⟨by kernel_rfl⟩
instance : CellT Try.prog 45 := ⟨by kernel_rfl⟩
instance : ZeroT Try.prog 45 [.nilFunc] := ⟨by kernel_rfl⟩
instance : PlainT Try.prog 45 := ⟨by kernel_rfl⟩
instance : AggT Try.prog 46 3 := ⟨by kernel_rfl⟩
instance : ZeroT Try.prog 46 [.int .i64 0, .int .i64 0, .int .i64 0] := ⟨by kernel_rfl⟩
instance : PlainT Try.prog 46 := ⟨by kernel_rfl⟩
instance : FieldT Try.prog 46 0 0 3 := ⟨by kernel_rfl⟩
instance : FieldT Try.prog 46 1 1 3 := ⟨by kernel_rfl⟩
instance : FieldT Try.prog 46 2 2 3 := ⟨by kernel_rfl⟩
instance : StructT Try.prog 46 [(0, 1), (1, 1), (2, 1)] := ⟨by kernel_rfl⟩
instance : AggT Try.prog 47 3 := ⟨by kernel_rfl⟩
instance : ZeroT Try.prog 47 [.int .i64 0, .int .i64 0, .int .i64 0] := ⟨by kernel_rfl⟩
instance : PlainT Try.prog 47 := ⟨by kernel_rfl⟩
instance : FieldT Try.prog 47 0 0 3 := ⟨by kernel_rfl⟩
instance : FieldT Try.prog 47 1 1 3 := ⟨by kernel_rfl⟩
instance : FieldT Try.prog 47 2 2 3 := ⟨by kernel_rfl⟩
instance : StructT Try.prog 47 [(0, 1), (1, 1), (2, 1)] := ⟨by kernel_rfl⟩
instance : CellT Try.prog 48 := ⟨by kernel_rfl⟩
instance : ZeroT Try.prog 48 [.nilFunc] := ⟨by kernel_rfl⟩
instance : PlainT Try.prog 48 := ⟨by kernel_rfl⟩
instance : CellT Try.prog 49 := ⟨by kernel_rfl⟩
instance : ZeroT Try.prog 49 [.nilFunc] := ⟨by kernel_rfl⟩
instance : PlainT Try.prog 49 := ⟨by kernel_rfl⟩
instance : SliceT Try.prog 50 56 3 24 := ⟨by kernel_rfl⟩
instance : CellT Try.prog 50 := ⟨by kernel_rfl⟩
instance : ZeroT Try.prog 50 [.slice none 0 0] := ⟨by kernel_rfl⟩
instance : PlainT Try.prog 50 := ⟨by kernel_rfl⟩
instance : SliceT Try.prog 51 4 1 1 := ⟨by kernel_rfl⟩
instance : CellT Try.prog 51 := ⟨by kernel_rfl⟩
instance : ZeroT Try.prog 51 [.slice none 0 0] := ⟨by kernel_rfl⟩
instance : PlainT Try.prog 51 := ⟨by kernel_rfl⟩
instance : AggT Try.prog 52 5 := ⟨by kernel_rfl⟩
instance : ZeroT Try.prog 52 [.int .i64 0, .int .i64 0, .slice none 0 0, .slice none 0 0, .slice none 0 0] := ⟨by kernel_rfl⟩
instance : PlainT Try.prog 52 := ⟨by kernel_rfl⟩
instance : FieldT Try.prog 52 0 0 3 := ⟨by kernel_rfl⟩
instance : FieldT Try.prog 52 1 1 3 := ⟨by kernel_rfl⟩
instance : FieldT Try.prog 52 2 2 22 := ⟨by kernel_rfl⟩
instance : FieldT Try.prog 52 3 3 50 := ⟨by kernel_rfl⟩
instance : FieldT Try.prog 52 4 4 51 := ⟨by kernel_rfl⟩
instance : StructT Try.prog 52 [(0, 1), (1, 1), (2, 1), (3, 1), (4, 1)] := ⟨by kernel_rfl⟩
instance : AggT Try.prog 53 5 := ⟨by kernel_rfl⟩
instance : ZeroT Try.prog 53 [.int .i64 0, .int .i64 0, .slice none 0 0, .slice none 0 0, .slice none 0 0] := ⟨by kernel_rfl⟩
instance : PlainT Try.prog 53 := ⟨by kernel_rfl⟩
instance : FieldT Try.prog 53 0 0 3 := ⟨by kernel_rfl⟩
instance : FieldT Try.prog 53 1 1 3 := ⟨by kernel_rfl⟩
instance : FieldT Try.prog 53 2 2 22 := ⟨by kernel_rfl⟩
instance : FieldT Try.prog 53 3 3 50 := ⟨by kernel_rfl⟩
instance : FieldT Try.prog 53 4 4 51 := ⟨by kernel_rfl⟩
instance : StructT Try.prog 53 [(0, 1), (1, 1), (2, 1), (3, 1), (4, 1)] := ⟨by kernel_rfl⟩
instance : CellT Try.prog 54 := ⟨by kernel_rfl⟩
instance : ZeroT Try.prog 54 [.nilFunc] := ⟨by kernel_rfl⟩
instance : PlainT Try.prog 54 := ⟨by kernel_rfl⟩
instance : AggT Try.prog 55 3 := ⟨by kernel_rfl⟩
instance : ZeroT Try.prog 55 [.int .i64 0, .int .i64 0, .int .i64 0] := ⟨by kernel_rfl⟩
instance : PlainT Try.prog 55 := ⟨by kernel_rfl⟩
instance : FieldT Try.prog 55 0 0 3 := ⟨by kernel_rfl⟩
instance : FieldT Try.prog 55 1 1 3 := ⟨by kernel_rfl⟩
instance : FieldT Try.prog 55 2 2 3 := ⟨by kernel_rfl⟩
instance : StructT Try.prog 55 [(0, 1), (1, 1), (2, 1)] := ⟨by kernel_rfl⟩
instance : AggT Try.prog 56 3 := ⟨by kernel_rfl⟩
instance : ZeroT Try.prog 56 [.int .i64 0, .int .i64 0, .int .i64 0] := ⟨by kernel_rfl⟩
instance : PlainT Try.prog 56 := ⟨by kernel_rfl⟩
instance : FieldT Try.prog 56 0 0 3 := ⟨by kernel_rfl⟩
instance : FieldT Try.prog 56 1 1 3 := ⟨by kernel_rfl⟩
instance : FieldT Try.prog 56 2 2 3 := ⟨by kernel_rfl⟩
instance : StructT Try.prog 56 [(0, 1), (1, 1), (2, 1)] := ⟨by kernel_rfl⟩
instance : CellT Try.prog 57 := ⟨by kernel_rfl⟩
instance : ZeroT Try.prog 57 [.nilFunc] := ⟨by kernel_rfl⟩
instance : PlainT Try.prog 57 := ⟨by kernel_rfl⟩
instance : CellT Try.prog 58 := ⟨by kernel_rfl⟩
instance : ZeroT Try.prog 58 [.nilFunc] := ⟨by kernel_rfl⟩
instance : PlainT Try.prog 58 := ⟨by kernel_rfl⟩
instance : CellT Try.prog 59 := ⟨by kernel_rfl⟩
instance : ZeroT Try.prog 59 [.nilFunc] := ⟨by kernel_rfl⟩
instance : PlainT Try.prog 59 := ⟨by kernel_rfl⟩
instance : CellT Try.prog 60 := ⟨by kernel_rfl⟩
instance : ZeroT Try.prog 60 [.nilFunc] := ⟨by kernel_rfl⟩
instance : PlainT Try.prog 60 := ⟨by kernel_rfl⟩
instance : CellT Try.prog 61 := ⟨by kernel_rfl⟩
instance : ZeroT Try.prog 61 [.nilFunc] := ⟨by kernel_rfl⟩
instance : PlainT Try.prog 61 := ⟨by kernel_rfl⟩
instance : CellT Try.prog 62 := ⟨by kernel_rfl⟩
instance : ZeroT Try.prog 62 [.nilFunc] := ⟨by kernel_rfl⟩
instance : PlainT Try.prog 62 := ⟨by kernel_rfl⟩
instance : SliceT Try.prog 63 105 3 40 := ⟨by kernel_rfl⟩
instance : CellT Try.prog 63 := ⟨by kernel_rfl⟩
instance : ZeroT Try.prog 63 [.slice none 0 0] := ⟨by kernel_rfl⟩
instance : PlainT Try.prog 63 := ⟨by kernel_rfl⟩
instance : AggT Try.prog 64 4 := ⟨by kernel_rfl⟩
instance : ZeroT Try.prog 64 [.string ByteArray.empty, .int .i64 0, .slice none 0 0, .slice none 0 0] := ⟨by kernel_rfl⟩
instance : PlainT Try.prog 64 := ⟨by kernel_rfl⟩
instance : FieldT Try.prog 64 0 0 9 := ⟨by kernel_rfl⟩
instance : FieldT Try.prog 64 1 1 3 := ⟨by kernel_rfl⟩
instance : FieldT Try.prog 64 2 2 23 := ⟨by kernel_rfl⟩
instance : FieldT Try.prog 64 3 3 63 := ⟨by kernel_rfl⟩
instance : StructT Try.prog 64 [(0, 1), (1, 1), (2, 1), (3, 1)] := ⟨by kernel_rfl⟩
instance : AggT Try.prog 65 4 := ⟨by kernel_rfl⟩
instance : ZeroT Try.prog 65 [.string ByteArray.empty, .int .i64 0, .slice none 0 0, .slice none 0 0] := ⟨by kernel_rfl⟩
instance : PlainT Try.prog 65 := ⟨by kernel_rfl⟩
instance : FieldT Try.prog 65 0 0 9 := ⟨by kernel_rfl⟩
instance : FieldT Try.prog 65 1 1 3 := ⟨by kernel_rfl⟩
instance : FieldT Try.prog 65 2 2 23 := ⟨by kernel_rfl⟩
instance : FieldT Try.prog 65 3 3 63 := ⟨by kernel_rfl⟩
instance : StructT Try.prog 65 [(0, 1), (1, 1), (2, 1), (3, 1)] := ⟨by kernel_rfl⟩
instance : CellT Try.prog 66 := ⟨by kernel_rfl⟩
instance : ZeroT Try.prog 66 [.nilFunc] := ⟨by kernel_rfl⟩
instance : PlainT Try.prog 66 := ⟨by kernel_rfl⟩
instance : CellT Try.prog 67 := ⟨by kernel_rfl⟩
instance : ZeroT Try.prog 67 [.nilFunc] := ⟨by kernel_rfl⟩
instance : PlainT Try.prog 67 := ⟨by kernel_rfl⟩
instance : CellT Try.prog 68 := ⟨by kernel_rfl⟩
instance : ZeroT Try.prog 68 [.nilFunc] := ⟨by kernel_rfl⟩
instance : PlainT Try.prog 68 := ⟨by kernel_rfl⟩
instance : CellT Try.prog 69 := ⟨by kernel_rfl⟩
instance : ZeroT Try.prog 69 [.nilFunc] := ⟨by kernel_rfl⟩
instance : PlainT Try.prog 69 := ⟨by kernel_rfl⟩
instance : CellT Try.prog 70 := ⟨by kernel_rfl⟩
instance : ZeroT Try.prog 70 [.nilFunc] := ⟨by kernel_rfl⟩
instance : PlainT Try.prog 70 := ⟨by kernel_rfl⟩
instance : CellT Try.prog 71 := ⟨by kernel_rfl⟩
instance : ZeroT Try.prog 71 [.nilFunc] := ⟨by kernel_rfl⟩
instance : PlainT Try.prog 71 := ⟨by kernel_rfl⟩
instance : CellT Try.prog 73 := ⟨by kernel_rfl⟩
instance : ZeroT Try.prog 73 [.nilFunc] := ⟨by kernel_rfl⟩
instance : PlainT Try.prog 73 := ⟨by kernel_rfl⟩
instance : CellT Try.prog 74 := ⟨by kernel_rfl⟩
instance : ZeroT Try.prog 74 [.pointer none] := ⟨by kernel_rfl⟩
instance : MethT Try.prog 74 "Parts" 45 true 109 := ⟨by kernel_rfl⟩
instance : MethT Try.prog 74 "Value" 47 true 109 := ⟨by kernel_rfl⟩
instance : PtrT Try.prog 74 := ⟨by kernel_rfl⟩
instance : PlainT Try.prog 74 := ⟨by kernel_rfl⟩
instance : CellT Try.prog 76 := ⟨by kernel_rfl⟩
instance : ZeroT Try.prog 76 [.nilFunc] := ⟨by kernel_rfl⟩
instance : PlainT Try.prog 76 := ⟨by kernel_rfl⟩
instance : CellT Try.prog 77 := ⟨by kernel_rfl⟩
instance : ZeroT Try.prog 77 [.nilFunc] := ⟨by kernel_rfl⟩
instance : PlainT Try.prog 77 := ⟨by kernel_rfl⟩
instance : CellT Try.prog 78 := ⟨by kernel_rfl⟩
instance : ZeroT Try.prog 78 [.nilFunc] := ⟨by kernel_rfl⟩
instance : PlainT Try.prog 78 := ⟨by kernel_rfl⟩
instance : CellT Try.prog 79 := ⟨by kernel_rfl⟩
instance : ZeroT Try.prog 79 [.nilFunc] := ⟨by kernel_rfl⟩
instance : PlainT Try.prog 79 := ⟨by kernel_rfl⟩
instance : SliceT Try.prog 80 33 1 8 := ⟨by kernel_rfl⟩
instance : CellT Try.prog 80 := ⟨by kernel_rfl⟩
instance : ZeroT Try.prog 80 [.slice none 0 0] := ⟨by kernel_rfl⟩
instance : PlainT Try.prog 80 := ⟨by kernel_rfl⟩
instance : CellT Try.prog 81 := ⟨by kernel_rfl⟩
instance : ZeroT Try.prog 81 [.nilFunc] := ⟨by kernel_rfl⟩
instance : PlainT Try.prog 81 := ⟨by kernel_rfl⟩
instance : CellT Try.prog 82 := ⟨by kernel_rfl⟩
instance : ZeroT Try.prog 82 [.nilFunc] := ⟨by kernel_rfl⟩
instance : PlainT Try.prog 82 := ⟨by kernel_rfl⟩
instance : CellT Try.prog 83 := ⟨by kernel_rfl⟩
instance : ZeroT Try.prog 83 [.nilFunc] := ⟨by kernel_rfl⟩
instance : PlainT Try.prog 83 := ⟨by kernel_rfl⟩
instance : CellT Try.prog 84 := ⟨by kernel_rfl⟩
instance : ZeroT Try.prog 84 [.nilFunc] := ⟨by kernel_rfl⟩
instance : PlainT Try.prog 84 := ⟨by kernel_rfl⟩
instance : CellT Try.prog 85 := ⟨by kernel_rfl⟩
instance : ZeroT Try.prog 85 [.int .i64 0] := ⟨by kernel_rfl⟩
instance : PlainT Try.prog 85 := ⟨by kernel_rfl⟩
instance : CellT Try.prog 86 := ⟨by kernel_rfl⟩
instance : ZeroT Try.prog 86 [.nilFunc] := ⟨by kernel_rfl⟩
instance : PlainT Try.prog 86 := ⟨by kernel_rfl⟩
instance : CellT Try.prog 87 := ⟨by kernel_rfl⟩
instance : ZeroT Try.prog 87 [.nilFunc] := ⟨by kernel_rfl⟩
instance : PlainT Try.prog 87 := ⟨by kernel_rfl⟩
instance : CellT Try.prog 89 := ⟨by kernel_rfl⟩
instance : ZeroT Try.prog 89 [.nilFunc] := ⟨by kernel_rfl⟩
instance : PlainT Try.prog 89 := ⟨by kernel_rfl⟩
instance : CellT Try.prog 90 := ⟨by kernel_rfl⟩
instance : ZeroT Try.prog 90 [.nilFunc] := ⟨by kernel_rfl⟩
instance : PlainT Try.prog 90 := ⟨by kernel_rfl⟩
instance : AggT Try.prog 91 8 := ⟨by kernel_rfl⟩
instance : ZeroT Try.prog 91 [.slice none 0 0, .slice none 0 0, .int .i64 0, .int .i64 0, .slice none 0 0, .slice none 0 0, .slice none 0 0, .slice none 0 0] := ⟨by kernel_rfl⟩
instance : PlainT Try.prog 91 := ⟨by kernel_rfl⟩
instance : FieldT Try.prog 91 0 0 22 := ⟨by kernel_rfl⟩
instance : FieldT Try.prog 91 1 1 22 := ⟨by kernel_rfl⟩
instance : FieldT Try.prog 91 2 2 53 := ⟨by kernel_rfl⟩
instance : FieldT Try.prog 91 3 7 22 := ⟨by kernel_rfl⟩
instance : StructT Try.prog 91 [(0, 1), (1, 1), (2, 5), (7, 1)] := ⟨by kernel_rfl⟩
instance : AggT Try.prog 92 8 := ⟨by kernel_rfl⟩
instance : ZeroT Try.prog 92 [.slice none 0 0, .slice none 0 0, .int .i64 0, .int .i64 0, .slice none 0 0, .slice none 0 0, .slice none 0 0, .slice none 0 0] := ⟨by kernel_rfl⟩
instance : PlainT Try.prog 92 := ⟨by kernel_rfl⟩
instance : FieldT Try.prog 92 0 0 22 := ⟨by kernel_rfl⟩
instance : FieldT Try.prog 92 1 1 22 := ⟨by kernel_rfl⟩
instance : FieldT Try.prog 92 2 2 53 := ⟨by kernel_rfl⟩
instance : FieldT Try.prog 92 3 7 22 := ⟨by kernel_rfl⟩
instance : StructT Try.prog 92 [(0, 1), (1, 1), (2, 5), (7, 1)] := ⟨by kernel_rfl⟩
instance : AggT Try.prog 93 2 := ⟨by kernel_rfl⟩
instance : ZeroT Try.prog 93 [.int .i64 0, .int .i64 0] := ⟨by kernel_rfl⟩
instance : PlainT Try.prog 93 := ⟨by kernel_rfl⟩
instance : FieldT Try.prog 93 0 0 3 := ⟨by kernel_rfl⟩
instance : FieldT Try.prog 93 1 1 3 := ⟨by kernel_rfl⟩
instance : StructT Try.prog 93 [(0, 1), (1, 1)] := ⟨by kernel_rfl⟩
instance : AggT Try.prog 94 2 := ⟨by kernel_rfl⟩
instance : ZeroT Try.prog 94 [.int .i64 0, .int .i64 0] := ⟨by kernel_rfl⟩
instance : PlainT Try.prog 94 := ⟨by kernel_rfl⟩
instance : FieldT Try.prog 94 0 0 3 := ⟨by kernel_rfl⟩
instance : FieldT Try.prog 94 1 1 3 := ⟨by kernel_rfl⟩
instance : StructT Try.prog 94 [(0, 1), (1, 1)] := ⟨by kernel_rfl⟩
instance : CellT Try.prog 96 := ⟨by kernel_rfl⟩
instance : ZeroT Try.prog 96 [.nilFunc] := ⟨by kernel_rfl⟩
instance : PlainT Try.prog 96 := ⟨by kernel_rfl⟩
instance : CellT Try.prog 97 := ⟨by kernel_rfl⟩
instance : ZeroT Try.prog 97 [.nilFunc] := ⟨by kernel_rfl⟩
instance : PlainT Try.prog 97 := ⟨by kernel_rfl⟩
instance : CellT Try.prog 98 := ⟨by kernel_rfl⟩
instance : ZeroT Try.prog 98 [.nilFunc] := ⟨by kernel_rfl⟩
instance : PlainT Try.prog 98 := ⟨by kernel_rfl⟩
instance : CellT Try.prog 99 := ⟨by kernel_rfl⟩
instance : ZeroT Try.prog 99 [.nilFunc] := ⟨by kernel_rfl⟩
instance : PlainT Try.prog 99 := ⟨by kernel_rfl⟩
instance : CellT Try.prog 100 := ⟨by kernel_rfl⟩
instance : ZeroT Try.prog 100 [.nilFunc] := ⟨by kernel_rfl⟩
instance : PlainT Try.prog 100 := ⟨by kernel_rfl⟩
instance : SliceT Try.prog 102 23 1 24 := ⟨by kernel_rfl⟩
instance : CellT Try.prog 102 := ⟨by kernel_rfl⟩
instance : ZeroT Try.prog 102 [.slice none 0 0] := ⟨by kernel_rfl⟩
instance : PlainT Try.prog 102 := ⟨by kernel_rfl⟩
instance : CellT Try.prog 103 := ⟨by kernel_rfl⟩
instance : ZeroT Try.prog 103 [.nilFunc] := ⟨by kernel_rfl⟩
instance : PlainT Try.prog 103 := ⟨by kernel_rfl⟩
instance : AggT Try.prog 104 3 := ⟨by kernel_rfl⟩
instance : ZeroT Try.prog 104 [.slice none 0 0, .int .i64 0, .int .i64 0] := ⟨by kernel_rfl⟩
instance : PlainT Try.prog 104 := ⟨by kernel_rfl⟩
instance : FieldT Try.prog 104 0 0 23 := ⟨by kernel_rfl⟩
instance : FieldT Try.prog 104 1 1 3 := ⟨by kernel_rfl⟩
instance : FieldT Try.prog 104 2 2 3 := ⟨by kernel_rfl⟩
instance : StructT Try.prog 104 [(0, 1), (1, 1), (2, 1)] := ⟨by kernel_rfl⟩
instance : AggT Try.prog 105 3 := ⟨by kernel_rfl⟩
instance : ZeroT Try.prog 105 [.slice none 0 0, .int .i64 0, .int .i64 0] := ⟨by kernel_rfl⟩
instance : PlainT Try.prog 105 := ⟨by kernel_rfl⟩
instance : FieldT Try.prog 105 0 0 23 := ⟨by kernel_rfl⟩
instance : FieldT Try.prog 105 1 1 3 := ⟨by kernel_rfl⟩
instance : FieldT Try.prog 105 2 2 3 := ⟨by kernel_rfl⟩
instance : StructT Try.prog 105 [(0, 1), (1, 1), (2, 1)] := ⟨by kernel_rfl⟩
instance : CellT Try.prog 106 := ⟨by kernel_rfl⟩
instance : ZeroT Try.prog 106 [.nilFunc] := ⟨by kernel_rfl⟩
instance : PlainT Try.prog 106 := ⟨by kernel_rfl⟩
instance : CellT Try.prog 107 := ⟨by kernel_rfl⟩
instance : ZeroT Try.prog 107 [.nilFunc] := ⟨by kernel_rfl⟩
instance : PlainT Try.prog 107 := ⟨by kernel_rfl⟩
instance : AggT Try.prog 108 3 := ⟨by kernel_rfl⟩
instance : ZeroT Try.prog 108 [.slice none 0 0, .slice none 0 0, .slice none 0 0] := ⟨by kernel_rfl⟩
instance : PlainT Try.prog 108 := ⟨by kernel_rfl⟩
instance : FieldT Try.prog 108 0 0 22 := ⟨by kernel_rfl⟩
instance : FieldT Try.prog 108 1 1 80 := ⟨by kernel_rfl⟩
instance : FieldT Try.prog 108 2 2 40 := ⟨by kernel_rfl⟩
instance : StructT Try.prog 108 [(0, 1), (1, 1), (2, 1)] := ⟨by kernel_rfl⟩
instance : AggT Try.prog 109 3 := ⟨by kernel_rfl⟩
instance : ZeroT Try.prog 109 [.slice none 0 0, .slice none 0 0, .slice none 0 0] := ⟨by kernel_rfl⟩
instance : PlainT Try.prog 109 := ⟨by kernel_rfl⟩
instance : FieldT Try.prog 109 0 0 22 := ⟨by kernel_rfl⟩
instance : FieldT Try.prog 109 1 1 80 := ⟨by kernel_rfl⟩
instance : FieldT Try.prog 109 2 2 40 := ⟨by kernel_rfl⟩
instance : StructT Try.prog 109 [(0, 1), (1, 1), (2, 1)] := ⟨by kernel_rfl⟩
instance : CellT Try.prog 110 := ⟨by kernel_rfl⟩
instance : ZeroT Try.prog 110 [.nilFunc] := ⟨by kernel_rfl⟩
instance : PlainT Try.prog 110 := ⟨by kernel_rfl⟩
instance : CellT Try.prog 111 := ⟨by kernel_rfl⟩
instance : ZeroT Try.prog 111 [.nilFunc] := ⟨by kernel_rfl⟩
instance : PlainT Try.prog 111 := ⟨by kernel_rfl⟩
instance : CellT Try.prog 113 := ⟨by kernel_rfl⟩
instance : ZeroT Try.prog 113 [.nilFunc] := ⟨by kernel_rfl⟩
instance : PlainT Try.prog 113 := ⟨by kernel_rfl⟩
instance : CellT Try.prog 114 := ⟨by kernel_rfl⟩
instance : ZeroT Try.prog 114 [.nilFunc] := ⟨by kernel_rfl⟩
instance : PlainT Try.prog 114 := ⟨by kernel_rfl⟩
instance : CellT Try.prog 115 := ⟨by kernel_rfl⟩
instance : ZeroT Try.prog 115 [.nilFunc] := ⟨by kernel_rfl⟩
instance : PlainT Try.prog 115 := ⟨by kernel_rfl⟩
instance : CellT Try.prog 116 := ⟨by kernel_rfl⟩
instance : ZeroT Try.prog 116 [.nilFunc] := ⟨by kernel_rfl⟩
instance : PlainT Try.prog 116 := ⟨by kernel_rfl⟩
instance : CellT Try.prog 117 := ⟨by kernel_rfl⟩
instance : ZeroT Try.prog 117 [.nilFunc] := ⟨by kernel_rfl⟩
instance : PlainT Try.prog 117 := ⟨by kernel_rfl⟩
instance : SliceT Try.prog 118 50 1 24 := ⟨by kernel_rfl⟩
instance : CellT Try.prog 118 := ⟨by kernel_rfl⟩
instance : ZeroT Try.prog 118 [.slice none 0 0] := ⟨by kernel_rfl⟩
instance : PlainT Try.prog 118 := ⟨by kernel_rfl⟩
instance : CellT Try.prog 119 := ⟨by kernel_rfl⟩
instance : ZeroT Try.prog 119 [.pointer none] := ⟨by kernel_rfl⟩
instance : MethT Try.prog 119 "Len" 78 false 121 := ⟨by kernel_rfl⟩
instance : MethT Try.prog 119 "Less" 133 false 121 := ⟨by kernel_rfl⟩
instance : MethT Try.prog 119 "Pop" 134 true 121 := ⟨by kernel_rfl⟩
instance : MethT Try.prog 119 "Push" 135 true 121 := ⟨by kernel_rfl⟩
instance : MethT Try.prog 119 "Swap" 136 false 121 := ⟨by kernel_rfl⟩
instance : PtrT Try.prog 119 := ⟨by kernel_rfl⟩
instance : PlainT Try.prog 119 := ⟨by kernel_rfl⟩
instance : SliceT Try.prog 120 124 2 16 := ⟨by kernel_rfl⟩
instance : CellT Try.prog 120 := ⟨by kernel_rfl⟩
instance : ZeroT Try.prog 120 [.slice none 0 0] := ⟨by kernel_rfl⟩
instance : PlainT Try.prog 120 := ⟨by kernel_rfl⟩
instance : SliceT Try.prog 121 124 2 16 := ⟨by kernel_rfl⟩
instance : CellT Try.prog 121 := ⟨by kernel_rfl⟩
instance : ZeroT Try.prog 121 [.slice none 0 0] := ⟨by kernel_rfl⟩
instance : PlainT Try.prog 121 := ⟨by kernel_rfl⟩
instance : CellT Try.prog 122 := ⟨by kernel_rfl⟩
instance : ZeroT Try.prog 122 [.nilFunc] := ⟨by kernel_rfl⟩
instance : PlainT Try.prog 122 := ⟨by kernel_rfl⟩
instance : AggT Try.prog 123 2 := ⟨by kernel_rfl⟩
instance : ZeroT Try.prog 123 [.int .i64 0, .int .i64 0] := ⟨by kernel_rfl⟩
instance : PlainT Try.prog 123 := ⟨by kernel_rfl⟩
instance : FieldT Try.prog 123 0 0 3 := ⟨by kernel_rfl⟩
instance : FieldT Try.prog 123 1 1 3 := ⟨by kernel_rfl⟩
instance : StructT Try.prog 123 [(0, 1), (1, 1)] := ⟨by kernel_rfl⟩
instance : AggT Try.prog 124 2 := ⟨by kernel_rfl⟩
instance : ZeroT Try.prog 124 [.int .i64 0, .int .i64 0] := ⟨by kernel_rfl⟩
instance : PlainT Try.prog 124 := ⟨by kernel_rfl⟩
instance : FieldT Try.prog 124 0 0 3 := ⟨by kernel_rfl⟩
instance : FieldT Try.prog 124 1 1 3 := ⟨by kernel_rfl⟩
instance : StructT Try.prog 124 [(0, 1), (1, 1)] := ⟨by kernel_rfl⟩
instance : CellT Try.prog 125 := ⟨by kernel_rfl⟩
instance : ZeroT Try.prog 125 [.nilFunc] := ⟨by kernel_rfl⟩
instance : PlainT Try.prog 125 := ⟨by kernel_rfl⟩
instance : CellT Try.prog 127 := ⟨by kernel_rfl⟩
instance : ZeroT Try.prog 127 [.nilFunc] := ⟨by kernel_rfl⟩
instance : PlainT Try.prog 127 := ⟨by kernel_rfl⟩
instance : CellT Try.prog 128 := ⟨by kernel_rfl⟩
instance : ZeroT Try.prog 128 [.nilFunc] := ⟨by kernel_rfl⟩
instance : PlainT Try.prog 128 := ⟨by kernel_rfl⟩
instance : CellT Try.prog 129 := ⟨by kernel_rfl⟩
instance : ZeroT Try.prog 129 [.nilFunc] := ⟨by kernel_rfl⟩
instance : PlainT Try.prog 129 := ⟨by kernel_rfl⟩
instance : CellT Try.prog 130 := ⟨by kernel_rfl⟩
instance : ZeroT Try.prog 130 [.nilFunc] := ⟨by kernel_rfl⟩
instance : PlainT Try.prog 130 := ⟨by kernel_rfl⟩
instance : CellT Try.prog 131 := ⟨by kernel_rfl⟩
instance : ZeroT Try.prog 131 [.nilFunc] := ⟨by kernel_rfl⟩
instance : PlainT Try.prog 131 := ⟨by kernel_rfl⟩
instance : CellT Try.prog 132 := ⟨by kernel_rfl⟩
instance : ZeroT Try.prog 132 [.nilFunc] := ⟨by kernel_rfl⟩
instance : PlainT Try.prog 132 := ⟨by kernel_rfl⟩
instance : CellT Try.prog 133 := ⟨by kernel_rfl⟩
instance : ZeroT Try.prog 133 [.nilFunc] := ⟨by kernel_rfl⟩
instance : PlainT Try.prog 133 := ⟨by kernel_rfl⟩
instance : CellT Try.prog 134 := ⟨by kernel_rfl⟩
instance : ZeroT Try.prog 134 [.nilFunc] := ⟨by kernel_rfl⟩
instance : PlainT Try.prog 134 := ⟨by kernel_rfl⟩
instance : CellT Try.prog 135 := ⟨by kernel_rfl⟩
instance : ZeroT Try.prog 135 [.nilFunc] := ⟨by kernel_rfl⟩
instance : PlainT Try.prog 135 := ⟨by kernel_rfl⟩
instance : CellT Try.prog 136 := ⟨by kernel_rfl⟩
instance : ZeroT Try.prog 136 [.nilIface] := ⟨by kernel_rfl⟩
instance : IfaceT Try.prog 136 := ⟨by kernel_rfl⟩
instance : CellT Try.prog 137 := ⟨by kernel_rfl⟩
instance : ZeroT Try.prog 137 [.nilIface] := ⟨by kernel_rfl⟩
instance : IfaceT Try.prog 137 := ⟨by kernel_rfl⟩
instance : CellT Try.prog 138 := ⟨by kernel_rfl⟩
instance : ZeroT Try.prog 138 [.nilFunc] := ⟨by kernel_rfl⟩
instance : PlainT Try.prog 138 := ⟨by kernel_rfl⟩
instance : CellT Try.prog 139 := ⟨by kernel_rfl⟩
instance : ZeroT Try.prog 139 [.nilFunc] := ⟨by kernel_rfl⟩
instance : PlainT Try.prog 139 := ⟨by kernel_rfl⟩
instance : CellT Try.prog 140 := ⟨by kernel_rfl⟩
instance : ZeroT Try.prog 140 [.nilFunc] := ⟨by kernel_rfl⟩
instance : PlainT Try.prog 140 := ⟨by kernel_rfl⟩
instance : CellT Try.prog 141 := ⟨by kernel_rfl⟩
instance : ZeroT Try.prog 141 [.nilFunc] := ⟨by kernel_rfl⟩
instance : PlainT Try.prog 141 := ⟨by kernel_rfl⟩
instance : CellT Try.prog 142 := ⟨by kernel_rfl⟩
instance : ZeroT Try.prog 142 [.nilFunc] := ⟨by kernel_rfl⟩
instance : PlainT Try.prog 142 := ⟨by kernel_rfl⟩
instance : CellT Try.prog 143 := ⟨by kernel_rfl⟩
instance : ZeroT Try.prog 143 [.nilFunc] := ⟨by kernel_rfl⟩
instance : PlainT Try.prog 143 := ⟨by kernel_rfl⟩
instance : CellT Try.prog 144 := ⟨by kernel_rfl⟩
instance : ZeroT Try.prog 144 [.nilFunc] := ⟨by kernel_rfl⟩
instance : PlainT Try.prog 144 := ⟨by kernel_rfl⟩
instance : CellT Try.prog 145 := ⟨by kernel_rfl⟩
instance : ZeroT Try.prog 145 [.nilFunc] := ⟨by kernel_rfl⟩
instance : PlainT Try.prog 145 := ⟨by kernel_rfl⟩
instance : CellT Try.prog 146 := ⟨by kernel_rfl⟩
instance : ZeroT Try.prog 146 [.nilFunc] := ⟨by kernel_rfl⟩
instance : PlainT Try.prog 146 := ⟨by kernel_rfl⟩
instance : CellT Try.prog 147 := ⟨by kernel_rfl⟩
instance : ZeroT Try.prog 147 [.nilFunc] := ⟨by kernel_rfl⟩
instance : PlainT Try.prog 147 := ⟨by kernel_rfl⟩
instance : CellT Try.prog 148 := ⟨by kernel_rfl⟩
instance : ZeroT Try.prog 148 [.int .u64 0] := ⟨by kernel_rfl⟩
instance : PlainT Try.prog 148 := ⟨by kernel_rfl⟩
instance : CellT Try.prog 149 := ⟨by kernel_rfl⟩
instance : ZeroT Try.prog 149 [.nilFunc] := ⟨by kernel_rfl⟩
instance : PlainT Try.prog 149 := ⟨by kernel_rfl⟩
instance : CellT Try.prog 150 := ⟨by kernel_rfl⟩
instance : ZeroT Try.prog 150 [.nilFunc] := ⟨by kernel_rfl⟩
instance : PlainT Try.prog 150 := ⟨by kernel_rfl⟩
instance : CellT Try.prog 151 := ⟨by kernel_rfl⟩
instance : ZeroT Try.prog 151 [.nilFunc] := ⟨by kernel_rfl⟩
instance : PlainT Try.prog 151 := ⟨by kernel_rfl⟩
instance : CellT Try.prog 152 := ⟨by kernel_rfl⟩
instance : ZeroT Try.prog 152 [.int .i64 0] := ⟨by kernel_rfl⟩
instance : PlainT Try.prog 152 := ⟨by kernel_rfl⟩
instance : CellT Try.prog 154 := ⟨by kernel_rfl⟩
instance : ZeroT Try.prog 154 [.nilFunc] := ⟨by kernel_rfl⟩
instance : PlainT Try.prog 154 := ⟨by kernel_rfl⟩
instance : CellT Try.prog 155 := ⟨by kernel_rfl⟩
instance : ZeroT Try.prog 155 [.nilFunc] := ⟨by kernel_rfl⟩
instance : PlainT Try.prog 155 := ⟨by kernel_rfl⟩
instance : CellT Try.prog 156 := ⟨by kernel_rfl⟩
instance : ZeroT Try.prog 156 [.nilFunc] := ⟨by kernel_rfl⟩
instance : PlainT Try.prog 156 := ⟨by kernel_rfl⟩
instance : CellT Try.prog 157 := ⟨by kernel_rfl⟩
instance : ZeroT Try.prog 157 [.nilFunc] := ⟨by kernel_rfl⟩
instance : PlainT Try.prog 157 := ⟨by kernel_rfl⟩
instance : CellT Try.prog 158 := ⟨by kernel_rfl⟩
instance : ZeroT Try.prog 158 [.nilFunc] := ⟨by kernel_rfl⟩
instance : PlainT Try.prog 158 := ⟨by kernel_rfl⟩
instance : CellT Try.prog 159 := ⟨by kernel_rfl⟩
instance : ZeroT Try.prog 159 [.int .u32 0] := ⟨by kernel_rfl⟩
instance : PlainT Try.prog 159 := ⟨by kernel_rfl⟩
instance : CellT Try.prog 160 := ⟨by kernel_rfl⟩
instance : ZeroT Try.prog 160 [.nilFunc] := ⟨by kernel_rfl⟩
instance : PlainT Try.prog 160 := ⟨by kernel_rfl⟩
instance : CellT Try.prog 161 := ⟨by kernel_rfl⟩
instance : ZeroT Try.prog 161 [.int .u64 0] := ⟨by kernel_rfl⟩
instance : PlainT Try.prog 161 := ⟨by kernel_rfl⟩
instance : CellT Try.prog 162 := ⟨by kernel_rfl⟩
instance : ZeroT Try.prog 162 [.int .u64 0] := ⟨by kernel_rfl⟩
instance : PlainT Try.prog 162 := ⟨by kernel_rfl⟩
instance : CellT Try.prog 163 := ⟨by kernel_rfl⟩
instance : ZeroT Try.prog 163 [.nilFunc] := ⟨by kernel_rfl⟩
instance : PlainT Try.prog 163 := ⟨by kernel_rfl⟩
instance : CellT Try.prog 164 := ⟨by kernel_rfl⟩
instance : ZeroT Try.prog 164 [.nilFunc] := ⟨by kernel_rfl⟩
instance : PlainT Try.prog 164 := ⟨by kernel_rfl⟩
instance : CellT Try.prog 165 := ⟨by kernel_rfl⟩
instance : ZeroT Try.prog 165 [.nilFunc] := ⟨by kernel_rfl⟩
instance : PlainT Try.prog 165 := ⟨by kernel_rfl⟩
instance : CellT Try.prog 166 := ⟨by kernel_rfl⟩
instance : ZeroT Try.prog 166 [.pointer none] := ⟨by kernel_rfl⟩
instance : PtrT Try.prog 166 := ⟨by kernel_rfl⟩
instance : PlainT Try.prog 166 := ⟨by kernel_rfl⟩
instance : CellT Try.prog 167 := ⟨by kernel_rfl⟩
instance : ZeroT Try.prog 167 [.nilFunc] := ⟨by kernel_rfl⟩
instance : PlainT Try.prog 167 := ⟨by kernel_rfl⟩
instance : CellT Try.prog 168 := ⟨by kernel_rfl⟩
instance : ZeroT Try.prog 168 [.pointer none] := ⟨by kernel_rfl⟩
instance : MethT Try.prog 168 "Next" 111 true 162 := ⟨by kernel_rfl⟩
instance : PtrT Try.prog 168 := ⟨by kernel_rfl⟩
instance : PlainT Try.prog 168 := ⟨by kernel_rfl⟩
instance : CellT Try.prog 170 := ⟨by kernel_rfl⟩
instance : ZeroT Try.prog 170 [.nilFunc] := ⟨by kernel_rfl⟩
instance : PlainT Try.prog 170 := ⟨by kernel_rfl⟩
instance : CellT Try.prog 171 := ⟨by kernel_rfl⟩
instance : ZeroT Try.prog 171 [.nilFunc] := ⟨by kernel_rfl⟩
instance : PlainT Try.prog 171 := ⟨by kernel_rfl⟩
instance : AggT Try.prog 172 4 := ⟨by kernel_rfl⟩
instance : ZeroT Try.prog 172 [.pointer none, .pointer none, .pointer none, .string ByteArray.empty] := ⟨by kernel_rfl⟩
instance : PlainT Try.prog 172 := ⟨by kernel_rfl⟩
instance : FieldT Try.prog 172 0 0 17 := ⟨by kernel_rfl⟩
instance : FieldT Try.prog 172 1 1 17 := ⟨by kernel_rfl⟩
instance : FieldT Try.prog 172 2 2 17 := ⟨by kernel_rfl⟩
instance : FieldT Try.prog 172 3 3 9 := ⟨by kernel_rfl⟩
instance : StructT Try.prog 172 [(0, 1), (1, 1), (2, 1), (3, 1)] := ⟨by kernel_rfl⟩
instance : AggT Try.prog 173 4 := ⟨by kernel_rfl⟩
instance : ZeroT Try.prog 173 [.pointer none, .pointer none, .pointer none, .string ByteArray.empty] := ⟨by kernel_rfl⟩
instance : PlainT Try.prog 173 := ⟨by kernel_rfl⟩
instance : FieldT Try.prog 173 0 0 17 := ⟨by kernel_rfl⟩
instance : FieldT Try.prog 173 1 1 17 := ⟨by kernel_rfl⟩
instance : FieldT Try.prog 173 2 2 17 := ⟨by kernel_rfl⟩
instance : FieldT Try.prog 173 3 3 9 := ⟨by kernel_rfl⟩
instance : StructT Try.prog 173 [(0, 1), (1, 1), (2, 1), (3, 1)] := ⟨by kernel_rfl⟩
instance : AggT Try.prog 174 0 := ⟨by kernel_rfl⟩
instance : ZeroT Try.prog 174 [] := ⟨by kernel_rfl⟩
instance : PlainT Try.prog 174 := ⟨by kernel_rfl⟩
instance : AggT Try.prog 175 0 := ⟨by kernel_rfl⟩
instance : ZeroT Try.prog 175 [] := ⟨by kernel_rfl⟩
instance : PlainT Try.prog 175 := ⟨by kernel_rfl⟩
instance : StructT Try.prog 175 [(0, 0)] := ⟨by kernel_rfl⟩
instance : AggT Try.prog 176 0 := ⟨by kernel_rfl⟩
instance : ZeroT Try.prog 176 [] := ⟨by kernel_rfl⟩
instance : PlainT Try.prog 176 := ⟨by kernel_rfl⟩
instance : StructT Try.prog 176 [(0, 0)] := ⟨by kernel_rfl⟩
instance : CellT Try.prog 177 := ⟨by kernel_rfl⟩
instance : ZeroT Try.prog 177 [.int .u8 0] := ⟨by kernel_rfl⟩
instance : PlainT Try.prog 177 := ⟨by kernel_rfl⟩
instance : CellT Try.prog 178 := ⟨by kernel_rfl⟩
instance : ZeroT Try.prog 178 [.int .u8 0] := ⟨by kernel_rfl⟩
instance : PlainT Try.prog 178 := ⟨by kernel_rfl⟩
instance : CellT Try.prog 179 := ⟨by kernel_rfl⟩
instance : ZeroT Try.prog 179 [.nilFunc] := ⟨by kernel_rfl⟩
instance : PlainT Try.prog 179 := ⟨by kernel_rfl⟩
instance : CellT Try.prog 180 := ⟨by kernel_rfl⟩
instance : ZeroT Try.prog 180 [.pointer none] := ⟨by kernel_rfl⟩
instance : PtrT Try.prog 180 := ⟨by kernel_rfl⟩
instance : PlainT Try.prog 180 := ⟨by kernel_rfl⟩
instance : CellT Try.prog 181 := ⟨by kernel_rfl⟩
instance : ZeroT Try.prog 181 [.int .i32 0] := ⟨by kernel_rfl⟩
instance : PlainT Try.prog 181 := ⟨by kernel_rfl⟩
instance : CellT Try.prog 182 := ⟨by kernel_rfl⟩
instance : ZeroT Try.prog 182 [.int .i32 0] := ⟨by kernel_rfl⟩
instance : PlainT Try.prog 182 := ⟨by kernel_rfl⟩
instance : AggT Try.prog 183 11 := ⟨by kernel_rfl⟩
instance : ZeroT Try.prog 183 [.int .u64 0, .int .u64 0, .int .u32 0, .int .u8 0, .int .u8 0, .int .u8 0, .int .u8 0, .nilFunc, .pointer none, .int .i32 0, .int .i32 0] := ⟨by kernel_rfl⟩
instance : PlainT Try.prog 183 := ⟨by kernel_rfl⟩
instance : FieldT Try.prog 183 0 0 12 := ⟨by kernel_rfl⟩
instance : FieldT Try.prog 183 1 1 12 := ⟨by kernel_rfl⟩
instance : FieldT Try.prog 183 2 2 159 := ⟨by kernel_rfl⟩
instance : FieldT Try.prog 183 3 3 177 := ⟨by kernel_rfl⟩
instance : FieldT Try.prog 183 4 4 5 := ⟨by kernel_rfl⟩
instance : FieldT Try.prog 183 5 5 5 := ⟨by kernel_rfl⟩
instance : FieldT Try.prog 183 6 6 178 := ⟨by kernel_rfl⟩
instance : FieldT Try.prog 183 7 7 179 := ⟨by kernel_rfl⟩
instance : FieldT Try.prog 183 8 8 180 := ⟨by kernel_rfl⟩
instance : FieldT Try.prog 183 9 9 181 := ⟨by kernel_rfl⟩
instance : FieldT Try.prog 183 10 10 182 := ⟨by kernel_rfl⟩
instance : StructT Try.prog 183 [(0, 1), (1, 1), (2, 1), (3, 1), (4, 1), (5, 1), (6, 1), (7, 1), (8, 1), (9, 1), (10, 1)] := ⟨by kernel_rfl⟩
instance : AggT Try.prog 184 11 := ⟨by kernel_rfl⟩
instance : ZeroT Try.prog 184 [.int .u64 0, .int .u64 0, .int .u32 0, .int .u8 0, .int .u8 0, .int .u8 0, .int .u8 0, .nilFunc, .pointer none, .int .i32 0, .int .i32 0] := ⟨by kernel_rfl⟩
instance : PlainT Try.prog 184 := ⟨by kernel_rfl⟩
instance : FieldT Try.prog 184 0 0 12 := ⟨by kernel_rfl⟩
instance : FieldT Try.prog 184 1 1 12 := ⟨by kernel_rfl⟩
instance : FieldT Try.prog 184 2 2 159 := ⟨by kernel_rfl⟩
instance : FieldT Try.prog 184 3 3 177 := ⟨by kernel_rfl⟩
instance : FieldT Try.prog 184 4 4 5 := ⟨by kernel_rfl⟩
instance : FieldT Try.prog 184 5 5 5 := ⟨by kernel_rfl⟩
instance : FieldT Try.prog 184 6 6 178 := ⟨by kernel_rfl⟩
instance : FieldT Try.prog 184 7 7 179 := ⟨by kernel_rfl⟩
instance : FieldT Try.prog 184 8 8 180 := ⟨by kernel_rfl⟩
instance : FieldT Try.prog 184 9 9 181 := ⟨by kernel_rfl⟩
instance : FieldT Try.prog 184 10 10 182 := ⟨by kernel_rfl⟩
instance : StructT Try.prog 184 [(0, 1), (1, 1), (2, 1), (3, 1), (4, 1), (5, 1), (6, 1), (7, 1), (8, 1), (9, 1), (10, 1)] := ⟨by kernel_rfl⟩
instance : CellT Try.prog 185 := ⟨by kernel_rfl⟩
instance : ZeroT Try.prog 185 [.pointer none] := ⟨by kernel_rfl⟩
instance : PlainT Try.prog 185 := ⟨by kernel_rfl⟩
-- 3 stratagem/stratagemlaw41.PdbAdmissible
instance : CallT Try.prog 3 := ⟨by kernel_rfl⟩
-- 4 stratagem/stratagemlaw41.PdbSaturated
instance : CallT Try.prog 4 := ⟨by kernel_rfl⟩
-- 5 stratagem/stratagemlaw41.PdbWider
instance : CallT Try.prog 5 := ⟨by kernel_rfl⟩
-- 6 stratagem/stratagemlaw41.PdbCosts
instance : CallT Try.prog 6 := ⟨by kernel_rfl⟩
-- 7 stratagem/stratagemlaw41.PdbKeeps
instance : CallT Try.prog 7 := ⟨by kernel_rfl⟩
-- 8 stratagem/stratagemlaw41.PdbTables
instance : CallT Try.prog 8 := ⟨by kernel_rfl⟩
-- 9 stratagem/stratagemlaw41.PdbErrors
instance : CallT Try.prog 9 := ⟨by kernel_rfl⟩
-- 10 stratagem/stratagemlaw43.SaturateParts
instance : CallT Try.prog 10 := ⟨by kernel_rfl⟩
-- 11 stratagem/stratagemlaw43.SaturateBudget
instance : CallT Try.prog 11 := ⟨by kernel_rfl⟩
-- 12 stratagem/stratagemlaw43.SaturateAdmissible
instance : CallT Try.prog 12 := ⟨by kernel_rfl⟩
-- 13 stratagem/stratagemlaw43.SaturateFirst
instance : CallT Try.prog 13 := ⟨by kernel_rfl⟩
-- 14 stratagem/stratagemlaw43.SaturateScales
instance : CallT Try.prog 14 := ⟨by kernel_rfl⟩
-- 15 stratagem/stratagemlaw43.SaturateKeeps
instance : CallT Try.prog 15 := ⟨by kernel_rfl⟩
-- 16 stratagem/stratagemlaw43.SaturateErrors
instance : CallT Try.prog 16 := ⟨by kernel_rfl⟩
-- 17 stratagem/stratagemlaw41.fits
instance : CallT Try.prog 17 := ⟨by kernel_rfl⟩
-- 18 stratagem/stratagemlaw41.awake
instance : CallT Try.prog 18 := ⟨by kernel_rfl⟩
-- 19 stratagem/stratagemlaw41.priced
instance : CallT Try.prog 19 := ⟨by kernel_rfl⟩
-- 20 stratagem/pdb.Build
instance : CallT Try.prog 20 := ⟨by kernel_rfl⟩
-- 21 stratagem/stratagemlaw41.chosen
instance : CallT Try.prog 21 := ⟨by kernel_rfl⟩
-- 22 stratagem/stratagembase.Distances
instance : CallT Try.prog 22 := ⟨by kernel_rfl⟩
-- 23 stratagem/stratagembase.States
instance : CallT Try.prog 23 := ⟨by kernel_rfl⟩
-- 24 (*stratagem/pdb.Database).Value
instance : CallT Try.prog 24 := ⟨by kernel_rfl⟩
-- 25 stratagem/stratagembase.Holds
instance : CallT Try.prog 25 := ⟨by kernel_rfl⟩
-- 26 stratagem/stratagembase.Edges
instance : CallT Try.prog 26 := ⟨by kernel_rfl⟩
-- 27 (*stratagem/pdb.Database).Table
instance : CallT Try.prog 27 := ⟨by kernel_rfl⟩
-- 28 (*stratagem/pdb.Database).Saturated
instance : CallT Try.prog 28 := ⟨by kernel_rfl⟩
-- 29 stratagem/stratagemref40.Project
instance : CallT Try.prog 29 := ⟨by kernel_rfl⟩
-- 30 stratagem/stratagembase.Ints
instance : CallT Try.prog 30 := ⟨by kernel_rfl⟩
-- 31 stratagem/stratagembase.Many
instance : CallT Try.prog 31 := ⟨by kernel_rfl⟩
-- 32 (*stratagem/pdb.Database).Pattern
instance : CallT Try.prog 32 := ⟨by kernel_rfl⟩
-- 33 stratagem/stratagemref40.Distances
instance : CallT Try.prog 33 := ⟨by kernel_rfl⟩
-- 34 stratagem/stratagemref40.Index
instance : CallT Try.prog 34 := ⟨by kernel_rfl⟩
-- 35 (*stratagem/pdb.Database).Dead
instance : CallT Try.prog 35 := ⟨by kernel_rfl⟩
-- 36 stratagem/stratagembase.Good
instance : CallT Try.prog 36 := ⟨by kernel_rfl⟩
-- 37 stratagem/stratagembase.Num
instance : CallT Try.prog 37 := ⟨by kernel_rfl⟩
-- 38 stratagem/task.Check
instance : CallT Try.prog 38 := ⟨by kernel_rfl⟩
-- 39 stratagem/stratagemref40.Pattern
instance : CallT Try.prog 39 := ⟨by kernel_rfl⟩
-- 40 stratagem/stratagembase.Small
instance : CallT Try.prog 40 := ⟨by kernel_rfl⟩
-- 41 stratagem/stratagemref40.Many
instance : CallT Try.prog 41 := ⟨by kernel_rfl⟩
-- 42 stratagem/stratagemlaw43.picked
instance : CallT Try.prog 42 := ⟨by kernel_rfl⟩
-- 43 stratagem/stratagemlaw43.awake
instance : CallT Try.prog 43 := ⟨by kernel_rfl⟩
-- 44 stratagem/saturate.New
instance : CallT Try.prog 44 := ⟨by kernel_rfl⟩
-- 45 (*stratagem/saturate.Partition).Parts
instance : CallT Try.prog 45 := ⟨by kernel_rfl⟩
-- 46 stratagem/stratagemref34.Costs
instance : CallT Try.prog 46 := ⟨by kernel_rfl⟩
-- 47 (*stratagem/saturate.Partition).Value
instance : CallT Try.prog 47 := ⟨by kernel_rfl⟩
-- 48 stratagem/stratagemlaw41.example
instance : CallT Try.prog 48 := ⟨by kernel_rfl⟩
-- 49 slices.ContainsFunc[[]int,int]
instance : CallT Try.prog 49 := ⟨by kernel_rfl⟩
-- 50 stratagem/pdb.Build$1
instance : CallT Try.prog 50 := ⟨by kernel_rfl⟩
-- 51 stratagem/project.Project
instance : CallT Try.prog 51 := ⟨by kernel_rfl⟩
-- 52 slices.Clone[[]int,int]
instance : CallT Try.prog 52 := ⟨by kernel_rfl⟩
-- 53 stratagem/pdb.distances
instance : CallT Try.prog 53 := ⟨by kernel_rfl⟩
-- 54 stratagem/task.Proper
instance : CallT Try.prog 54 := ⟨by kernel_rfl⟩
-- 55 stratagem/stratagembase.Apply
instance : CallT Try.prog 55 := ⟨by kernel_rfl⟩
-- 56 stratagem/stratagembase.Rank
instance : CallT Try.prog 56 := ⟨by kernel_rfl⟩
-- 57 stratagem/stratagemref40.Goals
instance : CallT Try.prog 57 := ⟨by kernel_rfl⟩
-- 58 stratagem/stratagembase.State
instance : CallT Try.prog 58 := ⟨by kernel_rfl⟩
-- 59 stratagem/stratagembase.Proper
instance : CallT Try.prog 59 := ⟨by kernel_rfl⟩
-- 60 stratagem/stratagembase.operator
instance : CallT Try.prog 60 := ⟨by kernel_rfl⟩
-- 61 stratagem/task.large
instance : CallT Try.prog 61 := ⟨by kernel_rfl⟩
-- 62 stratagem/task.conditions
instance : CallT Try.prog 62 := ⟨by kernel_rfl⟩
-- 63 stratagem/task.Facts
instance : CallT Try.prog 63 := ⟨by kernel_rfl⟩
-- 64 stratagem/task.named
instance : CallT Try.prog 64 := ⟨by kernel_rfl⟩
-- 65 stratagem/stratagemlaw43.example
instance : CallT Try.prog 65 := ⟨by kernel_rfl⟩
-- 66 slices.ContainsFunc[[][]int,[]int]
instance : CallT Try.prog 66 := ⟨by kernel_rfl⟩
-- 67 stratagem/saturate.New$1
instance : CallT Try.prog 67 := ⟨by kernel_rfl⟩
-- 68 stratagem/saturate.pattern
instance : CallT Try.prog 68 := ⟨by kernel_rfl⟩
-- 69 slices.IndexFunc[[]int,int]
instance : CallT Try.prog 69 := ⟨by kernel_rfl⟩
-- 70 stratagem/project.check
instance : CallT Try.prog 70 := ⟨by kernel_rfl⟩
-- 71 stratagem/project.count
instance : CallT Try.prog 71 := ⟨by kernel_rfl⟩
-- 72 stratagem/project.number
instance : CallT Try.prog 72 := ⟨by kernel_rfl⟩
-- 73 stratagem/project.outside
instance : CallT Try.prog 73 := ⟨by kernel_rfl⟩
-- 74 stratagem/project.put
instance : CallT Try.prog 74 := ⟨by kernel_rfl⟩
-- 75 slices.Contains[[]int,int]
instance : CallT Try.prog 75 := ⟨by kernel_rfl⟩
-- 76 stratagem/project.targets
instance : CallT Try.prog 76 := ⟨by kernel_rfl⟩
-- 77 container/heap.Push
instance : CallT Try.prog 77 := ⟨by kernel_rfl⟩
-- 78 (stratagem/pdb.queue).Len
instance : CallT Try.prog 78 := ⟨by kernel_rfl⟩
-- 79 container/heap.Pop
instance : CallT Try.prog 79 := ⟨by kernel_rfl⟩
-- 80 slices.ContainsFunc[[][]stratagem/api.Fact,[]stratagem/api.Fact]
instance : CallT Try.prog 80 := ⟨by kernel_rfl⟩
-- 81 stratagem/task.large$1
instance : CallT Try.prog 81 := ⟨by kernel_rfl⟩
-- 82 slices.IndexFunc[[][]int,[]int]
instance : CallT Try.prog 82 := ⟨by kernel_rfl⟩
-- 83 stratagem/project.has
instance : CallT Try.prog 83 := ⟨by kernel_rfl⟩
-- 84 slices.Sort[[]int,int]
instance : CallT Try.prog 84 := ⟨by kernel_rfl⟩
-- 85 slices.Backward[[]int,int]
instance : CallT Try.prog 85 := ⟨by kernel_rfl⟩
-- 86 slices.Index[[]int,int]
instance : CallT Try.prog 86 := ⟨by kernel_rfl⟩
-- 87 stratagem/task.Holds
instance : CallT Try.prog 87 := ⟨by kernel_rfl⟩
-- 88 slices.Compact[[]int,int]
instance : CallT Try.prog 88 := ⟨by kernel_rfl⟩
-- 89 container/heap.up
instance : CallT Try.prog 89 := ⟨by kernel_rfl⟩
-- 90 container/heap.down
instance : CallT Try.prog 90 := ⟨by kernel_rfl⟩
-- 91 slices.IndexFunc[[][]stratagem/api.Fact,[]stratagem/api.Fact]
instance : CallT Try.prog 91 := ⟨by kernel_rfl⟩
-- 92 slices.ContainsFunc[[]stratagem/api.Fact,stratagem/api.Fact]
instance : CallT Try.prog 92 := ⟨by kernel_rfl⟩
-- 93 stratagem/project.has$1
instance : CallT Try.prog 93 := ⟨by kernel_rfl⟩
-- 94 slices.pdqsortOrdered[int]
instance : CallT Try.prog 94 := ⟨by kernel_rfl⟩
-- 95 math/bits.Len
instance : CallT Try.prog 95 := ⟨by kernel_rfl⟩
-- 96 slices.Backward[[]int,int]$1
instance : CallT Try.prog 96 := ⟨by kernel_rfl⟩
-- 97 slices.IndexFunc[[]stratagem/api.Fact,stratagem/api.Fact]
instance : CallT Try.prog 97 := ⟨by kernel_rfl⟩
-- 98 slices.insertionSortOrdered[int]
instance : CallT Try.prog 98 := ⟨by kernel_rfl⟩
-- 99 slices.heapSortOrdered[int]
instance : CallT Try.prog 99 := ⟨by kernel_rfl⟩
-- 100 slices.breakPatternsOrdered[int]
instance : CallT Try.prog 100 := ⟨by kernel_rfl⟩
-- 101 slices.choosePivotOrdered[int]
instance : CallT Try.prog 101 := ⟨by kernel_rfl⟩
-- 102 slices.reverseRangeOrdered[int]
instance : CallT Try.prog 102 := ⟨by kernel_rfl⟩
-- 103 slices.partialInsertionSortOrdered[int]
instance : CallT Try.prog 103 := ⟨by kernel_rfl⟩
-- 104 cmp.Less[int]
instance : CallT Try.prog 104 := ⟨by kernel_rfl⟩
-- 105 slices.partitionEqualOrdered[int]
instance : CallT Try.prog 105 := ⟨by kernel_rfl⟩
-- 106 slices.partitionOrdered[int]
instance : CallT Try.prog 106 := ⟨by kernel_rfl⟩
-- 107 math/bits.Len32
instance : CallT Try.prog 107 := ⟨by kernel_rfl⟩
-- 108 math/bits.Len64
instance : CallT Try.prog 108 := ⟨by kernel_rfl⟩
-- 109 slices.siftDownOrdered[int]
instance : CallT Try.prog 109 := ⟨by kernel_rfl⟩
-- 110 slices.nextPowerOfTwo
instance : CallT Try.prog 110 := ⟨by kernel_rfl⟩
-- 112 slices.medianAdjacentOrdered[int]
instance : CallT Try.prog 112 := ⟨by kernel_rfl⟩
-- 113 slices.medianOrdered[int]
instance : CallT Try.prog 113 := ⟨by kernel_rfl⟩
-- 114 cmp.isNaN[int]
instance : CallT Try.prog 114 := ⟨by kernel_rfl⟩
-- 115 slices.order2Ordered[int]
instance : CallT Try.prog 115 := ⟨by kernel_rfl⟩
-- 133 (stratagem/pdb.queue).Less
instance : CallT Try.prog 133 := ⟨by kernel_rfl⟩
-- 134 (*stratagem/pdb.queue).Pop
instance : CallT Try.prog 134 := ⟨by kernel_rfl⟩
-- 135 (*stratagem/pdb.queue).Push
instance : CallT Try.prog 135 := ⟨by kernel_rfl⟩
-- 136 (stratagem/pdb.queue).Swap
instance : CallT Try.prog 136 := ⟨by kernel_rfl⟩
theorem mixed : Try.prog.follows .mixedOrders = true := by kernel_rfl
end Go.Proofs.Ytnichjjloipghaa
