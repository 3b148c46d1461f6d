/-
  The types of this seat, as the steps of the generator ask for them: closed facts on the program.
-/
import Derived.Test.YtnoiagnmbipppaaMSlA
import Derived.Test.YtnoiagnmbipppaaProg
import Derived.KernelRfl
set_option linter.unusedSimpArgs false
set_option linter.unusedVariables false
namespace Go.Proofs.Ytnoiagnmbipppaa
open Go.Sl
instance : CellT Try.prog 1 := ⟨by kernel_rfl⟩
instance : ZeroT Try.prog 1 [.nilFunc] := ⟨by kernel_rfl⟩
instance : PlainT Try.prog 1 := ⟨by kernel_rfl⟩
instance : CellT Try.prog 2 := ⟨by kernel_rfl⟩
instance : ZeroT Try.prog 2 [.int .i64 0] := ⟨by kernel_rfl⟩
instance : PlainT Try.prog 2 := ⟨by kernel_rfl⟩
instance : CellT Try.prog 3 := ⟨by kernel_rfl⟩
instance : ZeroT Try.prog 3 [.int .i64 0] := ⟨by kernel_rfl⟩
instance : PlainT Try.prog 3 := ⟨by kernel_rfl⟩
instance : CellT Try.prog 4 := ⟨by kernel_rfl⟩
instance : ZeroT Try.prog 4 [.bool false] := ⟨by kernel_rfl⟩
instance : BoolT Try.prog 4 := ⟨by kernel_rfl⟩
instance : PlainT Try.prog 4 := ⟨by kernel_rfl⟩
instance : CellT Try.prog 5 := ⟨by kernel_rfl⟩
instance : ZeroT Try.prog 5 [.int .u8 0] := ⟨by kernel_rfl⟩
instance : PlainT Try.prog 5 := ⟨by kernel_rfl⟩
instance : CellT Try.prog 6 := ⟨by kernel_rfl⟩
instance : ZeroT Try.prog 6 [.int .u8 0] := ⟨by kernel_rfl⟩
instance : PlainT Try.prog 6 := ⟨by kernel_rfl⟩
instance : AggT Try.prog 7 4 := ⟨by kernel_rfl⟩
instance : ZeroT Try.prog 7 [.int .i64 0, .int .i64 0, .bool false, .int .u8 0] := ⟨by kernel_rfl⟩
instance : PlainT Try.prog 7 := ⟨by kernel_rfl⟩
instance : FieldT Try.prog 7 0 0 2 := ⟨by kernel_rfl⟩
instance : FieldT Try.prog 7 1 1 3 := ⟨by kernel_rfl⟩
instance : FieldT Try.prog 7 2 2 4 := ⟨by kernel_rfl⟩
instance : FieldT Try.prog 7 3 3 6 := ⟨by kernel_rfl⟩
instance : StructT Try.prog 7 [(0, 1), (1, 1), (2, 1), (3, 1)] := ⟨by kernel_rfl⟩
instance : AggT Try.prog 8 4 := ⟨by kernel_rfl⟩
instance : ZeroT Try.prog 8 [.int .i64 0, .int .i64 0, .bool false, .int .u8 0] := ⟨by kernel_rfl⟩
instance : PlainT Try.prog 8 := ⟨by kernel_rfl⟩
instance : FieldT Try.prog 8 0 0 2 := ⟨by kernel_rfl⟩
instance : FieldT Try.prog 8 1 1 3 := ⟨by kernel_rfl⟩
instance : FieldT Try.prog 8 2 2 4 := ⟨by kernel_rfl⟩
instance : FieldT Try.prog 8 3 3 6 := ⟨by kernel_rfl⟩
instance : StructT Try.prog 8 [(0, 1), (1, 1), (2, 1), (3, 1)] := ⟨by kernel_rfl⟩
instance : CellT Try.prog 9 := ⟨by kernel_rfl⟩
instance : ZeroT Try.prog 9 [.string ByteArray.empty] := ⟨by kernel_rfl⟩
instance : StrT Try.prog 9 := ⟨by kernel_rfl⟩
instance : PlainT Try.prog 9 := ⟨by kernel_rfl⟩
instance : CellT Try.prog 10 := ⟨by kernel_rfl⟩
instance : ZeroT Try.prog 10 [.string ByteArray.empty] := ⟨by kernel_rfl⟩
instance : StrT Try.prog 10 := ⟨by kernel_rfl⟩
instance : PlainT Try.prog 10 := ⟨by kernel_rfl⟩
instance : CellT Try.prog 11 := ⟨by kernel_rfl⟩
instance : ZeroT Try.prog 11 [.string ByteArray.empty] := ⟨by kernel_rfl⟩
instance : StrT Try.prog 11 := ⟨by kernel_rfl⟩
instance : PlainT Try.prog 11 := ⟨by kernel_rfl⟩
instance : CellT Try.prog 12 := ⟨by kernel_rfl⟩
instance : ZeroT Try.prog 12 [.int .u64 0] := ⟨by kernel_rfl⟩
instance : PlainT Try.prog 12 := ⟨by kernel_rfl⟩
instance : AggT Try.prog 13 2 := ⟨by kernel_rfl⟩
instance : ZeroT Try.prog 13 [.string ByteArray.empty, .int .u64 0] := ⟨by kernel_rfl⟩
instance : PlainT Try.prog 13 := ⟨by kernel_rfl⟩
instance : FieldT Try.prog 13 0 0 9 := ⟨by kernel_rfl⟩
instance : FieldT Try.prog 13 1 1 12 := ⟨by kernel_rfl⟩
instance : StructT Try.prog 13 [(0, 1), (1, 1)] := ⟨by kernel_rfl⟩
instance : AggT Try.prog 14 2 := ⟨by kernel_rfl⟩
instance : ZeroT Try.prog 14 [.string ByteArray.empty, .int .u64 0] := ⟨by kernel_rfl⟩
instance : PlainT Try.prog 14 := ⟨by kernel_rfl⟩
instance : FieldT Try.prog 14 0 0 9 := ⟨by kernel_rfl⟩
instance : FieldT Try.prog 14 1 1 12 := ⟨by kernel_rfl⟩
instance : StructT Try.prog 14 [(0, 1), (1, 1)] := ⟨by kernel_rfl⟩
instance : CellT Try.prog 15 := ⟨by kernel_rfl⟩
instance : ZeroT Try.prog 15 [.pointer none] := ⟨by kernel_rfl⟩
instance : MethT Try.prog 15 "Error" 118 true 170 := ⟨by kernel_rfl⟩
instance : MethT Try.prog 15 "RuntimeError" 119 true 170 := ⟨by kernel_rfl⟩
instance : PtrT Try.prog 15 := ⟨by kernel_rfl⟩
instance : PlainT Try.prog 15 := ⟨by kernel_rfl⟩
instance : CellT Try.prog 16 := ⟨by kernel_rfl⟩
instance : ZeroT Try.prog 16 [.pointer none] := ⟨by kernel_rfl⟩
instance : MethT Try.prog 16 "Error" 120 true 173 := ⟨by kernel_rfl⟩
instance : MethT Try.prog 16 "RuntimeError" 121 true 173 := ⟨by kernel_rfl⟩
instance : PtrT Try.prog 16 := ⟨by kernel_rfl⟩
instance : PlainT Try.prog 16 := ⟨by kernel_rfl⟩
instance : CellT Try.prog 17 := ⟨by kernel_rfl⟩
instance : ZeroT Try.prog 17 [.pointer none] := ⟨by kernel_rfl⟩
instance : MethT Try.prog 17 "Align" 122 true 181 := ⟨by kernel_rfl⟩
instance : MethT Try.prog 17 "Len" 123 true 181 := ⟨by kernel_rfl⟩
instance : PtrT Try.prog 17 := ⟨by kernel_rfl⟩
instance : PlainT Try.prog 17 := ⟨by kernel_rfl⟩
instance : AggT Try.prog 18 1 := ⟨by kernel_rfl⟩
instance : ZeroT Try.prog 18 [.pointer none] := ⟨by kernel_rfl⟩
instance : PlainT Try.prog 18 := ⟨by kernel_rfl⟩
instance : FieldT Try.prog 18 0 0 17 := ⟨by kernel_rfl⟩
instance : StructT Try.prog 18 [(0, 1)] := ⟨by kernel_rfl⟩
instance : AggT Try.prog 19 1 := ⟨by kernel_rfl⟩
instance : ZeroT Try.prog 19 [.pointer none] := ⟨by kernel_rfl⟩
instance : PlainT Try.prog 19 := ⟨by kernel_rfl⟩
instance : FieldT Try.prog 19 0 0 17 := ⟨by kernel_rfl⟩
instance : StructT Try.prog 19 [(0, 1)] := ⟨by kernel_rfl⟩
instance : CellT Try.prog 20 := ⟨by kernel_rfl⟩
instance : ZeroT Try.prog 20 [.nilIface] := ⟨by kernel_rfl⟩
instance : IfaceT Try.prog 20 := ⟨by kernel_rfl⟩
instance : CellT Try.prog 21 := ⟨by kernel_rfl⟩
instance : ZeroT Try.prog 21 [.int .i32 0] := ⟨by kernel_rfl⟩
instance : PlainT Try.prog 21 := ⟨by kernel_rfl⟩
instance : SliceT Try.prog 22 3 1 8 := ⟨by kernel_rfl⟩
instance : CellT Try.prog 22 := ⟨by kernel_rfl⟩
instance : ZeroT Try.prog 22 [.slice none 0 0] := ⟨by kernel_rfl⟩
instance : PlainT Try.prog 22 := ⟨by kernel_rfl⟩
instance : SliceT Try.prog 23 98 2 16 := ⟨by kernel_rfl⟩
instance : CellT Try.prog 23 := ⟨by kernel_rfl⟩
instance : ZeroT Try.prog 23 [.slice none 0 0] := ⟨by kernel_rfl⟩
instance : PlainT Try.prog 23 := ⟨by kernel_rfl⟩
instance : SliceT Try.prog 24 46 4 72 := ⟨by kernel_rfl⟩
instance : CellT Try.prog 24 := ⟨by kernel_rfl⟩
instance : ZeroT Try.prog 24 [.slice none 0 0] := ⟨by kernel_rfl⟩
instance : PlainT Try.prog 24 := ⟨by kernel_rfl⟩
instance : AggT Try.prog 25 4 := ⟨by kernel_rfl⟩
instance : ZeroT Try.prog 25 [.slice none 0 0, .slice none 0 0, .slice none 0 0, .slice none 0 0] := ⟨by kernel_rfl⟩
instance : PlainT Try.prog 25 := ⟨by kernel_rfl⟩
instance : FieldT Try.prog 25 0 0 22 := ⟨by kernel_rfl⟩
instance : FieldT Try.prog 25 1 1 22 := ⟨by kernel_rfl⟩
instance : FieldT Try.prog 25 2 2 23 := ⟨by kernel_rfl⟩
instance : FieldT Try.prog 25 3 3 24 := ⟨by kernel_rfl⟩
instance : StructT Try.prog 25 [(0, 1), (1, 1), (2, 1), (3, 1)] := ⟨by kernel_rfl⟩
instance : AggT Try.prog 26 4 := ⟨by kernel_rfl⟩
instance : ZeroT Try.prog 26 [.slice none 0 0, .slice none 0 0, .slice none 0 0, .slice none 0 0] := ⟨by kernel_rfl⟩
instance : PlainT Try.prog 26 := ⟨by kernel_rfl⟩
instance : FieldT Try.prog 26 0 0 22 := ⟨by kernel_rfl⟩
instance : FieldT Try.prog 26 1 1 22 := ⟨by kernel_rfl⟩
instance : FieldT Try.prog 26 2 2 23 := ⟨by kernel_rfl⟩
instance : FieldT Try.prog 26 3 3 24 := ⟨by kernel_rfl⟩
instance : StructT Try.prog 26 [(0, 1), (1, 1), (2, 1), (3, 1)] := ⟨by kernel_rfl⟩
instance : CellT Try.prog 27 := ⟨by kernel_rfl⟩
instance : ZeroT Try.prog 27 [.int .u16 0] := ⟨by kernel_rfl⟩
instance : PlainT Try.prog 27 := ⟨by kernel_rfl⟩
instance : CellT Try.prog 28 := ⟨by kernel_rfl⟩
instance : ZeroT Try.prog 28 [.nilFunc] := ⟨by kernel_rfl⟩
instance : PlainT Try.prog 28 := ⟨by kernel_rfl⟩
instance : CellT Try.prog 29 := ⟨by kernel_rfl⟩
instance : ZeroT Try.prog 29 [.nilFunc] := ⟨by kernel_rfl⟩
instance : PlainT Try.prog 29 := ⟨by kernel_rfl⟩
instance : CellT Try.prog 30 := ⟨by kernel_rfl⟩
instance : ZeroT Try.prog 30 [.pointer none] := ⟨by kernel_rfl⟩
instance : MethT Try.prog 30 "Dead" 23 true 89 := ⟨by kernel_rfl⟩
instance : MethT Try.prog 30 "Pattern" 22 true 89 := ⟨by kernel_rfl⟩
instance : MethT Try.prog 30 "Saturated" 24 true 89 := ⟨by kernel_rfl⟩
instance : MethT Try.prog 30 "Table" 20 true 89 := ⟨by kernel_rfl⟩
instance : MethT Try.prog 30 "Value" 17 true 89 := ⟨by kernel_rfl⟩
instance : PtrT Try.prog 30 := ⟨by kernel_rfl⟩
instance : PlainT Try.prog 30 := ⟨by kernel_rfl⟩
instance : CellT Try.prog 31 := ⟨by kernel_rfl⟩
instance : ZeroT Try.prog 31 [.nilIface] := ⟨by kernel_rfl⟩
instance : IfaceT Try.prog 31 := ⟨by kernel_rfl⟩
instance : CellT Try.prog 32 := ⟨by kernel_rfl⟩
instance : ZeroT Try.prog 32 [.nilIface] := ⟨by kernel_rfl⟩
instance : IfaceT Try.prog 32 := ⟨by kernel_rfl⟩
instance : CellT Try.prog 34 := ⟨by kernel_rfl⟩
instance : ZeroT Try.prog 34 [.nilFunc] := ⟨by kernel_rfl⟩
instance : PlainT Try.prog 34 := ⟨by kernel_rfl⟩
instance : CellT Try.prog 35 := ⟨by kernel_rfl⟩
instance : ZeroT Try.prog 35 [.nilFunc] := ⟨by kernel_rfl⟩
instance : PlainT Try.prog 35 := ⟨by kernel_rfl⟩
instance : SliceT Try.prog 36 22 1 24 := ⟨by kernel_rfl⟩
instance : CellT Try.prog 36 := ⟨by kernel_rfl⟩
instance : ZeroT Try.prog 36 [.slice none 0 0] := ⟨by kernel_rfl⟩
instance : PlainT Try.prog 36 := ⟨by kernel_rfl⟩
instance : CellT Try.prog 37 := ⟨by kernel_rfl⟩
instance : ZeroT Try.prog 37 [.nilFunc] := ⟨by kernel_rfl⟩
instance : PlainT Try.prog 37 := ⟨by kernel_rfl⟩
instance : CellT Try.prog 38 := ⟨by kernel_rfl⟩
instance : ZeroT Try.prog 38 [.nilFunc] := ⟨by kernel_rfl⟩
instance : PlainT Try.prog 38 := ⟨by kernel_rfl⟩
instance : CellT Try.prog 39 := ⟨by kernel_rfl⟩
instance : ZeroT Try.prog 39 [.nilFunc] := ⟨by kernel_rfl⟩
instance : PlainT Try.prog 39 := ⟨by kernel_rfl⟩
instance : CellT Try.prog 40 := ⟨by kernel_rfl⟩
instance : ZeroT Try.prog 40 [.nilFunc] := ⟨by kernel_rfl⟩
instance : PlainT Try.prog 40 := ⟨by kernel_rfl⟩
instance : CellT Try.prog 41 := ⟨by kernel_rfl⟩
instance : ZeroT Try.prog 41 [.nilFunc] := ⟨by kernel_rfl⟩
instance : PlainT Try.prog 41 := ⟨by kernel_rfl⟩
instance : CellT Try.prog 42 := ⟨by kernel_rfl⟩
instance : ZeroT Try.prog 42 [.nilFunc] := ⟨by kernel_rfl⟩
instance : PlainT Try.prog 42 := ⟨by kernel_rfl⟩
instance : CellT Try.prog 43 := ⟨by kernel_rfl⟩
instance : ZeroT Try.prog 43 [.nilFunc] := ⟨by kernel_rfl⟩
instance : PlainT Try.prog 43 := ⟨by kernel_rfl⟩
instance : SliceT Try.prog 44 96 3 40 := ⟨by kernel_rfl⟩
instance : CellT Try.prog 44 := ⟨by kernel_rfl⟩
instance : ZeroT Try.prog 44 [.slice none 0 0] := ⟨by kernel_rfl⟩
instance : PlainT Try.prog 44 := ⟨by kernel_rfl⟩
instance : AggT Try.prog 45 4 := ⟨by kernel_rfl⟩
instance : ZeroT Try.prog 45 [.string ByteArray.empty, .int .i64 0, .slice none 0 0, .slice none 0 0] := ⟨by kernel_rfl⟩
instance : PlainT Try.prog 45 := ⟨by kernel_rfl⟩
instance : FieldT Try.prog 45 0 0 9 := ⟨by kernel_rfl⟩
instance : FieldT Try.prog 45 1 1 3 := ⟨by kernel_rfl⟩
instance : FieldT Try.prog 45 2 2 23 := ⟨by kernel_rfl⟩
instance : FieldT Try.prog 45 3 3 44 := ⟨by kernel_rfl⟩
instance : StructT Try.prog 45 [(0, 1), (1, 1), (2, 1), (3, 1)] := ⟨by kernel_rfl⟩
instance : AggT Try.prog 46 4 := ⟨by kernel_rfl⟩
instance : ZeroT Try.prog 46 [.string ByteArray.empty, .int .i64 0, .slice none 0 0, .slice none 0 0] := ⟨by kernel_rfl⟩
instance : PlainT Try.prog 46 := ⟨by kernel_rfl⟩
instance : FieldT Try.prog 46 0 0 9 := ⟨by kernel_rfl⟩
instance : FieldT Try.prog 46 1 1 3 := ⟨by kernel_rfl⟩
instance : FieldT Try.prog 46 2 2 23 := ⟨by kernel_rfl⟩
instance : FieldT Try.prog 46 3 3 44 := ⟨by kernel_rfl⟩
instance : StructT Try.prog 46 [(0, 1), (1, 1), (2, 1), (3, 1)] := ⟨by kernel_rfl⟩
instance : CellT Try.prog 47 := ⟨by kernel_rfl⟩
instance : ZeroT Try.prog 47 [.nilFunc] := ⟨by kernel_rfl⟩
instance : PlainT Try.prog 47 := ⟨by kernel_rfl⟩
instance : CellT Try.prog 48 := ⟨by kernel_rfl⟩
instance : ZeroT Try.prog 48 [.nilFunc] := ⟨by kernel_rfl⟩
instance : PlainT Try.prog 48 := ⟨by kernel_rfl⟩
instance : CellT Try.prog 49 := ⟨by kernel_rfl⟩
instance : ZeroT Try.prog 49 [.nilFunc] := ⟨by kernel_rfl⟩
instance : PlainT Try.prog 49 := ⟨by kernel_rfl⟩
instance : CellT Try.prog 50 := ⟨by kernel_rfl⟩
instance : ZeroT Try.prog 50 [.nilFunc] := ⟨by kernel_rfl⟩
instance : PlainT Try.prog 50 := ⟨by kernel_rfl⟩
instance : CellT Try.prog 51 := ⟨by kernel_rfl⟩
instance : ZeroT Try.prog 51 [.nilFunc] := ⟨by kernel_rfl⟩
instance : PlainT Try.prog 51 := ⟨by kernel_rfl⟩
instance : CellT Try.prog 52 := ⟨by kernel_rfl⟩
instance : ZeroT Try.prog 52 [.nilFunc] := ⟨by kernel_rfl⟩
instance : PlainT Try.prog 52 := ⟨by kernel_rfl⟩
instance : CellT Try.prog 53 := ⟨by kernel_rfl⟩
instance : ZeroT Try.prog 53 [.nilFunc] := ⟨by kernel_rfl⟩
instance : PlainT Try.prog 53 := ⟨by kernel_rfl⟩
instance : SliceT Try.prog 54 27 1 2 := ⟨by kernel_rfl⟩
instance : CellT Try.prog 54 := ⟨by kernel_rfl⟩
instance : ZeroT Try.prog 54 [.slice none 0 0] := ⟨by kernel_rfl⟩
instance : PlainT Try.prog 54 := ⟨by kernel_rfl⟩
instance : CellT Try.prog 56 := ⟨by kernel_rfl⟩
instance : ZeroT Try.prog 56 [.nilFunc] := ⟨by kernel_rfl⟩
instance : PlainT Try.prog 56 := ⟨by kernel_rfl⟩
instance : CellT Try.prog 57 := ⟨by kernel_rfl⟩
instance : ZeroT Try.prog 57 [.pointer none] := ⟨by kernel_rfl⟩
instance : MethT Try.prog 57 "Parts" 34 true 102 := ⟨by kernel_rfl⟩
instance : MethT Try.prog 57 "Value" 39 true 102 := ⟨by kernel_rfl⟩
instance : PtrT Try.prog 57 := ⟨by kernel_rfl⟩
instance : PlainT Try.prog 57 := ⟨by kernel_rfl⟩
instance : CellT Try.prog 59 := ⟨by kernel_rfl⟩
instance : ZeroT Try.prog 59 [.nilFunc] := ⟨by kernel_rfl⟩
instance : PlainT Try.prog 59 := ⟨by kernel_rfl⟩
instance : CellT Try.prog 60 := ⟨by kernel_rfl⟩
instance : ZeroT Try.prog 60 [.nilFunc] := ⟨by kernel_rfl⟩
instance : PlainT Try.prog 60 := ⟨by kernel_rfl⟩
instance : CellT Try.prog 61 := ⟨by kernel_rfl⟩
instance : ZeroT Try.prog 61 [.nilFunc] := ⟨by kernel_rfl⟩
instance : PlainT Try.prog 61 := ⟨by kernel_rfl⟩
instance : SliceT Try.prog 62 70 3 24 := ⟨by kernel_rfl⟩
instance : CellT Try.prog 62 := ⟨by kernel_rfl⟩
instance : ZeroT Try.prog 62 [.slice none 0 0] := ⟨by kernel_rfl⟩
instance : PlainT Try.prog 62 := ⟨by kernel_rfl⟩
instance : SliceT Try.prog 63 4 1 1 := ⟨by kernel_rfl⟩
instance : CellT Try.prog 63 := ⟨by kernel_rfl⟩
instance : ZeroT Try.prog 63 [.slice none 0 0] := ⟨by kernel_rfl⟩
instance : PlainT Try.prog 63 := ⟨by kernel_rfl⟩
instance : AggT Try.prog 64 5 := ⟨by kernel_rfl⟩
instance : ZeroT Try.prog 64 [.int .i64 0, .int .i64 0, .slice none 0 0, .slice none 0 0, .slice none 0 0] := ⟨by kernel_rfl⟩
instance : PlainT Try.prog 64 := ⟨by kernel_rfl⟩
instance : FieldT Try.prog 64 0 0 3 := ⟨by kernel_rfl⟩
instance : FieldT Try.prog 64 1 1 3 := ⟨by kernel_rfl⟩
instance : FieldT Try.prog 64 2 2 22 := ⟨by kernel_rfl⟩
instance : FieldT Try.prog 64 3 3 62 := ⟨by kernel_rfl⟩
instance : FieldT Try.prog 64 4 4 63 := ⟨by kernel_rfl⟩
instance : StructT Try.prog 64 [(0, 1), (1, 1), (2, 1), (3, 1), (4, 1)] := ⟨by kernel_rfl⟩
instance : AggT Try.prog 65 5 := ⟨by kernel_rfl⟩
instance : ZeroT Try.prog 65 [.int .i64 0, .int .i64 0, .slice none 0 0, .slice none 0 0, .slice none 0 0] := ⟨by kernel_rfl⟩
instance : PlainT Try.prog 65 := ⟨by kernel_rfl⟩
instance : FieldT Try.prog 65 0 0 3 := ⟨by kernel_rfl⟩
instance : FieldT Try.prog 65 1 1 3 := ⟨by kernel_rfl⟩
instance : FieldT Try.prog 65 2 2 22 := ⟨by kernel_rfl⟩
instance : FieldT Try.prog 65 3 3 62 := ⟨by kernel_rfl⟩
instance : FieldT Try.prog 65 4 4 63 := ⟨by kernel_rfl⟩
instance : StructT Try.prog 65 [(0, 1), (1, 1), (2, 1), (3, 1), (4, 1)] := ⟨by kernel_rfl⟩
instance : CellT Try.prog 66 := ⟨by kernel_rfl⟩
instance : ZeroT Try.prog 66 [.nilFunc] := ⟨by kernel_rfl⟩
instance : PlainT Try.prog 66 := ⟨by kernel_rfl⟩
instance : CellT Try.prog 67 := ⟨by kernel_rfl⟩
instance : ZeroT Try.prog 67 [.nilFunc] := ⟨by kernel_rfl⟩
instance : PlainT Try.prog 67 := ⟨by kernel_rfl⟩
instance : CellT Try.prog 68 := ⟨by kernel_rfl⟩
instance : ZeroT Try.prog 68 [.nilFunc] := ⟨by kernel_rfl⟩
instance : PlainT Try.prog 68 := ⟨by kernel_rfl⟩
instance : AggT Try.prog 69 3 := ⟨by kernel_rfl⟩
instance : ZeroT Try.prog 69 [.int .i64 0, .int .i64 0, .int .i64 0] := ⟨by kernel_rfl⟩
instance : PlainT Try.prog 69 := ⟨by kernel_rfl⟩
instance : FieldT Try.prog 69 0 0 3 := ⟨by kernel_rfl⟩
instance : FieldT Try.prog 69 1 1 3 := ⟨by kernel_rfl⟩
instance : FieldT Try.prog 69 2 2 3 := ⟨by kernel_rfl⟩
instance : StructT Try.prog 69 [(0, 1), (1, 1), (2, 1)] := ⟨by kernel_rfl⟩
instance : AggT Try.prog 70 3 := ⟨by kernel_rfl⟩
instance : ZeroT Try.prog 70 [.int .i64 0, .int .i64 0, .int .i64 0] := ⟨by kernel_rfl⟩
instance : PlainT Try.prog 70 := ⟨by kernel_rfl⟩
instance : FieldT Try.prog 70 0 0 3 := ⟨by kernel_rfl⟩
instance : FieldT Try.prog 70 1 1 3 := ⟨by kernel_rfl⟩
instance : FieldT Try.prog 70 2 2 3 := ⟨by kernel_rfl⟩
instance : StructT Try.prog 70 [(0, 1), (1, 1), (2, 1)] := ⟨by kernel_rfl⟩
instance : CellT Try.prog 71 := ⟨by kernel_rfl⟩
instance : ZeroT Try.prog 71 [.nilFunc] := ⟨by kernel_rfl⟩
instance : PlainT Try.prog 71 := ⟨by kernel_rfl⟩
instance : SliceT Try.prog 72 30 1 8 := ⟨by kernel_rfl⟩
instance : CellT Try.prog 72 := ⟨by kernel_rfl⟩
instance : ZeroT Try.prog 72 [.slice none 0 0] := ⟨by kernel_rfl⟩
instance : PlainT Try.prog 72 := ⟨by kernel_rfl⟩
instance : CellT Try.prog 73 := ⟨by kernel_rfl⟩
instance : ZeroT Try.prog 73 [.nilFunc] := ⟨by kernel_rfl⟩
instance : PlainT Try.prog 73 := ⟨by kernel_rfl⟩
instance : SliceT Try.prog 74 77 3 24 := ⟨by kernel_rfl⟩
instance : CellT Try.prog 74 := ⟨by kernel_rfl⟩
instance : ZeroT Try.prog 74 [.slice none 0 0] := ⟨by kernel_rfl⟩
instance : PlainT Try.prog 74 := ⟨by kernel_rfl⟩
instance : CellT Try.prog 75 := ⟨by kernel_rfl⟩
instance : ZeroT Try.prog 75 [.nilFunc] := ⟨by kernel_rfl⟩
instance : PlainT Try.prog 75 := ⟨by kernel_rfl⟩
instance : AggT Try.prog 76 3 := ⟨by kernel_rfl⟩
instance : ZeroT Try.prog 76 [.int .i64 0, .int .i64 0, .int .i64 0] := ⟨by kernel_rfl⟩
instance : PlainT Try.prog 76 := ⟨by kernel_rfl⟩
instance : FieldT Try.prog 76 0 0 3 := ⟨by kernel_rfl⟩
instance : FieldT Try.prog 76 1 1 3 := ⟨by kernel_rfl⟩
instance : FieldT Try.prog 76 2 2 3 := ⟨by kernel_rfl⟩
instance : StructT Try.prog 76 [(0, 1), (1, 1), (2, 1)] := ⟨by kernel_rfl⟩
instance : AggT Try.prog 77 3 := ⟨by kernel_rfl⟩
instance : ZeroT Try.prog 77 [.int .i64 0, .int .i64 0, .int .i64 0] := ⟨by kernel_rfl⟩
instance : PlainT Try.prog 77 := ⟨by kernel_rfl⟩
instance : FieldT Try.prog 77 0 0 3 := ⟨by kernel_rfl⟩
instance : FieldT Try.prog 77 1 1 3 := ⟨by kernel_rfl⟩
instance : FieldT Try.prog 77 2 2 3 := ⟨by kernel_rfl⟩
instance : StructT Try.prog 77 [(0, 1), (1, 1), (2, 1)] := ⟨by kernel_rfl⟩
instance : CellT Try.prog 78 := ⟨by kernel_rfl⟩
instance : ZeroT Try.prog 78 [.nilFunc] := ⟨by kernel_rfl⟩
instance : PlainT Try.prog 78 := ⟨by kernel_rfl⟩
instance : CellT Try.prog 79 := ⟨by kernel_rfl⟩
instance : ZeroT Try.prog 79 [.nilFunc] := ⟨by kernel_rfl⟩
instance : PlainT Try.prog 79 := ⟨by kernel_rfl⟩
instance : CellT Try.prog 80 := ⟨by kernel_rfl⟩
instance : ZeroT Try.prog 80 [.nilFunc] := ⟨by kernel_rfl⟩
instance : PlainT Try.prog 80 := ⟨by kernel_rfl⟩
instance : CellT Try.prog 81 := ⟨by kernel_rfl⟩
instance : ZeroT Try.prog 81 [.nilFunc] := ⟨by kernel_rfl⟩
instance : PlainT Try.prog 81 := ⟨by kernel_rfl⟩
instance : CellT Try.prog 82 := ⟨by kernel_rfl⟩
instance : ZeroT Try.prog 82 [.int .i64 0] := ⟨by kernel_rfl⟩
instance : PlainT Try.prog 82 := ⟨by kernel_rfl⟩
instance : CellT Try.prog 83 := ⟨by kernel_rfl⟩
instance : ZeroT Try.prog 83 [.nilFunc] := ⟨by kernel_rfl⟩
instance : PlainT Try.prog 83 := ⟨by kernel_rfl⟩
instance : CellT Try.prog 84 := ⟨by kernel_rfl⟩
instance : ZeroT Try.prog 84 [.nilFunc] := ⟨by kernel_rfl⟩
instance : PlainT Try.prog 84 := ⟨by kernel_rfl⟩
instance : CellT Try.prog 86 := ⟨by kernel_rfl⟩
instance : ZeroT Try.prog 86 [.nilFunc] := ⟨by kernel_rfl⟩
instance : PlainT Try.prog 86 := ⟨by kernel_rfl⟩
instance : CellT Try.prog 87 := ⟨by kernel_rfl⟩
instance : ZeroT Try.prog 87 [.nilFunc] := ⟨by kernel_rfl⟩
instance : PlainT Try.prog 87 := ⟨by kernel_rfl⟩
instance : AggT Try.prog 88 8 := ⟨by kernel_rfl⟩
instance : ZeroT Try.prog 88 [.slice none 0 0, .slice none 0 0, .int .i64 0, .int .i64 0, .slice none 0 0, .slice none 0 0, .slice none 0 0, .slice none 0 0] := ⟨by kernel_rfl⟩
instance : PlainT Try.prog 88 := ⟨by kernel_rfl⟩
instance : FieldT Try.prog 88 0 0 22 := ⟨by kernel_rfl⟩
instance : FieldT Try.prog 88 1 1 22 := ⟨by kernel_rfl⟩
instance : FieldT Try.prog 88 2 2 65 := ⟨by kernel_rfl⟩
instance : FieldT Try.prog 88 3 7 22 := ⟨by kernel_rfl⟩
instance : StructT Try.prog 88 [(0, 1), (1, 1), (2, 5), (7, 1)] := ⟨by kernel_rfl⟩
instance : AggT Try.prog 89 8 := ⟨by kernel_rfl⟩
instance : ZeroT Try.prog 89 [.slice none 0 0, .slice none 0 0, .int .i64 0, .int .i64 0, .slice none 0 0, .slice none 0 0, .slice none 0 0, .slice none 0 0] := ⟨by kernel_rfl⟩
instance : PlainT Try.prog 89 := ⟨by kernel_rfl⟩
instance : FieldT Try.prog 89 0 0 22 := ⟨by kernel_rfl⟩
instance : FieldT Try.prog 89 1 1 22 := ⟨by kernel_rfl⟩
instance : FieldT Try.prog 89 2 2 65 := ⟨by kernel_rfl⟩
instance : FieldT Try.prog 89 3 7 22 := ⟨by kernel_rfl⟩
instance : StructT Try.prog 89 [(0, 1), (1, 1), (2, 5), (7, 1)] := ⟨by kernel_rfl⟩
instance : CellT Try.prog 90 := ⟨by kernel_rfl⟩
instance : ZeroT Try.prog 90 [.nilFunc] := ⟨by kernel_rfl⟩
instance : PlainT Try.prog 90 := ⟨by kernel_rfl⟩
instance : CellT Try.prog 91 := ⟨by kernel_rfl⟩
instance : ZeroT Try.prog 91 [.nilFunc] := ⟨by kernel_rfl⟩
instance : PlainT Try.prog 91 := ⟨by kernel_rfl⟩
instance : SliceT Try.prog 93 23 1 24 := ⟨by kernel_rfl⟩
instance : CellT Try.prog 93 := ⟨by kernel_rfl⟩
instance : ZeroT Try.prog 93 [.slice none 0 0] := ⟨by kernel_rfl⟩
instance : PlainT Try.prog 93 := ⟨by kernel_rfl⟩
instance : CellT Try.prog 94 := ⟨by kernel_rfl⟩
instance : ZeroT Try.prog 94 [.nilFunc] := ⟨by kernel_rfl⟩
instance : PlainT Try.prog 94 := ⟨by kernel_rfl⟩
instance : AggT Try.prog 95 3 := ⟨by kernel_rfl⟩
instance : ZeroT Try.prog 95 [.slice none 0 0, .int .i64 0, .int .i64 0] := ⟨by kernel_rfl⟩
instance : PlainT Try.prog 95 := ⟨by kernel_rfl⟩
instance : FieldT Try.prog 95 0 0 23 := ⟨by kernel_rfl⟩
instance : FieldT Try.prog 95 1 1 3 := ⟨by kernel_rfl⟩
instance : FieldT Try.prog 95 2 2 3 := ⟨by kernel_rfl⟩
instance : StructT Try.prog 95 [(0, 1), (1, 1), (2, 1)] := ⟨by kernel_rfl⟩
instance : AggT Try.prog 96 3 := ⟨by kernel_rfl⟩
instance : ZeroT Try.prog 96 [.slice none 0 0, .int .i64 0, .int .i64 0] := ⟨by kernel_rfl⟩
instance : PlainT Try.prog 96 := ⟨by kernel_rfl⟩
instance : FieldT Try.prog 96 0 0 23 := ⟨by kernel_rfl⟩
instance : FieldT Try.prog 96 1 1 3 := ⟨by kernel_rfl⟩
instance : FieldT Try.prog 96 2 2 3 := ⟨by kernel_rfl⟩
instance : StructT Try.prog 96 [(0, 1), (1, 1), (2, 1)] := ⟨by kernel_rfl⟩
instance : AggT Try.prog 97 2 := ⟨by kernel_rfl⟩
instance : ZeroT Try.prog 97 [.int .i64 0, .int .i64 0] := ⟨by kernel_rfl⟩
instance : PlainT Try.prog 97 := ⟨by kernel_rfl⟩
instance : FieldT Try.prog 97 0 0 3 := ⟨by kernel_rfl⟩
instance : FieldT Try.prog 97 1 1 3 := ⟨by kernel_rfl⟩
instance : StructT Try.prog 97 [(0, 1), (1, 1)] := ⟨by kernel_rfl⟩
instance : AggT Try.prog 98 2 := ⟨by kernel_rfl⟩
instance : ZeroT Try.prog 98 [.int .i64 0, .int .i64 0] := ⟨by kernel_rfl⟩
instance : PlainT Try.prog 98 := ⟨by kernel_rfl⟩
instance : FieldT Try.prog 98 0 0 3 := ⟨by kernel_rfl⟩
instance : FieldT Try.prog 98 1 1 3 := ⟨by kernel_rfl⟩
instance : StructT Try.prog 98 [(0, 1), (1, 1)] := ⟨by kernel_rfl⟩
instance : CellT Try.prog 99 := ⟨by kernel_rfl⟩
instance : ZeroT Try.prog 99 [.nilFunc] := ⟨by kernel_rfl⟩
instance : PlainT Try.prog 99 := ⟨by kernel_rfl⟩
instance : CellT Try.prog 100 := ⟨by kernel_rfl⟩
instance : ZeroT Try.prog 100 [.nilFunc] := ⟨by kernel_rfl⟩
instance : PlainT Try.prog 100 := ⟨by kernel_rfl⟩
instance : AggT Try.prog 101 3 := ⟨by kernel_rfl⟩
instance : ZeroT Try.prog 101 [.slice none 0 0, .slice none 0 0, .slice none 0 0] := ⟨by kernel_rfl⟩
instance : PlainT Try.prog 101 := ⟨by kernel_rfl⟩
instance : FieldT Try.prog 101 0 0 22 := ⟨by kernel_rfl⟩
instance : FieldT Try.prog 101 1 1 72 := ⟨by kernel_rfl⟩
instance : FieldT Try.prog 101 2 2 36 := ⟨by kernel_rfl⟩
instance : StructT Try.prog 101 [(0, 1), (1, 1), (2, 1)] := ⟨by kernel_rfl⟩
instance : AggT Try.prog 102 3 := ⟨by kernel_rfl⟩
instance : ZeroT Try.prog 102 [.slice none 0 0, .slice none 0 0, .slice none 0 0] := ⟨by kernel_rfl⟩
instance : PlainT Try.prog 102 := ⟨by kernel_rfl⟩
instance : FieldT Try.prog 102 0 0 22 := ⟨by kernel_rfl⟩
instance : FieldT Try.prog 102 1 1 72 := ⟨by kernel_rfl⟩
instance : FieldT Try.prog 102 2 2 36 := ⟨by kernel_rfl⟩
instance : StructT Try.prog 102 [(0, 1), (1, 1), (2, 1)] := ⟨by kernel_rfl⟩
instance : CellT Try.prog 103 := ⟨by kernel_rfl⟩
instance : ZeroT Try.prog 103 [.nilFunc] := ⟨by kernel_rfl⟩
instance : PlainT Try.prog 103 := ⟨by kernel_rfl⟩
instance : CellT Try.prog 105 := ⟨by kernel_rfl⟩
instance : ZeroT Try.prog 105 [.nilFunc] := ⟨by kernel_rfl⟩
instance : PlainT Try.prog 105 := ⟨by kernel_rfl⟩
instance : CellT Try.prog 106 := ⟨by kernel_rfl⟩
instance : ZeroT Try.prog 106 [.nilFunc] := ⟨by kernel_rfl⟩
instance : PlainT Try.prog 106 := ⟨by kernel_rfl⟩
instance : CellT Try.prog 107 := ⟨by kernel_rfl⟩
instance : ZeroT Try.prog 107 [.nilFunc] := ⟨by kernel_rfl⟩
instance : PlainT Try.prog 107 := ⟨by kernel_rfl⟩
instance : CellT Try.prog 108 := ⟨by kernel_rfl⟩
instance : ZeroT Try.prog 108 [.nilFunc] := ⟨by kernel_rfl⟩
instance : PlainT Try.prog 108 := ⟨by kernel_rfl⟩
instance : CellT Try.prog 110 := ⟨by kernel_rfl⟩
instance : ZeroT Try.prog 110 [.nilFunc] := ⟨by kernel_rfl⟩
instance : PlainT Try.prog 110 := ⟨by kernel_rfl⟩
instance : CellT Try.prog 111 := ⟨by kernel_rfl⟩
instance : ZeroT Try.prog 111 [.nilFunc] := ⟨by kernel_rfl⟩
instance : PlainT Try.prog 111 := ⟨by kernel_rfl⟩
instance : CellT Try.prog 112 := ⟨by kernel_rfl⟩
instance : ZeroT Try.prog 112 [.nilFunc] := ⟨by kernel_rfl⟩
instance : PlainT Try.prog 112 := ⟨by kernel_rfl⟩
instance : CellT Try.prog 113 := ⟨by kernel_rfl⟩
instance : ZeroT Try.prog 113 [.nilFunc] := ⟨by kernel_rfl⟩
instance : PlainT Try.prog 113 := ⟨by kernel_rfl⟩
instance : CellT Try.prog 114 := ⟨by kernel_rfl⟩
instance : ZeroT Try.prog 114 [.nilFunc] := ⟨by kernel_rfl⟩
instance : PlainT Try.prog 114 := ⟨by kernel_rfl⟩
instance : SliceT Try.prog 115 62 1 24 := ⟨by kernel_rfl⟩
instance : CellT Try.prog 115 := ⟨by kernel_rfl⟩
instance : ZeroT Try.prog 115 [.slice none 0 0] := ⟨by kernel_rfl⟩
instance : PlainT Try.prog 115 := ⟨by kernel_rfl⟩
instance : CellT Try.prog 116 := ⟨by kernel_rfl⟩
instance : ZeroT Try.prog 116 [.pointer none] := ⟨by kernel_rfl⟩
instance : MethT Try.prog 116 "Len" 72 false 118 := ⟨by kernel_rfl⟩
instance : MethT Try.prog 116 "Less" 127 false 118 := ⟨by kernel_rfl⟩
instance : MethT Try.prog 116 "Pop" 128 true 118 := ⟨by kernel_rfl⟩
instance : MethT Try.prog 116 "Push" 129 true 118 := ⟨by kernel_rfl⟩
instance : MethT Try.prog 116 "Swap" 130 false 118 := ⟨by kernel_rfl⟩
instance : PtrT Try.prog 116 := ⟨by kernel_rfl⟩
instance : PlainT Try.prog 116 := ⟨by kernel_rfl⟩
instance : SliceT Try.prog 117 121 2 16 := ⟨by kernel_rfl⟩
instance : CellT Try.prog 117 := ⟨by kernel_rfl⟩
instance : ZeroT Try.prog 117 [.slice none 0 0] := ⟨by kernel_rfl⟩
instance : PlainT Try.prog 117 := ⟨by kernel_rfl⟩
instance : SliceT Try.prog 118 121 2 16 := ⟨by kernel_rfl⟩
instance : CellT Try.prog 118 := ⟨by kernel_rfl⟩
instance : ZeroT Try.prog 118 [.slice none 0 0] := ⟨by kernel_rfl⟩
instance : PlainT Try.prog 118 := ⟨by kernel_rfl⟩
instance : CellT Try.prog 119 := ⟨by kernel_rfl⟩
instance : ZeroT Try.prog 119 [.nilFunc] := ⟨by kernel_rfl⟩
instance : PlainT Try.prog 119 := ⟨by kernel_rfl⟩
instance : AggT Try.prog 120 2 := ⟨by kernel_rfl⟩
instance : ZeroT Try.prog 120 [.int .i64 0, .int .i64 0] := ⟨by kernel_rfl⟩
instance : PlainT Try.prog 120 := ⟨by kernel_rfl⟩
instance : FieldT Try.prog 120 0 0 3 := ⟨by kernel_rfl⟩
instance : FieldT Try.prog 120 1 1 3 := ⟨by kernel_rfl⟩
instance : StructT Try.prog 120 [(0, 1), (1, 1)] := ⟨by kernel_rfl⟩
instance : AggT Try.prog 121 2 := ⟨by kernel_rfl⟩
instance : ZeroT Try.prog 121 [.int .i64 0, .int .i64 0] := ⟨by kernel_rfl⟩
instance : PlainT Try.prog 121 := ⟨by kernel_rfl⟩
instance : FieldT Try.prog 121 0 0 3 := ⟨by kernel_rfl⟩
instance : FieldT Try.prog 121 1 1 3 := ⟨by kernel_rfl⟩
instance : StructT Try.prog 121 [(0, 1), (1, 1)] := ⟨by kernel_rfl⟩
instance : CellT Try.prog 122 := ⟨by kernel_rfl⟩
instance : ZeroT Try.prog 122 [.nilFunc] := ⟨by kernel_rfl⟩
instance : PlainT Try.prog 122 := ⟨by kernel_rfl⟩
instance : CellT Try.prog 124 := ⟨by kernel_rfl⟩
instance : ZeroT Try.prog 124 [.nilFunc] := ⟨by kernel_rfl⟩
instance : PlainT Try.prog 124 := ⟨by kernel_rfl⟩
instance : CellT Try.prog 125 := ⟨by kernel_rfl⟩
instance : ZeroT Try.prog 125 [.nilFunc] := ⟨by kernel_rfl⟩
instance : PlainT Try.prog 125 := ⟨by kernel_rfl⟩
instance : CellT Try.prog 126 := ⟨by kernel_rfl⟩
instance : ZeroT Try.prog 126 [.nilFunc] := ⟨by kernel_rfl⟩
instance : PlainT Try.prog 126 := ⟨by kernel_rfl⟩
instance : CellT Try.prog 127 := ⟨by kernel_rfl⟩
instance : ZeroT Try.prog 127 [.nilFunc] := ⟨by kernel_rfl⟩
instance : PlainT Try.prog 127 := ⟨by kernel_rfl⟩
instance : CellT Try.prog 128 := ⟨by kernel_rfl⟩
instance : ZeroT Try.prog 128 [.nilFunc] := ⟨by kernel_rfl⟩
instance : PlainT Try.prog 128 := ⟨by kernel_rfl⟩
instance : CellT Try.prog 129 := ⟨by kernel_rfl⟩
instance : ZeroT Try.prog 129 [.nilFunc] := ⟨by kernel_rfl⟩
instance : PlainT Try.prog 129 := ⟨by kernel_rfl⟩
instance : CellT Try.prog 130 := ⟨by kernel_rfl⟩
instance : ZeroT Try.prog 130 [.nilFunc] := ⟨by kernel_rfl⟩
instance : PlainT Try.prog 130 := ⟨by kernel_rfl⟩
instance : CellT Try.prog 131 := ⟨by kernel_rfl⟩
instance : ZeroT Try.prog 131 [.nilFunc] := ⟨by kernel_rfl⟩
instance : PlainT Try.prog 131 := ⟨by kernel_rfl⟩
instance : CellT Try.prog 132 := ⟨by kernel_rfl⟩
instance : ZeroT Try.prog 132 [.nilFunc] := ⟨by kernel_rfl⟩
instance : PlainT Try.prog 132 := ⟨by kernel_rfl⟩
instance : CellT Try.prog 133 := ⟨by kernel_rfl⟩
instance : ZeroT Try.prog 133 [.nilIface] := ⟨by kernel_rfl⟩
instance : IfaceT Try.prog 133 := ⟨by kernel_rfl⟩
instance : CellT Try.prog 134 := ⟨by kernel_rfl⟩
instance : ZeroT Try.prog 134 [.nilIface] := ⟨by kernel_rfl⟩
instance : IfaceT Try.prog 134 := ⟨by kernel_rfl⟩
instance : CellT Try.prog 135 := ⟨by kernel_rfl⟩
instance : ZeroT Try.prog 135 [.nilFunc] := ⟨by kernel_rfl⟩
instance : PlainT Try.prog 135 := ⟨by kernel_rfl⟩
instance : CellT Try.prog 136 := ⟨by kernel_rfl⟩
instance : ZeroT Try.prog 136 [.nilFunc] := ⟨by kernel_rfl⟩
instance : PlainT Try.prog 136 := ⟨by kernel_rfl⟩
instance : CellT Try.prog 137 := ⟨by kernel_rfl⟩
instance : ZeroT Try.prog 137 [.nilFunc] := ⟨by kernel_rfl⟩
instance : PlainT Try.prog 137 := ⟨by kernel_rfl⟩
instance : CellT Try.prog 138 := ⟨by kernel_rfl⟩
instance : ZeroT Try.prog 138 [.nilFunc] := ⟨by kernel_rfl⟩
instance : PlainT Try.prog 138 := ⟨by kernel_rfl⟩
instance : CellT Try.prog 139 := ⟨by kernel_rfl⟩
instance : ZeroT Try.prog 139 [.nilFunc] := ⟨by kernel_rfl⟩
instance : PlainT Try.prog 139 := ⟨by kernel_rfl⟩
instance : CellT Try.prog 140 := ⟨by kernel_rfl⟩
instance : ZeroT Try.prog 140 [.nilFunc] := ⟨by kernel_rfl⟩
instance : PlainT Try.prog 140 := ⟨by kernel_rfl⟩
instance : CellT Try.prog 141 := ⟨by kernel_rfl⟩
instance : ZeroT Try.prog 141 [.nilFunc] := ⟨by kernel_rfl⟩
instance : PlainT Try.prog 141 := ⟨by kernel_rfl⟩
instance : CellT Try.prog 142 := ⟨by kernel_rfl⟩
instance : ZeroT Try.prog 142 [.nilFunc] := ⟨by kernel_rfl⟩
instance : PlainT Try.prog 142 := ⟨by kernel_rfl⟩
instance : CellT Try.prog 143 := ⟨by kernel_rfl⟩
instance : ZeroT Try.prog 143 [.nilFunc] := ⟨by kernel_rfl⟩
instance : PlainT Try.prog 143 := ⟨by kernel_rfl⟩
instance : CellT Try.prog 144 := ⟨by kernel_rfl⟩
instance : ZeroT Try.prog 144 [.nilFunc] := ⟨by kernel_rfl⟩
instance : PlainT Try.prog 144 := ⟨by kernel_rfl⟩
instance : CellT Try.prog 145 := ⟨by kernel_rfl⟩
instance : ZeroT Try.prog 145 [.int .u64 0] := ⟨by kernel_rfl⟩
instance : PlainT Try.prog 145 := ⟨by kernel_rfl⟩
instance : CellT Try.prog 146 := ⟨by kernel_rfl⟩
instance : ZeroT Try.prog 146 [.nilFunc] := ⟨by kernel_rfl⟩
instance : PlainT Try.prog 146 := ⟨by kernel_rfl⟩
instance : CellT Try.prog 147 := ⟨by kernel_rfl⟩
instance : ZeroT Try.prog 147 [.nilFunc] := ⟨by kernel_rfl⟩
instance : PlainT Try.prog 147 := ⟨by kernel_rfl⟩
instance : CellT Try.prog 148 := ⟨by kernel_rfl⟩
instance : ZeroT Try.prog 148 [.nilFunc] := ⟨by kernel_rfl⟩
instance : PlainT Try.prog 148 := ⟨by kernel_rfl⟩
instance : CellT Try.prog 149 := ⟨by kernel_rfl⟩
instance : ZeroT Try.prog 149 [.int .i64 0] := ⟨by kernel_rfl⟩
instance : PlainT Try.prog 149 := ⟨by kernel_rfl⟩
instance : CellT Try.prog 151 := ⟨by kernel_rfl⟩
instance : ZeroT Try.prog 151 [.nilFunc] := ⟨by kernel_rfl⟩
instance : PlainT Try.prog 151 := ⟨by kernel_rfl⟩
instance : CellT Try.prog 152 := ⟨by kernel_rfl⟩
instance : ZeroT Try.prog 152 [.nilFunc] := ⟨by kernel_rfl⟩
instance : PlainT Try.prog 152 := ⟨by kernel_rfl⟩
instance : CellT Try.prog 153 := ⟨by kernel_rfl⟩
instance : ZeroT Try.prog 153 [.nilFunc] := ⟨by kernel_rfl⟩
instance : PlainT Try.prog 153 := ⟨by kernel_rfl⟩
instance : CellT Try.prog 154 := ⟨by kernel_rfl⟩
instance : ZeroT Try.prog 154 [.nilFunc] := ⟨by kernel_rfl⟩
instance : PlainT Try.prog 154 := ⟨by kernel_rfl⟩
instance : CellT Try.prog 155 := ⟨by kernel_rfl⟩
instance : ZeroT Try.prog 155 [.nilFunc] := ⟨by kernel_rfl⟩
instance : PlainT Try.prog 155 := ⟨by kernel_rfl⟩
instance : CellT Try.prog 156 := ⟨by kernel_rfl⟩
instance : ZeroT Try.prog 156 [.int .u32 0] := ⟨by kernel_rfl⟩
instance : PlainT Try.prog 156 := ⟨by kernel_rfl⟩
instance : CellT Try.prog 157 := ⟨by kernel_rfl⟩
instance : ZeroT Try.prog 157 [.nilFunc] := ⟨by kernel_rfl⟩
instance : PlainT Try.prog 157 := ⟨by kernel_rfl⟩
instance : CellT Try.prog 158 := ⟨by kernel_rfl⟩
instance : ZeroT Try.prog 158 [.int .u64 0] := ⟨by kernel_rfl⟩
instance : PlainT Try.prog 158 := ⟨by kernel_rfl⟩
instance : CellT Try.prog 159 := ⟨by kernel_rfl⟩
instance : ZeroT Try.prog 159 [.int .u64 0] := ⟨by kernel_rfl⟩
instance : PlainT Try.prog 159 := ⟨by kernel_rfl⟩
instance : CellT Try.prog 160 := ⟨by kernel_rfl⟩
instance : ZeroT Try.prog 160 [.nilFunc] := ⟨by kernel_rfl⟩
instance : PlainT Try.prog 160 := ⟨by kernel_rfl⟩
instance : CellT Try.prog 161 := ⟨by kernel_rfl⟩
instance : ZeroT Try.prog 161 [.nilFunc] := ⟨by kernel_rfl⟩
instance : PlainT Try.prog 161 := ⟨by kernel_rfl⟩
instance : CellT Try.prog 162 := ⟨by kernel_rfl⟩
instance : ZeroT Try.prog 162 [.nilFunc] := ⟨by kernel_rfl⟩
instance : PlainT Try.prog 162 := ⟨by kernel_rfl⟩
instance : CellT Try.prog 163 := ⟨by kernel_rfl⟩
instance : ZeroT Try.prog 163 [.pointer none] := ⟨by kernel_rfl⟩
instance : PtrT Try.prog 163 := ⟨by kernel_rfl⟩
instance : PlainT Try.prog 163 := ⟨by kernel_rfl⟩
instance : CellT Try.prog 164 := ⟨by kernel_rfl⟩
instance : ZeroT Try.prog 164 [.nilFunc] := ⟨by kernel_rfl⟩
instance : PlainT Try.prog 164 := ⟨by kernel_rfl⟩
instance : CellT Try.prog 165 := ⟨by kernel_rfl⟩
instance : ZeroT Try.prog 165 [.pointer none] := ⟨by kernel_rfl⟩
instance : MethT Try.prog 165 "Next" 105 true 159 := ⟨by kernel_rfl⟩
instance : PtrT Try.prog 165 := ⟨by kernel_rfl⟩
instance : PlainT Try.prog 165 := ⟨by kernel_rfl⟩
instance : CellT Try.prog 167 := ⟨by kernel_rfl⟩
instance : ZeroT Try.prog 167 [.nilFunc] := ⟨by kernel_rfl⟩
instance : PlainT Try.prog 167 := ⟨by kernel_rfl⟩
instance : CellT Try.prog 168 := ⟨by kernel_rfl⟩
instance : ZeroT Try.prog 168 [.nilFunc] := ⟨by kernel_rfl⟩
instance : PlainT Try.prog 168 := ⟨by kernel_rfl⟩
instance : AggT Try.prog 169 4 := ⟨by kernel_rfl⟩
instance : ZeroT Try.prog 169 [.pointer none, .pointer none, .pointer none, .string ByteArray.empty] := ⟨by kernel_rfl⟩
instance : PlainT Try.prog 169 := ⟨by kernel_rfl⟩
instance : FieldT Try.prog 169 0 0 17 := ⟨by kernel_rfl⟩
instance : FieldT Try.prog 169 1 1 17 := ⟨by kernel_rfl⟩
instance : FieldT Try.prog 169 2 2 17 := ⟨by kernel_rfl⟩
instance : FieldT Try.prog 169 3 3 9 := ⟨by kernel_rfl⟩
instance : StructT Try.prog 169 [(0, 1), (1, 1), (2, 1), (3, 1)] := ⟨by kernel_rfl⟩
instance : AggT Try.prog 170 4 := ⟨by kernel_rfl⟩
instance : ZeroT Try.prog 170 [.pointer none, .pointer none, .pointer none, .string ByteArray.empty] := ⟨by kernel_rfl⟩
instance : PlainT Try.prog 170 := ⟨by kernel_rfl⟩
instance : FieldT Try.prog 170 0 0 17 := ⟨by kernel_rfl⟩
instance : FieldT Try.prog 170 1 1 17 := ⟨by kernel_rfl⟩
instance : FieldT Try.prog 170 2 2 17 := ⟨by kernel_rfl⟩
instance : FieldT Try.prog 170 3 3 9 := ⟨by kernel_rfl⟩
instance : StructT Try.prog 170 [(0, 1), (1, 1), (2, 1), (3, 1)] := ⟨by kernel_rfl⟩
instance : AggT Try.prog 171 0 := ⟨by kernel_rfl⟩
instance : ZeroT Try.prog 171 [] := ⟨by kernel_rfl⟩
instance : PlainT Try.prog 171 := ⟨by kernel_rfl⟩
instance : AggT Try.prog 172 0 := ⟨by kernel_rfl⟩
instance : ZeroT Try.prog 172 [] := ⟨by kernel_rfl⟩
instance : PlainT Try.prog 172 := ⟨by kernel_rfl⟩
instance : StructT Try.prog 172 [(0, 0)] := ⟨by kernel_rfl⟩
instance : AggT Try.prog 173 0 := ⟨by kernel_rfl⟩
instance : ZeroT Try.prog 173 [] := ⟨by kernel_rfl⟩
instance : PlainT Try.prog 173 := ⟨by kernel_rfl⟩
instance : StructT Try.prog 173 [(0, 0)] := ⟨by kernel_rfl⟩
instance : CellT Try.prog 174 := ⟨by kernel_rfl⟩
instance : ZeroT Try.prog 174 [.int .u8 0] := ⟨by kernel_rfl⟩
instance : PlainT Try.prog 174 := ⟨by kernel_rfl⟩
instance : CellT Try.prog 175 := ⟨by kernel_rfl⟩
instance : ZeroT Try.prog 175 [.int .u8 0] := ⟨by kernel_rfl⟩
instance : PlainT Try.prog 175 := ⟨by kernel_rfl⟩
instance : CellT Try.prog 176 := ⟨by kernel_rfl⟩
instance : ZeroT Try.prog 176 [.nilFunc] := ⟨by kernel_rfl⟩
instance : PlainT Try.prog 176 := ⟨by kernel_rfl⟩
instance : CellT Try.prog 177 := ⟨by kernel_rfl⟩
instance : ZeroT Try.prog 177 [.pointer none] := ⟨by kernel_rfl⟩
instance : PtrT Try.prog 177 := ⟨by kernel_rfl⟩
instance : PlainT Try.prog 177 := ⟨by kernel_rfl⟩
instance : CellT Try.prog 178 := ⟨by kernel_rfl⟩
instance : ZeroT Try.prog 178 [.int .i32 0] := ⟨by kernel_rfl⟩
instance : PlainT Try.prog 178 := ⟨by kernel_rfl⟩
instance : CellT Try.prog 179 := ⟨by kernel_rfl⟩
instance : ZeroT Try.prog 179 [.int .i32 0] := ⟨by kernel_rfl⟩
instance : PlainT Try.prog 179 := ⟨by kernel_rfl⟩
instance : AggT Try.prog 180 11 := ⟨by kernel_rfl⟩
instance : ZeroT Try.prog 180 [.int .u64 0, .int .u64 0, .int .u32 0, .int .u8 0, .int .u8 0, .int .u8 0, .int .u8 0, .nilFunc, .pointer none, .int .i32 0, .int .i32 0] := ⟨by kernel_rfl⟩
instance : PlainT Try.prog 180 := ⟨by kernel_rfl⟩
instance : FieldT Try.prog 180 0 0 12 := ⟨by kernel_rfl⟩
instance : FieldT Try.prog 180 1 1 12 := ⟨by kernel_rfl⟩
instance : FieldT Try.prog 180 2 2 156 := ⟨by kernel_rfl⟩
instance : FieldT Try.prog 180 3 3 174 := ⟨by kernel_rfl⟩
instance : FieldT Try.prog 180 4 4 5 := ⟨by kernel_rfl⟩
instance : FieldT Try.prog 180 5 5 5 := ⟨by kernel_rfl⟩
instance : FieldT Try.prog 180 6 6 175 := ⟨by kernel_rfl⟩
instance : FieldT Try.prog 180 7 7 176 := ⟨by kernel_rfl⟩
instance : FieldT Try.prog 180 8 8 177 := ⟨by kernel_rfl⟩
instance : FieldT Try.prog 180 9 9 178 := ⟨by kernel_rfl⟩
instance : FieldT Try.prog 180 10 10 179 := ⟨by kernel_rfl⟩
instance : StructT Try.prog 180 [(0, 1), (1, 1), (2, 1), (3, 1), (4, 1), (5, 1), (6, 1), (7, 1), (8, 1), (9, 1), (10, 1)] := ⟨by kernel_rfl⟩
instance : AggT Try.prog 181 11 := ⟨by kernel_rfl⟩
instance : ZeroT Try.prog 181 [.int .u64 0, .int .u64 0, .int .u32 0, .int .u8 0, .int .u8 0, .int .u8 0, .int .u8 0, .nilFunc, .pointer none, .int .i32 0, .int .i32 0] := ⟨by kernel_rfl⟩
instance : PlainT Try.prog 181 := ⟨by kernel_rfl⟩
instance : FieldT Try.prog 181 0 0 12 := ⟨by kernel_rfl⟩
instance : FieldT Try.prog 181 1 1 12 := ⟨by kernel_rfl⟩
instance : FieldT Try.prog 181 2 2 156 := ⟨by kernel_rfl⟩
instance : FieldT Try.prog 181 3 3 174 := ⟨by kernel_rfl⟩
instance : FieldT Try.prog 181 4 4 5 := ⟨by kernel_rfl⟩
instance : FieldT Try.prog 181 5 5 5 := ⟨by kernel_rfl⟩
instance : FieldT Try.prog 181 6 6 175 := ⟨by kernel_rfl⟩
instance : FieldT Try.prog 181 7 7 176 := ⟨by kernel_rfl⟩
instance : FieldT Try.prog 181 8 8 177 := ⟨by kernel_rfl⟩
instance : FieldT Try.prog 181 9 9 178 := ⟨by kernel_rfl⟩
instance : FieldT Try.prog 181 10 10 179 := ⟨by kernel_rfl⟩
instance : StructT Try.prog 181 [(0, 1), (1, 1), (2, 1), (3, 1), (4, 1), (5, 1), (6, 1), (7, 1), (8, 1), (9, 1), (10, 1)] := ⟨by kernel_rfl⟩
instance : CellT Try.prog 182 := ⟨by kernel_rfl⟩
instance : ZeroT Try.prog 182 [.pointer none] := ⟨by kernel_rfl⟩
instance : PlainT Try.prog 182 := ⟨by kernel_rfl⟩
-- 3 stratagem/stratagemlaw41.PdbWider
instance : CallT Try.prog 3 := ⟨by kernel_rfl⟩
-- 4 stratagem/stratagemlaw41.PdbErrors
instance : CallT Try.prog 4 := ⟨by kernel_rfl⟩
-- 5 stratagem/stratagemlaw43.SaturateParts
instance : CallT Try.prog 5 := ⟨by kernel_rfl⟩
-- 6 stratagem/stratagemlaw43.SaturateBudget
instance : CallT Try.prog 6 := ⟨by kernel_rfl⟩
-- 7 stratagem/stratagemlaw43.SaturateAdmissible
instance : CallT Try.prog 7 := ⟨by kernel_rfl⟩
-- 8 stratagem/stratagemlaw43.SaturateFirst
instance : CallT Try.prog 8 := ⟨by kernel_rfl⟩
-- 9 stratagem/stratagemlaw43.SaturateScales
instance : CallT Try.prog 9 := ⟨by kernel_rfl⟩
-- 10 stratagem/stratagemlaw43.SaturateKeeps
instance : CallT Try.prog 10 := ⟨by kernel_rfl⟩
-- 11 stratagem/stratagemlaw43.SaturateErrors
instance : CallT Try.prog 11 := ⟨by kernel_rfl⟩
-- 12 stratagem/stratagemlaw41.fits
instance : CallT Try.prog 12 := ⟨by kernel_rfl⟩
-- 13 stratagem/stratagemlaw41.awake
instance : CallT Try.prog 13 := ⟨by kernel_rfl⟩
-- 14 stratagem/pdb.Build
instance : CallT Try.prog 14 := ⟨by kernel_rfl⟩
-- 15 stratagem/stratagemlaw41.chosen
instance : CallT Try.prog 15 := ⟨by kernel_rfl⟩
-- 16 stratagem/stratagembase.States
instance : CallT Try.prog 16 := ⟨by kernel_rfl⟩
-- 17 (*stratagem/pdb.Database).Value
instance : CallT Try.prog 17 := ⟨by kernel_rfl⟩
-- 18 stratagem/stratagembase.Many
instance : CallT Try.prog 18 := ⟨by kernel_rfl⟩
-- 19 stratagem/stratagembase.Ints
instance : CallT Try.prog 19 := ⟨by kernel_rfl⟩
-- 20 (*stratagem/pdb.Database).Table
instance : CallT Try.prog 20 := ⟨by kernel_rfl⟩
-- 21 stratagem/stratagembase.Distances
instance : CallT Try.prog 21 := ⟨by kernel_rfl⟩
-- 22 (*stratagem/pdb.Database).Pattern
instance : CallT Try.prog 22 := ⟨by kernel_rfl⟩
-- 23 (*stratagem/pdb.Database).Dead
instance : CallT Try.prog 23 := ⟨by kernel_rfl⟩
-- 24 (*stratagem/pdb.Database).Saturated
instance : CallT Try.prog 24 := ⟨by kernel_rfl⟩
-- 25 stratagem/stratagembase.Good
instance : CallT Try.prog 25 := ⟨by kernel_rfl⟩
-- 26 stratagem/stratagembase.Num
instance : CallT Try.prog 26 := ⟨by kernel_rfl⟩
-- 27 stratagem/task.Check
instance : CallT Try.prog 27 := ⟨by kernel_rfl⟩
-- 28 stratagem/stratagemref40.Pattern
instance : CallT Try.prog 28 := ⟨by kernel_rfl⟩
-- 29 stratagem/stratagembase.Small
instance : CallT Try.prog 29 := ⟨by kernel_rfl⟩
-- 30 stratagem/stratagemref40.Many
instance : CallT Try.prog 30 := ⟨by kernel_rfl⟩
-- 31 stratagem/stratagemlaw43.picked
instance : CallT Try.prog 31 := ⟨by kernel_rfl⟩
-- 32 stratagem/stratagemlaw43.awake
instance : CallT Try.prog 32 := ⟨by kernel_rfl⟩
-- 33 stratagem/saturate.New
instance : CallT Try.prog 33 := ⟨by kernel_rfl⟩
-- 34 (*stratagem/saturate.Partition).Parts
instance : CallT Try.prog 34 := ⟨by kernel_rfl⟩
-- 35 stratagem/stratagemref34.Costs
instance : CallT Try.prog 35 := ⟨by kernel_rfl⟩
-- 36 stratagem/stratagemref40.Project
instance : CallT Try.prog 36 := ⟨by kernel_rfl⟩
-- 37 stratagem/stratagemref40.Distances
instance : CallT Try.prog 37 := ⟨by kernel_rfl⟩
-- 38 stratagem/stratagemref40.Index
instance : CallT Try.prog 38 := ⟨by kernel_rfl⟩
-- 39 (*stratagem/saturate.Partition).Value
instance : CallT Try.prog 39 := ⟨by kernel_rfl⟩
-- 40 stratagem/stratagembase.Holds
instance : CallT Try.prog 40 := ⟨by kernel_rfl⟩
-- 41 stratagem/stratagembase.Edges
instance : CallT Try.prog 41 := ⟨by kernel_rfl⟩
-- 42 stratagem/stratagemlaw41.example
instance : CallT Try.prog 42 := ⟨by kernel_rfl⟩
-- 43 slices.ContainsFunc[[]int,int]
instance : CallT Try.prog 43 := ⟨by kernel_rfl⟩
-- 44 stratagem/pdb.Build$1
instance : CallT Try.prog 44 := ⟨by kernel_rfl⟩
-- 45 stratagem/project.Project
instance : CallT Try.prog 45 := ⟨by kernel_rfl⟩
-- 46 slices.Clone[[]int,int]
instance : CallT Try.prog 46 := ⟨by kernel_rfl⟩
-- 47 stratagem/pdb.distances
instance : CallT Try.prog 47 := ⟨by kernel_rfl⟩
-- 48 stratagem/task.Proper
instance : CallT Try.prog 48 := ⟨by kernel_rfl⟩
-- 49 stratagem/stratagembase.State
instance : CallT Try.prog 49 := ⟨by kernel_rfl⟩
-- 50 stratagem/stratagembase.Proper
instance : CallT Try.prog 50 := ⟨by kernel_rfl⟩
-- 51 stratagem/stratagembase.operator
instance : CallT Try.prog 51 := ⟨by kernel_rfl⟩
-- 52 stratagem/task.large
instance : CallT Try.prog 52 := ⟨by kernel_rfl⟩
-- 53 stratagem/task.conditions
instance : CallT Try.prog 53 := ⟨by kernel_rfl⟩
-- 54 stratagem/task.Facts
instance : CallT Try.prog 54 := ⟨by kernel_rfl⟩
-- 55 stratagem/task.named
instance : CallT Try.prog 55 := ⟨by kernel_rfl⟩
-- 56 stratagem/stratagemlaw43.example
instance : CallT Try.prog 56 := ⟨by kernel_rfl⟩
-- 57 slices.ContainsFunc[[][]int,[]int]
instance : CallT Try.prog 57 := ⟨by kernel_rfl⟩
-- 58 stratagem/saturate.New$1
instance : CallT Try.prog 58 := ⟨by kernel_rfl⟩
-- 59 stratagem/saturate.pattern
instance : CallT Try.prog 59 := ⟨by kernel_rfl⟩
-- 60 stratagem/stratagemref40.Goals
instance : CallT Try.prog 60 := ⟨by kernel_rfl⟩
-- 61 stratagem/stratagembase.Apply
instance : CallT Try.prog 61 := ⟨by kernel_rfl⟩
-- 62 stratagem/stratagembase.Rank
instance : CallT Try.prog 62 := ⟨by kernel_rfl⟩
-- 63 slices.IndexFunc[[]int,int]
instance : CallT Try.prog 63 := ⟨by kernel_rfl⟩
-- 64 stratagem/project.check
instance : CallT Try.prog 64 := ⟨by kernel_rfl⟩
-- 65 stratagem/project.count
instance : CallT Try.prog 65 := ⟨by kernel_rfl⟩
-- 66 stratagem/project.number
instance : CallT Try.prog 66 := ⟨by kernel_rfl⟩
-- 67 stratagem/project.outside
instance : CallT Try.prog 67 := ⟨by kernel_rfl⟩
-- 68 stratagem/project.put
instance : CallT Try.prog 68 := ⟨by kernel_rfl⟩
-- 69 slices.Contains[[]int,int]
instance : CallT Try.prog 69 := ⟨by kernel_rfl⟩
-- 70 stratagem/project.targets
instance : CallT Try.prog 70 := ⟨by kernel_rfl⟩
-- 71 container/heap.Push
instance : CallT Try.prog 71 := ⟨by kernel_rfl⟩
-- 72 (stratagem/pdb.queue).Len
instance : CallT Try.prog 72 := ⟨by kernel_rfl⟩
-- 73 container/heap.Pop
instance : CallT Try.prog 73 := ⟨by kernel_rfl⟩
-- 74 slices.ContainsFunc[[][]stratagem/api.Fact,[]stratagem/api.Fact]
instance : CallT Try.prog 74 := ⟨by kernel_rfl⟩
-- 75 stratagem/task.large$1
instance : CallT Try.prog 75 := ⟨by kernel_rfl⟩
-- 76 slices.IndexFunc[[][]int,[]int]
instance : CallT Try.prog 76 := ⟨by kernel_rfl⟩
-- 77 stratagem/project.has
instance : CallT Try.prog 77 := ⟨by kernel_rfl⟩
-- 78 slices.Sort[[]int,int]
instance : CallT Try.prog 78 := ⟨by kernel_rfl⟩
-- 79 slices.Backward[[]int,int]
instance : CallT Try.prog 79 := ⟨by kernel_rfl⟩
-- 80 slices.Index[[]int,int]
instance : CallT Try.prog 80 := ⟨by kernel_rfl⟩
-- 81 stratagem/task.Holds
instance : CallT Try.prog 81 := ⟨by kernel_rfl⟩
-- 82 slices.Compact[[]int,int]
instance : CallT Try.prog 82 := ⟨by kernel_rfl⟩
-- 83 container/heap.up
instance : CallT Try.prog 83 := ⟨by kernel_rfl⟩
-- 84 container/heap.down
instance : CallT Try.prog 84 := ⟨by kernel_rfl⟩
-- 85 slices.IndexFunc[[][]stratagem/api.Fact,[]stratagem/api.Fact]
instance : CallT Try.prog 85 := ⟨by kernel_rfl⟩
-- 86 slices.ContainsFunc[[]stratagem/api.Fact,stratagem/api.Fact]
instance : CallT Try.prog 86 := ⟨by kernel_rfl⟩
-- 87 stratagem/project.has$1
instance : CallT Try.prog 87 := ⟨by kernel_rfl⟩
-- 88 slices.pdqsortOrdered[int]
instance : CallT Try.prog 88 := ⟨by kernel_rfl⟩
-- 89 math/bits.Len
instance : CallT Try.prog 89 := ⟨by kernel_rfl⟩
-- 90 slices.Backward[[]int,int]$1
instance : CallT Try.prog 90 := ⟨by kernel_rfl⟩
-- 91 slices.IndexFunc[[]stratagem/api.Fact,stratagem/api.Fact]
instance : CallT Try.prog 91 := ⟨by kernel_rfl⟩
-- 92 slices.insertionSortOrdered[int]
instance : CallT Try.prog 92 := ⟨by kernel_rfl⟩
-- 93 slices.heapSortOrdered[int]
instance : CallT Try.prog 93 := ⟨by kernel_rfl⟩
-- 94 slices.breakPatternsOrdered[int]
instance : CallT Try.prog 94 := ⟨by kernel_rfl⟩
-- 95 slices.choosePivotOrdered[int]
instance : CallT Try.prog 95 := ⟨by kernel_rfl⟩
-- 96 slices.reverseRangeOrdered[int]
instance : CallT Try.prog 96 := ⟨by kernel_rfl⟩
-- 97 slices.partialInsertionSortOrdered[int]
instance : CallT Try.prog 97 := ⟨by kernel_rfl⟩
-- 98 cmp.Less[int]
instance : CallT Try.prog 98 := ⟨by kernel_rfl⟩
-- 99 slices.partitionEqualOrdered[int]
instance : CallT Try.prog 99 := ⟨by kernel_rfl⟩
-- 100 slices.partitionOrdered[int]
instance : CallT Try.prog 100 := ⟨by kernel_rfl⟩
-- 101 math/bits.Len32
instance : CallT Try.prog 101 := ⟨by kernel_rfl⟩
-- 102 math/bits.Len64
instance : CallT Try.prog 102 := ⟨by kernel_rfl⟩
-- 103 slices.siftDownOrdered[int]
instance : CallT Try.prog 103 := ⟨by kernel_rfl⟩
-- 104 slices.nextPowerOfTwo
instance : CallT Try.prog 104 := ⟨by kernel_rfl⟩
-- 106 slices.medianAdjacentOrdered[int]
instance : CallT Try.prog 106 := ⟨by kernel_rfl⟩
-- 107 slices.medianOrdered[int]
instance : CallT Try.prog 107 := ⟨by kernel_rfl⟩
-- 108 cmp.isNaN[int]
instance : CallT Try.prog 108 := ⟨by kernel_rfl⟩
-- 109 slices.order2Ordered[int]
instance : CallT Try.prog 109 := ⟨by kernel_rfl⟩
-- 127 (stratagem/pdb.queue).Less
instance : CallT Try.prog 127 := ⟨by kernel_rfl⟩
-- 128 (*stratagem/pdb.queue).Pop
instance : CallT Try.prog 128 := ⟨by kernel_rfl⟩
-- 129 (*stratagem/pdb.queue).Push
instance : CallT Try.prog 129 := ⟨by kernel_rfl⟩
-- 130 (stratagem/pdb.queue).Swap
instance : CallT Try.prog 130 := ⟨by kernel_rfl⟩
theorem mixed : Try.prog.follows .mixedOrders = true := by kernel_rfl
end Go.Proofs.Ytnoiagnmbipppaa
