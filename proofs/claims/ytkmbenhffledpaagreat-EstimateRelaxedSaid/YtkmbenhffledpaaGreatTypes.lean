
/-
  The types of this seat, as the steps of the generator ask for them: closed facts on the program.
-/
import Derived.Test.YtkmbenhffledpaaGreatMSlA
import Derived.Test.YtkmbenhffledpaaGreatProg
import Derived.KernelRfl
set_option linter.unusedSimpArgs false
set_option linter.unusedVariables false
namespace Go.Proofs.YtkmbenhffledpaaGreat
open Go.Sl
instance : CellT Tryz.prog 1 := ⟨by kernel_rfl⟩
instance : ZeroT Tryz.prog 1 [.nilFunc] := ⟨by kernel_rfl⟩
instance : PlainT Tryz.prog 1 := ⟨by kernel_rfl⟩
instance : CellT Tryz.prog 2 := ⟨by kernel_rfl⟩
instance : ZeroT Tryz.prog 2 [.int .i64 0] := ⟨by kernel_rfl⟩
instance : PlainT Tryz.prog 2 := ⟨by kernel_rfl⟩
instance : CellT Tryz.prog 3 := ⟨by kernel_rfl⟩
instance : ZeroT Tryz.prog 3 [.int .i64 0] := ⟨by kernel_rfl⟩
instance : PlainT Tryz.prog 3 := ⟨by kernel_rfl⟩
instance : CellT Tryz.prog 4 := ⟨by kernel_rfl⟩
instance : ZeroT Tryz.prog 4 [.bool false] := ⟨by kernel_rfl⟩
instance : BoolT Tryz.prog 4 := ⟨by kernel_rfl⟩
instance : PlainT Tryz.prog 4 := ⟨by kernel_rfl⟩
instance : CellT Tryz.prog 5 := ⟨by kernel_rfl⟩
instance : ZeroT Tryz.prog 5 [.int .u8 0] := ⟨by kernel_rfl⟩
instance : PlainT Tryz.prog 5 := ⟨by kernel_rfl⟩
instance : CellT Tryz.prog 6 := ⟨by kernel_rfl⟩
instance : ZeroT Tryz.prog 6 [.int .u8 0] := ⟨by kernel_rfl⟩
instance : PlainT Tryz.prog 6 := ⟨by kernel_rfl⟩
instance : AggT Tryz.prog 7 4 := ⟨by kernel_rfl⟩
instance : ZeroT Tryz.prog 7 [.int .i64 0, .int .i64 0, .bool false, .int .u8 0] := ⟨by kernel_rfl⟩
instance : PlainT Tryz.prog 7 := ⟨by kernel_rfl⟩
instance : FieldT Tryz.prog 7 0 0 2 := ⟨by kernel_rfl⟩
instance : FieldT Tryz.prog 7 1 1 3 := ⟨by kernel_rfl⟩
instance : FieldT Tryz.prog 7 2 2 4 := ⟨by kernel_rfl⟩
instance : FieldT Tryz.prog 7 3 3 6 := ⟨by kernel_rfl⟩
instance : StructT Tryz.prog 7 [(0, 1), (1, 1), (2, 1), (3, 1)] := ⟨by kernel_rfl⟩
instance : AggT Tryz.prog 8 4 := ⟨by kernel_rfl⟩
instance : ZeroT Tryz.prog 8 [.int .i64 0, .int .i64 0, .bool false, .int .u8 0] := ⟨by kernel_rfl⟩
instance : PlainT Tryz.prog 8 := ⟨by kernel_rfl⟩
instance : FieldT Tryz.prog 8 0 0 2 := ⟨by kernel_rfl⟩
instance : FieldT Tryz.prog 8 1 1 3 := ⟨by kernel_rfl⟩
instance : FieldT Tryz.prog 8 2 2 4 := ⟨by kernel_rfl⟩
instance : FieldT Tryz.prog 8 3 3 6 := ⟨by kernel_rfl⟩
instance : StructT Tryz.prog 8 [(0, 1), (1, 1), (2, 1), (3, 1)] := ⟨by kernel_rfl⟩
instance : CellT Tryz.prog 9 := ⟨by kernel_rfl⟩
instance : ZeroT Tryz.prog 9 [.string ByteArray.empty] := ⟨by kernel_rfl⟩
instance : StrT Tryz.prog 9 := ⟨by kernel_rfl⟩
instance : PlainT Tryz.prog 9 := ⟨by kernel_rfl⟩
instance : CellT Tryz.prog 10 := ⟨by kernel_rfl⟩
instance : ZeroT Tryz.prog 10 [.string ByteArray.empty] := ⟨by kernel_rfl⟩
instance : StrT Tryz.prog 10 := ⟨by kernel_rfl⟩
instance : PlainT Tryz.prog 10 := ⟨by kernel_rfl⟩
instance : CellT Tryz.prog 11 := ⟨by kernel_rfl⟩
instance : ZeroT Tryz.prog 11 [.string ByteArray.empty] := ⟨by kernel_rfl⟩
instance : StrT Tryz.prog 11 := ⟨by kernel_rfl⟩
instance : PlainT Tryz.prog 11 := ⟨by kernel_rfl⟩
instance : CellT Tryz.prog 12 := ⟨by kernel_rfl⟩
instance : ZeroT Tryz.prog 12 [.int .u64 0] := ⟨by kernel_rfl⟩
instance : PlainT Tryz.prog 12 := ⟨by kernel_rfl⟩
instance : AggT Tryz.prog 13 2 := ⟨by kernel_rfl⟩
instance : ZeroT Tryz.prog 13 [.string ByteArray.empty, .int .u64 0] := ⟨by kernel_rfl⟩
instance : PlainT Tryz.prog 13 := ⟨by kernel_rfl⟩
instance : FieldT Tryz.prog 13 0 0 9 := ⟨by kernel_rfl⟩
instance : FieldT Tryz.prog 13 1 1 12 := ⟨by kernel_rfl⟩
instance : StructT Tryz.prog 13 [(0, 1), (1, 1)] := ⟨by kernel_rfl⟩
instance : AggT Tryz.prog 14 2 := ⟨by kernel_rfl⟩
instance : ZeroT Tryz.prog 14 [.string ByteArray.empty, .int .u64 0] := ⟨by kernel_rfl⟩
instance : PlainT Tryz.prog 14 := ⟨by kernel_rfl⟩
instance : FieldT Tryz.prog 14 0 0 9 := ⟨by kernel_rfl⟩
instance : FieldT Tryz.prog 14 1 1 12 := ⟨by kernel_rfl⟩
instance : StructT Tryz.prog 14 [(0, 1), (1, 1)] := ⟨by kernel_rfl⟩
instance : CellT Tryz.prog 15 := ⟨by kernel_rfl⟩
instance : ZeroT Tryz.prog 15 [.pointer none] := ⟨by kernel_rfl⟩
instance : MethT Tryz.prog 15 "Error" 183 true 309 := ⟨by kernel_rfl⟩
instance : MethT Tryz.prog 15 "RuntimeError" 184 true 309 := ⟨by kernel_rfl⟩
instance : PtrT Tryz.prog 15 := ⟨by kernel_rfl⟩
instance : PlainT Tryz.prog 15 := ⟨by kernel_rfl⟩
instance : CellT Tryz.prog 16 := ⟨by kernel_rfl⟩
instance : ZeroT Tryz.prog 16 [.pointer none] := ⟨by kernel_rfl⟩
instance : MethT Tryz.prog 16 "Error" 185 true 312 := ⟨by kernel_rfl⟩
instance : MethT Tryz.prog 16 "RuntimeError" 186 true 312 := ⟨by kernel_rfl⟩
instance : PtrT Tryz.prog 16 := ⟨by kernel_rfl⟩
instance : PlainT Tryz.prog 16 := ⟨by kernel_rfl⟩
instance : CellT Tryz.prog 17 := ⟨by kernel_rfl⟩
instance : ZeroT Tryz.prog 17 [.pointer none] := ⟨by kernel_rfl⟩
instance : MethT Tryz.prog 17 "Align" 187 true 320 := ⟨by kernel_rfl⟩
instance : MethT Tryz.prog 17 "Len" 188 true 320 := ⟨by kernel_rfl⟩
instance : PtrT Tryz.prog 17 := ⟨by kernel_rfl⟩
instance : PlainT Tryz.prog 17 := ⟨by kernel_rfl⟩
instance : AggT Tryz.prog 18 1 := ⟨by kernel_rfl⟩
instance : ZeroT Tryz.prog 18 [.pointer none] := ⟨by kernel_rfl⟩
instance : PlainT Tryz.prog 18 := ⟨by kernel_rfl⟩
instance : FieldT Tryz.prog 18 0 0 17 := ⟨by kernel_rfl⟩
instance : StructT Tryz.prog 18 [(0, 1)] := ⟨by kernel_rfl⟩
instance : AggT Tryz.prog 19 1 := ⟨by kernel_rfl⟩
instance : ZeroT Tryz.prog 19 [.pointer none] := ⟨by kernel_rfl⟩
instance : PlainT Tryz.prog 19 := ⟨by kernel_rfl⟩
instance : FieldT Tryz.prog 19 0 0 17 := ⟨by kernel_rfl⟩
instance : StructT Tryz.prog 19 [(0, 1)] := ⟨by kernel_rfl⟩
instance : CellT Tryz.prog 20 := ⟨by kernel_rfl⟩
instance : ZeroT Tryz.prog 20 [.nilIface] := ⟨by kernel_rfl⟩
instance : IfaceT Tryz.prog 20 := ⟨by kernel_rfl⟩
instance : CellT Tryz.prog 21 := ⟨by kernel_rfl⟩
instance : ZeroT Tryz.prog 21 [.int .i32 0] := ⟨by kernel_rfl⟩
instance : PlainT Tryz.prog 21 := ⟨by kernel_rfl⟩
instance : SliceT Tryz.prog 22 3 1 8 := ⟨by kernel_rfl⟩
instance : CellT Tryz.prog 22 := ⟨by kernel_rfl⟩
instance : ZeroT Tryz.prog 22 [.slice none 0 0] := ⟨by kernel_rfl⟩
instance : PlainT Tryz.prog 22 := ⟨by kernel_rfl⟩
instance : SliceT Tryz.prog 23 77 2 16 := ⟨by kernel_rfl⟩
instance : CellT Tryz.prog 23 := ⟨by kernel_rfl⟩
instance : ZeroT Tryz.prog 23 [.slice none 0 0] := ⟨by kernel_rfl⟩
instance : PlainT Tryz.prog 23 := ⟨by kernel_rfl⟩
instance : SliceT Tryz.prog 24 56 4 72 := ⟨by kernel_rfl⟩
instance : CellT Tryz.prog 24 := ⟨by kernel_rfl⟩
instance : ZeroT Tryz.prog 24 [.slice none 0 0] := ⟨by kernel_rfl⟩
instance : PlainT Tryz.prog 24 := ⟨by kernel_rfl⟩
instance : AggT Tryz.prog 25 4 := ⟨by kernel_rfl⟩
instance : ZeroT Tryz.prog 25 [.slice none 0 0, .slice none 0 0, .slice none 0 0, .slice none 0 0] := ⟨by kernel_rfl⟩
instance : PlainT Tryz.prog 25 := ⟨by kernel_rfl⟩
instance : FieldT Tryz.prog 25 0 0 22 := ⟨by kernel_rfl⟩
instance : FieldT Tryz.prog 25 1 1 22 := ⟨by kernel_rfl⟩
instance : FieldT Tryz.prog 25 2 2 23 := ⟨by kernel_rfl⟩
instance : FieldT Tryz.prog 25 3 3 24 := ⟨by kernel_rfl⟩
instance : StructT Tryz.prog 25 [(0, 1), (1, 1), (2, 1), (3, 1)] := ⟨by kernel_rfl⟩
instance : AggT Tryz.prog 26 4 := ⟨by kernel_rfl⟩
instance : ZeroT Tryz.prog 26 [.slice none 0 0, .slice none 0 0, .slice none 0 0, .slice none 0 0] := ⟨by kernel_rfl⟩
instance : PlainT Tryz.prog 26 := ⟨by kernel_rfl⟩
instance : FieldT Tryz.prog 26 0 0 22 := ⟨by kernel_rfl⟩
instance : FieldT Tryz.prog 26 1 1 22 := ⟨by kernel_rfl⟩
instance : FieldT Tryz.prog 26 2 2 23 := ⟨by kernel_rfl⟩
instance : FieldT Tryz.prog 26 3 3 24 := ⟨by kernel_rfl⟩
instance : StructT Tryz.prog 26 [(0, 1), (1, 1), (2, 1), (3, 1)] := ⟨by kernel_rfl⟩
instance : CellT Tryz.prog 27 := ⟨by kernel_rfl⟩
instance : ZeroT Tryz.prog 27 [.nilFunc] := ⟨by kernel_rfl⟩
instance : PlainT Tryz.prog 27 := ⟨by kernel_rfl⟩
instance : CellT Tryz.prog 28 := ⟨by kernel_rfl⟩
instance : ZeroT Tryz.prog 28 [.nilFunc] := ⟨by kernel_rfl⟩
instance : PlainT Tryz.prog 28 := ⟨by kernel_rfl⟩
instance : CellT Tryz.prog 29 := ⟨by kernel_rfl⟩
instance : ZeroT Tryz.prog 29 [.pointer none] := ⟨by kernel_rfl⟩
instance : MethT Tryz.prog 29 "Dead" 16 true 75 := ⟨by kernel_rfl⟩
instance : MethT Tryz.prog 29 "For" 31 true 75 := ⟨by kernel_rfl⟩
instance : MethT Tryz.prog 29 "Value" 12 true 75 := ⟨by kernel_rfl⟩
instance : PtrT Tryz.prog 29 := ⟨by kernel_rfl⟩
instance : PlainT Tryz.prog 29 := ⟨by kernel_rfl⟩
instance : CellT Tryz.prog 30 := ⟨by kernel_rfl⟩
instance : ZeroT Tryz.prog 30 [.nilIface] := ⟨by kernel_rfl⟩
instance : IfaceT Tryz.prog 30 := ⟨by kernel_rfl⟩
instance : CellT Tryz.prog 31 := ⟨by kernel_rfl⟩
instance : ZeroT Tryz.prog 31 [.nilIface] := ⟨by kernel_rfl⟩
instance : IfaceT Tryz.prog 31 := ⟨by kernel_rfl⟩
instance : CellT Tryz.prog 33 := ⟨by kernel_rfl⟩
instance : ZeroT Tryz.prog 33 [.nilFunc] := ⟨by kernel_rfl⟩
instance : PlainT Tryz.prog 33 := ⟨by kernel_rfl⟩
instance : CellT Tryz.prog 34 := ⟨by kernel_rfl⟩
instance : ZeroT Tryz.prog 34 [.nilFunc] := ⟨by kernel_rfl⟩
instance : PlainT Tryz.prog 34 := ⟨by kernel_rfl⟩
instance : SliceT Tryz.prog 35 22 1 24 := ⟨by kernel_rfl⟩
instance : CellT Tryz.prog 35 := ⟨by kernel_rfl⟩
instance : ZeroT Tryz.prog 35 [.slice none 0 0] := ⟨by kernel_rfl⟩
instance : PlainT Tryz.prog 35 := ⟨by kernel_rfl⟩
instance : CellT Tryz.prog 36 := ⟨by kernel_rfl⟩
instance : ZeroT Tryz.prog 36 [.nilFunc] := ⟨by kernel_rfl⟩
instance : PlainT Tryz.prog 36 := ⟨by kernel_rfl⟩
instance : CellT Tryz.prog 37 := ⟨by kernel_rfl⟩
instance : ZeroT Tryz.prog 37 [.nilFunc] := ⟨by kernel_rfl⟩
instance : PlainT Tryz.prog 37 := ⟨by kernel_rfl⟩
instance : CellT Tryz.prog 38 := ⟨by kernel_rfl⟩
instance : ZeroT Tryz.prog 38 [.nilFunc] := ⟨by kernel_rfl⟩
instance : PlainT Tryz.prog 38 := ⟨by kernel_rfl⟩
instance : CellT Tryz.prog 39 := ⟨by kernel_rfl⟩
instance : ZeroT Tryz.prog 39 [.nilFunc] := ⟨by kernel_rfl⟩
instance : PlainT Tryz.prog 39 := ⟨by kernel_rfl⟩
instance : SliceT Tryz.prog 40 44 2 32 := ⟨by kernel_rfl⟩
instance : CellT Tryz.prog 40 := ⟨by kernel_rfl⟩
instance : ZeroT Tryz.prog 40 [.slice none 0 0] := ⟨by kernel_rfl⟩
instance : PlainT Tryz.prog 40 := ⟨by kernel_rfl⟩
instance : CellT Tryz.prog 42 := ⟨by kernel_rfl⟩
instance : ZeroT Tryz.prog 42 [.nilFunc] := ⟨by kernel_rfl⟩
instance : PlainT Tryz.prog 42 := ⟨by kernel_rfl⟩
instance : AggT Tryz.prog 43 2 := ⟨by kernel_rfl⟩
instance : ZeroT Tryz.prog 43 [.slice none 0 0, .int .i64 0] := ⟨by kernel_rfl⟩
instance : PlainT Tryz.prog 43 := ⟨by kernel_rfl⟩
instance : FieldT Tryz.prog 43 0 0 22 := ⟨by kernel_rfl⟩
instance : FieldT Tryz.prog 43 1 1 3 := ⟨by kernel_rfl⟩
instance : StructT Tryz.prog 43 [(0, 1), (1, 1)] := ⟨by kernel_rfl⟩
instance : AggT Tryz.prog 44 2 := ⟨by kernel_rfl⟩
instance : ZeroT Tryz.prog 44 [.slice none 0 0, .int .i64 0] := ⟨by kernel_rfl⟩
instance : PlainT Tryz.prog 44 := ⟨by kernel_rfl⟩
instance : FieldT Tryz.prog 44 0 0 22 := ⟨by kernel_rfl⟩
instance : FieldT Tryz.prog 44 1 1 3 := ⟨by kernel_rfl⟩
instance : StructT Tryz.prog 44 [(0, 1), (1, 1)] := ⟨by kernel_rfl⟩
instance : CellT Tryz.prog 45 := ⟨by kernel_rfl⟩
instance : ZeroT Tryz.prog 45 [.nilFunc] := ⟨by kernel_rfl⟩
instance : PlainT Tryz.prog 45 := ⟨by kernel_rfl⟩
instance : AggT Tryz.prog 46 4 := ⟨by kernel_rfl⟩
instance : ZeroT Tryz.prog 46 [.int .i64 0, .slice none 0 0, .int .i64 0, .int .i64 0] := ⟨by kernel_rfl⟩
instance : PlainT Tryz.prog 46 := ⟨by kernel_rfl⟩
instance : FieldT Tryz.prog 46 0 0 3 := ⟨by kernel_rfl⟩
instance : FieldT Tryz.prog 46 1 1 22 := ⟨by kernel_rfl⟩
instance : FieldT Tryz.prog 46 2 2 3 := ⟨by kernel_rfl⟩
instance : FieldT Tryz.prog 46 3 3 3 := ⟨by kernel_rfl⟩
instance : StructT Tryz.prog 46 [(0, 1), (1, 1), (2, 1), (3, 1)] := ⟨by kernel_rfl⟩
instance : AggT Tryz.prog 47 4 := ⟨by kernel_rfl⟩
instance : ZeroT Tryz.prog 47 [.int .i64 0, .slice none 0 0, .int .i64 0, .int .i64 0] := ⟨by kernel_rfl⟩
instance : PlainT Tryz.prog 47 := ⟨by kernel_rfl⟩
instance : FieldT Tryz.prog 47 0 0 3 := ⟨by kernel_rfl⟩
instance : FieldT Tryz.prog 47 1 1 22 := ⟨by kernel_rfl⟩
instance : FieldT Tryz.prog 47 2 2 3 := ⟨by kernel_rfl⟩
instance : FieldT Tryz.prog 47 3 3 3 := ⟨by kernel_rfl⟩
instance : StructT Tryz.prog 47 [(0, 1), (1, 1), (2, 1), (3, 1)] := ⟨by kernel_rfl⟩
instance : CellT Tryz.prog 49 := ⟨by kernel_rfl⟩
instance : ZeroT Tryz.prog 49 [.nilFunc] := ⟨by kernel_rfl⟩
instance : PlainT Tryz.prog 49 := ⟨by kernel_rfl⟩
instance : CellT Tryz.prog 50 := ⟨by kernel_rfl⟩
instance : ZeroT Tryz.prog 50 [.nilFunc] := ⟨by kernel_rfl⟩
instance : PlainT Tryz.prog 50 := ⟨by kernel_rfl⟩
instance : CellT Tryz.prog 51 := ⟨by kernel_rfl⟩
instance : ZeroT Tryz.prog 51 [.nilFunc] := ⟨by kernel_rfl⟩
instance : PlainT Tryz.prog 51 := ⟨by kernel_rfl⟩
instance : CellT Tryz.prog 52 := ⟨by kernel_rfl⟩
instance : ZeroT Tryz.prog 52 [.nilFunc] := ⟨by kernel_rfl⟩
instance : PlainT Tryz.prog 52 := ⟨by kernel_rfl⟩
instance : CellT Tryz.prog 53 := ⟨by kernel_rfl⟩
instance : ZeroT Tryz.prog 53 [.nilFunc] := ⟨by kernel_rfl⟩
instance : PlainT Tryz.prog 53 := ⟨by kernel_rfl⟩
instance : SliceT Tryz.prog 54 80 3 40 := ⟨by kernel_rfl⟩
instance : CellT Tryz.prog 54 := ⟨by kernel_rfl⟩
instance : ZeroT Tryz.prog 54 [.slice none 0 0] := ⟨by kernel_rfl⟩
instance : PlainT Tryz.prog 54 := ⟨by kernel_rfl⟩
instance : AggT Tryz.prog 55 4 := ⟨by kernel_rfl⟩
instance : ZeroT Tryz.prog 55 [.string ByteArray.empty, .int .i64 0, .slice none 0 0, .slice none 0 0] := ⟨by kernel_rfl⟩
instance : PlainT Tryz.prog 55 := ⟨by kernel_rfl⟩
instance : FieldT Tryz.prog 55 0 0 9 := ⟨by kernel_rfl⟩
instance : FieldT Tryz.prog 55 1 1 3 := ⟨by kernel_rfl⟩
instance : FieldT Tryz.prog 55 2 2 23 := ⟨by kernel_rfl⟩
instance : FieldT Tryz.prog 55 3 3 54 := ⟨by kernel_rfl⟩
instance : StructT Tryz.prog 55 [(0, 1), (1, 1), (2, 1), (3, 1)] := ⟨by kernel_rfl⟩
instance : AggT Tryz.prog 56 4 := ⟨by kernel_rfl⟩
instance : ZeroT Tryz.prog 56 [.string ByteArray.empty, .int .i64 0, .slice none 0 0, .slice none 0 0] := ⟨by kernel_rfl⟩
instance : PlainT Tryz.prog 56 := ⟨by kernel_rfl⟩
instance : FieldT Tryz.prog 56 0 0 9 := ⟨by kernel_rfl⟩
instance : FieldT Tryz.prog 56 1 1 3 := ⟨by kernel_rfl⟩
instance : FieldT Tryz.prog 56 2 2 23 := ⟨by kernel_rfl⟩
instance : FieldT Tryz.prog 56 3 3 54 := ⟨by kernel_rfl⟩
instance : StructT Tryz.prog 56 [(0, 1), (1, 1), (2, 1), (3, 1)] := ⟨by kernel_rfl⟩
instance : CellT Tryz.prog 57 := ⟨by kernel_rfl⟩
instance : ZeroT Tryz.prog 57 [.nilFunc] := ⟨by kernel_rfl⟩
instance : PlainT Tryz.prog 57 := ⟨by kernel_rfl⟩
instance : CellT Tryz.prog 58 := ⟨by kernel_rfl⟩
instance : ZeroT Tryz.prog 58 [.nilFunc] := ⟨by kernel_rfl⟩
instance : PlainT Tryz.prog 58 := ⟨by kernel_rfl⟩
instance : CellT Tryz.prog 59 := ⟨by kernel_rfl⟩
instance : ZeroT Tryz.prog 59 [.nilFunc] := ⟨by kernel_rfl⟩
instance : PlainT Tryz.prog 59 := ⟨by kernel_rfl⟩
instance : SliceT Tryz.prog 60 29 1 8 := ⟨by kernel_rfl⟩
instance : CellT Tryz.prog 60 := ⟨by kernel_rfl⟩
instance : ZeroT Tryz.prog 60 [.slice none 0 0] := ⟨by kernel_rfl⟩
instance : PlainT Tryz.prog 60 := ⟨by kernel_rfl⟩
instance : CellT Tryz.prog 61 := ⟨by kernel_rfl⟩
instance : ZeroT Tryz.prog 61 [.pointer none] := ⟨by kernel_rfl⟩
instance : MethT Tryz.prog 61 "Max" 191 true 123 := ⟨by kernel_rfl⟩
instance : MethT Tryz.prog 61 "stratagem/relax.add" 67 true 123 := ⟨by kernel_rfl⟩
instance : MethT Tryz.prog 61 "stratagem/relax.number" 68 true 123 := ⟨by kernel_rfl⟩
instance : MethT Tryz.prog 61 "stratagem/relax.values" 193 true 123 := ⟨by kernel_rfl⟩
instance : PtrT Tryz.prog 61 := ⟨by kernel_rfl⟩
instance : PlainT Tryz.prog 61 := ⟨by kernel_rfl⟩
instance : CellT Tryz.prog 63 := ⟨by kernel_rfl⟩
instance : ZeroT Tryz.prog 63 [.nilFunc] := ⟨by kernel_rfl⟩
instance : PlainT Tryz.prog 63 := ⟨by kernel_rfl⟩
instance : CellT Tryz.prog 64 := ⟨by kernel_rfl⟩
instance : ZeroT Tryz.prog 64 [.nilFunc] := ⟨by kernel_rfl⟩
instance : PlainT Tryz.prog 64 := ⟨by kernel_rfl⟩
instance : AggT Tryz.prog 65 1 := ⟨by kernel_rfl⟩
instance : ZeroT Tryz.prog 65 [.pointer none] := ⟨by kernel_rfl⟩
instance : PlainT Tryz.prog 65 := ⟨by kernel_rfl⟩
instance : FieldT Tryz.prog 65 0 0 61 := ⟨by kernel_rfl⟩
instance : StructT Tryz.prog 65 [(0, 1)] := ⟨by kernel_rfl⟩
instance : AggT Tryz.prog 66 1 := ⟨by kernel_rfl⟩
instance : ZeroT Tryz.prog 66 [.pointer none] := ⟨by kernel_rfl⟩
instance : PlainT Tryz.prog 66 := ⟨by kernel_rfl⟩
instance : FieldT Tryz.prog 66 0 0 61 := ⟨by kernel_rfl⟩
instance : StructT Tryz.prog 66 [(0, 1)] := ⟨by kernel_rfl⟩
instance : CellT Tryz.prog 67 := ⟨by kernel_rfl⟩
instance : ZeroT Tryz.prog 67 [.pointer none] := ⟨by kernel_rfl⟩
instance : MethT Tryz.prog 67 "Cuts" 197 true 131 := ⟨by kernel_rfl⟩
instance : MethT Tryz.prog 67 "Value" 196 true 131 := ⟨by kernel_rfl⟩
instance : MethT Tryz.prog 67 "stratagem/lmcut.arcs" 202 true 131 := ⟨by kernel_rfl⟩
instance : MethT Tryz.prog 67 "stratagem/lmcut.cut" 200 true 131 := ⟨by kernel_rfl⟩
instance : MethT Tryz.prog 67 "stratagem/lmcut.numbers" 70 true 131 := ⟨by kernel_rfl⟩
instance : MethT Tryz.prog 67 "stratagem/lmcut.values" 198 true 131 := ⟨by kernel_rfl⟩
instance : PtrT Tryz.prog 67 := ⟨by kernel_rfl⟩
instance : PlainT Tryz.prog 67 := ⟨by kernel_rfl⟩
instance : CellT Tryz.prog 69 := ⟨by kernel_rfl⟩
instance : ZeroT Tryz.prog 69 [.nilFunc] := ⟨by kernel_rfl⟩
instance : PlainT Tryz.prog 69 := ⟨by kernel_rfl⟩
instance : CellT Tryz.prog 70 := ⟨by kernel_rfl⟩
instance : ZeroT Tryz.prog 70 [.nilFunc] := ⟨by kernel_rfl⟩
instance : PlainT Tryz.prog 70 := ⟨by kernel_rfl⟩
instance : CellT Tryz.prog 71 := ⟨by kernel_rfl⟩
instance : ZeroT Tryz.prog 71 [.nilFunc] := ⟨by kernel_rfl⟩
instance : PlainT Tryz.prog 71 := ⟨by kernel_rfl⟩
instance : CellT Tryz.prog 72 := ⟨by kernel_rfl⟩
instance : ZeroT Tryz.prog 72 [.nilIface] := ⟨by kernel_rfl⟩
instance : IfaceT Tryz.prog 72 := ⟨by kernel_rfl⟩
instance : CellT Tryz.prog 73 := ⟨by kernel_rfl⟩
instance : ZeroT Tryz.prog 73 [.nilIface] := ⟨by kernel_rfl⟩
instance : IfaceT Tryz.prog 73 := ⟨by kernel_rfl⟩
instance : AggT Tryz.prog 74 5 := ⟨by kernel_rfl⟩
instance : ZeroT Tryz.prog 74 [.slice none 0 0, .slice none 0 0, .slice none 0 0, .slice none 0 0, .nilIface] := ⟨by kernel_rfl⟩
instance : PlainT Tryz.prog 74 := ⟨by kernel_rfl⟩
instance : FieldT Tryz.prog 74 0 0 26 := ⟨by kernel_rfl⟩
instance : FieldT Tryz.prog 74 1 4 73 := ⟨by kernel_rfl⟩
instance : StructT Tryz.prog 74 [(0, 4), (4, 1)] := ⟨by kernel_rfl⟩
instance : AggT Tryz.prog 75 5 := ⟨by kernel_rfl⟩
instance : ZeroT Tryz.prog 75 [.slice none 0 0, .slice none 0 0, .slice none 0 0, .slice none 0 0, .nilIface] := ⟨by kernel_rfl⟩
instance : PlainT Tryz.prog 75 := ⟨by kernel_rfl⟩
instance : FieldT Tryz.prog 75 0 0 26 := ⟨by kernel_rfl⟩
instance : FieldT Tryz.prog 75 1 4 73 := ⟨by kernel_rfl⟩
instance : StructT Tryz.prog 75 [(0, 4), (4, 1)] := ⟨by kernel_rfl⟩
instance : AggT Tryz.prog 76 2 := ⟨by kernel_rfl⟩
instance : ZeroT Tryz.prog 76 [.int .i64 0, .int .i64 0] := ⟨by kernel_rfl⟩
instance : PlainT Tryz.prog 76 := ⟨by kernel_rfl⟩
instance : FieldT Tryz.prog 76 0 0 3 := ⟨by kernel_rfl⟩
instance : FieldT Tryz.prog 76 1 1 3 := ⟨by kernel_rfl⟩
instance : StructT Tryz.prog 76 [(0, 1), (1, 1)] := ⟨by kernel_rfl⟩
instance : AggT Tryz.prog 77 2 := ⟨by kernel_rfl⟩
instance : ZeroT Tryz.prog 77 [.int .i64 0, .int .i64 0] := ⟨by kernel_rfl⟩
instance : PlainT Tryz.prog 77 := ⟨by kernel_rfl⟩
instance : FieldT Tryz.prog 77 0 0 3 := ⟨by kernel_rfl⟩
instance : FieldT Tryz.prog 77 1 1 3 := ⟨by kernel_rfl⟩
instance : StructT Tryz.prog 77 [(0, 1), (1, 1)] := ⟨by kernel_rfl⟩
instance : CellT Tryz.prog 78 := ⟨by kernel_rfl⟩
instance : ZeroT Tryz.prog 78 [.nilFunc] := ⟨by kernel_rfl⟩
instance : PlainT Tryz.prog 78 := ⟨by kernel_rfl⟩
instance : AggT Tryz.prog 79 3 := ⟨by kernel_rfl⟩
instance : ZeroT Tryz.prog 79 [.slice none 0 0, .int .i64 0, .int .i64 0] := ⟨by kernel_rfl⟩
instance : PlainT Tryz.prog 79 := ⟨by kernel_rfl⟩
instance : FieldT Tryz.prog 79 0 0 23 := ⟨by kernel_rfl⟩
instance : FieldT Tryz.prog 79 1 1 3 := ⟨by kernel_rfl⟩
instance : FieldT Tryz.prog 79 2 2 3 := ⟨by kernel_rfl⟩
instance : StructT Tryz.prog 79 [(0, 1), (1, 1), (2, 1)] := ⟨by kernel_rfl⟩
instance : AggT Tryz.prog 80 3 := ⟨by kernel_rfl⟩
instance : ZeroT Tryz.prog 80 [.slice none 0 0, .int .i64 0, .int .i64 0] := ⟨by kernel_rfl⟩
instance : PlainT Tryz.prog 80 := ⟨by kernel_rfl⟩
instance : FieldT Tryz.prog 80 0 0 23 := ⟨by kernel_rfl⟩
instance : FieldT Tryz.prog 80 1 1 3 := ⟨by kernel_rfl⟩
instance : FieldT Tryz.prog 80 2 2 3 := ⟨by kernel_rfl⟩
instance : StructT Tryz.prog 80 [(0, 1), (1, 1), (2, 1)] := ⟨by kernel_rfl⟩
instance : CellT Tryz.prog 81 := ⟨by kernel_rfl⟩
instance : ZeroT Tryz.prog 81 [.nilFunc] := ⟨by kernel_rfl⟩
instance : PlainT Tryz.prog 81 := ⟨by kernel_rfl⟩
instance : SliceT Tryz.prog 82 88 6 48 := ⟨by kernel_rfl⟩
instance : CellT Tryz.prog 82 := ⟨by kernel_rfl⟩
instance : ZeroT Tryz.prog 82 [.slice none 0 0] := ⟨by kernel_rfl⟩
instance : PlainT Tryz.prog 82 := ⟨by kernel_rfl⟩
instance : CellT Tryz.prog 83 := ⟨by kernel_rfl⟩
instance : ZeroT Tryz.prog 83 [.nilFunc] := ⟨by kernel_rfl⟩
instance : PlainT Tryz.prog 83 := ⟨by kernel_rfl⟩
instance : CellT Tryz.prog 84 := ⟨by kernel_rfl⟩
instance : ZeroT Tryz.prog 84 [.nilFunc] := ⟨by kernel_rfl⟩
instance : PlainT Tryz.prog 84 := ⟨by kernel_rfl⟩
instance : CellT Tryz.prog 85 := ⟨by kernel_rfl⟩
instance : ZeroT Tryz.prog 85 [.nilFunc] := ⟨by kernel_rfl⟩
instance : PlainT Tryz.prog 85 := ⟨by kernel_rfl⟩
instance : CellT Tryz.prog 86 := ⟨by kernel_rfl⟩
instance : ZeroT Tryz.prog 86 [.nilFunc] := ⟨by kernel_rfl⟩
instance : PlainT Tryz.prog 86 := ⟨by kernel_rfl⟩
instance : AggT Tryz.prog 87 6 := ⟨by kernel_rfl⟩
instance : ZeroT Tryz.prog 87 [.bool false, .int .i64 0, .int .i64 0, .int .i64 0, .int .i64 0, .int .i64 0] := ⟨by kernel_rfl⟩
instance : PlainT Tryz.prog 87 := ⟨by kernel_rfl⟩
instance : FieldT Tryz.prog 87 0 0 4 := ⟨by kernel_rfl⟩
instance : FieldT Tryz.prog 87 1 1 77 := ⟨by kernel_rfl⟩
instance : FieldT Tryz.prog 87 2 3 77 := ⟨by kernel_rfl⟩
instance : FieldT Tryz.prog 87 3 5 3 := ⟨by kernel_rfl⟩
instance : StructT Tryz.prog 87 [(0, 1), (1, 2), (3, 2), (5, 1)] := ⟨by kernel_rfl⟩
instance : AggT Tryz.prog 88 6 := ⟨by kernel_rfl⟩
instance : ZeroT Tryz.prog 88 [.bool false, .int .i64 0, .int .i64 0, .int .i64 0, .int .i64 0, .int .i64 0] := ⟨by kernel_rfl⟩
instance : PlainT Tryz.prog 88 := ⟨by kernel_rfl⟩
instance : FieldT Tryz.prog 88 0 0 4 := ⟨by kernel_rfl⟩
instance : FieldT Tryz.prog 88 1 1 77 := ⟨by kernel_rfl⟩
instance : FieldT Tryz.prog 88 2 3 77 := ⟨by kernel_rfl⟩
instance : FieldT Tryz.prog 88 3 5 3 := ⟨by kernel_rfl⟩
instance : StructT Tryz.prog 88 [(0, 1), (1, 2), (3, 2), (5, 1)] := ⟨by kernel_rfl⟩
instance : CellT Tryz.prog 89 := ⟨by kernel_rfl⟩
instance : ZeroT Tryz.prog 89 [.nilFunc] := ⟨by kernel_rfl⟩
instance : PlainT Tryz.prog 89 := ⟨by kernel_rfl⟩
instance : CellT Tryz.prog 91 := ⟨by kernel_rfl⟩
instance : ZeroT Tryz.prog 91 [.nilFunc] := ⟨by kernel_rfl⟩
instance : PlainT Tryz.prog 91 := ⟨by kernel_rfl⟩
instance : CellT Tryz.prog 92 := ⟨by kernel_rfl⟩
instance : ZeroT Tryz.prog 92 [.pointer none] := ⟨by kernel_rfl⟩
instance : MethT Tryz.prog 92 "stratagem/idastar.visit" 74 true 139 := ⟨by kernel_rfl⟩
instance : PtrT Tryz.prog 92 := ⟨by kernel_rfl⟩
instance : PlainT Tryz.prog 92 := ⟨by kernel_rfl⟩
instance : CellT Tryz.prog 94 := ⟨by kernel_rfl⟩
instance : ZeroT Tryz.prog 94 [.nilFunc] := ⟨by kernel_rfl⟩
instance : PlainT Tryz.prog 94 := ⟨by kernel_rfl⟩
instance : CellT Tryz.prog 96 := ⟨by kernel_rfl⟩
instance : ZeroT Tryz.prog 96 [.nilFunc] := ⟨by kernel_rfl⟩
instance : PlainT Tryz.prog 96 := ⟨by kernel_rfl⟩
instance : CellT Tryz.prog 97 := ⟨by kernel_rfl⟩
instance : ZeroT Tryz.prog 97 [.nilFunc] := ⟨by kernel_rfl⟩
instance : PlainT Tryz.prog 97 := ⟨by kernel_rfl⟩
instance : CellT Tryz.prog 98 := ⟨by kernel_rfl⟩
instance : ZeroT Tryz.prog 98 [.nilFunc] := ⟨by kernel_rfl⟩
instance : PlainT Tryz.prog 98 := ⟨by kernel_rfl⟩
instance : CellT Tryz.prog 99 := ⟨by kernel_rfl⟩
instance : ZeroT Tryz.prog 99 [.nilFunc] := ⟨by kernel_rfl⟩
instance : PlainT Tryz.prog 99 := ⟨by kernel_rfl⟩
instance : CellT Tryz.prog 101 := ⟨by kernel_rfl⟩
instance : ZeroT Tryz.prog 101 [.nilFunc] := ⟨by kernel_rfl⟩
instance : PlainT Tryz.prog 101 := ⟨by kernel_rfl⟩
instance : CellT Tryz.prog 102 := ⟨by kernel_rfl⟩
instance : ZeroT Tryz.prog 102 [.pointer none] := ⟨by kernel_rfl⟩
instance : MethT Tryz.prog 102 "Parts" 203 true 164 := ⟨by kernel_rfl⟩
instance : MethT Tryz.prog 102 "Value" 204 true 164 := ⟨by kernel_rfl⟩
instance : PtrT Tryz.prog 102 := ⟨by kernel_rfl⟩
instance : PlainT Tryz.prog 102 := ⟨by kernel_rfl⟩
instance : CellT Tryz.prog 104 := ⟨by kernel_rfl⟩
instance : ZeroT Tryz.prog 104 [.nilFunc] := ⟨by kernel_rfl⟩
instance : PlainT Tryz.prog 104 := ⟨by kernel_rfl⟩
instance : CellT Tryz.prog 105 := ⟨by kernel_rfl⟩
instance : ZeroT Tryz.prog 105 [.nilFunc] := ⟨by kernel_rfl⟩
instance : PlainT Tryz.prog 105 := ⟨by kernel_rfl⟩
instance : AggT Tryz.prog 106 2 := ⟨by kernel_rfl⟩
instance : ZeroT Tryz.prog 106 [.slice none 0 0, .int .i64 0] := ⟨by kernel_rfl⟩
instance : PlainT Tryz.prog 106 := ⟨by kernel_rfl⟩
instance : FieldT Tryz.prog 106 0 0 23 := ⟨by kernel_rfl⟩
instance : FieldT Tryz.prog 106 1 1 3 := ⟨by kernel_rfl⟩
instance : StructT Tryz.prog 106 [(0, 1), (1, 1)] := ⟨by kernel_rfl⟩
instance : AggT Tryz.prog 107 2 := ⟨by kernel_rfl⟩
instance : ZeroT Tryz.prog 107 [.slice none 0 0, .int .i64 0] := ⟨by kernel_rfl⟩
instance : PlainT Tryz.prog 107 := ⟨by kernel_rfl⟩
instance : FieldT Tryz.prog 107 0 0 23 := ⟨by kernel_rfl⟩
instance : FieldT Tryz.prog 107 1 1 3 := ⟨by kernel_rfl⟩
instance : StructT Tryz.prog 107 [(0, 1), (1, 1)] := ⟨by kernel_rfl⟩
instance : CellT Tryz.prog 108 := ⟨by kernel_rfl⟩
instance : ZeroT Tryz.prog 108 [.nilFunc] := ⟨by kernel_rfl⟩
instance : PlainT Tryz.prog 108 := ⟨by kernel_rfl⟩
instance : CellT Tryz.prog 109 := ⟨by kernel_rfl⟩
instance : ZeroT Tryz.prog 109 [.pointer none] := ⟨by kernel_rfl⟩
instance : MethT Tryz.prog 109 "stratagem/astar.cost" 95 true 154 := ⟨by kernel_rfl⟩
instance : MethT Tryz.prog 109 "stratagem/astar.next" 91 true 154 := ⟨by kernel_rfl⟩
instance : MethT Tryz.prog 109 "stratagem/astar.reach" 90 true 154 := ⟨by kernel_rfl⟩
instance : MethT Tryz.prog 109 "stratagem/astar.run" 58 true 154 := ⟨by kernel_rfl⟩
instance : PtrT Tryz.prog 109 := ⟨by kernel_rfl⟩
instance : PlainT Tryz.prog 109 := ⟨by kernel_rfl⟩
instance : CellT Tryz.prog 111 := ⟨by kernel_rfl⟩
instance : ZeroT Tryz.prog 111 [.nilFunc] := ⟨by kernel_rfl⟩
instance : PlainT Tryz.prog 111 := ⟨by kernel_rfl⟩
instance : CellT Tryz.prog 112 := ⟨by kernel_rfl⟩
instance : ZeroT Tryz.prog 112 [.nilFunc] := ⟨by kernel_rfl⟩
instance : PlainT Tryz.prog 112 := ⟨by kernel_rfl⟩
instance : CellT Tryz.prog 113 := ⟨by kernel_rfl⟩
instance : ZeroT Tryz.prog 113 [.nilFunc] := ⟨by kernel_rfl⟩
instance : PlainT Tryz.prog 113 := ⟨by kernel_rfl⟩
instance : CellT Tryz.prog 114 := ⟨by kernel_rfl⟩
instance : ZeroT Tryz.prog 114 [.nilFunc] := ⟨by kernel_rfl⟩
instance : PlainT Tryz.prog 114 := ⟨by kernel_rfl⟩
instance : CellT Tryz.prog 115 := ⟨by kernel_rfl⟩
instance : ZeroT Tryz.prog 115 [.nilFunc] := ⟨by kernel_rfl⟩
instance : PlainT Tryz.prog 115 := ⟨by kernel_rfl⟩
instance : CellT Tryz.prog 116 := ⟨by kernel_rfl⟩
instance : ZeroT Tryz.prog 116 [.int .i64 0] := ⟨by kernel_rfl⟩
instance : PlainT Tryz.prog 116 := ⟨by kernel_rfl⟩
instance : CellT Tryz.prog 117 := ⟨by kernel_rfl⟩
instance : ZeroT Tryz.prog 117 [.nilFunc] := ⟨by kernel_rfl⟩
instance : PlainT Tryz.prog 117 := ⟨by kernel_rfl⟩
instance : SliceT Tryz.prog 118 29 1 8 := ⟨by kernel_rfl⟩
instance : CellT Tryz.prog 118 := ⟨by kernel_rfl⟩
instance : ZeroT Tryz.prog 118 [.slice none 0 0] := ⟨by kernel_rfl⟩
instance : PlainT Tryz.prog 118 := ⟨by kernel_rfl⟩
instance : CellT Tryz.prog 119 := ⟨by kernel_rfl⟩
instance : ZeroT Tryz.prog 119 [.nilFunc] := ⟨by kernel_rfl⟩
instance : PlainT Tryz.prog 119 := ⟨by kernel_rfl⟩
instance : CellT Tryz.prog 120 := ⟨by kernel_rfl⟩
instance : ZeroT Tryz.prog 120 [.nilFunc] := ⟨by kernel_rfl⟩
instance : PlainT Tryz.prog 120 := ⟨by kernel_rfl⟩
instance : SliceT Tryz.prog 121 127 5 56 := ⟨by kernel_rfl⟩
instance : CellT Tryz.prog 121 := ⟨by kernel_rfl⟩
instance : ZeroT Tryz.prog 121 [.slice none 0 0] := ⟨by kernel_rfl⟩
instance : PlainT Tryz.prog 121 := ⟨by kernel_rfl⟩
instance : AggT Tryz.prog 122 9 := ⟨by kernel_rfl⟩
instance : ZeroT Tryz.prog 122 [.slice none 0 0, .slice none 0 0, .slice none 0 0, .slice none 0 0, .slice none 0 0, .int .i64 0, .slice none 0 0, .slice none 0 0, .slice none 0 0] := ⟨by kernel_rfl⟩
instance : PlainT Tryz.prog 122 := ⟨by kernel_rfl⟩
instance : FieldT Tryz.prog 122 0 0 26 := ⟨by kernel_rfl⟩
instance : FieldT Tryz.prog 122 1 4 22 := ⟨by kernel_rfl⟩
instance : FieldT Tryz.prog 122 2 5 3 := ⟨by kernel_rfl⟩
instance : FieldT Tryz.prog 122 3 6 121 := ⟨by kernel_rfl⟩
instance : FieldT Tryz.prog 122 4 7 35 := ⟨by kernel_rfl⟩
instance : FieldT Tryz.prog 122 5 8 22 := ⟨by kernel_rfl⟩
instance : StructT Tryz.prog 122 [(0, 4), (4, 1), (5, 1), (6, 1), (7, 1), (8, 1)] := ⟨by kernel_rfl⟩
instance : AggT Tryz.prog 123 9 := ⟨by kernel_rfl⟩
instance : ZeroT Tryz.prog 123 [.slice none 0 0, .slice none 0 0, .slice none 0 0, .slice none 0 0, .slice none 0 0, .int .i64 0, .slice none 0 0, .slice none 0 0, .slice none 0 0] := ⟨by kernel_rfl⟩
instance : PlainT Tryz.prog 123 := ⟨by kernel_rfl⟩
instance : FieldT Tryz.prog 123 0 0 26 := ⟨by kernel_rfl⟩
instance : FieldT Tryz.prog 123 1 4 22 := ⟨by kernel_rfl⟩
instance : FieldT Tryz.prog 123 2 5 3 := ⟨by kernel_rfl⟩
instance : FieldT Tryz.prog 123 3 6 121 := ⟨by kernel_rfl⟩
instance : FieldT Tryz.prog 123 4 7 35 := ⟨by kernel_rfl⟩
instance : FieldT Tryz.prog 123 5 8 22 := ⟨by kernel_rfl⟩
instance : StructT Tryz.prog 123 [(0, 4), (4, 1), (5, 1), (6, 1), (7, 1), (8, 1)] := ⟨by kernel_rfl⟩
instance : CellT Tryz.prog 124 := ⟨by kernel_rfl⟩
instance : ZeroT Tryz.prog 124 [.nilFunc] := ⟨by kernel_rfl⟩
instance : PlainT Tryz.prog 124 := ⟨by kernel_rfl⟩
instance : CellT Tryz.prog 125 := ⟨by kernel_rfl⟩
instance : ZeroT Tryz.prog 125 [.nilFunc] := ⟨by kernel_rfl⟩
instance : PlainT Tryz.prog 125 := ⟨by kernel_rfl⟩
instance : AggT Tryz.prog 126 5 := ⟨by kernel_rfl⟩
instance : ZeroT Tryz.prog 126 [.int .i64 0, .int .i64 0, .int .i64 0, .int .i64 0, .slice none 0 0] := ⟨by kernel_rfl⟩
instance : PlainT Tryz.prog 126 := ⟨by kernel_rfl⟩
instance : FieldT Tryz.prog 126 0 0 3 := ⟨by kernel_rfl⟩
instance : FieldT Tryz.prog 126 1 1 3 := ⟨by kernel_rfl⟩
instance : FieldT Tryz.prog 126 2 2 3 := ⟨by kernel_rfl⟩
instance : FieldT Tryz.prog 126 3 3 3 := ⟨by kernel_rfl⟩
instance : FieldT Tryz.prog 126 4 4 22 := ⟨by kernel_rfl⟩
instance : StructT Tryz.prog 126 [(0, 1), (1, 1), (2, 1), (3, 1), (4, 1)] := ⟨by kernel_rfl⟩
instance : AggT Tryz.prog 127 5 := ⟨by kernel_rfl⟩
instance : ZeroT Tryz.prog 127 [.int .i64 0, .int .i64 0, .int .i64 0, .int .i64 0, .slice none 0 0] := ⟨by kernel_rfl⟩
instance : PlainT Tryz.prog 127 := ⟨by kernel_rfl⟩
instance : FieldT Tryz.prog 127 0 0 3 := ⟨by kernel_rfl⟩
instance : FieldT Tryz.prog 127 1 1 3 := ⟨by kernel_rfl⟩
instance : FieldT Tryz.prog 127 2 2 3 := ⟨by kernel_rfl⟩
instance : FieldT Tryz.prog 127 3 3 3 := ⟨by kernel_rfl⟩
instance : FieldT Tryz.prog 127 4 4 22 := ⟨by kernel_rfl⟩
instance : StructT Tryz.prog 127 [(0, 1), (1, 1), (2, 1), (3, 1), (4, 1)] := ⟨by kernel_rfl⟩
instance : CellT Tryz.prog 128 := ⟨by kernel_rfl⟩
instance : ZeroT Tryz.prog 128 [.nilFunc] := ⟨by kernel_rfl⟩
instance : PlainT Tryz.prog 128 := ⟨by kernel_rfl⟩
instance : SliceT Tryz.prog 129 135 3 40 := ⟨by kernel_rfl⟩
instance : CellT Tryz.prog 129 := ⟨by kernel_rfl⟩
instance : ZeroT Tryz.prog 129 [.slice none 0 0] := ⟨by kernel_rfl⟩
instance : PlainT Tryz.prog 129 := ⟨by kernel_rfl⟩
instance : AggT Tryz.prog 130 6 := ⟨by kernel_rfl⟩
instance : ZeroT Tryz.prog 130 [.slice none 0 0, .slice none 0 0, .int .i64 0, .slice none 0 0, .slice none 0 0, .slice none 0 0] := ⟨by kernel_rfl⟩
instance : PlainT Tryz.prog 130 := ⟨by kernel_rfl⟩
instance : FieldT Tryz.prog 130 0 0 22 := ⟨by kernel_rfl⟩
instance : FieldT Tryz.prog 130 1 1 22 := ⟨by kernel_rfl⟩
instance : FieldT Tryz.prog 130 2 2 3 := ⟨by kernel_rfl⟩
instance : FieldT Tryz.prog 130 3 3 22 := ⟨by kernel_rfl⟩
instance : FieldT Tryz.prog 130 4 4 22 := ⟨by kernel_rfl⟩
instance : FieldT Tryz.prog 130 5 5 129 := ⟨by kernel_rfl⟩
instance : StructT Tryz.prog 130 [(0, 1), (1, 1), (2, 1), (3, 1), (4, 1), (5, 1)] := ⟨by kernel_rfl⟩
instance : AggT Tryz.prog 131 6 := ⟨by kernel_rfl⟩
instance : ZeroT Tryz.prog 131 [.slice none 0 0, .slice none 0 0, .int .i64 0, .slice none 0 0, .slice none 0 0, .slice none 0 0] := ⟨by kernel_rfl⟩
instance : PlainT Tryz.prog 131 := ⟨by kernel_rfl⟩
instance : FieldT Tryz.prog 131 0 0 22 := ⟨by kernel_rfl⟩
instance : FieldT Tryz.prog 131 1 1 22 := ⟨by kernel_rfl⟩
instance : FieldT Tryz.prog 131 2 2 3 := ⟨by kernel_rfl⟩
instance : FieldT Tryz.prog 131 3 3 22 := ⟨by kernel_rfl⟩
instance : FieldT Tryz.prog 131 4 4 22 := ⟨by kernel_rfl⟩
instance : FieldT Tryz.prog 131 5 5 129 := ⟨by kernel_rfl⟩
instance : StructT Tryz.prog 131 [(0, 1), (1, 1), (2, 1), (3, 1), (4, 1), (5, 1)] := ⟨by kernel_rfl⟩
instance : CellT Tryz.prog 132 := ⟨by kernel_rfl⟩
instance : ZeroT Tryz.prog 132 [.nilFunc] := ⟨by kernel_rfl⟩
instance : PlainT Tryz.prog 132 := ⟨by kernel_rfl⟩
instance : CellT Tryz.prog 133 := ⟨by kernel_rfl⟩
instance : ZeroT Tryz.prog 133 [.nilFunc] := ⟨by kernel_rfl⟩
instance : PlainT Tryz.prog 133 := ⟨by kernel_rfl⟩
instance : AggT Tryz.prog 134 3 := ⟨by kernel_rfl⟩
instance : ZeroT Tryz.prog 134 [.int .i64 0, .int .i64 0, .slice none 0 0] := ⟨by kernel_rfl⟩
instance : PlainT Tryz.prog 134 := ⟨by kernel_rfl⟩
instance : FieldT Tryz.prog 134 0 0 3 := ⟨by kernel_rfl⟩
instance : FieldT Tryz.prog 134 1 1 3 := ⟨by kernel_rfl⟩
instance : FieldT Tryz.prog 134 2 2 22 := ⟨by kernel_rfl⟩
instance : StructT Tryz.prog 134 [(0, 1), (1, 1), (2, 1)] := ⟨by kernel_rfl⟩
instance : AggT Tryz.prog 135 3 := ⟨by kernel_rfl⟩
instance : ZeroT Tryz.prog 135 [.int .i64 0, .int .i64 0, .slice none 0 0] := ⟨by kernel_rfl⟩
instance : PlainT Tryz.prog 135 := ⟨by kernel_rfl⟩
instance : FieldT Tryz.prog 135 0 0 3 := ⟨by kernel_rfl⟩
instance : FieldT Tryz.prog 135 1 1 3 := ⟨by kernel_rfl⟩
instance : FieldT Tryz.prog 135 2 2 22 := ⟨by kernel_rfl⟩
instance : StructT Tryz.prog 135 [(0, 1), (1, 1), (2, 1)] := ⟨by kernel_rfl⟩
instance : CellT Tryz.prog 136 := ⟨by kernel_rfl⟩
instance : ZeroT Tryz.prog 136 [.pointer none] := ⟨by kernel_rfl⟩
instance : MethT Tryz.prog 136 "Applicable" 130 true 192 := ⟨by kernel_rfl⟩
instance : MethT Tryz.prog 136 "Count" 209 true 192 := ⟨by kernel_rfl⟩
instance : MethT Tryz.prog 136 "Successors" 96 true 192 := ⟨by kernel_rfl⟩
instance : MethT Tryz.prog 136 "stratagem/succgen.build" 107 true 192 := ⟨by kernel_rfl⟩
instance : MethT Tryz.prog 136 "stratagem/succgen.fact" 146 true 192 := ⟨by kernel_rfl⟩
instance : MethT Tryz.prog 136 "stratagem/succgen.find" 159 true 192 := ⟨by kernel_rfl⟩
instance : PtrT Tryz.prog 136 := ⟨by kernel_rfl⟩
instance : PlainT Tryz.prog 136 := ⟨by kernel_rfl⟩
instance : CellT Tryz.prog 137 := ⟨by kernel_rfl⟩
instance : ZeroT Tryz.prog 137 [.map none] := ⟨by kernel_rfl⟩
instance : PlainT Tryz.prog 137 := ⟨by kernel_rfl⟩
instance : AggT Tryz.prog 138 13 := ⟨by kernel_rfl⟩
instance : ZeroT Tryz.prog 138 [.slice none 0 0, .slice none 0 0, .slice none 0 0, .slice none 0 0, .pointer none, .pointer none, .int .i64 0, .int .i64 0, .int .i64 0, .int .i64 0, .map none, .slice none 0 0, .slice none 0 0] := ⟨by kernel_rfl⟩
instance : PlainT Tryz.prog 138 := ⟨by kernel_rfl⟩
instance : FieldT Tryz.prog 138 0 0 26 := ⟨by kernel_rfl⟩
instance : FieldT Tryz.prog 138 1 4 29 := ⟨by kernel_rfl⟩
instance : FieldT Tryz.prog 138 2 5 136 := ⟨by kernel_rfl⟩
instance : FieldT Tryz.prog 138 3 6 3 := ⟨by kernel_rfl⟩
instance : FieldT Tryz.prog 138 4 7 3 := ⟨by kernel_rfl⟩
instance : FieldT Tryz.prog 138 5 8 3 := ⟨by kernel_rfl⟩
instance : FieldT Tryz.prog 138 6 9 3 := ⟨by kernel_rfl⟩
instance : FieldT Tryz.prog 138 7 10 137 := ⟨by kernel_rfl⟩
instance : FieldT Tryz.prog 138 8 11 22 := ⟨by kernel_rfl⟩
instance : FieldT Tryz.prog 138 9 12 22 := ⟨by kernel_rfl⟩
instance : StructT Tryz.prog 138 [(0, 4), (4, 1), (5, 1), (6, 1), (7, 1), (8, 1), (9, 1), (10, 1), (11, 1), (12, 1)] := ⟨by kernel_rfl⟩
instance : AggT Tryz.prog 139 13 := ⟨by kernel_rfl⟩
instance : ZeroT Tryz.prog 139 [.slice none 0 0, .slice none 0 0, .slice none 0 0, .slice none 0 0, .pointer none, .pointer none, .int .i64 0, .int .i64 0, .int .i64 0, .int .i64 0, .map none, .slice none 0 0, .slice none 0 0] := ⟨by kernel_rfl⟩
instance : PlainT Tryz.prog 139 := ⟨by kernel_rfl⟩
instance : FieldT Tryz.prog 139 0 0 26 := ⟨by kernel_rfl⟩
instance : FieldT Tryz.prog 139 1 4 29 := ⟨by kernel_rfl⟩
instance : FieldT Tryz.prog 139 2 5 136 := ⟨by kernel_rfl⟩
instance : FieldT Tryz.prog 139 3 6 3 := ⟨by kernel_rfl⟩
instance : FieldT Tryz.prog 139 4 7 3 := ⟨by kernel_rfl⟩
instance : FieldT Tryz.prog 139 5 8 3 := ⟨by kernel_rfl⟩
instance : FieldT Tryz.prog 139 6 9 3 := ⟨by kernel_rfl⟩
instance : FieldT Tryz.prog 139 7 10 137 := ⟨by kernel_rfl⟩
instance : FieldT Tryz.prog 139 8 11 22 := ⟨by kernel_rfl⟩
instance : FieldT Tryz.prog 139 9 12 22 := ⟨by kernel_rfl⟩
instance : StructT Tryz.prog 139 [(0, 4), (4, 1), (5, 1), (6, 1), (7, 1), (8, 1), (9, 1), (10, 1), (11, 1), (12, 1)] := ⟨by kernel_rfl⟩
instance : CellT Tryz.prog 141 := ⟨by kernel_rfl⟩
instance : ZeroT Tryz.prog 141 [.nilFunc] := ⟨by kernel_rfl⟩
instance : PlainT Tryz.prog 141 := ⟨by kernel_rfl⟩
instance : CellT Tryz.prog 143 := ⟨by kernel_rfl⟩
instance : ZeroT Tryz.prog 143 [.nilFunc] := ⟨by kernel_rfl⟩
instance : PlainT Tryz.prog 143 := ⟨by kernel_rfl⟩
instance : CellT Tryz.prog 144 := ⟨by kernel_rfl⟩
instance : ZeroT Tryz.prog 144 [.nilFunc] := ⟨by kernel_rfl⟩
instance : PlainT Tryz.prog 144 := ⟨by kernel_rfl⟩
instance : SliceT Tryz.prog 145 148 3 24 := ⟨by kernel_rfl⟩
instance : CellT Tryz.prog 145 := ⟨by kernel_rfl⟩
instance : ZeroT Tryz.prog 145 [.slice none 0 0] := ⟨by kernel_rfl⟩
instance : PlainT Tryz.prog 145 := ⟨by kernel_rfl⟩
instance : CellT Tryz.prog 146 := ⟨by kernel_rfl⟩
instance : ZeroT Tryz.prog 146 [.nilFunc] := ⟨by kernel_rfl⟩
instance : PlainT Tryz.prog 146 := ⟨by kernel_rfl⟩
instance : AggT Tryz.prog 147 3 := ⟨by kernel_rfl⟩
instance : ZeroT Tryz.prog 147 [.int .i64 0, .int .i64 0, .int .i64 0] := ⟨by kernel_rfl⟩
instance : PlainT Tryz.prog 147 := ⟨by kernel_rfl⟩
instance : FieldT Tryz.prog 147 0 0 3 := ⟨by kernel_rfl⟩
instance : FieldT Tryz.prog 147 1 1 3 := ⟨by kernel_rfl⟩
instance : FieldT Tryz.prog 147 2 2 3 := ⟨by kernel_rfl⟩
instance : StructT Tryz.prog 147 [(0, 1), (1, 1), (2, 1)] := ⟨by kernel_rfl⟩
instance : AggT Tryz.prog 148 3 := ⟨by kernel_rfl⟩
instance : ZeroT Tryz.prog 148 [.int .i64 0, .int .i64 0, .int .i64 0] := ⟨by kernel_rfl⟩
instance : PlainT Tryz.prog 148 := ⟨by kernel_rfl⟩
instance : FieldT Tryz.prog 148 0 0 3 := ⟨by kernel_rfl⟩
instance : FieldT Tryz.prog 148 1 1 3 := ⟨by kernel_rfl⟩
instance : FieldT Tryz.prog 148 2 2 3 := ⟨by kernel_rfl⟩
instance : StructT Tryz.prog 148 [(0, 1), (1, 1), (2, 1)] := ⟨by kernel_rfl⟩
instance : CellT Tryz.prog 149 := ⟨by kernel_rfl⟩
instance : ZeroT Tryz.prog 149 [.pointer none] := ⟨by kernel_rfl⟩
instance : MethT Tryz.prog 149 "Add" 123 true 223 := ⟨by kernel_rfl⟩
instance : MethT Tryz.prog 149 "Len" 210 true 223 := ⟨by kernel_rfl⟩
instance : MethT Tryz.prog 149 "Path" 94 true 223 := ⟨by kernel_rfl⟩
instance : MethT Tryz.prog 149 "SetLink" 124 true 223 := ⟨by kernel_rfl⟩
instance : MethT Tryz.prog 149 "State" 92 true 223 := ⟨by kernel_rfl⟩
instance : MethT Tryz.prog 149 "stratagem/registry.find" 153 true 223 := ⟨by kernel_rfl⟩
instance : MethT Tryz.prog 149 "stratagem/registry.has" 127 true 223 := ⟨by kernel_rfl⟩
instance : PtrT Tryz.prog 149 := ⟨by kernel_rfl⟩
instance : PlainT Tryz.prog 149 := ⟨by kernel_rfl⟩
instance : SliceT Tryz.prog 150 4 1 1 := ⟨by kernel_rfl⟩
instance : CellT Tryz.prog 150 := ⟨by kernel_rfl⟩
instance : ZeroT Tryz.prog 150 [.slice none 0 0] := ⟨by kernel_rfl⟩
instance : PlainT Tryz.prog 150 := ⟨by kernel_rfl⟩
instance : SliceT Tryz.prog 151 230 5 40 := ⟨by kernel_rfl⟩
instance : CellT Tryz.prog 151 := ⟨by kernel_rfl⟩
instance : ZeroT Tryz.prog 151 [.slice none 0 0] := ⟨by kernel_rfl⟩
instance : PlainT Tryz.prog 151 := ⟨by kernel_rfl⟩
instance : SliceT Tryz.prog 152 230 5 40 := ⟨by kernel_rfl⟩
instance : CellT Tryz.prog 152 := ⟨by kernel_rfl⟩
instance : ZeroT Tryz.prog 152 [.slice none 0 0] := ⟨by kernel_rfl⟩
instance : PlainT Tryz.prog 152 := ⟨by kernel_rfl⟩
instance : AggT Tryz.prog 153 15 := ⟨by kernel_rfl⟩
instance : ZeroT Tryz.prog 153 [.slice none 0 0, .slice none 0 0, .slice none 0 0, .slice none 0 0, .pointer none, .pointer none, .pointer none, .slice none 0 0, .slice none 0 0, .slice none 0 0, .slice none 0 0, .int .i64 0, .bool false, .int .i64 0, .int .i64 0] := ⟨by kernel_rfl⟩
instance : PlainT Tryz.prog 153 := ⟨by kernel_rfl⟩
instance : FieldT Tryz.prog 153 0 0 26 := ⟨by kernel_rfl⟩
instance : FieldT Tryz.prog 153 1 4 29 := ⟨by kernel_rfl⟩
instance : FieldT Tryz.prog 153 2 5 136 := ⟨by kernel_rfl⟩
instance : FieldT Tryz.prog 153 3 6 149 := ⟨by kernel_rfl⟩
instance : FieldT Tryz.prog 153 4 7 22 := ⟨by kernel_rfl⟩
instance : FieldT Tryz.prog 153 5 8 22 := ⟨by kernel_rfl⟩
instance : FieldT Tryz.prog 153 6 9 150 := ⟨by kernel_rfl⟩
instance : FieldT Tryz.prog 153 7 10 152 := ⟨by kernel_rfl⟩
instance : FieldT Tryz.prog 153 8 11 3 := ⟨by kernel_rfl⟩
instance : FieldT Tryz.prog 153 9 12 4 := ⟨by kernel_rfl⟩
instance : FieldT Tryz.prog 153 10 13 3 := ⟨by kernel_rfl⟩
instance : FieldT Tryz.prog 153 11 14 3 := ⟨by kernel_rfl⟩
instance : StructT Tryz.prog 153 [(0, 4), (4, 1), (5, 1), (6, 1), (7, 1), (8, 1), (9, 1), (10, 1), (11, 1), (12, 1), (13, 1), (14, 1)] := ⟨by kernel_rfl⟩
instance : AggT Tryz.prog 154 15 := ⟨by kernel_rfl⟩
instance : ZeroT Tryz.prog 154 [.slice none 0 0, .slice none 0 0, .slice none 0 0, .slice none 0 0, .pointer none, .pointer none, .pointer none, .slice none 0 0, .slice none 0 0, .slice none 0 0, .slice none 0 0, .int .i64 0, .bool false, .int .i64 0, .int .i64 0] := ⟨by kernel_rfl⟩
instance : PlainT Tryz.prog 154 := ⟨by kernel_rfl⟩
instance : FieldT Tryz.prog 154 0 0 26 := ⟨by kernel_rfl⟩
instance : FieldT Tryz.prog 154 1 4 29 := ⟨by kernel_rfl⟩
instance : FieldT Tryz.prog 154 2 5 136 := ⟨by kernel_rfl⟩
instance : FieldT Tryz.prog 154 3 6 149 := ⟨by kernel_rfl⟩
instance : FieldT Tryz.prog 154 4 7 22 := ⟨by kernel_rfl⟩
instance : FieldT Tryz.prog 154 5 8 22 := ⟨by kernel_rfl⟩
instance : FieldT Tryz.prog 154 6 9 150 := ⟨by kernel_rfl⟩
instance : FieldT Tryz.prog 154 7 10 152 := ⟨by kernel_rfl⟩
instance : FieldT Tryz.prog 154 8 11 3 := ⟨by kernel_rfl⟩
instance : FieldT Tryz.prog 154 9 12 4 := ⟨by kernel_rfl⟩
instance : FieldT Tryz.prog 154 10 13 3 := ⟨by kernel_rfl⟩
instance : FieldT Tryz.prog 154 11 14 3 := ⟨by kernel_rfl⟩
instance : StructT Tryz.prog 154 [(0, 4), (4, 1), (5, 1), (6, 1), (7, 1), (8, 1), (9, 1), (10, 1), (11, 1), (12, 1), (13, 1), (14, 1)] := ⟨by kernel_rfl⟩
instance : SliceT Tryz.prog 155 208 3 24 := ⟨by kernel_rfl⟩
instance : CellT Tryz.prog 155 := ⟨by kernel_rfl⟩
instance : ZeroT Tryz.prog 155 [.slice none 0 0] := ⟨by kernel_rfl⟩
instance : PlainT Tryz.prog 155 := ⟨by kernel_rfl⟩
instance : AggT Tryz.prog 156 5 := ⟨by kernel_rfl⟩
instance : ZeroT Tryz.prog 156 [.int .i64 0, .int .i64 0, .slice none 0 0, .slice none 0 0, .slice none 0 0] := ⟨by kernel_rfl⟩
instance : PlainT Tryz.prog 156 := ⟨by kernel_rfl⟩
instance : FieldT Tryz.prog 156 0 0 3 := ⟨by kernel_rfl⟩
instance : FieldT Tryz.prog 156 1 1 3 := ⟨by kernel_rfl⟩
instance : FieldT Tryz.prog 156 2 2 22 := ⟨by kernel_rfl⟩
instance : FieldT Tryz.prog 156 3 3 155 := ⟨by kernel_rfl⟩
instance : FieldT Tryz.prog 156 4 4 150 := ⟨by kernel_rfl⟩
instance : StructT Tryz.prog 156 [(0, 1), (1, 1), (2, 1), (3, 1), (4, 1)] := ⟨by kernel_rfl⟩
instance : AggT Tryz.prog 157 5 := ⟨by kernel_rfl⟩
instance : ZeroT Tryz.prog 157 [.int .i64 0, .int .i64 0, .slice none 0 0, .slice none 0 0, .slice none 0 0] := ⟨by kernel_rfl⟩
instance : PlainT Tryz.prog 157 := ⟨by kernel_rfl⟩
instance : FieldT Tryz.prog 157 0 0 3 := ⟨by kernel_rfl⟩
instance : FieldT Tryz.prog 157 1 1 3 := ⟨by kernel_rfl⟩
instance : FieldT Tryz.prog 157 2 2 22 := ⟨by kernel_rfl⟩
instance : FieldT Tryz.prog 157 3 3 155 := ⟨by kernel_rfl⟩
instance : FieldT Tryz.prog 157 4 4 150 := ⟨by kernel_rfl⟩
instance : StructT Tryz.prog 157 [(0, 1), (1, 1), (2, 1), (3, 1), (4, 1)] := ⟨by kernel_rfl⟩
instance : CellT Tryz.prog 159 := ⟨by kernel_rfl⟩
instance : ZeroT Tryz.prog 159 [.nilFunc] := ⟨by kernel_rfl⟩
instance : PlainT Tryz.prog 159 := ⟨by kernel_rfl⟩
instance : CellT Tryz.prog 160 := ⟨by kernel_rfl⟩
instance : ZeroT Tryz.prog 160 [.nilFunc] := ⟨by kernel_rfl⟩
instance : PlainT Tryz.prog 160 := ⟨by kernel_rfl⟩
instance : CellT Tryz.prog 161 := ⟨by kernel_rfl⟩
instance : ZeroT Tryz.prog 161 [.nilFunc] := ⟨by kernel_rfl⟩
instance : PlainT Tryz.prog 161 := ⟨by kernel_rfl⟩
instance : SliceT Tryz.prog 162 165 1 8 := ⟨by kernel_rfl⟩
instance : CellT Tryz.prog 162 := ⟨by kernel_rfl⟩
instance : ZeroT Tryz.prog 162 [.slice none 0 0] := ⟨by kernel_rfl⟩
instance : PlainT Tryz.prog 162 := ⟨by kernel_rfl⟩
instance : AggT Tryz.prog 163 3 := ⟨by kernel_rfl⟩
instance : ZeroT Tryz.prog 163 [.slice none 0 0, .slice none 0 0, .slice none 0 0] := ⟨by kernel_rfl⟩
instance : PlainT Tryz.prog 163 := ⟨by kernel_rfl⟩
instance : FieldT Tryz.prog 163 0 0 22 := ⟨by kernel_rfl⟩
instance : FieldT Tryz.prog 163 1 1 162 := ⟨by kernel_rfl⟩
instance : FieldT Tryz.prog 163 2 2 35 := ⟨by kernel_rfl⟩
instance : StructT Tryz.prog 163 [(0, 1), (1, 1), (2, 1)] := ⟨by kernel_rfl⟩
instance : AggT Tryz.prog 164 3 := ⟨by kernel_rfl⟩
instance : ZeroT Tryz.prog 164 [.slice none 0 0, .slice none 0 0, .slice none 0 0] := ⟨by kernel_rfl⟩
instance : PlainT Tryz.prog 164 := ⟨by kernel_rfl⟩
instance : FieldT Tryz.prog 164 0 0 22 := ⟨by kernel_rfl⟩
instance : FieldT Tryz.prog 164 1 1 162 := ⟨by kernel_rfl⟩
instance : FieldT Tryz.prog 164 2 2 35 := ⟨by kernel_rfl⟩
instance : StructT Tryz.prog 164 [(0, 1), (1, 1), (2, 1)] := ⟨by kernel_rfl⟩
instance : CellT Tryz.prog 165 := ⟨by kernel_rfl⟩
instance : ZeroT Tryz.prog 165 [.pointer none] := ⟨by kernel_rfl⟩
instance : MethT Tryz.prog 165 "Pattern" 216 true 214 := ⟨by kernel_rfl⟩
instance : MethT Tryz.prog 165 "Saturated" 84 true 214 := ⟨by kernel_rfl⟩
instance : MethT Tryz.prog 165 "Value" 205 true 214 := ⟨by kernel_rfl⟩
instance : PtrT Tryz.prog 165 := ⟨by kernel_rfl⟩
instance : PlainT Tryz.prog 165 := ⟨by kernel_rfl⟩
instance : CellT Tryz.prog 167 := ⟨by kernel_rfl⟩
instance : ZeroT Tryz.prog 167 [.nilFunc] := ⟨by kernel_rfl⟩
instance : PlainT Tryz.prog 167 := ⟨by kernel_rfl⟩
instance : CellT Tryz.prog 168 := ⟨by kernel_rfl⟩
instance : ZeroT Tryz.prog 168 [.nilFunc] := ⟨by kernel_rfl⟩
instance : PlainT Tryz.prog 168 := ⟨by kernel_rfl⟩
instance : SliceT Tryz.prog 169 23 1 24 := ⟨by kernel_rfl⟩
instance : CellT Tryz.prog 169 := ⟨by kernel_rfl⟩
instance : ZeroT Tryz.prog 169 [.slice none 0 0] := ⟨by kernel_rfl⟩
instance : PlainT Tryz.prog 169 := ⟨by kernel_rfl⟩
instance : CellT Tryz.prog 170 := ⟨by kernel_rfl⟩
instance : ZeroT Tryz.prog 170 [.nilFunc] := ⟨by kernel_rfl⟩
instance : PlainT Tryz.prog 170 := ⟨by kernel_rfl⟩
instance : CellT Tryz.prog 171 := ⟨by kernel_rfl⟩
instance : ZeroT Tryz.prog 171 [.nilFunc] := ⟨by kernel_rfl⟩
instance : PlainT Tryz.prog 171 := ⟨by kernel_rfl⟩
instance : CellT Tryz.prog 173 := ⟨by kernel_rfl⟩
instance : ZeroT Tryz.prog 173 [.nilFunc] := ⟨by kernel_rfl⟩
instance : PlainT Tryz.prog 173 := ⟨by kernel_rfl⟩
instance : CellT Tryz.prog 174 := ⟨by kernel_rfl⟩
instance : ZeroT Tryz.prog 174 [.nilFunc] := ⟨by kernel_rfl⟩
instance : PlainT Tryz.prog 174 := ⟨by kernel_rfl⟩
instance : CellT Tryz.prog 175 := ⟨by kernel_rfl⟩
instance : ZeroT Tryz.prog 175 [.nilFunc] := ⟨by kernel_rfl⟩
instance : PlainT Tryz.prog 175 := ⟨by kernel_rfl⟩
instance : CellT Tryz.prog 176 := ⟨by kernel_rfl⟩
instance : ZeroT Tryz.prog 176 [.nilFunc] := ⟨by kernel_rfl⟩
instance : PlainT Tryz.prog 176 := ⟨by kernel_rfl⟩
instance : SliceT Tryz.prog 177 180 2 32 := ⟨by kernel_rfl⟩
instance : CellT Tryz.prog 177 := ⟨by kernel_rfl⟩
instance : ZeroT Tryz.prog 177 [.slice none 0 0] := ⟨by kernel_rfl⟩
instance : PlainT Tryz.prog 177 := ⟨by kernel_rfl⟩
instance : CellT Tryz.prog 178 := ⟨by kernel_rfl⟩
instance : ZeroT Tryz.prog 178 [.nilFunc] := ⟨by kernel_rfl⟩
instance : PlainT Tryz.prog 178 := ⟨by kernel_rfl⟩
instance : AggT Tryz.prog 179 2 := ⟨by kernel_rfl⟩
instance : ZeroT Tryz.prog 179 [.int .i64 0, .slice none 0 0] := ⟨by kernel_rfl⟩
instance : PlainT Tryz.prog 179 := ⟨by kernel_rfl⟩
instance : FieldT Tryz.prog 179 0 0 3 := ⟨by kernel_rfl⟩
instance : FieldT Tryz.prog 179 1 1 22 := ⟨by kernel_rfl⟩
instance : StructT Tryz.prog 179 [(0, 1), (1, 1)] := ⟨by kernel_rfl⟩
instance : AggT Tryz.prog 180 2 := ⟨by kernel_rfl⟩
instance : ZeroT Tryz.prog 180 [.int .i64 0, .slice none 0 0] := ⟨by kernel_rfl⟩
instance : PlainT Tryz.prog 180 := ⟨by kernel_rfl⟩
instance : FieldT Tryz.prog 180 0 0 3 := ⟨by kernel_rfl⟩
instance : FieldT Tryz.prog 180 1 1 22 := ⟨by kernel_rfl⟩
instance : StructT Tryz.prog 180 [(0, 1), (1, 1)] := ⟨by kernel_rfl⟩
instance : CellT Tryz.prog 181 := ⟨by kernel_rfl⟩
instance : ZeroT Tryz.prog 181 [.nilFunc] := ⟨by kernel_rfl⟩
instance : PlainT Tryz.prog 181 := ⟨by kernel_rfl⟩
instance : CellT Tryz.prog 182 := ⟨by kernel_rfl⟩
instance : ZeroT Tryz.prog 182 [.nilFunc] := ⟨by kernel_rfl⟩
instance : PlainT Tryz.prog 182 := ⟨by kernel_rfl⟩
instance : CellT Tryz.prog 183 := ⟨by kernel_rfl⟩
instance : ZeroT Tryz.prog 183 [.nilFunc] := ⟨by kernel_rfl⟩
instance : PlainT Tryz.prog 183 := ⟨by kernel_rfl⟩
instance : CellT Tryz.prog 184 := ⟨by kernel_rfl⟩
instance : ZeroT Tryz.prog 184 [.nilFunc] := ⟨by kernel_rfl⟩
instance : PlainT Tryz.prog 184 := ⟨by kernel_rfl⟩
instance : CellT Tryz.prog 185 := ⟨by kernel_rfl⟩
instance : ZeroT Tryz.prog 185 [.nilFunc] := ⟨by kernel_rfl⟩
instance : PlainT Tryz.prog 185 := ⟨by kernel_rfl⟩
instance : CellT Tryz.prog 186 := ⟨by kernel_rfl⟩
instance : ZeroT Tryz.prog 186 [.nilFunc] := ⟨by kernel_rfl⟩
instance : PlainT Tryz.prog 186 := ⟨by kernel_rfl⟩
instance : CellT Tryz.prog 187 := ⟨by kernel_rfl⟩
instance : ZeroT Tryz.prog 187 [.nilFunc] := ⟨by kernel_rfl⟩
instance : PlainT Tryz.prog 187 := ⟨by kernel_rfl⟩
instance : CellT Tryz.prog 188 := ⟨by kernel_rfl⟩
instance : ZeroT Tryz.prog 188 [.nilFunc] := ⟨by kernel_rfl⟩
instance : PlainT Tryz.prog 188 := ⟨by kernel_rfl⟩
instance : CellT Tryz.prog 189 := ⟨by kernel_rfl⟩
instance : ZeroT Tryz.prog 189 [.int .u64 0] := ⟨by kernel_rfl⟩
instance : PlainT Tryz.prog 189 := ⟨by kernel_rfl⟩
instance : CellT Tryz.prog 190 := ⟨by kernel_rfl⟩
instance : ZeroT Tryz.prog 190 [.pointer none] := ⟨by kernel_rfl⟩
instance : MethT Tryz.prog 190 "stratagem/succgen.collect" 172 true 256 := ⟨by kernel_rfl⟩
instance : PtrT Tryz.prog 190 := ⟨by kernel_rfl⟩
instance : PlainT Tryz.prog 190 := ⟨by kernel_rfl⟩
instance : AggT Tryz.prog 191 5 := ⟨by kernel_rfl⟩
instance : ZeroT Tryz.prog 191 [.slice none 0 0, .slice none 0 0, .slice none 0 0, .slice none 0 0, .pointer none] := ⟨by kernel_rfl⟩
instance : PlainT Tryz.prog 191 := ⟨by kernel_rfl⟩
instance : FieldT Tryz.prog 191 0 0 26 := ⟨by kernel_rfl⟩
instance : FieldT Tryz.prog 191 1 4 190 := ⟨by kernel_rfl⟩
instance : StructT Tryz.prog 191 [(0, 4), (4, 1)] := ⟨by kernel_rfl⟩
instance : AggT Tryz.prog 192 5 := ⟨by kernel_rfl⟩
instance : ZeroT Tryz.prog 192 [.slice none 0 0, .slice none 0 0, .slice none 0 0, .slice none 0 0, .pointer none] := ⟨by kernel_rfl⟩
instance : PlainT Tryz.prog 192 := ⟨by kernel_rfl⟩
instance : FieldT Tryz.prog 192 0 0 26 := ⟨by kernel_rfl⟩
instance : FieldT Tryz.prog 192 1 4 190 := ⟨by kernel_rfl⟩
instance : StructT Tryz.prog 192 [(0, 4), (4, 1)] := ⟨by kernel_rfl⟩
instance : CellT Tryz.prog 193 := ⟨by kernel_rfl⟩
instance : ZeroT Tryz.prog 193 [.nilFunc] := ⟨by kernel_rfl⟩
instance : PlainT Tryz.prog 193 := ⟨by kernel_rfl⟩
instance : CellT Tryz.prog 194 := ⟨by kernel_rfl⟩
instance : ZeroT Tryz.prog 194 [.nilFunc] := ⟨by kernel_rfl⟩
instance : PlainT Tryz.prog 194 := ⟨by kernel_rfl⟩
instance : SliceT Tryz.prog 195 200 3 24 := ⟨by kernel_rfl⟩
instance : CellT Tryz.prog 195 := ⟨by kernel_rfl⟩
instance : ZeroT Tryz.prog 195 [.slice none 0 0] := ⟨by kernel_rfl⟩
instance : PlainT Tryz.prog 195 := ⟨by kernel_rfl⟩
instance : CellT Tryz.prog 197 := ⟨by kernel_rfl⟩
instance : ZeroT Tryz.prog 197 [.nilFunc] := ⟨by kernel_rfl⟩
instance : PlainT Tryz.prog 197 := ⟨by kernel_rfl⟩
instance : SliceT Tryz.prog 198 150 1 24 := ⟨by kernel_rfl⟩
instance : CellT Tryz.prog 198 := ⟨by kernel_rfl⟩
instance : ZeroT Tryz.prog 198 [.slice none 0 0] := ⟨by kernel_rfl⟩
instance : PlainT Tryz.prog 198 := ⟨by kernel_rfl⟩
instance : AggT Tryz.prog 199 3 := ⟨by kernel_rfl⟩
instance : ZeroT Tryz.prog 199 [.int .i64 0, .int .i64 0, .int .i64 0] := ⟨by kernel_rfl⟩
instance : PlainT Tryz.prog 199 := ⟨by kernel_rfl⟩
instance : FieldT Tryz.prog 199 0 0 3 := ⟨by kernel_rfl⟩
instance : FieldT Tryz.prog 199 1 1 3 := ⟨by kernel_rfl⟩
instance : FieldT Tryz.prog 199 2 2 3 := ⟨by kernel_rfl⟩
instance : StructT Tryz.prog 199 [(0, 1), (1, 1), (2, 1)] := ⟨by kernel_rfl⟩
instance : AggT Tryz.prog 200 3 := ⟨by kernel_rfl⟩
instance : ZeroT Tryz.prog 200 [.int .i64 0, .int .i64 0, .int .i64 0] := ⟨by kernel_rfl⟩
instance : PlainT Tryz.prog 200 := ⟨by kernel_rfl⟩
instance : FieldT Tryz.prog 200 0 0 3 := ⟨by kernel_rfl⟩
instance : FieldT Tryz.prog 200 1 1 3 := ⟨by kernel_rfl⟩
instance : FieldT Tryz.prog 200 2 2 3 := ⟨by kernel_rfl⟩
instance : StructT Tryz.prog 200 [(0, 1), (1, 1), (2, 1)] := ⟨by kernel_rfl⟩
instance : CellT Tryz.prog 201 := ⟨by kernel_rfl⟩
instance : ZeroT Tryz.prog 201 [.nilFunc] := ⟨by kernel_rfl⟩
instance : PlainT Tryz.prog 201 := ⟨by kernel_rfl⟩
instance : CellT Tryz.prog 202 := ⟨by kernel_rfl⟩
instance : ZeroT Tryz.prog 202 [.nilFunc] := ⟨by kernel_rfl⟩
instance : PlainT Tryz.prog 202 := ⟨by kernel_rfl⟩
instance : CellT Tryz.prog 203 := ⟨by kernel_rfl⟩
instance : ZeroT Tryz.prog 203 [.nilFunc] := ⟨by kernel_rfl⟩
instance : PlainT Tryz.prog 203 := ⟨by kernel_rfl⟩
instance : CellT Tryz.prog 204 := ⟨by kernel_rfl⟩
instance : ZeroT Tryz.prog 204 [.nilFunc] := ⟨by kernel_rfl⟩
instance : PlainT Tryz.prog 204 := ⟨by kernel_rfl⟩
instance : CellT Tryz.prog 205 := ⟨by kernel_rfl⟩
instance : ZeroT Tryz.prog 205 [.nilFunc] := ⟨by kernel_rfl⟩
instance : PlainT Tryz.prog 205 := ⟨by kernel_rfl⟩
instance : CellT Tryz.prog 206 := ⟨by kernel_rfl⟩
instance : ZeroT Tryz.prog 206 [.nilFunc] := ⟨by kernel_rfl⟩
instance : PlainT Tryz.prog 206 := ⟨by kernel_rfl⟩
instance : AggT Tryz.prog 207 3 := ⟨by kernel_rfl⟩
instance : ZeroT Tryz.prog 207 [.int .i64 0, .int .i64 0, .int .i64 0] := ⟨by kernel_rfl⟩
instance : PlainT Tryz.prog 207 := ⟨by kernel_rfl⟩
instance : FieldT Tryz.prog 207 0 0 3 := ⟨by kernel_rfl⟩
instance : FieldT Tryz.prog 207 1 1 3 := ⟨by kernel_rfl⟩
instance : FieldT Tryz.prog 207 2 2 3 := ⟨by kernel_rfl⟩
instance : StructT Tryz.prog 207 [(0, 1), (1, 1), (2, 1)] := ⟨by kernel_rfl⟩
instance : AggT Tryz.prog 208 3 := ⟨by kernel_rfl⟩
instance : ZeroT Tryz.prog 208 [.int .i64 0, .int .i64 0, .int .i64 0] := ⟨by kernel_rfl⟩
instance : PlainT Tryz.prog 208 := ⟨by kernel_rfl⟩
instance : FieldT Tryz.prog 208 0 0 3 := ⟨by kernel_rfl⟩
instance : FieldT Tryz.prog 208 1 1 3 := ⟨by kernel_rfl⟩
instance : FieldT Tryz.prog 208 2 2 3 := ⟨by kernel_rfl⟩
instance : StructT Tryz.prog 208 [(0, 1), (1, 1), (2, 1)] := ⟨by kernel_rfl⟩
instance : CellT Tryz.prog 209 := ⟨by kernel_rfl⟩
instance : ZeroT Tryz.prog 209 [.nilFunc] := ⟨by kernel_rfl⟩
instance : PlainT Tryz.prog 209 := ⟨by kernel_rfl⟩
instance : CellT Tryz.prog 210 := ⟨by kernel_rfl⟩
instance : ZeroT Tryz.prog 210 [.nilFunc] := ⟨by kernel_rfl⟩
instance : PlainT Tryz.prog 210 := ⟨by kernel_rfl⟩
instance : CellT Tryz.prog 211 := ⟨by kernel_rfl⟩
instance : ZeroT Tryz.prog 211 [.nilFunc] := ⟨by kernel_rfl⟩
instance : PlainT Tryz.prog 211 := ⟨by kernel_rfl⟩
instance : CellT Tryz.prog 212 := ⟨by kernel_rfl⟩
instance : ZeroT Tryz.prog 212 [.nilFunc] := ⟨by kernel_rfl⟩
instance : PlainT Tryz.prog 212 := ⟨by kernel_rfl⟩
instance : AggT Tryz.prog 213 8 := ⟨by kernel_rfl⟩
instance : ZeroT Tryz.prog 213 [.slice none 0 0, .slice none 0 0, .int .i64 0, .int .i64 0, .slice none 0 0, .slice none 0 0, .slice none 0 0, .slice none 0 0] := ⟨by kernel_rfl⟩
instance : PlainT Tryz.prog 213 := ⟨by kernel_rfl⟩
instance : FieldT Tryz.prog 213 0 0 22 := ⟨by kernel_rfl⟩
instance : FieldT Tryz.prog 213 1 1 22 := ⟨by kernel_rfl⟩
instance : FieldT Tryz.prog 213 2 2 157 := ⟨by kernel_rfl⟩
instance : FieldT Tryz.prog 213 3 7 22 := ⟨by kernel_rfl⟩
instance : StructT Tryz.prog 213 [(0, 1), (1, 1), (2, 5), (7, 1)] := ⟨by kernel_rfl⟩
instance : AggT Tryz.prog 214 8 := ⟨by kernel_rfl⟩
instance : ZeroT Tryz.prog 214 [.slice none 0 0, .slice none 0 0, .int .i64 0, .int .i64 0, .slice none 0 0, .slice none 0 0, .slice none 0 0, .slice none 0 0] := ⟨by kernel_rfl⟩
instance : PlainT Tryz.prog 214 := ⟨by kernel_rfl⟩
instance : FieldT Tryz.prog 214 0 0 22 := ⟨by kernel_rfl⟩
instance : FieldT Tryz.prog 214 1 1 22 := ⟨by kernel_rfl⟩
instance : FieldT Tryz.prog 214 2 2 157 := ⟨by kernel_rfl⟩
instance : FieldT Tryz.prog 214 3 7 22 := ⟨by kernel_rfl⟩
instance : StructT Tryz.prog 214 [(0, 1), (1, 1), (2, 5), (7, 1)] := ⟨by kernel_rfl⟩
instance : CellT Tryz.prog 215 := ⟨by kernel_rfl⟩
instance : ZeroT Tryz.prog 215 [.nilFunc] := ⟨by kernel_rfl⟩
instance : PlainT Tryz.prog 215 := ⟨by kernel_rfl⟩
instance : CellT Tryz.prog 216 := ⟨by kernel_rfl⟩
instance : ZeroT Tryz.prog 216 [.nilFunc] := ⟨by kernel_rfl⟩
instance : PlainT Tryz.prog 216 := ⟨by kernel_rfl⟩
instance : CellT Tryz.prog 217 := ⟨by kernel_rfl⟩
instance : ZeroT Tryz.prog 217 [.pointer none] := ⟨by kernel_rfl⟩
instance : MethT Tryz.prog 217 "Hash" 170 true 275 := ⟨by kernel_rfl⟩
instance : MethT Tryz.prog 217 "Pack" 169 true 275 := ⟨by kernel_rfl⟩
instance : MethT Tryz.prog 217 "Unpack" 128 true 275 := ⟨by kernel_rfl⟩
instance : MethT Tryz.prog 217 "Words" 217 true 275 := ⟨by kernel_rfl⟩
instance : PtrT Tryz.prog 217 := ⟨by kernel_rfl⟩
instance : PlainT Tryz.prog 217 := ⟨by kernel_rfl⟩
instance : CellT Tryz.prog 219 := ⟨by kernel_rfl⟩
instance : ZeroT Tryz.prog 219 [.nilFunc] := ⟨by kernel_rfl⟩
instance : PlainT Tryz.prog 219 := ⟨by kernel_rfl⟩
instance : CellT Tryz.prog 220 := ⟨by kernel_rfl⟩
instance : ZeroT Tryz.prog 220 [.map none] := ⟨by kernel_rfl⟩
instance : PlainT Tryz.prog 220 := ⟨by kernel_rfl⟩
instance : SliceT Tryz.prog 221 237 4 48 := ⟨by kernel_rfl⟩
instance : CellT Tryz.prog 221 := ⟨by kernel_rfl⟩
instance : ZeroT Tryz.prog 221 [.slice none 0 0] := ⟨by kernel_rfl⟩
instance : PlainT Tryz.prog 221 := ⟨by kernel_rfl⟩
instance : AggT Tryz.prog 222 3 := ⟨by kernel_rfl⟩
instance : ZeroT Tryz.prog 222 [.pointer none, .slice none 0 0, .map none] := ⟨by kernel_rfl⟩
instance : PlainT Tryz.prog 222 := ⟨by kernel_rfl⟩
instance : FieldT Tryz.prog 222 0 0 217 := ⟨by kernel_rfl⟩
instance : FieldT Tryz.prog 222 1 1 221 := ⟨by kernel_rfl⟩
instance : FieldT Tryz.prog 222 2 2 220 := ⟨by kernel_rfl⟩
instance : StructT Tryz.prog 222 [(0, 1), (1, 1), (2, 1)] := ⟨by kernel_rfl⟩
instance : AggT Tryz.prog 223 3 := ⟨by kernel_rfl⟩
instance : ZeroT Tryz.prog 223 [.pointer none, .slice none 0 0, .map none] := ⟨by kernel_rfl⟩
instance : PlainT Tryz.prog 223 := ⟨by kernel_rfl⟩
instance : FieldT Tryz.prog 223 0 0 217 := ⟨by kernel_rfl⟩
instance : FieldT Tryz.prog 223 1 1 221 := ⟨by kernel_rfl⟩
instance : FieldT Tryz.prog 223 2 2 220 := ⟨by kernel_rfl⟩
instance : StructT Tryz.prog 223 [(0, 1), (1, 1), (2, 1)] := ⟨by kernel_rfl⟩
instance : CellT Tryz.prog 225 := ⟨by kernel_rfl⟩
instance : ZeroT Tryz.prog 225 [.nilFunc] := ⟨by kernel_rfl⟩
instance : PlainT Tryz.prog 225 := ⟨by kernel_rfl⟩
instance : CellT Tryz.prog 226 := ⟨by kernel_rfl⟩
instance : ZeroT Tryz.prog 226 [.nilFunc] := ⟨by kernel_rfl⟩
instance : PlainT Tryz.prog 226 := ⟨by kernel_rfl⟩
instance : CellT Tryz.prog 227 := ⟨by kernel_rfl⟩
instance : ZeroT Tryz.prog 227 [.nilFunc] := ⟨by kernel_rfl⟩
instance : PlainT Tryz.prog 227 := ⟨by kernel_rfl⟩
instance : CellT Tryz.prog 228 := ⟨by kernel_rfl⟩
instance : ZeroT Tryz.prog 228 [.pointer none] := ⟨by kernel_rfl⟩
instance : MethT Tryz.prog 228 "Len" 211 false 152 := ⟨by kernel_rfl⟩
instance : MethT Tryz.prog 228 "Less" 212 false 152 := ⟨by kernel_rfl⟩
instance : MethT Tryz.prog 228 "Pop" 218 true 152 := ⟨by kernel_rfl⟩
instance : MethT Tryz.prog 228 "Push" 219 true 152 := ⟨by kernel_rfl⟩
instance : MethT Tryz.prog 228 "Swap" 213 false 152 := ⟨by kernel_rfl⟩
instance : PtrT Tryz.prog 228 := ⟨by kernel_rfl⟩
instance : PlainT Tryz.prog 228 := ⟨by kernel_rfl⟩
instance : AggT Tryz.prog 229 5 := ⟨by kernel_rfl⟩
instance : ZeroT Tryz.prog 229 [.int .i64 0, .int .i64 0, .int .i64 0, .int .i64 0, .int .i64 0] := ⟨by kernel_rfl⟩
instance : PlainT Tryz.prog 229 := ⟨by kernel_rfl⟩
instance : FieldT Tryz.prog 229 0 0 3 := ⟨by kernel_rfl⟩
instance : FieldT Tryz.prog 229 1 1 3 := ⟨by kernel_rfl⟩
instance : FieldT Tryz.prog 229 2 2 3 := ⟨by kernel_rfl⟩
instance : FieldT Tryz.prog 229 3 3 3 := ⟨by kernel_rfl⟩
instance : FieldT Tryz.prog 229 4 4 3 := ⟨by kernel_rfl⟩
instance : StructT Tryz.prog 229 [(0, 1), (1, 1), (2, 1), (3, 1), (4, 1)] := ⟨by kernel_rfl⟩
instance : AggT Tryz.prog 230 5 := ⟨by kernel_rfl⟩
instance : ZeroT Tryz.prog 230 [.int .i64 0, .int .i64 0, .int .i64 0, .int .i64 0, .int .i64 0] := ⟨by kernel_rfl⟩
instance : PlainT Tryz.prog 230 := ⟨by kernel_rfl⟩
instance : FieldT Tryz.prog 230 0 0 3 := ⟨by kernel_rfl⟩
instance : FieldT Tryz.prog 230 1 1 3 := ⟨by kernel_rfl⟩
instance : FieldT Tryz.prog 230 2 2 3 := ⟨by kernel_rfl⟩
instance : FieldT Tryz.prog 230 3 3 3 := ⟨by kernel_rfl⟩
instance : FieldT Tryz.prog 230 4 4 3 := ⟨by kernel_rfl⟩
instance : StructT Tryz.prog 230 [(0, 1), (1, 1), (2, 1), (3, 1), (4, 1)] := ⟨by kernel_rfl⟩
instance : CellT Tryz.prog 231 := ⟨by kernel_rfl⟩
instance : ZeroT Tryz.prog 231 [.nilFunc] := ⟨by kernel_rfl⟩
instance : PlainT Tryz.prog 231 := ⟨by kernel_rfl⟩
instance : CellT Tryz.prog 232 := ⟨by kernel_rfl⟩
instance : ZeroT Tryz.prog 232 [.nilFunc] := ⟨by kernel_rfl⟩
instance : PlainT Tryz.prog 232 := ⟨by kernel_rfl⟩
instance : SliceT Tryz.prog 233 251 1 8 := ⟨by kernel_rfl⟩
instance : CellT Tryz.prog 233 := ⟨by kernel_rfl⟩
instance : ZeroT Tryz.prog 233 [.slice none 0 0] := ⟨by kernel_rfl⟩
instance : PlainT Tryz.prog 233 := ⟨by kernel_rfl⟩
instance : AggT Tryz.prog 234 3 := ⟨by kernel_rfl⟩
instance : ZeroT Tryz.prog 234 [.int .i64 0, .int .i64 0, .int .i64 0] := ⟨by kernel_rfl⟩
instance : PlainT Tryz.prog 234 := ⟨by kernel_rfl⟩
instance : FieldT Tryz.prog 234 0 0 3 := ⟨by kernel_rfl⟩
instance : FieldT Tryz.prog 234 1 1 3 := ⟨by kernel_rfl⟩
instance : FieldT Tryz.prog 234 2 2 3 := ⟨by kernel_rfl⟩
instance : StructT Tryz.prog 234 [(0, 1), (1, 1), (2, 1)] := ⟨by kernel_rfl⟩
instance : AggT Tryz.prog 235 3 := ⟨by kernel_rfl⟩
instance : ZeroT Tryz.prog 235 [.int .i64 0, .int .i64 0, .int .i64 0] := ⟨by kernel_rfl⟩
instance : PlainT Tryz.prog 235 := ⟨by kernel_rfl⟩
instance : FieldT Tryz.prog 235 0 0 3 := ⟨by kernel_rfl⟩
instance : FieldT Tryz.prog 235 1 1 3 := ⟨by kernel_rfl⟩
instance : FieldT Tryz.prog 235 2 2 3 := ⟨by kernel_rfl⟩
instance : StructT Tryz.prog 235 [(0, 1), (1, 1), (2, 1)] := ⟨by kernel_rfl⟩
instance : AggT Tryz.prog 236 4 := ⟨by kernel_rfl⟩
instance : ZeroT Tryz.prog 236 [.slice none 0 0, .int .i64 0, .int .i64 0, .int .i64 0] := ⟨by kernel_rfl⟩
instance : PlainT Tryz.prog 236 := ⟨by kernel_rfl⟩
instance : FieldT Tryz.prog 236 0 0 233 := ⟨by kernel_rfl⟩
instance : FieldT Tryz.prog 236 1 1 235 := ⟨by kernel_rfl⟩
instance : StructT Tryz.prog 236 [(0, 1), (1, 3)] := ⟨by kernel_rfl⟩
instance : AggT Tryz.prog 237 4 := ⟨by kernel_rfl⟩
instance : ZeroT Tryz.prog 237 [.slice none 0 0, .int .i64 0, .int .i64 0, .int .i64 0] := ⟨by kernel_rfl⟩
instance : PlainT Tryz.prog 237 := ⟨by kernel_rfl⟩
instance : FieldT Tryz.prog 237 0 0 233 := ⟨by kernel_rfl⟩
instance : FieldT Tryz.prog 237 1 1 235 := ⟨by kernel_rfl⟩
instance : StructT Tryz.prog 237 [(0, 1), (1, 3)] := ⟨by kernel_rfl⟩
instance : CellT Tryz.prog 238 := ⟨by kernel_rfl⟩
instance : ZeroT Tryz.prog 238 [.nilFunc] := ⟨by kernel_rfl⟩
instance : PlainT Tryz.prog 238 := ⟨by kernel_rfl⟩
instance : CellT Tryz.prog 239 := ⟨by kernel_rfl⟩
instance : ZeroT Tryz.prog 239 [.nilFunc] := ⟨by kernel_rfl⟩
instance : PlainT Tryz.prog 239 := ⟨by kernel_rfl⟩
instance : CellT Tryz.prog 240 := ⟨by kernel_rfl⟩
instance : ZeroT Tryz.prog 240 [.nilFunc] := ⟨by kernel_rfl⟩
instance : PlainT Tryz.prog 240 := ⟨by kernel_rfl⟩
instance : CellT Tryz.prog 241 := ⟨by kernel_rfl⟩
instance : ZeroT Tryz.prog 241 [.int .i64 0] := ⟨by kernel_rfl⟩
instance : PlainT Tryz.prog 241 := ⟨by kernel_rfl⟩
instance : CellT Tryz.prog 243 := ⟨by kernel_rfl⟩
instance : ZeroT Tryz.prog 243 [.nilFunc] := ⟨by kernel_rfl⟩
instance : PlainT Tryz.prog 243 := ⟨by kernel_rfl⟩
instance : CellT Tryz.prog 244 := ⟨by kernel_rfl⟩
instance : ZeroT Tryz.prog 244 [.nilFunc] := ⟨by kernel_rfl⟩
instance : PlainT Tryz.prog 244 := ⟨by kernel_rfl⟩
instance : CellT Tryz.prog 245 := ⟨by kernel_rfl⟩
instance : ZeroT Tryz.prog 245 [.nilFunc] := ⟨by kernel_rfl⟩
instance : PlainT Tryz.prog 245 := ⟨by kernel_rfl⟩
instance : CellT Tryz.prog 246 := ⟨by kernel_rfl⟩
instance : ZeroT Tryz.prog 246 [.nilFunc] := ⟨by kernel_rfl⟩
instance : PlainT Tryz.prog 246 := ⟨by kernel_rfl⟩
instance : CellT Tryz.prog 247 := ⟨by kernel_rfl⟩
instance : ZeroT Tryz.prog 247 [.nilFunc] := ⟨by kernel_rfl⟩
instance : PlainT Tryz.prog 247 := ⟨by kernel_rfl⟩
instance : CellT Tryz.prog 248 := ⟨by kernel_rfl⟩
instance : ZeroT Tryz.prog 248 [.nilFunc] := ⟨by kernel_rfl⟩
instance : PlainT Tryz.prog 248 := ⟨by kernel_rfl⟩
instance : CellT Tryz.prog 249 := ⟨by kernel_rfl⟩
instance : ZeroT Tryz.prog 249 [.int .u32 0] := ⟨by kernel_rfl⟩
instance : PlainT Tryz.prog 249 := ⟨by kernel_rfl⟩
instance : CellT Tryz.prog 250 := ⟨by kernel_rfl⟩
instance : ZeroT Tryz.prog 250 [.nilFunc] := ⟨by kernel_rfl⟩
instance : PlainT Tryz.prog 250 := ⟨by kernel_rfl⟩
instance : CellT Tryz.prog 251 := ⟨by kernel_rfl⟩
instance : ZeroT Tryz.prog 251 [.int .u64 0] := ⟨by kernel_rfl⟩
instance : PlainT Tryz.prog 251 := ⟨by kernel_rfl⟩
instance : CellT Tryz.prog 253 := ⟨by kernel_rfl⟩
instance : ZeroT Tryz.prog 253 [.nilFunc] := ⟨by kernel_rfl⟩
instance : PlainT Tryz.prog 253 := ⟨by kernel_rfl⟩
instance : SliceT Tryz.prog 254 190 1 8 := ⟨by kernel_rfl⟩
instance : CellT Tryz.prog 254 := ⟨by kernel_rfl⟩
instance : ZeroT Tryz.prog 254 [.slice none 0 0] := ⟨by kernel_rfl⟩
instance : PlainT Tryz.prog 254 := ⟨by kernel_rfl⟩
instance : AggT Tryz.prog 255 5 := ⟨by kernel_rfl⟩
instance : ZeroT Tryz.prog 255 [.slice none 0 0, .bool false, .int .i64 0, .slice none 0 0, .pointer none] := ⟨by kernel_rfl⟩
instance : PlainT Tryz.prog 255 := ⟨by kernel_rfl⟩
instance : FieldT Tryz.prog 255 0 0 22 := ⟨by kernel_rfl⟩
instance : FieldT Tryz.prog 255 1 1 4 := ⟨by kernel_rfl⟩
instance : FieldT Tryz.prog 255 2 2 3 := ⟨by kernel_rfl⟩
instance : FieldT Tryz.prog 255 3 3 254 := ⟨by kernel_rfl⟩
instance : FieldT Tryz.prog 255 4 4 190 := ⟨by kernel_rfl⟩
instance : StructT Tryz.prog 255 [(0, 1), (1, 1), (2, 1), (3, 1), (4, 1)] := ⟨by kernel_rfl⟩
instance : AggT Tryz.prog 256 5 := ⟨by kernel_rfl⟩
instance : ZeroT Tryz.prog 256 [.slice none 0 0, .bool false, .int .i64 0, .slice none 0 0, .pointer none] := ⟨by kernel_rfl⟩
instance : PlainT Tryz.prog 256 := ⟨by kernel_rfl⟩
instance : FieldT Tryz.prog 256 0 0 22 := ⟨by kernel_rfl⟩
instance : FieldT Tryz.prog 256 1 1 4 := ⟨by kernel_rfl⟩
instance : FieldT Tryz.prog 256 2 2 3 := ⟨by kernel_rfl⟩
instance : FieldT Tryz.prog 256 3 3 254 := ⟨by kernel_rfl⟩
instance : FieldT Tryz.prog 256 4 4 190 := ⟨by kernel_rfl⟩
instance : StructT Tryz.prog 256 [(0, 1), (1, 1), (2, 1), (3, 1), (4, 1)] := ⟨by kernel_rfl⟩
instance : SliceT Tryz.prog 257 5 1 1 := ⟨by kernel_rfl⟩
instance : CellT Tryz.prog 257 := ⟨by kernel_rfl⟩
instance : ZeroT Tryz.prog 257 [.slice none 0 0] := ⟨by kernel_rfl⟩
instance : PlainT Tryz.prog 257 := ⟨by kernel_rfl⟩
instance : CellT Tryz.prog 258 := ⟨by kernel_rfl⟩
instance : ZeroT Tryz.prog 258 [.nilFunc] := ⟨by kernel_rfl⟩
instance : PlainT Tryz.prog 258 := ⟨by kernel_rfl⟩
instance : CellT Tryz.prog 259 := ⟨by kernel_rfl⟩
instance : ZeroT Tryz.prog 259 [.nilFunc] := ⟨by kernel_rfl⟩
instance : PlainT Tryz.prog 259 := ⟨by kernel_rfl⟩
instance : CellT Tryz.prog 260 := ⟨by kernel_rfl⟩
instance : ZeroT Tryz.prog 260 [.nilFunc] := ⟨by kernel_rfl⟩
instance : PlainT Tryz.prog 260 := ⟨by kernel_rfl⟩
instance : CellT Tryz.prog 261 := ⟨by kernel_rfl⟩
instance : ZeroT Tryz.prog 261 [.nilFunc] := ⟨by kernel_rfl⟩
instance : PlainT Tryz.prog 261 := ⟨by kernel_rfl⟩
instance : CellT Tryz.prog 262 := ⟨by kernel_rfl⟩
instance : ZeroT Tryz.prog 262 [.nilFunc] := ⟨by kernel_rfl⟩
instance : PlainT Tryz.prog 262 := ⟨by kernel_rfl⟩
instance : CellT Tryz.prog 263 := ⟨by kernel_rfl⟩
instance : ZeroT Tryz.prog 263 [.nilFunc] := ⟨by kernel_rfl⟩
instance : PlainT Tryz.prog 263 := ⟨by kernel_rfl⟩
instance : SliceT Tryz.prog 264 155 1 24 := ⟨by kernel_rfl⟩
instance : CellT Tryz.prog 264 := ⟨by kernel_rfl⟩
instance : ZeroT Tryz.prog 264 [.slice none 0 0] := ⟨by kernel_rfl⟩
instance : PlainT Tryz.prog 264 := ⟨by kernel_rfl⟩
instance : CellT Tryz.prog 265 := ⟨by kernel_rfl⟩
instance : ZeroT Tryz.prog 265 [.pointer none] := ⟨by kernel_rfl⟩
instance : MethT Tryz.prog 265 "Len" 151 false 267 := ⟨by kernel_rfl⟩
instance : MethT Tryz.prog 265 "Less" 220 false 267 := ⟨by kernel_rfl⟩
instance : MethT Tryz.prog 265 "Pop" 221 true 267 := ⟨by kernel_rfl⟩
instance : MethT Tryz.prog 265 "Push" 222 true 267 := ⟨by kernel_rfl⟩
instance : MethT Tryz.prog 265 "Swap" 223 false 267 := ⟨by kernel_rfl⟩
instance : PtrT Tryz.prog 265 := ⟨by kernel_rfl⟩
instance : PlainT Tryz.prog 265 := ⟨by kernel_rfl⟩
instance : SliceT Tryz.prog 266 269 2 16 := ⟨by kernel_rfl⟩
instance : CellT Tryz.prog 266 := ⟨by kernel_rfl⟩
instance : ZeroT Tryz.prog 266 [.slice none 0 0] := ⟨by kernel_rfl⟩
instance : PlainT Tryz.prog 266 := ⟨by kernel_rfl⟩
instance : SliceT Tryz.prog 267 269 2 16 := ⟨by kernel_rfl⟩
instance : CellT Tryz.prog 267 := ⟨by kernel_rfl⟩
instance : ZeroT Tryz.prog 267 [.slice none 0 0] := ⟨by kernel_rfl⟩
instance : PlainT Tryz.prog 267 := ⟨by kernel_rfl⟩
instance : AggT Tryz.prog 268 2 := ⟨by kernel_rfl⟩
instance : ZeroT Tryz.prog 268 [.int .i64 0, .int .i64 0] := ⟨by kernel_rfl⟩
instance : PlainT Tryz.prog 268 := ⟨by kernel_rfl⟩
instance : FieldT Tryz.prog 268 0 0 3 := ⟨by kernel_rfl⟩
instance : FieldT Tryz.prog 268 1 1 3 := ⟨by kernel_rfl⟩
instance : StructT Tryz.prog 268 [(0, 1), (1, 1)] := ⟨by kernel_rfl⟩
instance : AggT Tryz.prog 269 2 := ⟨by kernel_rfl⟩
instance : ZeroT Tryz.prog 269 [.int .i64 0, .int .i64 0] := ⟨by kernel_rfl⟩
instance : PlainT Tryz.prog 269 := ⟨by kernel_rfl⟩
instance : FieldT Tryz.prog 269 0 0 3 := ⟨by kernel_rfl⟩
instance : FieldT Tryz.prog 269 1 1 3 := ⟨by kernel_rfl⟩
instance : StructT Tryz.prog 269 [(0, 1), (1, 1)] := ⟨by kernel_rfl⟩
instance : CellT Tryz.prog 270 := ⟨by kernel_rfl⟩
instance : ZeroT Tryz.prog 270 [.nilFunc] := ⟨by kernel_rfl⟩
instance : PlainT Tryz.prog 270 := ⟨by kernel_rfl⟩
instance : CellT Tryz.prog 272 := ⟨by kernel_rfl⟩
instance : ZeroT Tryz.prog 272 [.nilFunc] := ⟨by kernel_rfl⟩
instance : PlainT Tryz.prog 272 := ⟨by kernel_rfl⟩
instance : SliceT Tryz.prog 273 277 4 32 := ⟨by kernel_rfl⟩
instance : CellT Tryz.prog 273 := ⟨by kernel_rfl⟩
instance : ZeroT Tryz.prog 273 [.slice none 0 0] := ⟨by kernel_rfl⟩
instance : PlainT Tryz.prog 273 := ⟨by kernel_rfl⟩
instance : AggT Tryz.prog 274 2 := ⟨by kernel_rfl⟩
instance : ZeroT Tryz.prog 274 [.slice none 0 0, .int .i64 0] := ⟨by kernel_rfl⟩
instance : PlainT Tryz.prog 274 := ⟨by kernel_rfl⟩
instance : FieldT Tryz.prog 274 0 0 273 := ⟨by kernel_rfl⟩
instance : FieldT Tryz.prog 274 1 1 3 := ⟨by kernel_rfl⟩
instance : StructT Tryz.prog 274 [(0, 1), (1, 1)] := ⟨by kernel_rfl⟩
instance : AggT Tryz.prog 275 2 := ⟨by kernel_rfl⟩
instance : ZeroT Tryz.prog 275 [.slice none 0 0, .int .i64 0] := ⟨by kernel_rfl⟩
instance : PlainT Tryz.prog 275 := ⟨by kernel_rfl⟩
instance : FieldT Tryz.prog 275 0 0 273 := ⟨by kernel_rfl⟩
instance : FieldT Tryz.prog 275 1 1 3 := ⟨by kernel_rfl⟩
instance : StructT Tryz.prog 275 [(0, 1), (1, 1)] := ⟨by kernel_rfl⟩
instance : AggT Tryz.prog 276 4 := ⟨by kernel_rfl⟩
instance : ZeroT Tryz.prog 276 [.int .i64 0, .int .i64 0, .int .i64 0, .int .i64 0] := ⟨by kernel_rfl⟩
instance : PlainT Tryz.prog 276 := ⟨by kernel_rfl⟩
instance : FieldT Tryz.prog 276 0 0 3 := ⟨by kernel_rfl⟩
instance : FieldT Tryz.prog 276 1 1 3 := ⟨by kernel_rfl⟩
instance : FieldT Tryz.prog 276 2 2 3 := ⟨by kernel_rfl⟩
instance : FieldT Tryz.prog 276 3 3 3 := ⟨by kernel_rfl⟩
instance : StructT Tryz.prog 276 [(0, 1), (1, 1), (2, 1), (3, 1)] := ⟨by kernel_rfl⟩
instance : AggT Tryz.prog 277 4 := ⟨by kernel_rfl⟩
instance : ZeroT Tryz.prog 277 [.int .i64 0, .int .i64 0, .int .i64 0, .int .i64 0] := ⟨by kernel_rfl⟩
instance : PlainT Tryz.prog 277 := ⟨by kernel_rfl⟩
instance : FieldT Tryz.prog 277 0 0 3 := ⟨by kernel_rfl⟩
instance : FieldT Tryz.prog 277 1 1 3 := ⟨by kernel_rfl⟩
instance : FieldT Tryz.prog 277 2 2 3 := ⟨by kernel_rfl⟩
instance : FieldT Tryz.prog 277 3 3 3 := ⟨by kernel_rfl⟩
instance : StructT Tryz.prog 277 [(0, 1), (1, 1), (2, 1), (3, 1)] := ⟨by kernel_rfl⟩
instance : CellT Tryz.prog 279 := ⟨by kernel_rfl⟩
instance : ZeroT Tryz.prog 279 [.nilFunc] := ⟨by kernel_rfl⟩
instance : PlainT Tryz.prog 279 := ⟨by kernel_rfl⟩
instance : CellT Tryz.prog 280 := ⟨by kernel_rfl⟩
instance : ZeroT Tryz.prog 280 [.nilIface] := ⟨by kernel_rfl⟩
instance : IfaceT Tryz.prog 280 := ⟨by kernel_rfl⟩
instance : CellT Tryz.prog 281 := ⟨by kernel_rfl⟩
instance : ZeroT Tryz.prog 281 [.nilIface] := ⟨by kernel_rfl⟩
instance : IfaceT Tryz.prog 281 := ⟨by kernel_rfl⟩
instance : CellT Tryz.prog 282 := ⟨by kernel_rfl⟩
instance : ZeroT Tryz.prog 282 [.nilFunc] := ⟨by kernel_rfl⟩
instance : PlainT Tryz.prog 282 := ⟨by kernel_rfl⟩
instance : CellT Tryz.prog 283 := ⟨by kernel_rfl⟩
instance : ZeroT Tryz.prog 283 [.nilFunc] := ⟨by kernel_rfl⟩
instance : PlainT Tryz.prog 283 := ⟨by kernel_rfl⟩
instance : CellT Tryz.prog 284 := ⟨by kernel_rfl⟩
instance : ZeroT Tryz.prog 284 [.nilFunc] := ⟨by kernel_rfl⟩
instance : PlainT Tryz.prog 284 := ⟨by kernel_rfl⟩
instance : CellT Tryz.prog 285 := ⟨by kernel_rfl⟩
instance : ZeroT Tryz.prog 285 [.nilFunc] := ⟨by kernel_rfl⟩
instance : PlainT Tryz.prog 285 := ⟨by kernel_rfl⟩
instance : CellT Tryz.prog 286 := ⟨by kernel_rfl⟩
instance : ZeroT Tryz.prog 286 [.nilFunc] := ⟨by kernel_rfl⟩
instance : PlainT Tryz.prog 286 := ⟨by kernel_rfl⟩
instance : CellT Tryz.prog 287 := ⟨by kernel_rfl⟩
instance : ZeroT Tryz.prog 287 [.nilFunc] := ⟨by kernel_rfl⟩
instance : PlainT Tryz.prog 287 := ⟨by kernel_rfl⟩
instance : CellT Tryz.prog 288 := ⟨by kernel_rfl⟩
instance : ZeroT Tryz.prog 288 [.nilFunc] := ⟨by kernel_rfl⟩
instance : PlainT Tryz.prog 288 := ⟨by kernel_rfl⟩
instance : CellT Tryz.prog 289 := ⟨by kernel_rfl⟩
instance : ZeroT Tryz.prog 289 [.nilFunc] := ⟨by kernel_rfl⟩
instance : PlainT Tryz.prog 289 := ⟨by kernel_rfl⟩
instance : CellT Tryz.prog 291 := ⟨by kernel_rfl⟩
instance : ZeroT Tryz.prog 291 [.nilFunc] := ⟨by kernel_rfl⟩
instance : PlainT Tryz.prog 291 := ⟨by kernel_rfl⟩
instance : CellT Tryz.prog 292 := ⟨by kernel_rfl⟩
instance : ZeroT Tryz.prog 292 [.int .u64 0] := ⟨by kernel_rfl⟩
instance : PlainT Tryz.prog 292 := ⟨by kernel_rfl⟩
instance : CellT Tryz.prog 293 := ⟨by kernel_rfl⟩
instance : ZeroT Tryz.prog 293 [.nilFunc] := ⟨by kernel_rfl⟩
instance : PlainT Tryz.prog 293 := ⟨by kernel_rfl⟩
instance : CellT Tryz.prog 294 := ⟨by kernel_rfl⟩
instance : ZeroT Tryz.prog 294 [.nilFunc] := ⟨by kernel_rfl⟩
instance : PlainT Tryz.prog 294 := ⟨by kernel_rfl⟩
instance : CellT Tryz.prog 295 := ⟨by kernel_rfl⟩
instance : ZeroT Tryz.prog 295 [.pointer none] := ⟨by kernel_rfl⟩
instance : PtrT Tryz.prog 295 := ⟨by kernel_rfl⟩
instance : PlainT Tryz.prog 295 := ⟨by kernel_rfl⟩
instance : CellT Tryz.prog 296 := ⟨by kernel_rfl⟩
instance : ZeroT Tryz.prog 296 [.nilFunc] := ⟨by kernel_rfl⟩
instance : PlainT Tryz.prog 296 := ⟨by kernel_rfl⟩
instance : CellT Tryz.prog 297 := ⟨by kernel_rfl⟩
instance : ZeroT Tryz.prog 297 [.nilFunc] := ⟨by kernel_rfl⟩
instance : PlainT Tryz.prog 297 := ⟨by kernel_rfl⟩
instance : CellT Tryz.prog 298 := ⟨by kernel_rfl⟩
instance : ZeroT Tryz.prog 298 [.nilFunc] := ⟨by kernel_rfl⟩
instance : PlainT Tryz.prog 298 := ⟨by kernel_rfl⟩
instance : CellT Tryz.prog 300 := ⟨by kernel_rfl⟩
instance : ZeroT Tryz.prog 300 [.nilFunc] := ⟨by kernel_rfl⟩
instance : PlainT Tryz.prog 300 := ⟨by kernel_rfl⟩
instance : CellT Tryz.prog 301 := ⟨by kernel_rfl⟩
instance : ZeroT Tryz.prog 301 [.nilFunc] := ⟨by kernel_rfl⟩
instance : PlainT Tryz.prog 301 := ⟨by kernel_rfl⟩
instance : CellT Tryz.prog 302 := ⟨by kernel_rfl⟩
instance : ZeroT Tryz.prog 302 [.nilFunc] := ⟨by kernel_rfl⟩
instance : PlainT Tryz.prog 302 := ⟨by kernel_rfl⟩
instance : CellT Tryz.prog 303 := ⟨by kernel_rfl⟩
instance : ZeroT Tryz.prog 303 [.pointer none] := ⟨by kernel_rfl⟩
instance : MethT Tryz.prog 303 "Next" 162 true 292 := ⟨by kernel_rfl⟩
instance : PtrT Tryz.prog 303 := ⟨by kernel_rfl⟩
instance : PlainT Tryz.prog 303 := ⟨by kernel_rfl⟩
instance : CellT Tryz.prog 305 := ⟨by kernel_rfl⟩
instance : ZeroT Tryz.prog 305 [.nilFunc] := ⟨by kernel_rfl⟩
instance : PlainT Tryz.prog 305 := ⟨by kernel_rfl⟩
instance : CellT Tryz.prog 306 := ⟨by kernel_rfl⟩
instance : ZeroT Tryz.prog 306 [.nilFunc] := ⟨by kernel_rfl⟩
instance : PlainT Tryz.prog 306 := ⟨by kernel_rfl⟩
instance : CellT Tryz.prog 307 := ⟨by kernel_rfl⟩
instance : ZeroT Tryz.prog 307 [.nilFunc] := ⟨by kernel_rfl⟩
instance : PlainT Tryz.prog 307 := ⟨by kernel_rfl⟩
instance : AggT Tryz.prog 308 4 := ⟨by kernel_rfl⟩
instance : ZeroT Tryz.prog 308 [.pointer none, .pointer none, .pointer none, .string ByteArray.empty] := ⟨by kernel_rfl⟩
instance : PlainT Tryz.prog 308 := ⟨by kernel_rfl⟩
instance : FieldT Tryz.prog 308 0 0 17 := ⟨by kernel_rfl⟩
instance : FieldT Tryz.prog 308 1 1 17 := ⟨by kernel_rfl⟩
instance : FieldT Tryz.prog 308 2 2 17 := ⟨by kernel_rfl⟩
instance : FieldT Tryz.prog 308 3 3 9 := ⟨by kernel_rfl⟩
instance : StructT Tryz.prog 308 [(0, 1), (1, 1), (2, 1), (3, 1)] := ⟨by kernel_rfl⟩
instance : AggT Tryz.prog 309 4 := ⟨by kernel_rfl⟩
instance : ZeroT Tryz.prog 309 [.pointer none, .pointer none, .pointer none, .string ByteArray.empty] := ⟨by kernel_rfl⟩
instance : PlainT Tryz.prog 309 := ⟨by kernel_rfl⟩
instance : FieldT Tryz.prog 309 0 0 17 := ⟨by kernel_rfl⟩
instance : FieldT Tryz.prog 309 1 1 17 := ⟨by kernel_rfl⟩
instance : FieldT Tryz.prog 309 2 2 17 := ⟨by kernel_rfl⟩
instance : FieldT Tryz.prog 309 3 3 9 := ⟨by kernel_rfl⟩
instance : StructT Tryz.prog 309 [(0, 1), (1, 1), (2, 1), (3, 1)] := ⟨by kernel_rfl⟩
instance : AggT Tryz.prog 310 0 := ⟨by kernel_rfl⟩
instance : ZeroT Tryz.prog 310 [] := ⟨by kernel_rfl⟩
instance : PlainT Tryz.prog 310 := ⟨by kernel_rfl⟩
instance : AggT Tryz.prog 311 0 := ⟨by kernel_rfl⟩
instance : ZeroT Tryz.prog 311 [] := ⟨by kernel_rfl⟩
instance : PlainT Tryz.prog 311 := ⟨by kernel_rfl⟩
instance : StructT Tryz.prog 311 [(0, 0)] := ⟨by kernel_rfl⟩
instance : AggT Tryz.prog 312 0 := ⟨by kernel_rfl⟩
instance : ZeroT Tryz.prog 312 [] := ⟨by kernel_rfl⟩
instance : PlainT Tryz.prog 312 := ⟨by kernel_rfl⟩
instance : StructT Tryz.prog 312 [(0, 0)] := ⟨by kernel_rfl⟩
instance : CellT Tryz.prog 313 := ⟨by kernel_rfl⟩
instance : ZeroT Tryz.prog 313 [.int .u8 0] := ⟨by kernel_rfl⟩
instance : PlainT Tryz.prog 313 := ⟨by kernel_rfl⟩
instance : CellT Tryz.prog 314 := ⟨by kernel_rfl⟩
instance : ZeroT Tryz.prog 314 [.int .u8 0] := ⟨by kernel_rfl⟩
instance : PlainT Tryz.prog 314 := ⟨by kernel_rfl⟩
instance : CellT Tryz.prog 315 := ⟨by kernel_rfl⟩
instance : ZeroT Tryz.prog 315 [.nilFunc] := ⟨by kernel_rfl⟩
instance : PlainT Tryz.prog 315 := ⟨by kernel_rfl⟩
instance : CellT Tryz.prog 316 := ⟨by kernel_rfl⟩
instance : ZeroT Tryz.prog 316 [.pointer none] := ⟨by kernel_rfl⟩
instance : PtrT Tryz.prog 316 := ⟨by kernel_rfl⟩
instance : PlainT Tryz.prog 316 := ⟨by kernel_rfl⟩
instance : CellT Tryz.prog 317 := ⟨by kernel_rfl⟩
instance : ZeroT Tryz.prog 317 [.int .i32 0] := ⟨by kernel_rfl⟩
instance : PlainT Tryz.prog 317 := ⟨by kernel_rfl⟩
instance : CellT Tryz.prog 318 := ⟨by kernel_rfl⟩
instance : ZeroT Tryz.prog 318 [.int .i32 0] := ⟨by kernel_rfl⟩
instance : PlainT Tryz.prog 318 := ⟨by kernel_rfl⟩
instance : AggT Tryz.prog 319 11 := ⟨by kernel_rfl⟩
instance : ZeroT Tryz.prog 319 [.int .u64 0, .int .u64 0, .int .u32 0, .int .u8 0, .int .u8 0, .int .u8 0, .int .u8 0, .nilFunc, .pointer none, .int .i32 0, .int .i32 0] := ⟨by kernel_rfl⟩
instance : PlainT Tryz.prog 319 := ⟨by kernel_rfl⟩
instance : FieldT Tryz.prog 319 0 0 12 := ⟨by kernel_rfl⟩
instance : FieldT Tryz.prog 319 1 1 12 := ⟨by kernel_rfl⟩
instance : FieldT Tryz.prog 319 2 2 249 := ⟨by kernel_rfl⟩
instance : FieldT Tryz.prog 319 3 3 313 := ⟨by kernel_rfl⟩
instance : FieldT Tryz.prog 319 4 4 5 := ⟨by kernel_rfl⟩
instance : FieldT Tryz.prog 319 5 5 5 := ⟨by kernel_rfl⟩
instance : FieldT Tryz.prog 319 6 6 314 := ⟨by kernel_rfl⟩
instance : FieldT Tryz.prog 319 7 7 315 := ⟨by kernel_rfl⟩
instance : FieldT Tryz.prog 319 8 8 316 := ⟨by kernel_rfl⟩
instance : FieldT Tryz.prog 319 9 9 317 := ⟨by kernel_rfl⟩
instance : FieldT Tryz.prog 319 10 10 318 := ⟨by kernel_rfl⟩
instance : StructT Tryz.prog 319 [(0, 1), (1, 1), (2, 1), (3, 1), (4, 1), (5, 1), (6, 1), (7, 1), (8, 1), (9, 1), (10, 1)] := ⟨by kernel_rfl⟩
instance : AggT Tryz.prog 320 11 := ⟨by kernel_rfl⟩
instance : ZeroT Tryz.prog 320 [.int .u64 0, .int .u64 0, .int .u32 0, .int .u8 0, .int .u8 0, .int .u8 0, .int .u8 0, .nilFunc, .pointer none, .int .i32 0, .int .i32 0] := ⟨by kernel_rfl⟩
instance : PlainT Tryz.prog 320 := ⟨by kernel_rfl⟩
instance : FieldT Tryz.prog 320 0 0 12 := ⟨by kernel_rfl⟩
instance : FieldT Tryz.prog 320 1 1 12 := ⟨by kernel_rfl⟩
instance : FieldT Tryz.prog 320 2 2 249 := ⟨by kernel_rfl⟩
instance : FieldT Tryz.prog 320 3 3 313 := ⟨by kernel_rfl⟩
instance : FieldT Tryz.prog 320 4 4 5 := ⟨by kernel_rfl⟩
instance : FieldT Tryz.prog 320 5 5 5 := ⟨by kernel_rfl⟩
instance : FieldT Tryz.prog 320 6 6 314 := ⟨by kernel_rfl⟩
instance : FieldT Tryz.prog 320 7 7 315 := ⟨by kernel_rfl⟩
instance : FieldT Tryz.prog 320 8 8 316 := ⟨by kernel_rfl⟩
instance : FieldT Tryz.prog 320 9 9 317 := ⟨by kernel_rfl⟩
instance : FieldT Tryz.prog 320 10 10 318 := ⟨by kernel_rfl⟩
instance : StructT Tryz.prog 320 [(0, 1), (1, 1), (2, 1), (3, 1), (4, 1), (5, 1), (6, 1), (7, 1), (8, 1), (9, 1), (10, 1)] := ⟨by kernel_rfl⟩
instance : CellT Tryz.prog 321 := ⟨by kernel_rfl⟩
instance : ZeroT Tryz.prog 321 [.nilFunc] := ⟨by kernel_rfl⟩
instance : PlainT Tryz.prog 321 := ⟨by kernel_rfl⟩
instance : CellT Tryz.prog 322 := ⟨by kernel_rfl⟩
instance : ZeroT Tryz.prog 322 [.map none] := ⟨by kernel_rfl⟩
instance : PlainT Tryz.prog 322 := ⟨by kernel_rfl⟩
instance : SliceT Tryz.prog 323 327 2 16 := ⟨by kernel_rfl⟩
instance : CellT Tryz.prog 323 := ⟨by kernel_rfl⟩
instance : ZeroT Tryz.prog 323 [.slice none 0 0] := ⟨by kernel_rfl⟩
instance : PlainT Tryz.prog 323 := ⟨by kernel_rfl⟩
instance : SliceT Tryz.prog 324 327 2 16 := ⟨by kernel_rfl⟩
instance : CellT Tryz.prog 324 := ⟨by kernel_rfl⟩
instance : ZeroT Tryz.prog 324 [.slice none 0 0] := ⟨by kernel_rfl⟩
instance : PlainT Tryz.prog 324 := ⟨by kernel_rfl⟩
instance : CellT Tryz.prog 325 := ⟨by kernel_rfl⟩
instance : ZeroT Tryz.prog 325 [.pointer none] := ⟨by kernel_rfl⟩
instance : MethT Tryz.prog 325 "Len" 195 false 324 := ⟨by kernel_rfl⟩
instance : MethT Tryz.prog 325 "Less" 225 false 324 := ⟨by kernel_rfl⟩
instance : MethT Tryz.prog 325 "Pop" 227 true 324 := ⟨by kernel_rfl⟩
instance : MethT Tryz.prog 325 "Push" 228 true 324 := ⟨by kernel_rfl⟩
instance : MethT Tryz.prog 325 "Swap" 226 false 324 := ⟨by kernel_rfl⟩
instance : PtrT Tryz.prog 325 := ⟨by kernel_rfl⟩
instance : PlainT Tryz.prog 325 := ⟨by kernel_rfl⟩
instance : AggT Tryz.prog 326 2 := ⟨by kernel_rfl⟩
instance : ZeroT Tryz.prog 326 [.int .i64 0, .int .i64 0] := ⟨by kernel_rfl⟩
instance : PlainT Tryz.prog 326 := ⟨by kernel_rfl⟩
instance : FieldT Tryz.prog 326 0 0 3 := ⟨by kernel_rfl⟩
instance : FieldT Tryz.prog 326 1 1 3 := ⟨by kernel_rfl⟩
instance : StructT Tryz.prog 326 [(0, 1), (1, 1)] := ⟨by kernel_rfl⟩
instance : AggT Tryz.prog 327 2 := ⟨by kernel_rfl⟩
instance : ZeroT Tryz.prog 327 [.int .i64 0, .int .i64 0] := ⟨by kernel_rfl⟩
instance : PlainT Tryz.prog 327 := ⟨by kernel_rfl⟩
instance : FieldT Tryz.prog 327 0 0 3 := ⟨by kernel_rfl⟩
instance : FieldT Tryz.prog 327 1 1 3 := ⟨by kernel_rfl⟩
instance : StructT Tryz.prog 327 [(0, 1), (1, 1)] := ⟨by kernel_rfl⟩
instance : CellT Tryz.prog 330 := ⟨by kernel_rfl⟩
instance : ZeroT Tryz.prog 330 [.nilFunc] := ⟨by kernel_rfl⟩
instance : PlainT Tryz.prog 330 := ⟨by kernel_rfl⟩
instance : CellT Tryz.prog 331 := ⟨by kernel_rfl⟩
instance : ZeroT Tryz.prog 331 [.nilFunc] := ⟨by kernel_rfl⟩
instance : PlainT Tryz.prog 331 := ⟨by kernel_rfl⟩
instance : CellT Tryz.prog 332 := ⟨by kernel_rfl⟩
instance : ZeroT Tryz.prog 332 [.nilFunc] := ⟨by kernel_rfl⟩
instance : PlainT Tryz.prog 332 := ⟨by kernel_rfl⟩
instance : SliceT Tryz.prog 333 336 3 24 := ⟨by kernel_rfl⟩
instance : CellT Tryz.prog 333 := ⟨by kernel_rfl⟩
instance : ZeroT Tryz.prog 333 [.slice none 0 0] := ⟨by kernel_rfl⟩
instance : PlainT Tryz.prog 333 := ⟨by kernel_rfl⟩
instance : CellT Tryz.prog 334 := ⟨by kernel_rfl⟩
instance : ZeroT Tryz.prog 334 [.nilFunc] := ⟨by kernel_rfl⟩
instance : PlainT Tryz.prog 334 := ⟨by kernel_rfl⟩
instance : AggT Tryz.prog 335 3 := ⟨by kernel_rfl⟩
instance : ZeroT Tryz.prog 335 [.int .i64 0, .int .i64 0, .int .i64 0] := ⟨by kernel_rfl⟩
instance : PlainT Tryz.prog 335 := ⟨by kernel_rfl⟩
instance : FieldT Tryz.prog 335 0 0 3 := ⟨by kernel_rfl⟩
instance : FieldT Tryz.prog 335 1 1 3 := ⟨by kernel_rfl⟩
instance : FieldT Tryz.prog 335 2 2 3 := ⟨by kernel_rfl⟩
instance : StructT Tryz.prog 335 [(0, 1), (1, 1), (2, 1)] := ⟨by kernel_rfl⟩
instance : AggT Tryz.prog 336 3 := ⟨by kernel_rfl⟩
instance : ZeroT Tryz.prog 336 [.int .i64 0, .int .i64 0, .int .i64 0] := ⟨by kernel_rfl⟩
instance : PlainT Tryz.prog 336 := ⟨by kernel_rfl⟩
instance : FieldT Tryz.prog 336 0 0 3 := ⟨by kernel_rfl⟩
instance : FieldT Tryz.prog 336 1 1 3 := ⟨by kernel_rfl⟩
instance : FieldT Tryz.prog 336 2 2 3 := ⟨by kernel_rfl⟩
instance : StructT Tryz.prog 336 [(0, 1), (1, 1), (2, 1)] := ⟨by kernel_rfl⟩
instance : CellT Tryz.prog 337 := ⟨by kernel_rfl⟩
instance : ZeroT Tryz.prog 337 [.nilFunc] := ⟨by kernel_rfl⟩
instance : PlainT Tryz.prog 337 := ⟨by kernel_rfl⟩
instance : CellT Tryz.prog 338 := ⟨by kernel_rfl⟩
instance : ZeroT Tryz.prog 338 [.nilFunc] := ⟨by kernel_rfl⟩
instance : PlainT Tryz.prog 338 := ⟨by kernel_rfl⟩
instance : CellT Tryz.prog 339 := ⟨by kernel_rfl⟩
instance : ZeroT Tryz.prog 339 [.nilFunc] := ⟨by kernel_rfl⟩
instance : PlainT Tryz.prog 339 := ⟨by kernel_rfl⟩
instance : CellT Tryz.prog 340 := ⟨by kernel_rfl⟩
instance : ZeroT Tryz.prog 340 [.pointer none] := ⟨by kernel_rfl⟩
instance : PlainT Tryz.prog 340 := ⟨by kernel_rfl⟩
-- 3 stratagem/stratagemlaw47.EstimateRelaxed
instance : CallT Tryz.prog 3 := ⟨by kernel_rfl⟩
-- 4 stratagem/stratagemlaw50.IdastarHeuristics
instance : CallT Tryz.prog 4 := ⟨by kernel_rfl⟩
-- 5 stratagem/stratagemlaw49.AstarHeuristics
instance : CallT Tryz.prog 5 := ⟨by kernel_rfl⟩
-- 6 stratagem/stratagembase.Small
instance : CallT Tryz.prog 6 := ⟨by kernel_rfl⟩
-- 7 stratagem/stratagemlaw47.awake
instance : CallT Tryz.prog 7 := ⟨by kernel_rfl⟩
-- 8 stratagem/estimate.HMax
instance : CallT Tryz.prog 8 := ⟨by kernel_rfl⟩
-- 9 stratagem/estimate.Cut
instance : CallT Tryz.prog 9 := ⟨by kernel_rfl⟩
-- 10 stratagem/stratagemref34.Costs
instance : CallT Tryz.prog 10 := ⟨by kernel_rfl⟩
-- 11 stratagem/stratagemlaw47.some
instance : CallT Tryz.prog 11 := ⟨by kernel_rfl⟩
-- 12 (*stratagem/estimate.Estimate).Value
instance : CallT Tryz.prog 12 := ⟨by kernel_rfl⟩
-- 13 stratagem/stratagemref34.Greatest
instance : CallT Tryz.prog 13 := ⟨by kernel_rfl⟩
-- 14 stratagem/stratagemref34.Facts
instance : CallT Tryz.prog 14 := ⟨by kernel_rfl⟩
-- 15 stratagem/stratagemref35.Cuts
instance : CallT Tryz.prog 15 := ⟨by kernel_rfl⟩
-- 16 (*stratagem/estimate.Estimate).Dead
instance : CallT Tryz.prog 16 := ⟨by kernel_rfl⟩
-- 17 stratagem/stratagemlaw50.fits
instance : CallT Tryz.prog 17 := ⟨by kernel_rfl⟩
-- 18 stratagem/stratagemlaw50.awake
instance : CallT Tryz.prog 18 := ⟨by kernel_rfl⟩
-- 19 stratagem/idastar.Search
instance : CallT Tryz.prog 19 := ⟨by kernel_rfl⟩
-- 20 stratagem/stratagembase.Result
instance : CallT Tryz.prog 20 := ⟨by kernel_rfl⟩
-- 21 stratagem/stratagembase.Best
instance : CallT Tryz.prog 21 := ⟨by kernel_rfl⟩
-- 22 stratagem/stratagemlaw49.fits
instance : CallT Tryz.prog 22 := ⟨by kernel_rfl⟩
-- 23 stratagem/stratagemlaw49.awake
instance : CallT Tryz.prog 23 := ⟨by kernel_rfl⟩
-- 24 stratagem/estimate.Saturated
instance : CallT Tryz.prog 24 := ⟨by kernel_rfl⟩
-- 25 stratagem/estimate.Blind
instance : CallT Tryz.prog 25 := ⟨by kernel_rfl⟩
-- 26 stratagem/astar.Search
instance : CallT Tryz.prog 26 := ⟨by kernel_rfl⟩
-- 27 stratagem/stratagembase.Good
instance : CallT Tryz.prog 27 := ⟨by kernel_rfl⟩
-- 28 stratagem/stratagembase.Many
instance : CallT Tryz.prog 28 := ⟨by kernel_rfl⟩
-- 29 stratagem/stratagemlaw47.chain
instance : CallT Tryz.prog 29 := ⟨by kernel_rfl⟩
-- 30 stratagem/estimate.Best
instance : CallT Tryz.prog 30 := ⟨by kernel_rfl⟩
-- 31 (*stratagem/estimate.Estimate).For
instance : CallT Tryz.prog 31 := ⟨by kernel_rfl⟩
-- 32 stratagem/relax.New
instance : CallT Tryz.prog 32 := ⟨by kernel_rfl⟩
-- 33 stratagem/estimate.made
instance : CallT Tryz.prog 33 := ⟨by kernel_rfl⟩
-- 34 stratagem/lmcut.New
instance : CallT Tryz.prog 34 := ⟨by kernel_rfl⟩
-- 35 stratagem/stratagembase.States
instance : CallT Tryz.prog 35 := ⟨by kernel_rfl⟩
-- 36 stratagem/task.Proper
instance : CallT Tryz.prog 36 := ⟨by kernel_rfl⟩
-- 37 stratagem/stratagemref34.start
instance : CallT Tryz.prog 37 := ⟨by kernel_rfl⟩
-- 38 stratagem/stratagemref34.Needs
instance : CallT Tryz.prog 38 := ⟨by kernel_rfl⟩
-- 39 stratagem/stratagemref35.Arcs
instance : CallT Tryz.prog 39 := ⟨by kernel_rfl⟩
-- 40 stratagem/stratagemref35.goals
instance : CallT Tryz.prog 40 := ⟨by kernel_rfl⟩
-- 41 stratagem/stratagemref35.Greatest
instance : CallT Tryz.prog 41 := ⟨by kernel_rfl⟩
-- 42 stratagem/stratagemref35.begins
instance : CallT Tryz.prog 42 := ⟨by kernel_rfl⟩
-- 43 stratagem/stratagemref35.in
instance : CallT Tryz.prog 43 := ⟨by kernel_rfl⟩
-- 44 stratagem/stratagemlaw50.example
instance : CallT Tryz.prog 44 := ⟨by kernel_rfl⟩
-- 45 stratagem/idastar.Rounds
instance : CallT Tryz.prog 45 := ⟨by kernel_rfl⟩
-- 46 stratagem/stratagembase.Ints
instance : CallT Tryz.prog 46 := ⟨by kernel_rfl⟩
-- 47 stratagem/idastar.run
instance : CallT Tryz.prog 47 := ⟨by kernel_rfl⟩
-- 48 stratagem/stratagembase.Cost
instance : CallT Tryz.prog 48 := ⟨by kernel_rfl⟩
-- 49 stratagem/stratagembase.Distances
instance : CallT Tryz.prog 49 := ⟨by kernel_rfl⟩
-- 50 stratagem/stratagembase.Rank
instance : CallT Tryz.prog 50 := ⟨by kernel_rfl⟩
-- 51 stratagem/stratagemlaw49.example
instance : CallT Tryz.prog 51 := ⟨by kernel_rfl⟩
-- 52 stratagem/astar.Bounded
instance : CallT Tryz.prog 52 := ⟨by kernel_rfl⟩
-- 53 stratagem/estimate.chosen
instance : CallT Tryz.prog 53 := ⟨by kernel_rfl⟩
-- 54 stratagem/saturate.New
instance : CallT Tryz.prog 54 := ⟨by kernel_rfl⟩
-- 55 stratagem/estimate.facts
instance : CallT Tryz.prog 55 := ⟨by kernel_rfl⟩
-- 56 stratagem/task.Check
instance : CallT Tryz.prog 56 := ⟨by kernel_rfl⟩
-- 57 stratagem/astar.begin
instance : CallT Tryz.prog 57 := ⟨by kernel_rfl⟩
-- 58 (*stratagem/astar.search).run
instance : CallT Tryz.prog 58 := ⟨by kernel_rfl⟩
-- 59 stratagem/stratagembase.State
instance : CallT Tryz.prog 59 := ⟨by kernel_rfl⟩
-- 60 stratagem/stratagembase.Proper
instance : CallT Tryz.prog 60 := ⟨by kernel_rfl⟩
-- 61 stratagem/stratagembase.operator
instance : CallT Tryz.prog 61 := ⟨by kernel_rfl⟩
-- 62 slices.Contains[[]*stratagem/estimate.Estimate,*stratagem/estimate.Estimate]
instance : CallT Tryz.prog 62 := ⟨by kernel_rfl⟩
-- 63 stratagem/estimate.same
instance : CallT Tryz.prog 63 := ⟨by kernel_rfl⟩
-- 64 slices.Clone[[]*stratagem/estimate.Estimate,*stratagem/estimate.Estimate]
instance : CallT Tryz.prog 64 := ⟨by kernel_rfl⟩
-- 65 slices.Clone[[]int,int]
instance : CallT Tryz.prog 65 := ⟨by kernel_rfl⟩
-- 66 slices.Clone[[]stratagem/api.Fact,stratagem/api.Fact]
instance : CallT Tryz.prog 66 := ⟨by kernel_rfl⟩
-- 67 (*stratagem/relax.Relaxation).add
instance : CallT Tryz.prog 67 := ⟨by kernel_rfl⟩
-- 68 (*stratagem/relax.Relaxation).number
instance : CallT Tryz.prog 68 := ⟨by kernel_rfl⟩
-- 69 stratagem/estimate.copied
instance : CallT Tryz.prog 69 := ⟨by kernel_rfl⟩
-- 70 (*stratagem/lmcut.Heuristic).numbers
instance : CallT Tryz.prog 70 := ⟨by kernel_rfl⟩
-- 71 slices.Sort[[]int,int]
instance : CallT Tryz.prog 71 := ⟨by kernel_rfl⟩
-- 72 slices.Compact[[]int,int]
instance : CallT Tryz.prog 72 := ⟨by kernel_rfl⟩
-- 73 stratagem/succgen.New
instance : CallT Tryz.prog 73 := ⟨by kernel_rfl⟩
-- 74 (*stratagem/idastar.search).visit
instance : CallT Tryz.prog 74 := ⟨by kernel_rfl⟩
-- 75 stratagem/stratagembase.Apply
instance : CallT Tryz.prog 75 := ⟨by kernel_rfl⟩
-- 76 stratagem/stratagembase.Holds
instance : CallT Tryz.prog 76 := ⟨by kernel_rfl⟩
-- 77 stratagem/stratagembase.Edges
instance : CallT Tryz.prog 77 := ⟨by kernel_rfl⟩
-- 78 stratagem/patterns.Systematic
instance : CallT Tryz.prog 78 := ⟨by kernel_rfl⟩
-- 79 stratagem/project.Project
instance : CallT Tryz.prog 79 := ⟨by kernel_rfl⟩
-- 80 slices.ContainsFunc[[][]int,[]int]
instance : CallT Tryz.prog 80 := ⟨by kernel_rfl⟩
-- 81 stratagem/saturate.New$1
instance : CallT Tryz.prog 81 := ⟨by kernel_rfl⟩
-- 82 stratagem/saturate.pattern
instance : CallT Tryz.prog 82 := ⟨by kernel_rfl⟩
-- 83 stratagem/pdb.Build
instance : CallT Tryz.prog 83 := ⟨by kernel_rfl⟩
-- 84 (*stratagem/pdb.Database).Saturated
instance : CallT Tryz.prog 84 := ⟨by kernel_rfl⟩
-- 85 stratagem/task.large
instance : CallT Tryz.prog 85 := ⟨by kernel_rfl⟩
-- 86 stratagem/task.conditions
instance : CallT Tryz.prog 86 := ⟨by kernel_rfl⟩
-- 87 stratagem/task.Facts
instance : CallT Tryz.prog 87 := ⟨by kernel_rfl⟩
-- 88 stratagem/task.named
instance : CallT Tryz.prog 88 := ⟨by kernel_rfl⟩
-- 89 stratagem/registry.New
instance : CallT Tryz.prog 89 := ⟨by kernel_rfl⟩
-- 90 (*stratagem/astar.search).reach
instance : CallT Tryz.prog 90 := ⟨by kernel_rfl⟩
-- 91 (*stratagem/astar.search).next
instance : CallT Tryz.prog 91 := ⟨by kernel_rfl⟩
-- 92 (*stratagem/registry.Registry).State
instance : CallT Tryz.prog 92 := ⟨by kernel_rfl⟩
-- 93 stratagem/task.Holds
instance : CallT Tryz.prog 93 := ⟨by kernel_rfl⟩
-- 94 (*stratagem/registry.Registry).Path
instance : CallT Tryz.prog 94 := ⟨by kernel_rfl⟩
-- 95 (*stratagem/astar.search).cost
instance : CallT Tryz.prog 95 := ⟨by kernel_rfl⟩
-- 96 (*stratagem/succgen.Generator).Successors
instance : CallT Tryz.prog 96 := ⟨by kernel_rfl⟩
-- 97 slices.Index[[]*stratagem/estimate.Estimate,*stratagem/estimate.Estimate]
instance : CallT Tryz.prog 97 := ⟨by kernel_rfl⟩
-- 98 slices.Equal[[]int,int]
instance : CallT Tryz.prog 98 := ⟨by kernel_rfl⟩
-- 99 slices.Equal[[]stratagem/api.Fact,stratagem/api.Fact]
instance : CallT Tryz.prog 99 := ⟨by kernel_rfl⟩
-- 100 slices.EqualFunc[[]stratagem/api.Op,[]stratagem/api.Op,stratagem/api.Op,stratagem/api.Op]
instance : CallT Tryz.prog 100 := ⟨by kernel_rfl⟩
-- 101 stratagem/estimate.sameOp
instance : CallT Tryz.prog 101 := ⟨by kernel_rfl⟩
-- 102 slices.Contains[[]int,int]
instance : CallT Tryz.prog 102 := ⟨by kernel_rfl⟩
-- 103 slices.Clone[[]stratagem/api.Effect,stratagem/api.Effect]
instance : CallT Tryz.prog 103 := ⟨by kernel_rfl⟩
-- 104 slices.pdqsortOrdered[int]
instance : CallT Tryz.prog 104 := ⟨by kernel_rfl⟩
-- 105 math/bits.Len
instance : CallT Tryz.prog 105 := ⟨by kernel_rfl⟩
-- 106 stratagem/succgen.copied
instance : CallT Tryz.prog 106 := ⟨by kernel_rfl⟩
-- 107 (*stratagem/succgen.Generator).build
instance : CallT Tryz.prog 107 := ⟨by kernel_rfl⟩
-- 108 stratagem/idastar.key
instance : CallT Tryz.prog 108 := ⟨by kernel_rfl⟩
-- 109 stratagem/causal.Arcs
instance : CallT Tryz.prog 109 := ⟨by kernel_rfl⟩
-- 110 stratagem/project.check
instance : CallT Tryz.prog 110 := ⟨by kernel_rfl⟩
-- 111 stratagem/project.count
instance : CallT Tryz.prog 111 := ⟨by kernel_rfl⟩
-- 112 stratagem/project.number
instance : CallT Tryz.prog 112 := ⟨by kernel_rfl⟩
-- 113 stratagem/project.outside
instance : CallT Tryz.prog 113 := ⟨by kernel_rfl⟩
-- 114 stratagem/project.put
instance : CallT Tryz.prog 114 := ⟨by kernel_rfl⟩
-- 115 stratagem/project.targets
instance : CallT Tryz.prog 115 := ⟨by kernel_rfl⟩
-- 116 slices.IndexFunc[[][]int,[]int]
instance : CallT Tryz.prog 116 := ⟨by kernel_rfl⟩
-- 117 slices.ContainsFunc[[]int,int]
instance : CallT Tryz.prog 117 := ⟨by kernel_rfl⟩
-- 118 stratagem/pdb.Build$1
instance : CallT Tryz.prog 118 := ⟨by kernel_rfl⟩
-- 119 stratagem/pdb.distances
instance : CallT Tryz.prog 119 := ⟨by kernel_rfl⟩
-- 120 slices.ContainsFunc[[][]stratagem/api.Fact,[]stratagem/api.Fact]
instance : CallT Tryz.prog 120 := ⟨by kernel_rfl⟩
-- 121 stratagem/task.large$1
instance : CallT Tryz.prog 121 := ⟨by kernel_rfl⟩
-- 122 stratagem/pack.New
instance : CallT Tryz.prog 122 := ⟨by kernel_rfl⟩
-- 123 (*stratagem/registry.Registry).Add
instance : CallT Tryz.prog 123 := ⟨by kernel_rfl⟩
-- 124 (*stratagem/registry.Registry).SetLink
instance : CallT Tryz.prog 124 := ⟨by kernel_rfl⟩
-- 125 container/heap.Push
instance : CallT Tryz.prog 125 := ⟨by kernel_rfl⟩
-- 126 container/heap.Pop
instance : CallT Tryz.prog 126 := ⟨by kernel_rfl⟩
-- 127 (*stratagem/registry.Registry).has
instance : CallT Tryz.prog 127 := ⟨by kernel_rfl⟩
-- 128 (*stratagem/pack.Packer).Unpack
instance : CallT Tryz.prog 128 := ⟨by kernel_rfl⟩
-- 129 slices.Reverse[[]int,int]
instance : CallT Tryz.prog 129 := ⟨by kernel_rfl⟩
-- 130 (*stratagem/succgen.Generator).Applicable
instance : CallT Tryz.prog 130 := ⟨by kernel_rfl⟩
-- 131 slices.EqualFunc[[]stratagem/api.Effect,[]stratagem/api.Effect,stratagem/api.Effect,stratagem/api.Effect]
instance : CallT Tryz.prog 131 := ⟨by kernel_rfl⟩
-- 132 stratagem/estimate.sameEffect
instance : CallT Tryz.prog 132 := ⟨by kernel_rfl⟩
-- 133 slices.Index[[]int,int]
instance : CallT Tryz.prog 133 := ⟨by kernel_rfl⟩
-- 134 slices.insertionSortOrdered[int]
instance : CallT Tryz.prog 134 := ⟨by kernel_rfl⟩
-- 135 slices.heapSortOrdered[int]
instance : CallT Tryz.prog 135 := ⟨by kernel_rfl⟩
-- 136 slices.breakPatternsOrdered[int]
instance : CallT Tryz.prog 136 := ⟨by kernel_rfl⟩
-- 137 slices.choosePivotOrdered[int]
instance : CallT Tryz.prog 137 := ⟨by kernel_rfl⟩
-- 138 slices.reverseRangeOrdered[int]
instance : CallT Tryz.prog 138 := ⟨by kernel_rfl⟩
-- 139 slices.partialInsertionSortOrdered[int]
instance : CallT Tryz.prog 139 := ⟨by kernel_rfl⟩
-- 140 cmp.Less[int]
instance : CallT Tryz.prog 140 := ⟨by kernel_rfl⟩
-- 141 slices.partitionEqualOrdered[int]
instance : CallT Tryz.prog 141 := ⟨by kernel_rfl⟩
-- 142 slices.partitionOrdered[int]
instance : CallT Tryz.prog 142 := ⟨by kernel_rfl⟩
-- 143 math/bits.Len32
instance : CallT Tryz.prog 143 := ⟨by kernel_rfl⟩
-- 144 math/bits.Len64
instance : CallT Tryz.prog 144 := ⟨by kernel_rfl⟩
-- 145 (*stratagem/succgen.Generator).build$1
instance : CallT Tryz.prog 145 := ⟨by kernel_rfl⟩
-- 146 (*stratagem/succgen.Generator).fact
instance : CallT Tryz.prog 146 := ⟨by kernel_rfl⟩
-- 147 stratagem/causal.depends
instance : CallT Tryz.prog 147 := ⟨by kernel_rfl⟩
-- 148 stratagem/project.has
instance : CallT Tryz.prog 148 := ⟨by kernel_rfl⟩
-- 149 slices.Backward[[]int,int]
instance : CallT Tryz.prog 149 := ⟨by kernel_rfl⟩
-- 150 slices.IndexFunc[[]int,int]
instance : CallT Tryz.prog 150 := ⟨by kernel_rfl⟩
-- 151 (stratagem/pdb.queue).Len
instance : CallT Tryz.prog 151 := ⟨by kernel_rfl⟩
-- 152 slices.IndexFunc[[][]stratagem/api.Fact,[]stratagem/api.Fact]
instance : CallT Tryz.prog 152 := ⟨by kernel_rfl⟩
-- 153 (*stratagem/registry.Registry).find
instance : CallT Tryz.prog 153 := ⟨by kernel_rfl⟩
-- 154 container/heap.up
instance : CallT Tryz.prog 154 := ⟨by kernel_rfl⟩
-- 155 container/heap.down
instance : CallT Tryz.prog 155 := ⟨by kernel_rfl⟩
-- 156 slices.Clone[[]uint64,uint64]
instance : CallT Tryz.prog 156 := ⟨by kernel_rfl⟩
-- 157 (stratagem/pack.field).get
instance : CallT Tryz.prog 157 := ⟨by kernel_rfl⟩
-- 158 (stratagem/pack.field).mask
instance : CallT Tryz.prog 158 := ⟨by kernel_rfl⟩
-- 159 (*stratagem/succgen.Generator).find
instance : CallT Tryz.prog 159 := ⟨by kernel_rfl⟩
-- 160 slices.siftDownOrdered[int]
instance : CallT Tryz.prog 160 := ⟨by kernel_rfl⟩
-- 161 slices.nextPowerOfTwo
instance : CallT Tryz.prog 161 := ⟨by kernel_rfl⟩
-- 163 slices.medianAdjacentOrdered[int]
instance : CallT Tryz.prog 163 := ⟨by kernel_rfl⟩
-- 164 slices.medianOrdered[int]
instance : CallT Tryz.prog 164 := ⟨by kernel_rfl⟩
-- 165 cmp.isNaN[int]
instance : CallT Tryz.prog 165 := ⟨by kernel_rfl⟩
-- 166 slices.ContainsFunc[[]stratagem/api.Fact,stratagem/api.Fact]
instance : CallT Tryz.prog 166 := ⟨by kernel_rfl⟩
-- 167 stratagem/project.has$1
instance : CallT Tryz.prog 167 := ⟨by kernel_rfl⟩
-- 168 slices.Backward[[]int,int]$1
instance : CallT Tryz.prog 168 := ⟨by kernel_rfl⟩
-- 169 (*stratagem/pack.Packer).Pack
instance : CallT Tryz.prog 169 := ⟨by kernel_rfl⟩
-- 170 (*stratagem/pack.Packer).Hash
instance : CallT Tryz.prog 170 := ⟨by kernel_rfl⟩
-- 171 slices.Equal[[]uint64,uint64]
instance : CallT Tryz.prog 171 := ⟨by kernel_rfl⟩
-- 172 (*stratagem/succgen.node).collect
instance : CallT Tryz.prog 172 := ⟨by kernel_rfl⟩
-- 173 slices.order2Ordered[int]
instance : CallT Tryz.prog 173 := ⟨by kernel_rfl⟩
-- 174 slices.IndexFunc[[]stratagem/api.Fact,stratagem/api.Fact]
instance : CallT Tryz.prog 174 := ⟨by kernel_rfl⟩
-- 191 (*stratagem/relax.Relaxation).Max
instance : CallT Tryz.prog 191 := ⟨by kernel_rfl⟩
-- 192 (stratagem/estimate.hmax).Value
instance : CallT Tryz.prog 192 := ⟨by kernel_rfl⟩
-- 193 (*stratagem/relax.Relaxation).values
instance : CallT Tryz.prog 193 := ⟨by kernel_rfl⟩
-- 194 (*stratagem/relax.Relaxation).values$1
instance : CallT Tryz.prog 194 := ⟨by kernel_rfl⟩
-- 195 (stratagem/relax.open).Len
instance : CallT Tryz.prog 195 := ⟨by kernel_rfl⟩
-- 196 (*stratagem/lmcut.Heuristic).Value
instance : CallT Tryz.prog 196 := ⟨by kernel_rfl⟩
-- 197 (*stratagem/lmcut.Heuristic).Cuts
instance : CallT Tryz.prog 197 := ⟨by kernel_rfl⟩
-- 198 (*stratagem/lmcut.Heuristic).values
instance : CallT Tryz.prog 198 := ⟨by kernel_rfl⟩
-- 199 stratagem/lmcut.highest
instance : CallT Tryz.prog 199 := ⟨by kernel_rfl⟩
-- 200 (*stratagem/lmcut.Heuristic).cut
instance : CallT Tryz.prog 200 := ⟨by kernel_rfl⟩
-- 201 stratagem/lmcut.greatest
instance : CallT Tryz.prog 201 := ⟨by kernel_rfl⟩
-- 202 (*stratagem/lmcut.Heuristic).arcs
instance : CallT Tryz.prog 202 := ⟨by kernel_rfl⟩
-- 204 (*stratagem/saturate.Partition).Value
instance : CallT Tryz.prog 204 := ⟨by kernel_rfl⟩
-- 205 (*stratagem/pdb.Database).Value
instance : CallT Tryz.prog 205 := ⟨by kernel_rfl⟩
-- 206 (stratagem/estimate.blind).Value
instance : CallT Tryz.prog 206 := ⟨by kernel_rfl⟩
-- 208 (stratagem/estimate.best).Value
instance : CallT Tryz.prog 208 := ⟨by kernel_rfl⟩
-- 210 (*stratagem/registry.Registry).Len
instance : CallT Tryz.prog 210 := ⟨by kernel_rfl⟩
-- 211 (stratagem/astar.open).Len
instance : CallT Tryz.prog 211 := ⟨by kernel_rfl⟩
-- 212 (stratagem/astar.open).Less
instance : CallT Tryz.prog 212 := ⟨by kernel_rfl⟩
-- 213 (stratagem/astar.open).Swap
instance : CallT Tryz.prog 213 := ⟨by kernel_rfl⟩
-- 214 cmp.Or[int]
instance : CallT Tryz.prog 214 := ⟨by kernel_rfl⟩
-- 215 cmp.Compare[int]
instance : CallT Tryz.prog 215 := ⟨by kernel_rfl⟩
-- 218 (*stratagem/astar.open).Pop
instance : CallT Tryz.prog 218 := ⟨by kernel_rfl⟩
-- 219 (*stratagem/astar.open).Push
instance : CallT Tryz.prog 219 := ⟨by kernel_rfl⟩
-- 220 (stratagem/pdb.queue).Less
instance : CallT Tryz.prog 220 := ⟨by kernel_rfl⟩
-- 221 (*stratagem/pdb.queue).Pop
instance : CallT Tryz.prog 221 := ⟨by kernel_rfl⟩
-- 222 (*stratagem/pdb.queue).Push
instance : CallT Tryz.prog 222 := ⟨by kernel_rfl⟩
-- 223 (stratagem/pdb.queue).Swap
instance : CallT Tryz.prog 223 := ⟨by kernel_rfl⟩
-- 225 (stratagem/relax.open).Less
instance : CallT Tryz.prog 225 := ⟨by kernel_rfl⟩
-- 226 (stratagem/relax.open).Swap
instance : CallT Tryz.prog 226 := ⟨by kernel_rfl⟩
-- 227 (*stratagem/relax.open).Pop
instance : CallT Tryz.prog 227 := ⟨by kernel_rfl⟩
-- 228 (*stratagem/relax.open).Push
instance : CallT Tryz.prog 228 := ⟨by kernel_rfl⟩
theorem mixed : Tryz.prog.follows .mixedOrders = true := by kernel_rfl
end Go.Proofs.YtkmbenhffledpaaGreat
