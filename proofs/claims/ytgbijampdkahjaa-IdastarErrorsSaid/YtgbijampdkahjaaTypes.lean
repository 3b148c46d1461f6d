
/-
  The types of this seat, as the steps of the generator ask for them: closed facts on the program.
-/
import Derived.Test.YtgbijampdkahjaaMSlA
import Derived.Test.YtgbijampdkahjaaProg
import Derived.KernelRfl
set_option linter.unusedSimpArgs false
set_option linter.unusedVariables false
namespace Go.Proofs.Ytgbijampdkahjaa
open Go.Sl
instance : CellT Try.prog 1 := ⟨by kernel_rfl⟩
instance : ZeroT Try.prog 1 [.nilFunc] := ⟨by kernel_rfl⟩
instance : PlainT Try.prog 1 := ⟨by kernel_rfl⟩
instance : CellT Try.prog 2 := ⟨by kernel_rfl⟩
instance : ZeroT Try.prog 2 [.int .i64 0] := ⟨by kernel_rfl⟩
instance : PlainT Try.prog 2 := ⟨by kernel_rfl⟩
instance : CellT Try.prog 3 := ⟨by kernel_rfl⟩
instance : ZeroT Try.prog 3 [.int .i64 0] := ⟨by kernel_rfl⟩
instance : PlainT Try.prog 3 := ⟨by kernel_rfl⟩
instance : CellT Try.prog 4 := ⟨by kernel_rfl⟩
instance : ZeroT Try.prog 4 [.bool false] := ⟨by kernel_rfl⟩
instance : BoolT Try.prog 4 := ⟨by kernel_rfl⟩
instance : PlainT Try.prog 4 := ⟨by kernel_rfl⟩
instance : CellT Try.prog 5 := ⟨by kernel_rfl⟩
instance : ZeroT Try.prog 5 [.int .u8 0] := ⟨by kernel_rfl⟩
instance : PlainT Try.prog 5 := ⟨by kernel_rfl⟩
instance : CellT Try.prog 6 := ⟨by kernel_rfl⟩
instance : ZeroT Try.prog 6 [.int .u8 0] := ⟨by kernel_rfl⟩
instance : PlainT Try.prog 6 := ⟨by kernel_rfl⟩
instance : AggT Try.prog 7 4 := ⟨by kernel_rfl⟩
instance : ZeroT Try.prog 7 [.int .i64 0, .int .i64 0, .bool false, .int .u8 0] := ⟨by kernel_rfl⟩
instance : PlainT Try.prog 7 := ⟨by kernel_rfl⟩
instance : FieldT Try.prog 7 0 0 2 := ⟨by kernel_rfl⟩
instance : FieldT Try.prog 7 1 1 3 := ⟨by kernel_rfl⟩
instance : FieldT Try.prog 7 2 2 4 := ⟨by kernel_rfl⟩
instance : FieldT Try.prog 7 3 3 6 := ⟨by kernel_rfl⟩
instance : StructT Try.prog 7 [(0, 1), (1, 1), (2, 1), (3, 1)] := ⟨by kernel_rfl⟩
instance : AggT Try.prog 8 4 := ⟨by kernel_rfl⟩
instance : ZeroT Try.prog 8 [.int .i64 0, .int .i64 0, .bool false, .int .u8 0] := ⟨by kernel_rfl⟩
instance : PlainT Try.prog 8 := ⟨by kernel_rfl⟩
instance : FieldT Try.prog 8 0 0 2 := ⟨by kernel_rfl⟩
instance : FieldT Try.prog 8 1 1 3 := ⟨by kernel_rfl⟩
instance : FieldT Try.prog 8 2 2 4 := ⟨by kernel_rfl⟩
instance : FieldT Try.prog 8 3 3 6 := ⟨by kernel_rfl⟩
instance : StructT Try.prog 8 [(0, 1), (1, 1), (2, 1), (3, 1)] := ⟨by kernel_rfl⟩
instance : CellT Try.prog 9 := ⟨by kernel_rfl⟩
instance : ZeroT Try.prog 9 [.string ByteArray.empty] := ⟨by kernel_rfl⟩
instance : StrT Try.prog 9 := ⟨by kernel_rfl⟩
instance : PlainT Try.prog 9 := ⟨by kernel_rfl⟩
instance : CellT Try.prog 10 := ⟨by kernel_rfl⟩
instance : ZeroT Try.prog 10 [.string ByteArray.empty] := ⟨by kernel_rfl⟩
instance : StrT Try.prog 10 := ⟨by kernel_rfl⟩
instance : PlainT Try.prog 10 := ⟨by kernel_rfl⟩
instance : CellT Try.prog 11 := ⟨by kernel_rfl⟩
instance : ZeroT Try.prog 11 [.string ByteArray.empty] := ⟨by kernel_rfl⟩
instance : StrT Try.prog 11 := ⟨by kernel_rfl⟩
instance : PlainT Try.prog 11 := ⟨by kernel_rfl⟩
instance : CellT Try.prog 12 := ⟨by kernel_rfl⟩
instance : ZeroT Try.prog 12 [.int .u64 0] := ⟨by kernel_rfl⟩
instance : PlainT Try.prog 12 := ⟨by kernel_rfl⟩
instance : AggT Try.prog 13 2 := ⟨by kernel_rfl⟩
instance : ZeroT Try.prog 13 [.string ByteArray.empty, .int .u64 0] := ⟨by kernel_rfl⟩
instance : PlainT Try.prog 13 := ⟨by kernel_rfl⟩
instance : FieldT Try.prog 13 0 0 9 := ⟨by kernel_rfl⟩
instance : FieldT Try.prog 13 1 1 12 := ⟨by kernel_rfl⟩
instance : StructT Try.prog 13 [(0, 1), (1, 1)] := ⟨by kernel_rfl⟩
instance : AggT Try.prog 14 2 := ⟨by kernel_rfl⟩
instance : ZeroT Try.prog 14 [.string ByteArray.empty, .int .u64 0] := ⟨by kernel_rfl⟩
instance : PlainT Try.prog 14 := ⟨by kernel_rfl⟩
instance : FieldT Try.prog 14 0 0 9 := ⟨by kernel_rfl⟩
instance : FieldT Try.prog 14 1 1 12 := ⟨by kernel_rfl⟩
instance : StructT Try.prog 14 [(0, 1), (1, 1)] := ⟨by kernel_rfl⟩
instance : CellT Try.prog 15 := ⟨by kernel_rfl⟩
instance : ZeroT Try.prog 15 [.pointer none] := ⟨by kernel_rfl⟩
instance : MethT Try.prog 15 "Error" 115 true 175 := ⟨by kernel_rfl⟩
instance : MethT Try.prog 15 "RuntimeError" 116 true 175 := ⟨by kernel_rfl⟩
instance : PtrT Try.prog 15 := ⟨by kernel_rfl⟩
instance : PlainT Try.prog 15 := ⟨by kernel_rfl⟩
instance : CellT Try.prog 16 := ⟨by kernel_rfl⟩
instance : ZeroT Try.prog 16 [.pointer none] := ⟨by kernel_rfl⟩
instance : MethT Try.prog 16 "Error" 117 true 178 := ⟨by kernel_rfl⟩
instance : MethT Try.prog 16 "RuntimeError" 118 true 178 := ⟨by kernel_rfl⟩
instance : PtrT Try.prog 16 := ⟨by kernel_rfl⟩
instance : PlainT Try.prog 16 := ⟨by kernel_rfl⟩
instance : CellT Try.prog 17 := ⟨by kernel_rfl⟩
instance : ZeroT Try.prog 17 [.pointer none] := ⟨by kernel_rfl⟩
instance : MethT Try.prog 17 "Align" 119 true 187 := ⟨by kernel_rfl⟩
instance : PtrT Try.prog 17 := ⟨by kernel_rfl⟩
instance : PlainT Try.prog 17 := ⟨by kernel_rfl⟩
instance : AggT Try.prog 18 1 := ⟨by kernel_rfl⟩
instance : ZeroT Try.prog 18 [.pointer none] := ⟨by kernel_rfl⟩
instance : PlainT Try.prog 18 := ⟨by kernel_rfl⟩
instance : FieldT Try.prog 18 0 0 17 := ⟨by kernel_rfl⟩
instance : StructT Try.prog 18 [(0, 1)] := ⟨by kernel_rfl⟩
instance : AggT Try.prog 19 1 := ⟨by kernel_rfl⟩
instance : ZeroT Try.prog 19 [.pointer none] := ⟨by kernel_rfl⟩
instance : PlainT Try.prog 19 := ⟨by kernel_rfl⟩
instance : FieldT Try.prog 19 0 0 17 := ⟨by kernel_rfl⟩
instance : StructT Try.prog 19 [(0, 1)] := ⟨by kernel_rfl⟩
instance : CellT Try.prog 20 := ⟨by kernel_rfl⟩
instance : ZeroT Try.prog 20 [.nilIface] := ⟨by kernel_rfl⟩
instance : IfaceT Try.prog 20 := ⟨by kernel_rfl⟩
instance : CellT Try.prog 21 := ⟨by kernel_rfl⟩
instance : ZeroT Try.prog 21 [.int .i32 0] := ⟨by kernel_rfl⟩
instance : PlainT Try.prog 21 := ⟨by kernel_rfl⟩
instance : SliceT Try.prog 22 3 1 8 := ⟨by kernel_rfl⟩
instance : CellT Try.prog 22 := ⟨by kernel_rfl⟩
instance : ZeroT Try.prog 22 [.slice none 0 0] := ⟨by kernel_rfl⟩
instance : PlainT Try.prog 22 := ⟨by kernel_rfl⟩
instance : SliceT Try.prog 23 89 2 16 := ⟨by kernel_rfl⟩
instance : CellT Try.prog 23 := ⟨by kernel_rfl⟩
instance : ZeroT Try.prog 23 [.slice none 0 0] := ⟨by kernel_rfl⟩
instance : PlainT Try.prog 23 := ⟨by kernel_rfl⟩
instance : SliceT Try.prog 24 31 4 72 := ⟨by kernel_rfl⟩
instance : CellT Try.prog 24 := ⟨by kernel_rfl⟩
instance : ZeroT Try.prog 24 [.slice none 0 0] := ⟨by kernel_rfl⟩
instance : PlainT Try.prog 24 := ⟨by kernel_rfl⟩
instance : AggT Try.prog 25 4 := ⟨by kernel_rfl⟩
instance : ZeroT Try.prog 25 [.slice none 0 0, .slice none 0 0, .slice none 0 0, .slice none 0 0] := ⟨by kernel_rfl⟩
instance : PlainT Try.prog 25 := ⟨by kernel_rfl⟩
instance : FieldT Try.prog 25 0 0 22 := ⟨by kernel_rfl⟩
instance : FieldT Try.prog 25 1 1 22 := ⟨by kernel_rfl⟩
instance : FieldT Try.prog 25 2 2 23 := ⟨by kernel_rfl⟩
instance : FieldT Try.prog 25 3 3 24 := ⟨by kernel_rfl⟩
instance : StructT Try.prog 25 [(0, 1), (1, 1), (2, 1), (3, 1)] := ⟨by kernel_rfl⟩
instance : AggT Try.prog 26 4 := ⟨by kernel_rfl⟩
instance : ZeroT Try.prog 26 [.slice none 0 0, .slice none 0 0, .slice none 0 0, .slice none 0 0] := ⟨by kernel_rfl⟩
instance : PlainT Try.prog 26 := ⟨by kernel_rfl⟩
instance : FieldT Try.prog 26 0 0 22 := ⟨by kernel_rfl⟩
instance : FieldT Try.prog 26 1 1 22 := ⟨by kernel_rfl⟩
instance : FieldT Try.prog 26 2 2 23 := ⟨by kernel_rfl⟩
instance : FieldT Try.prog 26 3 3 24 := ⟨by kernel_rfl⟩
instance : StructT Try.prog 26 [(0, 1), (1, 1), (2, 1), (3, 1)] := ⟨by kernel_rfl⟩
instance : CellT Try.prog 27 := ⟨by kernel_rfl⟩
instance : ZeroT Try.prog 27 [.nilFunc] := ⟨by kernel_rfl⟩
instance : PlainT Try.prog 27 := ⟨by kernel_rfl⟩
instance : CellT Try.prog 28 := ⟨by kernel_rfl⟩
instance : ZeroT Try.prog 28 [.nilFunc] := ⟨by kernel_rfl⟩
instance : PlainT Try.prog 28 := ⟨by kernel_rfl⟩
instance : SliceT Try.prog 29 87 3 40 := ⟨by kernel_rfl⟩
instance : CellT Try.prog 29 := ⟨by kernel_rfl⟩
instance : ZeroT Try.prog 29 [.slice none 0 0] := ⟨by kernel_rfl⟩
instance : PlainT Try.prog 29 := ⟨by kernel_rfl⟩
instance : AggT Try.prog 30 4 := ⟨by kernel_rfl⟩
instance : ZeroT Try.prog 30 [.string ByteArray.empty, .int .i64 0, .slice none 0 0, .slice none 0 0] := ⟨by kernel_rfl⟩
instance : PlainT Try.prog 30 := ⟨by kernel_rfl⟩
instance : FieldT Try.prog 30 0 0 9 := ⟨by kernel_rfl⟩
instance : FieldT Try.prog 30 1 1 3 := ⟨by kernel_rfl⟩
instance : FieldT Try.prog 30 2 2 23 := ⟨by kernel_rfl⟩
instance : FieldT Try.prog 30 3 3 29 := ⟨by kernel_rfl⟩
instance : StructT Try.prog 30 [(0, 1), (1, 1), (2, 1), (3, 1)] := ⟨by kernel_rfl⟩
instance : AggT Try.prog 31 4 := ⟨by kernel_rfl⟩
instance : ZeroT Try.prog 31 [.string ByteArray.empty, .int .i64 0, .slice none 0 0, .slice none 0 0] := ⟨by kernel_rfl⟩
instance : PlainT Try.prog 31 := ⟨by kernel_rfl⟩
instance : FieldT Try.prog 31 0 0 9 := ⟨by kernel_rfl⟩
instance : FieldT Try.prog 31 1 1 3 := ⟨by kernel_rfl⟩
instance : FieldT Try.prog 31 2 2 23 := ⟨by kernel_rfl⟩
instance : FieldT Try.prog 31 3 3 29 := ⟨by kernel_rfl⟩
instance : StructT Try.prog 31 [(0, 1), (1, 1), (2, 1), (3, 1)] := ⟨by kernel_rfl⟩
instance : CellT Try.prog 32 := ⟨by kernel_rfl⟩
instance : ZeroT Try.prog 32 [.pointer none] := ⟨by kernel_rfl⟩
instance : MethT Try.prog 32 "Dead" 122 true 109 := ⟨by kernel_rfl⟩
instance : MethT Try.prog 32 "For" 57 true 109 := ⟨by kernel_rfl⟩
instance : MethT Try.prog 32 "Value" 59 true 109 := ⟨by kernel_rfl⟩
instance : PtrT Try.prog 32 := ⟨by kernel_rfl⟩
instance : PlainT Try.prog 32 := ⟨by kernel_rfl⟩
instance : CellT Try.prog 33 := ⟨by kernel_rfl⟩
instance : ZeroT Try.prog 33 [.nilIface] := ⟨by kernel_rfl⟩
instance : IfaceT Try.prog 33 := ⟨by kernel_rfl⟩
instance : CellT Try.prog 34 := ⟨by kernel_rfl⟩
instance : ZeroT Try.prog 34 [.nilIface] := ⟨by kernel_rfl⟩
instance : IfaceT Try.prog 34 := ⟨by kernel_rfl⟩
instance : CellT Try.prog 36 := ⟨by kernel_rfl⟩
instance : ZeroT Try.prog 36 [.nilFunc] := ⟨by kernel_rfl⟩
instance : PlainT Try.prog 36 := ⟨by kernel_rfl⟩
instance : AggT Try.prog 37 4 := ⟨by kernel_rfl⟩
instance : ZeroT Try.prog 37 [.int .i64 0, .slice none 0 0, .int .i64 0, .int .i64 0] := ⟨by kernel_rfl⟩
instance : PlainT Try.prog 37 := ⟨by kernel_rfl⟩
instance : FieldT Try.prog 37 0 0 3 := ⟨by kernel_rfl⟩
instance : FieldT Try.prog 37 1 1 22 := ⟨by kernel_rfl⟩
instance : FieldT Try.prog 37 2 2 3 := ⟨by kernel_rfl⟩
instance : FieldT Try.prog 37 3 3 3 := ⟨by kernel_rfl⟩
instance : StructT Try.prog 37 [(0, 1), (1, 1), (2, 1), (3, 1)] := ⟨by kernel_rfl⟩
instance : AggT Try.prog 38 4 := ⟨by kernel_rfl⟩
instance : ZeroT Try.prog 38 [.int .i64 0, .slice none 0 0, .int .i64 0, .int .i64 0] := ⟨by kernel_rfl⟩
instance : PlainT Try.prog 38 := ⟨by kernel_rfl⟩
instance : FieldT Try.prog 38 0 0 3 := ⟨by kernel_rfl⟩
instance : FieldT Try.prog 38 1 1 22 := ⟨by kernel_rfl⟩
instance : FieldT Try.prog 38 2 2 3 := ⟨by kernel_rfl⟩
instance : FieldT Try.prog 38 3 3 3 := ⟨by kernel_rfl⟩
instance : StructT Try.prog 38 [(0, 1), (1, 1), (2, 1), (3, 1)] := ⟨by kernel_rfl⟩
instance : CellT Try.prog 40 := ⟨by kernel_rfl⟩
instance : ZeroT Try.prog 40 [.nilFunc] := ⟨by kernel_rfl⟩
instance : PlainT Try.prog 40 := ⟨by kernel_rfl⟩
instance : CellT Try.prog 42 := ⟨by kernel_rfl⟩
instance : ZeroT Try.prog 42 [.nilFunc] := ⟨by kernel_rfl⟩
instance : PlainT Try.prog 42 := ⟨by kernel_rfl⟩
instance : CellT Try.prog 43 := ⟨by kernel_rfl⟩
instance : ZeroT Try.prog 43 [.nilFunc] := ⟨by kernel_rfl⟩
instance : PlainT Try.prog 43 := ⟨by kernel_rfl⟩
instance : CellT Try.prog 44 := ⟨by kernel_rfl⟩
instance : ZeroT Try.prog 44 [.nilFunc] := ⟨by kernel_rfl⟩
instance : PlainT Try.prog 44 := ⟨by kernel_rfl⟩
instance : CellT Try.prog 45 := ⟨by kernel_rfl⟩
instance : ZeroT Try.prog 45 [.nilFunc] := ⟨by kernel_rfl⟩
instance : PlainT Try.prog 45 := ⟨by kernel_rfl⟩
instance : CellT Try.prog 46 := ⟨by kernel_rfl⟩
instance : ZeroT Try.prog 46 [.nilFunc] := ⟨by kernel_rfl⟩
instance : PlainT Try.prog 46 := ⟨by kernel_rfl⟩
instance : CellT Try.prog 47 := ⟨by kernel_rfl⟩
instance : ZeroT Try.prog 47 [.int .i64 0] := ⟨by kernel_rfl⟩
instance : PlainT Try.prog 47 := ⟨by kernel_rfl⟩
instance : CellT Try.prog 48 := ⟨by kernel_rfl⟩
instance : ZeroT Try.prog 48 [.nilFunc] := ⟨by kernel_rfl⟩
instance : PlainT Try.prog 48 := ⟨by kernel_rfl⟩
instance : CellT Try.prog 49 := ⟨by kernel_rfl⟩
instance : ZeroT Try.prog 49 [.nilFunc] := ⟨by kernel_rfl⟩
instance : PlainT Try.prog 49 := ⟨by kernel_rfl⟩
instance : SliceT Try.prog 50 5 1 1 := ⟨by kernel_rfl⟩
instance : CellT Try.prog 50 := ⟨by kernel_rfl⟩
instance : ZeroT Try.prog 50 [.slice none 0 0] := ⟨by kernel_rfl⟩
instance : PlainT Try.prog 50 := ⟨by kernel_rfl⟩
instance : CellT Try.prog 51 := ⟨by kernel_rfl⟩
instance : ZeroT Try.prog 51 [.nilFunc] := ⟨by kernel_rfl⟩
instance : PlainT Try.prog 51 := ⟨by kernel_rfl⟩
instance : CellT Try.prog 52 := ⟨by kernel_rfl⟩
instance : ZeroT Try.prog 52 [.nilFunc] := ⟨by kernel_rfl⟩
instance : PlainT Try.prog 52 := ⟨by kernel_rfl⟩
instance : CellT Try.prog 53 := ⟨by kernel_rfl⟩
instance : ZeroT Try.prog 53 [.nilFunc] := ⟨by kernel_rfl⟩
instance : PlainT Try.prog 53 := ⟨by kernel_rfl⟩
instance : CellT Try.prog 54 := ⟨by kernel_rfl⟩
instance : ZeroT Try.prog 54 [.nilFunc] := ⟨by kernel_rfl⟩
instance : PlainT Try.prog 54 := ⟨by kernel_rfl⟩
instance : CellT Try.prog 55 := ⟨by kernel_rfl⟩
instance : ZeroT Try.prog 55 [.nilFunc] := ⟨by kernel_rfl⟩
instance : PlainT Try.prog 55 := ⟨by kernel_rfl⟩
instance : SliceT Try.prog 56 58 1 2 := ⟨by kernel_rfl⟩
instance : CellT Try.prog 56 := ⟨by kernel_rfl⟩
instance : ZeroT Try.prog 56 [.slice none 0 0] := ⟨by kernel_rfl⟩
instance : PlainT Try.prog 56 := ⟨by kernel_rfl⟩
instance : CellT Try.prog 57 := ⟨by kernel_rfl⟩
instance : ZeroT Try.prog 57 [.nilFunc] := ⟨by kernel_rfl⟩
instance : PlainT Try.prog 57 := ⟨by kernel_rfl⟩
instance : CellT Try.prog 58 := ⟨by kernel_rfl⟩
instance : ZeroT Try.prog 58 [.int .u16 0] := ⟨by kernel_rfl⟩
instance : PlainT Try.prog 58 := ⟨by kernel_rfl⟩
instance : CellT Try.prog 59 := ⟨by kernel_rfl⟩
instance : ZeroT Try.prog 59 [.nilFunc] := ⟨by kernel_rfl⟩
instance : PlainT Try.prog 59 := ⟨by kernel_rfl⟩
instance : CellT Try.prog 60 := ⟨by kernel_rfl⟩
instance : ZeroT Try.prog 60 [.nilFunc] := ⟨by kernel_rfl⟩
instance : PlainT Try.prog 60 := ⟨by kernel_rfl⟩
instance : CellT Try.prog 61 := ⟨by kernel_rfl⟩
instance : ZeroT Try.prog 61 [.nilFunc] := ⟨by kernel_rfl⟩
instance : PlainT Try.prog 61 := ⟨by kernel_rfl⟩
instance : CellT Try.prog 62 := ⟨by kernel_rfl⟩
instance : ZeroT Try.prog 62 [.nilFunc] := ⟨by kernel_rfl⟩
instance : PlainT Try.prog 62 := ⟨by kernel_rfl⟩
instance : CellT Try.prog 63 := ⟨by kernel_rfl⟩
instance : ZeroT Try.prog 63 [.map none] := ⟨by kernel_rfl⟩
instance : PlainT Try.prog 63 := ⟨by kernel_rfl⟩
instance : CellT Try.prog 65 := ⟨by kernel_rfl⟩
instance : ZeroT Try.prog 65 [.nilFunc] := ⟨by kernel_rfl⟩
instance : PlainT Try.prog 65 := ⟨by kernel_rfl⟩
instance : CellT Try.prog 67 := ⟨by kernel_rfl⟩
instance : ZeroT Try.prog 67 [.nilFunc] := ⟨by kernel_rfl⟩
instance : PlainT Try.prog 67 := ⟨by kernel_rfl⟩
instance : CellT Try.prog 68 := ⟨by kernel_rfl⟩
instance : ZeroT Try.prog 68 [.nilFunc] := ⟨by kernel_rfl⟩
instance : PlainT Try.prog 68 := ⟨by kernel_rfl⟩
instance : CellT Try.prog 69 := ⟨by kernel_rfl⟩
instance : ZeroT Try.prog 69 [.nilFunc] := ⟨by kernel_rfl⟩
instance : PlainT Try.prog 69 := ⟨by kernel_rfl⟩
instance : CellT Try.prog 70 := ⟨by kernel_rfl⟩
instance : ZeroT Try.prog 70 [.nilFunc] := ⟨by kernel_rfl⟩
instance : PlainT Try.prog 70 := ⟨by kernel_rfl⟩
instance : CellT Try.prog 71 := ⟨by kernel_rfl⟩
instance : ZeroT Try.prog 71 [.nilFunc] := ⟨by kernel_rfl⟩
instance : PlainT Try.prog 71 := ⟨by kernel_rfl⟩
instance : AggT Try.prog 72 2 := ⟨by kernel_rfl⟩
instance : ZeroT Try.prog 72 [.slice none 0 0, .int .i64 0] := ⟨by kernel_rfl⟩
instance : PlainT Try.prog 72 := ⟨by kernel_rfl⟩
instance : FieldT Try.prog 72 0 0 23 := ⟨by kernel_rfl⟩
instance : FieldT Try.prog 72 1 1 3 := ⟨by kernel_rfl⟩
instance : StructT Try.prog 72 [(0, 1), (1, 1)] := ⟨by kernel_rfl⟩
instance : AggT Try.prog 73 2 := ⟨by kernel_rfl⟩
instance : ZeroT Try.prog 73 [.slice none 0 0, .int .i64 0] := ⟨by kernel_rfl⟩
instance : PlainT Try.prog 73 := ⟨by kernel_rfl⟩
instance : FieldT Try.prog 73 0 0 23 := ⟨by kernel_rfl⟩
instance : FieldT Try.prog 73 1 1 3 := ⟨by kernel_rfl⟩
instance : StructT Try.prog 73 [(0, 1), (1, 1)] := ⟨by kernel_rfl⟩
instance : CellT Try.prog 74 := ⟨by kernel_rfl⟩
instance : ZeroT Try.prog 74 [.pointer none] := ⟨by kernel_rfl⟩
instance : MethT Try.prog 74 "stratagem/idastar.visit" 60 true 80 := ⟨by kernel_rfl⟩
instance : PtrT Try.prog 74 := ⟨by kernel_rfl⟩
instance : PlainT Try.prog 74 := ⟨by kernel_rfl⟩
instance : CellT Try.prog 76 := ⟨by kernel_rfl⟩
instance : ZeroT Try.prog 76 [.nilFunc] := ⟨by kernel_rfl⟩
instance : PlainT Try.prog 76 := ⟨by kernel_rfl⟩
instance : CellT Try.prog 77 := ⟨by kernel_rfl⟩
instance : ZeroT Try.prog 77 [.pointer none] := ⟨by kernel_rfl⟩
instance : MethT Try.prog 77 "Applicable" 81 true 127 := ⟨by kernel_rfl⟩
instance : MethT Try.prog 77 "Count" 125 true 127 := ⟨by kernel_rfl⟩
instance : MethT Try.prog 77 "Successors" 73 true 127 := ⟨by kernel_rfl⟩
instance : MethT Try.prog 77 "stratagem/succgen.build" 71 true 127 := ⟨by kernel_rfl⟩
instance : MethT Try.prog 77 "stratagem/succgen.fact" 80 true 127 := ⟨by kernel_rfl⟩
instance : MethT Try.prog 77 "stratagem/succgen.find" 84 true 127 := ⟨by kernel_rfl⟩
instance : PtrT Try.prog 77 := ⟨by kernel_rfl⟩
instance : PlainT Try.prog 77 := ⟨by kernel_rfl⟩
instance : CellT Try.prog 78 := ⟨by kernel_rfl⟩
instance : ZeroT Try.prog 78 [.map none] := ⟨by kernel_rfl⟩
instance : PlainT Try.prog 78 := ⟨by kernel_rfl⟩
instance : AggT Try.prog 79 13 := ⟨by kernel_rfl⟩
instance : ZeroT Try.prog 79 [.slice none 0 0, .slice none 0 0, .slice none 0 0, .slice none 0 0, .pointer none, .pointer none, .int .i64 0, .int .i64 0, .int .i64 0, .int .i64 0, .map none, .slice none 0 0, .slice none 0 0] := ⟨by kernel_rfl⟩
instance : PlainT Try.prog 79 := ⟨by kernel_rfl⟩
instance : FieldT Try.prog 79 0 0 26 := ⟨by kernel_rfl⟩
instance : FieldT Try.prog 79 1 4 32 := ⟨by kernel_rfl⟩
instance : FieldT Try.prog 79 2 5 77 := ⟨by kernel_rfl⟩
instance : FieldT Try.prog 79 3 6 3 := ⟨by kernel_rfl⟩
instance : FieldT Try.prog 79 4 7 3 := ⟨by kernel_rfl⟩
instance : FieldT Try.prog 79 5 8 3 := ⟨by kernel_rfl⟩
instance : FieldT Try.prog 79 6 9 3 := ⟨by kernel_rfl⟩
instance : FieldT Try.prog 79 7 10 78 := ⟨by kernel_rfl⟩
instance : FieldT Try.prog 79 8 11 22 := ⟨by kernel_rfl⟩
instance : FieldT Try.prog 79 9 12 22 := ⟨by kernel_rfl⟩
instance : StructT Try.prog 79 [(0, 4), (4, 1), (5, 1), (6, 1), (7, 1), (8, 1), (9, 1), (10, 1), (11, 1), (12, 1)] := ⟨by kernel_rfl⟩
instance : AggT Try.prog 80 13 := ⟨by kernel_rfl⟩
instance : ZeroT Try.prog 80 [.slice none 0 0, .slice none 0 0, .slice none 0 0, .slice none 0 0, .pointer none, .pointer none, .int .i64 0, .int .i64 0, .int .i64 0, .int .i64 0, .map none, .slice none 0 0, .slice none 0 0] := ⟨by kernel_rfl⟩
instance : PlainT Try.prog 80 := ⟨by kernel_rfl⟩
instance : FieldT Try.prog 80 0 0 26 := ⟨by kernel_rfl⟩
instance : FieldT Try.prog 80 1 4 32 := ⟨by kernel_rfl⟩
instance : FieldT Try.prog 80 2 5 77 := ⟨by kernel_rfl⟩
instance : FieldT Try.prog 80 3 6 3 := ⟨by kernel_rfl⟩
instance : FieldT Try.prog 80 4 7 3 := ⟨by kernel_rfl⟩
instance : FieldT Try.prog 80 5 8 3 := ⟨by kernel_rfl⟩
instance : FieldT Try.prog 80 6 9 3 := ⟨by kernel_rfl⟩
instance : FieldT Try.prog 80 7 10 78 := ⟨by kernel_rfl⟩
instance : FieldT Try.prog 80 8 11 22 := ⟨by kernel_rfl⟩
instance : FieldT Try.prog 80 9 12 22 := ⟨by kernel_rfl⟩
instance : StructT Try.prog 80 [(0, 4), (4, 1), (5, 1), (6, 1), (7, 1), (8, 1), (9, 1), (10, 1), (11, 1), (12, 1)] := ⟨by kernel_rfl⟩
instance : CellT Try.prog 81 := ⟨by kernel_rfl⟩
instance : ZeroT Try.prog 81 [.nilFunc] := ⟨by kernel_rfl⟩
instance : PlainT Try.prog 81 := ⟨by kernel_rfl⟩
instance : CellT Try.prog 82 := ⟨by kernel_rfl⟩
instance : ZeroT Try.prog 82 [.nilFunc] := ⟨by kernel_rfl⟩
instance : PlainT Try.prog 82 := ⟨by kernel_rfl⟩
instance : SliceT Try.prog 84 23 1 24 := ⟨by kernel_rfl⟩
instance : CellT Try.prog 84 := ⟨by kernel_rfl⟩
instance : ZeroT Try.prog 84 [.slice none 0 0] := ⟨by kernel_rfl⟩
instance : PlainT Try.prog 84 := ⟨by kernel_rfl⟩
instance : CellT Try.prog 85 := ⟨by kernel_rfl⟩
instance : ZeroT Try.prog 85 [.nilFunc] := ⟨by kernel_rfl⟩
instance : PlainT Try.prog 85 := ⟨by kernel_rfl⟩
instance : AggT Try.prog 86 3 := ⟨by kernel_rfl⟩
instance : ZeroT Try.prog 86 [.slice none 0 0, .int .i64 0, .int .i64 0] := ⟨by kernel_rfl⟩
instance : PlainT Try.prog 86 := ⟨by kernel_rfl⟩
instance : FieldT Try.prog 86 0 0 23 := ⟨by kernel_rfl⟩
instance : FieldT Try.prog 86 1 1 3 := ⟨by kernel_rfl⟩
instance : FieldT Try.prog 86 2 2 3 := ⟨by kernel_rfl⟩
instance : StructT Try.prog 86 [(0, 1), (1, 1), (2, 1)] := ⟨by kernel_rfl⟩
instance : AggT Try.prog 87 3 := ⟨by kernel_rfl⟩
instance : ZeroT Try.prog 87 [.slice none 0 0, .int .i64 0, .int .i64 0] := ⟨by kernel_rfl⟩
instance : PlainT Try.prog 87 := ⟨by kernel_rfl⟩
instance : FieldT Try.prog 87 0 0 23 := ⟨by kernel_rfl⟩
instance : FieldT Try.prog 87 1 1 3 := ⟨by kernel_rfl⟩
instance : FieldT Try.prog 87 2 2 3 := ⟨by kernel_rfl⟩
instance : StructT Try.prog 87 [(0, 1), (1, 1), (2, 1)] := ⟨by kernel_rfl⟩
instance : AggT Try.prog 88 2 := ⟨by kernel_rfl⟩
instance : ZeroT Try.prog 88 [.int .i64 0, .int .i64 0] := ⟨by kernel_rfl⟩
instance : PlainT Try.prog 88 := ⟨by kernel_rfl⟩
instance : FieldT Try.prog 88 0 0 3 := ⟨by kernel_rfl⟩
instance : FieldT Try.prog 88 1 1 3 := ⟨by kernel_rfl⟩
instance : StructT Try.prog 88 [(0, 1), (1, 1)] := ⟨by kernel_rfl⟩
instance : AggT Try.prog 89 2 := ⟨by kernel_rfl⟩
instance : ZeroT Try.prog 89 [.int .i64 0, .int .i64 0] := ⟨by kernel_rfl⟩
instance : PlainT Try.prog 89 := ⟨by kernel_rfl⟩
instance : FieldT Try.prog 89 0 0 3 := ⟨by kernel_rfl⟩
instance : FieldT Try.prog 89 1 1 3 := ⟨by kernel_rfl⟩
instance : StructT Try.prog 89 [(0, 1), (1, 1)] := ⟨by kernel_rfl⟩
instance : CellT Try.prog 90 := ⟨by kernel_rfl⟩
instance : ZeroT Try.prog 90 [.nilFunc] := ⟨by kernel_rfl⟩
instance : PlainT Try.prog 90 := ⟨by kernel_rfl⟩
instance : CellT Try.prog 91 := ⟨by kernel_rfl⟩
instance : ZeroT Try.prog 91 [.nilFunc] := ⟨by kernel_rfl⟩
instance : PlainT Try.prog 91 := ⟨by kernel_rfl⟩
instance : CellT Try.prog 92 := ⟨by kernel_rfl⟩
instance : ZeroT Try.prog 92 [.nilFunc] := ⟨by kernel_rfl⟩
instance : PlainT Try.prog 92 := ⟨by kernel_rfl⟩
instance : CellT Try.prog 93 := ⟨by kernel_rfl⟩
instance : ZeroT Try.prog 93 [.nilFunc] := ⟨by kernel_rfl⟩
instance : PlainT Try.prog 93 := ⟨by kernel_rfl⟩
instance : CellT Try.prog 94 := ⟨by kernel_rfl⟩
instance : ZeroT Try.prog 94 [.nilFunc] := ⟨by kernel_rfl⟩
instance : PlainT Try.prog 94 := ⟨by kernel_rfl⟩
instance : CellT Try.prog 95 := ⟨by kernel_rfl⟩
instance : ZeroT Try.prog 95 [.nilFunc] := ⟨by kernel_rfl⟩
instance : PlainT Try.prog 95 := ⟨by kernel_rfl⟩
instance : CellT Try.prog 96 := ⟨by kernel_rfl⟩
instance : ZeroT Try.prog 96 [.nilFunc] := ⟨by kernel_rfl⟩
instance : PlainT Try.prog 96 := ⟨by kernel_rfl⟩
instance : AggT Try.prog 97 5 := ⟨by kernel_rfl⟩
instance : ZeroT Try.prog 97 [.slice none 0 0, .slice none 0 0, .slice none 0 0, .slice none 0 0, .slice none 0 0] := ⟨by kernel_rfl⟩
instance : PlainT Try.prog 97 := ⟨by kernel_rfl⟩
instance : FieldT Try.prog 97 0 0 26 := ⟨by kernel_rfl⟩
instance : FieldT Try.prog 97 1 4 22 := ⟨by kernel_rfl⟩
instance : StructT Try.prog 97 [(0, 4), (4, 1)] := ⟨by kernel_rfl⟩
instance : AggT Try.prog 98 5 := ⟨by kernel_rfl⟩
instance : ZeroT Try.prog 98 [.slice none 0 0, .slice none 0 0, .slice none 0 0, .slice none 0 0, .slice none 0 0] := ⟨by kernel_rfl⟩
instance : PlainT Try.prog 98 := ⟨by kernel_rfl⟩
instance : FieldT Try.prog 98 0 0 26 := ⟨by kernel_rfl⟩
instance : FieldT Try.prog 98 1 4 22 := ⟨by kernel_rfl⟩
instance : StructT Try.prog 98 [(0, 4), (4, 1)] := ⟨by kernel_rfl⟩
instance : CellT Try.prog 100 := ⟨by kernel_rfl⟩
instance : ZeroT Try.prog 100 [.nilFunc] := ⟨by kernel_rfl⟩
instance : PlainT Try.prog 100 := ⟨by kernel_rfl⟩
instance : CellT Try.prog 102 := ⟨by kernel_rfl⟩
instance : ZeroT Try.prog 102 [.nilFunc] := ⟨by kernel_rfl⟩
instance : PlainT Try.prog 102 := ⟨by kernel_rfl⟩
instance : CellT Try.prog 103 := ⟨by kernel_rfl⟩
instance : ZeroT Try.prog 103 [.nilFunc] := ⟨by kernel_rfl⟩
instance : PlainT Try.prog 103 := ⟨by kernel_rfl⟩
instance : CellT Try.prog 105 := ⟨by kernel_rfl⟩
instance : ZeroT Try.prog 105 [.nilFunc] := ⟨by kernel_rfl⟩
instance : PlainT Try.prog 105 := ⟨by kernel_rfl⟩
instance : CellT Try.prog 106 := ⟨by kernel_rfl⟩
instance : ZeroT Try.prog 106 [.nilIface] := ⟨by kernel_rfl⟩
instance : IfaceT Try.prog 106 := ⟨by kernel_rfl⟩
instance : CellT Try.prog 107 := ⟨by kernel_rfl⟩
instance : ZeroT Try.prog 107 [.nilIface] := ⟨by kernel_rfl⟩
instance : IfaceT Try.prog 107 := ⟨by kernel_rfl⟩
instance : AggT Try.prog 108 5 := ⟨by kernel_rfl⟩
instance : ZeroT Try.prog 108 [.slice none 0 0, .slice none 0 0, .slice none 0 0, .slice none 0 0, .nilIface] := ⟨by kernel_rfl⟩
instance : PlainT Try.prog 108 := ⟨by kernel_rfl⟩
instance : FieldT Try.prog 108 0 0 26 := ⟨by kernel_rfl⟩
instance : FieldT Try.prog 108 1 4 107 := ⟨by kernel_rfl⟩
instance : StructT Try.prog 108 [(0, 4), (4, 1)] := ⟨by kernel_rfl⟩
instance : AggT Try.prog 109 5 := ⟨by kernel_rfl⟩
instance : ZeroT Try.prog 109 [.slice none 0 0, .slice none 0 0, .slice none 0 0, .slice none 0 0, .nilIface] := ⟨by kernel_rfl⟩
instance : PlainT Try.prog 109 := ⟨by kernel_rfl⟩
instance : FieldT Try.prog 109 0 0 26 := ⟨by kernel_rfl⟩
instance : FieldT Try.prog 109 1 4 107 := ⟨by kernel_rfl⟩
instance : StructT Try.prog 109 [(0, 4), (4, 1)] := ⟨by kernel_rfl⟩
instance : CellT Try.prog 111 := ⟨by kernel_rfl⟩
instance : ZeroT Try.prog 111 [.nilFunc] := ⟨by kernel_rfl⟩
instance : PlainT Try.prog 111 := ⟨by kernel_rfl⟩
instance : CellT Try.prog 112 := ⟨by kernel_rfl⟩
instance : ZeroT Try.prog 112 [.nilFunc] := ⟨by kernel_rfl⟩
instance : PlainT Try.prog 112 := ⟨by kernel_rfl⟩
instance : CellT Try.prog 113 := ⟨by kernel_rfl⟩
instance : ZeroT Try.prog 113 [.nilFunc] := ⟨by kernel_rfl⟩
instance : PlainT Try.prog 113 := ⟨by kernel_rfl⟩
instance : CellT Try.prog 114 := ⟨by kernel_rfl⟩
instance : ZeroT Try.prog 114 [.nilFunc] := ⟨by kernel_rfl⟩
instance : PlainT Try.prog 114 := ⟨by kernel_rfl⟩
instance : CellT Try.prog 115 := ⟨by kernel_rfl⟩
instance : ZeroT Try.prog 115 [.nilFunc] := ⟨by kernel_rfl⟩
instance : PlainT Try.prog 115 := ⟨by kernel_rfl⟩
instance : CellT Try.prog 116 := ⟨by kernel_rfl⟩
instance : ZeroT Try.prog 116 [.nilFunc] := ⟨by kernel_rfl⟩
instance : PlainT Try.prog 116 := ⟨by kernel_rfl⟩
instance : SliceT Try.prog 117 22 1 24 := ⟨by kernel_rfl⟩
instance : CellT Try.prog 117 := ⟨by kernel_rfl⟩
instance : ZeroT Try.prog 117 [.slice none 0 0] := ⟨by kernel_rfl⟩
instance : PlainT Try.prog 117 := ⟨by kernel_rfl⟩
instance : CellT Try.prog 118 := ⟨by kernel_rfl⟩
instance : ZeroT Try.prog 118 [.nilFunc] := ⟨by kernel_rfl⟩
instance : PlainT Try.prog 118 := ⟨by kernel_rfl⟩
instance : SliceT Try.prog 119 122 3 24 := ⟨by kernel_rfl⟩
instance : CellT Try.prog 119 := ⟨by kernel_rfl⟩
instance : ZeroT Try.prog 119 [.slice none 0 0] := ⟨by kernel_rfl⟩
instance : PlainT Try.prog 119 := ⟨by kernel_rfl⟩
instance : CellT Try.prog 120 := ⟨by kernel_rfl⟩
instance : ZeroT Try.prog 120 [.nilFunc] := ⟨by kernel_rfl⟩
instance : PlainT Try.prog 120 := ⟨by kernel_rfl⟩
instance : AggT Try.prog 121 3 := ⟨by kernel_rfl⟩
instance : ZeroT Try.prog 121 [.int .i64 0, .int .i64 0, .int .i64 0] := ⟨by kernel_rfl⟩
instance : PlainT Try.prog 121 := ⟨by kernel_rfl⟩
instance : FieldT Try.prog 121 0 0 3 := ⟨by kernel_rfl⟩
instance : FieldT Try.prog 121 1 1 3 := ⟨by kernel_rfl⟩
instance : FieldT Try.prog 121 2 2 3 := ⟨by kernel_rfl⟩
instance : StructT Try.prog 121 [(0, 1), (1, 1), (2, 1)] := ⟨by kernel_rfl⟩
instance : AggT Try.prog 122 3 := ⟨by kernel_rfl⟩
instance : ZeroT Try.prog 122 [.int .i64 0, .int .i64 0, .int .i64 0] := ⟨by kernel_rfl⟩
instance : PlainT Try.prog 122 := ⟨by kernel_rfl⟩
instance : FieldT Try.prog 122 0 0 3 := ⟨by kernel_rfl⟩
instance : FieldT Try.prog 122 1 1 3 := ⟨by kernel_rfl⟩
instance : FieldT Try.prog 122 2 2 3 := ⟨by kernel_rfl⟩
instance : StructT Try.prog 122 [(0, 1), (1, 1), (2, 1)] := ⟨by kernel_rfl⟩
instance : CellT Try.prog 123 := ⟨by kernel_rfl⟩
instance : ZeroT Try.prog 123 [.nilFunc] := ⟨by kernel_rfl⟩
instance : PlainT Try.prog 123 := ⟨by kernel_rfl⟩
instance : CellT Try.prog 124 := ⟨by kernel_rfl⟩
instance : ZeroT Try.prog 124 [.nilFunc] := ⟨by kernel_rfl⟩
instance : PlainT Try.prog 124 := ⟨by kernel_rfl⟩
instance : CellT Try.prog 125 := ⟨by kernel_rfl⟩
instance : ZeroT Try.prog 125 [.pointer none] := ⟨by kernel_rfl⟩
instance : MethT Try.prog 125 "stratagem/succgen.collect" 85 true 141 := ⟨by kernel_rfl⟩
instance : PtrT Try.prog 125 := ⟨by kernel_rfl⟩
instance : PlainT Try.prog 125 := ⟨by kernel_rfl⟩
instance : AggT Try.prog 126 5 := ⟨by kernel_rfl⟩
instance : ZeroT Try.prog 126 [.slice none 0 0, .slice none 0 0, .slice none 0 0, .slice none 0 0, .pointer none] := ⟨by kernel_rfl⟩
instance : PlainT Try.prog 126 := ⟨by kernel_rfl⟩
instance : FieldT Try.prog 126 0 0 26 := ⟨by kernel_rfl⟩
instance : FieldT Try.prog 126 1 4 125 := ⟨by kernel_rfl⟩
instance : StructT Try.prog 126 [(0, 4), (4, 1)] := ⟨by kernel_rfl⟩
instance : AggT Try.prog 127 5 := ⟨by kernel_rfl⟩
instance : ZeroT Try.prog 127 [.slice none 0 0, .slice none 0 0, .slice none 0 0, .slice none 0 0, .pointer none] := ⟨by kernel_rfl⟩
instance : PlainT Try.prog 127 := ⟨by kernel_rfl⟩
instance : FieldT Try.prog 127 0 0 26 := ⟨by kernel_rfl⟩
instance : FieldT Try.prog 127 1 4 125 := ⟨by kernel_rfl⟩
instance : StructT Try.prog 127 [(0, 4), (4, 1)] := ⟨by kernel_rfl⟩
instance : CellT Try.prog 128 := ⟨by kernel_rfl⟩
instance : ZeroT Try.prog 128 [.nilFunc] := ⟨by kernel_rfl⟩
instance : PlainT Try.prog 128 := ⟨by kernel_rfl⟩
instance : CellT Try.prog 129 := ⟨by kernel_rfl⟩
instance : ZeroT Try.prog 129 [.nilFunc] := ⟨by kernel_rfl⟩
instance : PlainT Try.prog 129 := ⟨by kernel_rfl⟩
instance : SliceT Try.prog 130 133 2 32 := ⟨by kernel_rfl⟩
instance : CellT Try.prog 130 := ⟨by kernel_rfl⟩
instance : ZeroT Try.prog 130 [.slice none 0 0] := ⟨by kernel_rfl⟩
instance : PlainT Try.prog 130 := ⟨by kernel_rfl⟩
instance : CellT Try.prog 131 := ⟨by kernel_rfl⟩
instance : ZeroT Try.prog 131 [.nilFunc] := ⟨by kernel_rfl⟩
instance : PlainT Try.prog 131 := ⟨by kernel_rfl⟩
instance : AggT Try.prog 132 2 := ⟨by kernel_rfl⟩
instance : ZeroT Try.prog 132 [.int .i64 0, .slice none 0 0] := ⟨by kernel_rfl⟩
instance : PlainT Try.prog 132 := ⟨by kernel_rfl⟩
instance : FieldT Try.prog 132 0 0 3 := ⟨by kernel_rfl⟩
instance : FieldT Try.prog 132 1 1 22 := ⟨by kernel_rfl⟩
instance : StructT Try.prog 132 [(0, 1), (1, 1)] := ⟨by kernel_rfl⟩
instance : AggT Try.prog 133 2 := ⟨by kernel_rfl⟩
instance : ZeroT Try.prog 133 [.int .i64 0, .slice none 0 0] := ⟨by kernel_rfl⟩
instance : PlainT Try.prog 133 := ⟨by kernel_rfl⟩
instance : FieldT Try.prog 133 0 0 3 := ⟨by kernel_rfl⟩
instance : FieldT Try.prog 133 1 1 22 := ⟨by kernel_rfl⟩
instance : StructT Try.prog 133 [(0, 1), (1, 1)] := ⟨by kernel_rfl⟩
instance : CellT Try.prog 134 := ⟨by kernel_rfl⟩
instance : ZeroT Try.prog 134 [.nilFunc] := ⟨by kernel_rfl⟩
instance : PlainT Try.prog 134 := ⟨by kernel_rfl⟩
instance : CellT Try.prog 135 := ⟨by kernel_rfl⟩
instance : ZeroT Try.prog 135 [.nilFunc] := ⟨by kernel_rfl⟩
instance : PlainT Try.prog 135 := ⟨by kernel_rfl⟩
instance : CellT Try.prog 136 := ⟨by kernel_rfl⟩
instance : ZeroT Try.prog 136 [.nilFunc] := ⟨by kernel_rfl⟩
instance : PlainT Try.prog 136 := ⟨by kernel_rfl⟩
instance : CellT Try.prog 138 := ⟨by kernel_rfl⟩
instance : ZeroT Try.prog 138 [.nilFunc] := ⟨by kernel_rfl⟩
instance : PlainT Try.prog 138 := ⟨by kernel_rfl⟩
instance : SliceT Try.prog 139 125 1 8 := ⟨by kernel_rfl⟩
instance : CellT Try.prog 139 := ⟨by kernel_rfl⟩
instance : ZeroT Try.prog 139 [.slice none 0 0] := ⟨by kernel_rfl⟩
instance : PlainT Try.prog 139 := ⟨by kernel_rfl⟩
instance : AggT Try.prog 140 5 := ⟨by kernel_rfl⟩
instance : ZeroT Try.prog 140 [.slice none 0 0, .bool false, .int .i64 0, .slice none 0 0, .pointer none] := ⟨by kernel_rfl⟩
instance : PlainT Try.prog 140 := ⟨by kernel_rfl⟩
instance : FieldT Try.prog 140 0 0 22 := ⟨by kernel_rfl⟩
instance : FieldT Try.prog 140 1 1 4 := ⟨by kernel_rfl⟩
instance : FieldT Try.prog 140 2 2 3 := ⟨by kernel_rfl⟩
instance : FieldT Try.prog 140 3 3 139 := ⟨by kernel_rfl⟩
instance : FieldT Try.prog 140 4 4 125 := ⟨by kernel_rfl⟩
instance : StructT Try.prog 140 [(0, 1), (1, 1), (2, 1), (3, 1), (4, 1)] := ⟨by kernel_rfl⟩
instance : AggT Try.prog 141 5 := ⟨by kernel_rfl⟩
instance : ZeroT Try.prog 141 [.slice none 0 0, .bool false, .int .i64 0, .slice none 0 0, .pointer none] := ⟨by kernel_rfl⟩
instance : PlainT Try.prog 141 := ⟨by kernel_rfl⟩
instance : FieldT Try.prog 141 0 0 22 := ⟨by kernel_rfl⟩
instance : FieldT Try.prog 141 1 1 4 := ⟨by kernel_rfl⟩
instance : FieldT Try.prog 141 2 2 3 := ⟨by kernel_rfl⟩
instance : FieldT Try.prog 141 3 3 139 := ⟨by kernel_rfl⟩
instance : FieldT Try.prog 141 4 4 125 := ⟨by kernel_rfl⟩
instance : StructT Try.prog 141 [(0, 1), (1, 1), (2, 1), (3, 1), (4, 1)] := ⟨by kernel_rfl⟩
instance : CellT Try.prog 142 := ⟨by kernel_rfl⟩
instance : ZeroT Try.prog 142 [.nilFunc] := ⟨by kernel_rfl⟩
instance : PlainT Try.prog 142 := ⟨by kernel_rfl⟩
instance : CellT Try.prog 143 := ⟨by kernel_rfl⟩
instance : ZeroT Try.prog 143 [.nilFunc] := ⟨by kernel_rfl⟩
instance : PlainT Try.prog 143 := ⟨by kernel_rfl⟩
instance : CellT Try.prog 145 := ⟨by kernel_rfl⟩
instance : ZeroT Try.prog 145 [.nilFunc] := ⟨by kernel_rfl⟩
instance : PlainT Try.prog 145 := ⟨by kernel_rfl⟩
instance : SliceT Try.prog 146 4 1 1 := ⟨by kernel_rfl⟩
instance : CellT Try.prog 146 := ⟨by kernel_rfl⟩
instance : ZeroT Try.prog 146 [.slice none 0 0] := ⟨by kernel_rfl⟩
instance : PlainT Try.prog 146 := ⟨by kernel_rfl⟩
instance : CellT Try.prog 147 := ⟨by kernel_rfl⟩
instance : ZeroT Try.prog 147 [.nilFunc] := ⟨by kernel_rfl⟩
instance : PlainT Try.prog 147 := ⟨by kernel_rfl⟩
instance : CellT Try.prog 148 := ⟨by kernel_rfl⟩
instance : ZeroT Try.prog 148 [.nilFunc] := ⟨by kernel_rfl⟩
instance : PlainT Try.prog 148 := ⟨by kernel_rfl⟩
instance : CellT Try.prog 149 := ⟨by kernel_rfl⟩
instance : ZeroT Try.prog 149 [.nilFunc] := ⟨by kernel_rfl⟩
instance : PlainT Try.prog 149 := ⟨by kernel_rfl⟩
instance : CellT Try.prog 150 := ⟨by kernel_rfl⟩
instance : ZeroT Try.prog 150 [.nilFunc] := ⟨by kernel_rfl⟩
instance : PlainT Try.prog 150 := ⟨by kernel_rfl⟩
instance : CellT Try.prog 151 := ⟨by kernel_rfl⟩
instance : ZeroT Try.prog 151 [.int .u64 0] := ⟨by kernel_rfl⟩
instance : PlainT Try.prog 151 := ⟨by kernel_rfl⟩
instance : CellT Try.prog 152 := ⟨by kernel_rfl⟩
instance : ZeroT Try.prog 152 [.nilFunc] := ⟨by kernel_rfl⟩
instance : PlainT Try.prog 152 := ⟨by kernel_rfl⟩
instance : CellT Try.prog 153 := ⟨by kernel_rfl⟩
instance : ZeroT Try.prog 153 [.int .i64 0] := ⟨by kernel_rfl⟩
instance : PlainT Try.prog 153 := ⟨by kernel_rfl⟩
instance : CellT Try.prog 155 := ⟨by kernel_rfl⟩
instance : ZeroT Try.prog 155 [.nilFunc] := ⟨by kernel_rfl⟩
instance : PlainT Try.prog 155 := ⟨by kernel_rfl⟩
instance : CellT Try.prog 156 := ⟨by kernel_rfl⟩
instance : ZeroT Try.prog 156 [.nilFunc] := ⟨by kernel_rfl⟩
instance : PlainT Try.prog 156 := ⟨by kernel_rfl⟩
instance : CellT Try.prog 157 := ⟨by kernel_rfl⟩
instance : ZeroT Try.prog 157 [.nilFunc] := ⟨by kernel_rfl⟩
instance : PlainT Try.prog 157 := ⟨by kernel_rfl⟩
instance : CellT Try.prog 158 := ⟨by kernel_rfl⟩
instance : ZeroT Try.prog 158 [.nilFunc] := ⟨by kernel_rfl⟩
instance : PlainT Try.prog 158 := ⟨by kernel_rfl⟩
instance : CellT Try.prog 159 := ⟨by kernel_rfl⟩
instance : ZeroT Try.prog 159 [.nilFunc] := ⟨by kernel_rfl⟩
instance : PlainT Try.prog 159 := ⟨by kernel_rfl⟩
instance : CellT Try.prog 160 := ⟨by kernel_rfl⟩
instance : ZeroT Try.prog 160 [.nilFunc] := ⟨by kernel_rfl⟩
instance : PlainT Try.prog 160 := ⟨by kernel_rfl⟩
instance : CellT Try.prog 161 := ⟨by kernel_rfl⟩
instance : ZeroT Try.prog 161 [.int .u32 0] := ⟨by kernel_rfl⟩
instance : PlainT Try.prog 161 := ⟨by kernel_rfl⟩
instance : CellT Try.prog 162 := ⟨by kernel_rfl⟩
instance : ZeroT Try.prog 162 [.nilFunc] := ⟨by kernel_rfl⟩
instance : PlainT Try.prog 162 := ⟨by kernel_rfl⟩
instance : CellT Try.prog 163 := ⟨by kernel_rfl⟩
instance : ZeroT Try.prog 163 [.int .u64 0] := ⟨by kernel_rfl⟩
instance : PlainT Try.prog 163 := ⟨by kernel_rfl⟩
instance : CellT Try.prog 164 := ⟨by kernel_rfl⟩
instance : ZeroT Try.prog 164 [.int .u64 0] := ⟨by kernel_rfl⟩
instance : PlainT Try.prog 164 := ⟨by kernel_rfl⟩
instance : CellT Try.prog 165 := ⟨by kernel_rfl⟩
instance : ZeroT Try.prog 165 [.nilFunc] := ⟨by kernel_rfl⟩
instance : PlainT Try.prog 165 := ⟨by kernel_rfl⟩
instance : CellT Try.prog 166 := ⟨by kernel_rfl⟩
instance : ZeroT Try.prog 166 [.nilFunc] := ⟨by kernel_rfl⟩
instance : PlainT Try.prog 166 := ⟨by kernel_rfl⟩
instance : CellT Try.prog 167 := ⟨by kernel_rfl⟩
instance : ZeroT Try.prog 167 [.nilFunc] := ⟨by kernel_rfl⟩
instance : PlainT Try.prog 167 := ⟨by kernel_rfl⟩
instance : CellT Try.prog 168 := ⟨by kernel_rfl⟩
instance : ZeroT Try.prog 168 [.pointer none] := ⟨by kernel_rfl⟩
instance : PtrT Try.prog 168 := ⟨by kernel_rfl⟩
instance : PlainT Try.prog 168 := ⟨by kernel_rfl⟩
instance : CellT Try.prog 169 := ⟨by kernel_rfl⟩
instance : ZeroT Try.prog 169 [.nilFunc] := ⟨by kernel_rfl⟩
instance : PlainT Try.prog 169 := ⟨by kernel_rfl⟩
instance : CellT Try.prog 170 := ⟨by kernel_rfl⟩
instance : ZeroT Try.prog 170 [.pointer none] := ⟨by kernel_rfl⟩
instance : MethT Try.prog 170 "Next" 102 true 164 := ⟨by kernel_rfl⟩
instance : PtrT Try.prog 170 := ⟨by kernel_rfl⟩
instance : PlainT Try.prog 170 := ⟨by kernel_rfl⟩
instance : CellT Try.prog 172 := ⟨by kernel_rfl⟩
instance : ZeroT Try.prog 172 [.nilFunc] := ⟨by kernel_rfl⟩
instance : PlainT Try.prog 172 := ⟨by kernel_rfl⟩
instance : CellT Try.prog 173 := ⟨by kernel_rfl⟩
instance : ZeroT Try.prog 173 [.nilFunc] := ⟨by kernel_rfl⟩
instance : PlainT Try.prog 173 := ⟨by kernel_rfl⟩
instance : AggT Try.prog 174 4 := ⟨by kernel_rfl⟩
instance : ZeroT Try.prog 174 [.pointer none, .pointer none, .pointer none, .string ByteArray.empty] := ⟨by kernel_rfl⟩
instance : PlainT Try.prog 174 := ⟨by kernel_rfl⟩
instance : FieldT Try.prog 174 0 0 17 := ⟨by kernel_rfl⟩
instance : FieldT Try.prog 174 1 1 17 := ⟨by kernel_rfl⟩
instance : FieldT Try.prog 174 2 2 17 := ⟨by kernel_rfl⟩
instance : FieldT Try.prog 174 3 3 9 := ⟨by kernel_rfl⟩
instance : StructT Try.prog 174 [(0, 1), (1, 1), (2, 1), (3, 1)] := ⟨by kernel_rfl⟩
instance : AggT Try.prog 175 4 := ⟨by kernel_rfl⟩
instance : ZeroT Try.prog 175 [.pointer none, .pointer none, .pointer none, .string ByteArray.empty] := ⟨by kernel_rfl⟩
instance : PlainT Try.prog 175 := ⟨by kernel_rfl⟩
instance : FieldT Try.prog 175 0 0 17 := ⟨by kernel_rfl⟩
instance : FieldT Try.prog 175 1 1 17 := ⟨by kernel_rfl⟩
instance : FieldT Try.prog 175 2 2 17 := ⟨by kernel_rfl⟩
instance : FieldT Try.prog 175 3 3 9 := ⟨by kernel_rfl⟩
instance : StructT Try.prog 175 [(0, 1), (1, 1), (2, 1), (3, 1)] := ⟨by kernel_rfl⟩
instance : AggT Try.prog 176 0 := ⟨by kernel_rfl⟩
instance : ZeroT Try.prog 176 [] := ⟨by kernel_rfl⟩
instance : PlainT Try.prog 176 := ⟨by kernel_rfl⟩
instance : AggT Try.prog 177 0 := ⟨by kernel_rfl⟩
instance : ZeroT Try.prog 177 [] := ⟨by kernel_rfl⟩
instance : PlainT Try.prog 177 := ⟨by kernel_rfl⟩
instance : StructT Try.prog 177 [(0, 0)] := ⟨by kernel_rfl⟩
instance : AggT Try.prog 178 0 := ⟨by kernel_rfl⟩
instance : ZeroT Try.prog 178 [] := ⟨by kernel_rfl⟩
instance : PlainT Try.prog 178 := ⟨by kernel_rfl⟩
instance : StructT Try.prog 178 [(0, 0)] := ⟨by kernel_rfl⟩
instance : CellT Try.prog 179 := ⟨by kernel_rfl⟩
instance : ZeroT Try.prog 179 [.nilFunc] := ⟨by kernel_rfl⟩
instance : PlainT Try.prog 179 := ⟨by kernel_rfl⟩
instance : CellT Try.prog 180 := ⟨by kernel_rfl⟩
instance : ZeroT Try.prog 180 [.int .u8 0] := ⟨by kernel_rfl⟩
instance : PlainT Try.prog 180 := ⟨by kernel_rfl⟩
instance : CellT Try.prog 181 := ⟨by kernel_rfl⟩
instance : ZeroT Try.prog 181 [.int .u8 0] := ⟨by kernel_rfl⟩
instance : PlainT Try.prog 181 := ⟨by kernel_rfl⟩
instance : CellT Try.prog 182 := ⟨by kernel_rfl⟩
instance : ZeroT Try.prog 182 [.nilFunc] := ⟨by kernel_rfl⟩
instance : PlainT Try.prog 182 := ⟨by kernel_rfl⟩
instance : CellT Try.prog 183 := ⟨by kernel_rfl⟩
instance : ZeroT Try.prog 183 [.pointer none] := ⟨by kernel_rfl⟩
instance : PtrT Try.prog 183 := ⟨by kernel_rfl⟩
instance : PlainT Try.prog 183 := ⟨by kernel_rfl⟩
instance : CellT Try.prog 184 := ⟨by kernel_rfl⟩
instance : ZeroT Try.prog 184 [.int .i32 0] := ⟨by kernel_rfl⟩
instance : PlainT Try.prog 184 := ⟨by kernel_rfl⟩
instance : CellT Try.prog 185 := ⟨by kernel_rfl⟩
instance : ZeroT Try.prog 185 [.int .i32 0] := ⟨by kernel_rfl⟩
instance : PlainT Try.prog 185 := ⟨by kernel_rfl⟩
instance : AggT Try.prog 186 11 := ⟨by kernel_rfl⟩
instance : ZeroT Try.prog 186 [.int .u64 0, .int .u64 0, .int .u32 0, .int .u8 0, .int .u8 0, .int .u8 0, .int .u8 0, .nilFunc, .pointer none, .int .i32 0, .int .i32 0] := ⟨by kernel_rfl⟩
instance : PlainT Try.prog 186 := ⟨by kernel_rfl⟩
instance : FieldT Try.prog 186 0 0 12 := ⟨by kernel_rfl⟩
instance : FieldT Try.prog 186 1 1 12 := ⟨by kernel_rfl⟩
instance : FieldT Try.prog 186 2 2 161 := ⟨by kernel_rfl⟩
instance : FieldT Try.prog 186 3 3 180 := ⟨by kernel_rfl⟩
instance : FieldT Try.prog 186 4 4 5 := ⟨by kernel_rfl⟩
instance : FieldT Try.prog 186 5 5 5 := ⟨by kernel_rfl⟩
instance : FieldT Try.prog 186 6 6 181 := ⟨by kernel_rfl⟩
instance : FieldT Try.prog 186 7 7 182 := ⟨by kernel_rfl⟩
instance : FieldT Try.prog 186 8 8 183 := ⟨by kernel_rfl⟩
instance : FieldT Try.prog 186 9 9 184 := ⟨by kernel_rfl⟩
instance : FieldT Try.prog 186 10 10 185 := ⟨by kernel_rfl⟩
instance : StructT Try.prog 186 [(0, 1), (1, 1), (2, 1), (3, 1), (4, 1), (5, 1), (6, 1), (7, 1), (8, 1), (9, 1), (10, 1)] := ⟨by kernel_rfl⟩
instance : AggT Try.prog 187 11 := ⟨by kernel_rfl⟩
instance : ZeroT Try.prog 187 [.int .u64 0, .int .u64 0, .int .u32 0, .int .u8 0, .int .u8 0, .int .u8 0, .int .u8 0, .nilFunc, .pointer none, .int .i32 0, .int .i32 0] := ⟨by kernel_rfl⟩
instance : PlainT Try.prog 187 := ⟨by kernel_rfl⟩
instance : FieldT Try.prog 187 0 0 12 := ⟨by kernel_rfl⟩
instance : FieldT Try.prog 187 1 1 12 := ⟨by kernel_rfl⟩
instance : FieldT Try.prog 187 2 2 161 := ⟨by kernel_rfl⟩
instance : FieldT Try.prog 187 3 3 180 := ⟨by kernel_rfl⟩
instance : FieldT Try.prog 187 4 4 5 := ⟨by kernel_rfl⟩
instance : FieldT Try.prog 187 5 5 5 := ⟨by kernel_rfl⟩
instance : FieldT Try.prog 187 6 6 181 := ⟨by kernel_rfl⟩
instance : FieldT Try.prog 187 7 7 182 := ⟨by kernel_rfl⟩
instance : FieldT Try.prog 187 8 8 183 := ⟨by kernel_rfl⟩
instance : FieldT Try.prog 187 9 9 184 := ⟨by kernel_rfl⟩
instance : FieldT Try.prog 187 10 10 185 := ⟨by kernel_rfl⟩
instance : StructT Try.prog 187 [(0, 1), (1, 1), (2, 1), (3, 1), (4, 1), (5, 1), (6, 1), (7, 1), (8, 1), (9, 1), (10, 1)] := ⟨by kernel_rfl⟩
instance : CellT Try.prog 188 := ⟨by kernel_rfl⟩
instance : ZeroT Try.prog 188 [.nilFunc] := ⟨by kernel_rfl⟩
instance : PlainT Try.prog 188 := ⟨by kernel_rfl⟩
instance : CellT Try.prog 189 := ⟨by kernel_rfl⟩
instance : ZeroT Try.prog 189 [.nilFunc] := ⟨by kernel_rfl⟩
instance : PlainT Try.prog 189 := ⟨by kernel_rfl⟩
instance : CellT Try.prog 190 := ⟨by kernel_rfl⟩
instance : ZeroT Try.prog 190 [.pointer none] := ⟨by kernel_rfl⟩
instance : PlainT Try.prog 190 := ⟨by kernel_rfl⟩
-- 3 stratagem/stratagemlaw50.IdastarErrors
instance : CallT Try.prog 3 := ⟨by kernel_rfl⟩
-- 4 stratagem/stratagemlaw50.IdastarTables
instance : CallT Try.prog 4 := ⟨by kernel_rfl⟩
-- 5 stratagem/stratagemlaw50.IdastarRounds
instance : CallT Try.prog 5 := ⟨by kernel_rfl⟩
-- 6 stratagem/stratagemlaw50.IdastarBounds
instance : CallT Try.prog 6 := ⟨by kernel_rfl⟩
-- 7 stratagem/stratagemlaw50.IdastarPaths
instance : CallT Try.prog 7 := ⟨by kernel_rfl⟩
-- 8 stratagem/stratagemlaw50.IdastarAnyTable
instance : CallT Try.prog 8 := ⟨by kernel_rfl⟩
-- 9 stratagem/stratagemlaw50.fits
instance : CallT Try.prog 9 := ⟨by kernel_rfl⟩
-- 10 stratagem/stratagemlaw50.awake
instance : CallT Try.prog 10 := ⟨by kernel_rfl⟩
-- 11 stratagem/estimate.Blind
instance : CallT Try.prog 11 := ⟨by kernel_rfl⟩
-- 12 stratagem/idastar.Search
instance : CallT Try.prog 12 := ⟨by kernel_rfl⟩
-- 13 stratagem/idastar.Rounds
instance : CallT Try.prog 13 := ⟨by kernel_rfl⟩
-- 14 stratagem/stratagembase.Good
instance : CallT Try.prog 14 := ⟨by kernel_rfl⟩
-- 15 stratagem/stratagembase.Num
instance : CallT Try.prog 15 := ⟨by kernel_rfl⟩
-- 16 stratagem/task.Check
instance : CallT Try.prog 16 := ⟨by kernel_rfl⟩
-- 17 stratagem/stratagembase.Tasks
instance : CallT Try.prog 17 := ⟨by kernel_rfl⟩
-- 18 stratagem/stratagembase.Is
instance : CallT Try.prog 18 := ⟨by kernel_rfl⟩
-- 19 stratagem/stratagemref48.Same
instance : CallT Try.prog 19 := ⟨by kernel_rfl⟩
-- 20 stratagem/estimate.Table
instance : CallT Try.prog 20 := ⟨by kernel_rfl⟩
-- 21 stratagem/stratagemlaw50.below
instance : CallT Try.prog 21 := ⟨by kernel_rfl⟩
-- 22 stratagem/stratagembase.Result
instance : CallT Try.prog 22 := ⟨by kernel_rfl⟩
-- 23 stratagem/stratagembase.Best
instance : CallT Try.prog 23 := ⟨by kernel_rfl⟩
-- 24 stratagem/stratagembase.Many
instance : CallT Try.prog 24 := ⟨by kernel_rfl⟩
-- 25 stratagem/stratagembase.Ints
instance : CallT Try.prog 25 := ⟨by kernel_rfl⟩
-- 26 stratagem/stratagemref50.Rounds
instance : CallT Try.prog 26 := ⟨by kernel_rfl⟩
-- 27 stratagem/stratagembase.Rank
instance : CallT Try.prog 27 := ⟨by kernel_rfl⟩
-- 28 stratagem/stratagembase.Apply
instance : CallT Try.prog 28 := ⟨by kernel_rfl⟩
-- 29 stratagem/task.Solves
instance : CallT Try.prog 29 := ⟨by kernel_rfl⟩
-- 30 stratagem/stratagembase.Small
instance : CallT Try.prog 30 := ⟨by kernel_rfl⟩
-- 31 stratagem/stratagemlaw50.example
instance : CallT Try.prog 31 := ⟨by kernel_rfl⟩
-- 32 stratagem/estimate.made
instance : CallT Try.prog 32 := ⟨by kernel_rfl⟩
-- 33 stratagem/estimate.facts
instance : CallT Try.prog 33 := ⟨by kernel_rfl⟩
-- 34 stratagem/idastar.run
instance : CallT Try.prog 34 := ⟨by kernel_rfl⟩
-- 35 stratagem/stratagembase.State
instance : CallT Try.prog 35 := ⟨by kernel_rfl⟩
-- 36 stratagem/stratagembase.Proper
instance : CallT Try.prog 36 := ⟨by kernel_rfl⟩
-- 37 stratagem/stratagembase.operator
instance : CallT Try.prog 37 := ⟨by kernel_rfl⟩
-- 38 stratagem/task.large
instance : CallT Try.prog 38 := ⟨by kernel_rfl⟩
-- 39 stratagem/task.Proper
instance : CallT Try.prog 39 := ⟨by kernel_rfl⟩
-- 40 stratagem/task.conditions
instance : CallT Try.prog 40 := ⟨by kernel_rfl⟩
-- 41 stratagem/task.Facts
instance : CallT Try.prog 41 := ⟨by kernel_rfl⟩
-- 42 stratagem/task.named
instance : CallT Try.prog 42 := ⟨by kernel_rfl⟩
-- 43 stratagem/stratagembase.Facts
instance : CallT Try.prog 43 := ⟨by kernel_rfl⟩
-- 44 stratagem/stratagembase.Effects
instance : CallT Try.prog 44 := ⟨by kernel_rfl⟩
-- 45 stratagem/task.States
instance : CallT Try.prog 45 := ⟨by kernel_rfl⟩
-- 46 slices.ContainsFunc[[]int,int]
instance : CallT Try.prog 46 := ⟨by kernel_rfl⟩
-- 47 stratagem/estimate.Table$1
instance : CallT Try.prog 47 := ⟨by kernel_rfl⟩
-- 48 stratagem/estimate.copied
instance : CallT Try.prog 48 := ⟨by kernel_rfl⟩
-- 49 slices.Clone[[]int,int]
instance : CallT Try.prog 49 := ⟨by kernel_rfl⟩
-- 50 stratagem/stratagembase.Distances
instance : CallT Try.prog 50 := ⟨by kernel_rfl⟩
-- 51 stratagem/stratagembase.Cost
instance : CallT Try.prog 51 := ⟨by kernel_rfl⟩
-- 52 stratagem/stratagemref50.Round
instance : CallT Try.prog 52 := ⟨by kernel_rfl⟩
-- 53 stratagem/stratagembase.Holds
instance : CallT Try.prog 53 := ⟨by kernel_rfl⟩
-- 54 stratagem/task.Run
instance : CallT Try.prog 54 := ⟨by kernel_rfl⟩
-- 55 stratagem/task.Holds
instance : CallT Try.prog 55 := ⟨by kernel_rfl⟩
-- 56 slices.Clone[[]stratagem/api.Fact,stratagem/api.Fact]
instance : CallT Try.prog 56 := ⟨by kernel_rfl⟩
-- 57 (*stratagem/estimate.Estimate).For
instance : CallT Try.prog 57 := ⟨by kernel_rfl⟩
-- 58 stratagem/succgen.New
instance : CallT Try.prog 58 := ⟨by kernel_rfl⟩
-- 59 (*stratagem/estimate.Estimate).Value
instance : CallT Try.prog 59 := ⟨by kernel_rfl⟩
-- 60 (*stratagem/idastar.search).visit
instance : CallT Try.prog 60 := ⟨by kernel_rfl⟩
-- 61 slices.ContainsFunc[[][]stratagem/api.Fact,[]stratagem/api.Fact]
instance : CallT Try.prog 61 := ⟨by kernel_rfl⟩
-- 62 stratagem/task.large$1
instance : CallT Try.prog 62 := ⟨by kernel_rfl⟩
-- 63 slices.IndexFunc[[]int,int]
instance : CallT Try.prog 63 := ⟨by kernel_rfl⟩
-- 64 slices.Clone[[]stratagem/api.Effect,stratagem/api.Effect]
instance : CallT Try.prog 64 := ⟨by kernel_rfl⟩
-- 65 stratagem/stratagembase.States
instance : CallT Try.prog 65 := ⟨by kernel_rfl⟩
-- 66 stratagem/stratagembase.Edges
instance : CallT Try.prog 66 := ⟨by kernel_rfl⟩
-- 67 stratagem/stratagemref50.visit
instance : CallT Try.prog 67 := ⟨by kernel_rfl⟩
-- 68 stratagem/task.apply
instance : CallT Try.prog 68 := ⟨by kernel_rfl⟩
-- 69 stratagem/estimate.same
instance : CallT Try.prog 69 := ⟨by kernel_rfl⟩
-- 70 stratagem/succgen.copied
instance : CallT Try.prog 70 := ⟨by kernel_rfl⟩
-- 71 (*stratagem/succgen.Generator).build
instance : CallT Try.prog 71 := ⟨by kernel_rfl⟩
-- 72 stratagem/idastar.key
instance : CallT Try.prog 72 := ⟨by kernel_rfl⟩
-- 73 (*stratagem/succgen.Generator).Successors
instance : CallT Try.prog 73 := ⟨by kernel_rfl⟩
-- 74 slices.IndexFunc[[][]stratagem/api.Fact,[]stratagem/api.Fact]
instance : CallT Try.prog 74 := ⟨by kernel_rfl⟩
-- 75 slices.Equal[[]int,int]
instance : CallT Try.prog 75 := ⟨by kernel_rfl⟩
-- 76 slices.Equal[[]stratagem/api.Fact,stratagem/api.Fact]
instance : CallT Try.prog 76 := ⟨by kernel_rfl⟩
-- 77 slices.EqualFunc[[]stratagem/api.Op,[]stratagem/api.Op,stratagem/api.Op,stratagem/api.Op]
instance : CallT Try.prog 77 := ⟨by kernel_rfl⟩
-- 78 stratagem/estimate.sameOp
instance : CallT Try.prog 78 := ⟨by kernel_rfl⟩
-- 79 (*stratagem/succgen.Generator).build$1
instance : CallT Try.prog 79 := ⟨by kernel_rfl⟩
-- 80 (*stratagem/succgen.Generator).fact
instance : CallT Try.prog 80 := ⟨by kernel_rfl⟩
-- 81 (*stratagem/succgen.Generator).Applicable
instance : CallT Try.prog 81 := ⟨by kernel_rfl⟩
-- 82 slices.EqualFunc[[]stratagem/api.Effect,[]stratagem/api.Effect,stratagem/api.Effect,stratagem/api.Effect]
instance : CallT Try.prog 82 := ⟨by kernel_rfl⟩
-- 83 stratagem/estimate.sameEffect
instance : CallT Try.prog 83 := ⟨by kernel_rfl⟩
-- 84 (*stratagem/succgen.Generator).find
instance : CallT Try.prog 84 := ⟨by kernel_rfl⟩
-- 85 (*stratagem/succgen.node).collect
instance : CallT Try.prog 85 := ⟨by kernel_rfl⟩
-- 86 slices.Sort[[]int,int]
instance : CallT Try.prog 86 := ⟨by kernel_rfl⟩
-- 87 slices.pdqsortOrdered[int]
instance : CallT Try.prog 87 := ⟨by kernel_rfl⟩
-- 88 math/bits.Len
instance : CallT Try.prog 88 := ⟨by kernel_rfl⟩
-- 89 slices.insertionSortOrdered[int]
instance : CallT Try.prog 89 := ⟨by kernel_rfl⟩
-- 90 slices.heapSortOrdered[int]
instance : CallT Try.prog 90 := ⟨by kernel_rfl⟩
-- 91 slices.breakPatternsOrdered[int]
instance : CallT Try.prog 91 := ⟨by kernel_rfl⟩
-- 92 slices.choosePivotOrdered[int]
instance : CallT Try.prog 92 := ⟨by kernel_rfl⟩
-- 93 slices.reverseRangeOrdered[int]
instance : CallT Try.prog 93 := ⟨by kernel_rfl⟩
-- 94 slices.partialInsertionSortOrdered[int]
instance : CallT Try.prog 94 := ⟨by kernel_rfl⟩
-- 95 cmp.Less[int]
instance : CallT Try.prog 95 := ⟨by kernel_rfl⟩
-- 96 slices.partitionEqualOrdered[int]
instance : CallT Try.prog 96 := ⟨by kernel_rfl⟩
-- 97 slices.partitionOrdered[int]
instance : CallT Try.prog 97 := ⟨by kernel_rfl⟩
-- 98 math/bits.Len32
instance : CallT Try.prog 98 := ⟨by kernel_rfl⟩
-- 99 math/bits.Len64
instance : CallT Try.prog 99 := ⟨by kernel_rfl⟩
-- 100 slices.siftDownOrdered[int]
instance : CallT Try.prog 100 := ⟨by kernel_rfl⟩
-- 101 slices.nextPowerOfTwo
instance : CallT Try.prog 101 := ⟨by kernel_rfl⟩
-- 103 slices.medianAdjacentOrdered[int]
instance : CallT Try.prog 103 := ⟨by kernel_rfl⟩
-- 104 slices.medianOrdered[int]
instance : CallT Try.prog 104 := ⟨by kernel_rfl⟩
-- 105 cmp.isNaN[int]
instance : CallT Try.prog 105 := ⟨by kernel_rfl⟩
-- 106 slices.order2Ordered[int]
instance : CallT Try.prog 106 := ⟨by kernel_rfl⟩
-- 124 (stratagem/estimate.blind).Value
instance : CallT Try.prog 124 := ⟨by kernel_rfl⟩
-- 126 (stratagem/estimate.table).Value
instance : CallT Try.prog 126 := ⟨by kernel_rfl⟩
-- 127 stratagem/task.Rank
instance : CallT Try.prog 127 := ⟨by kernel_rfl⟩
-- 128 stratagem/task.counted
instance : CallT Try.prog 128 := ⟨by kernel_rfl⟩
theorem mixed : Try.prog.follows .mixedOrders = true := by kernel_rfl
end Go.Proofs.Ytgbijampdkahjaa
