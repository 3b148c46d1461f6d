
/-
  The types of this seat, as the steps of the generator ask for them: closed facts on the program.
-/
import Derived.Test.YtegndanecnicaaaGreatMSlA
import Derived.Test.YtegndanecnicaaaGreatProg
import Derived.KernelRfl
set_option linter.unusedSimpArgs false
set_option linter.unusedVariables false
namespace Go.Proofs.YtegndanecnicaaaGreat
open Go.Sl
instance : CellT Tryz.prog 1 := ⟨by kernel_rfl⟩
instance : ZeroT Tryz.prog 1 [.nilFunc] := ⟨by kernel_rfl⟩
instance : PlainT Tryz.prog 1 := ⟨by kernel_rfl⟩
instance : CellT Tryz.prog 2 := ⟨by kernel_rfl⟩
instance : ZeroT Tryz.prog 2 [.int .i64 0] := ⟨by kernel_rfl⟩
instance : PlainT Tryz.prog 2 := ⟨by kernel_rfl⟩
instance : CellT Tryz.prog 3 := ⟨by kernel_rfl⟩
instance : ZeroT Tryz.prog 3 [.int .i64 0] := ⟨by kernel_rfl⟩
instance : PlainT Tryz.prog 3 := ⟨by kernel_rfl⟩
instance : CellT Tryz.prog 4 := ⟨by kernel_rfl⟩
instance : ZeroT Tryz.prog 4 [.bool false] := ⟨by kernel_rfl⟩
instance : BoolT Tryz.prog 4 := ⟨by kernel_rfl⟩
instance : PlainT Tryz.prog 4 := ⟨by kernel_rfl⟩
instance : CellT Tryz.prog 5 := ⟨by kernel_rfl⟩
instance : ZeroT Tryz.prog 5 [.int .u8 0] := ⟨by kernel_rfl⟩
instance : PlainT Tryz.prog 5 := ⟨by kernel_rfl⟩
instance : CellT Tryz.prog 6 := ⟨by kernel_rfl⟩
instance : ZeroT Tryz.prog 6 [.int .u8 0] := ⟨by kernel_rfl⟩
instance : PlainT Tryz.prog 6 := ⟨by kernel_rfl⟩
instance : AggT Tryz.prog 7 4 := ⟨by kernel_rfl⟩
instance : ZeroT Tryz.prog 7 [.int .i64 0, .int .i64 0, .bool false, .int .u8 0] := ⟨by kernel_rfl⟩
instance : PlainT Tryz.prog 7 := ⟨by kernel_rfl⟩
instance : FieldT Tryz.prog 7 0 0 2 := ⟨by kernel_rfl⟩
instance : FieldT Tryz.prog 7 1 1 3 := ⟨by kernel_rfl⟩
instance : FieldT Tryz.prog 7 2 2 4 := ⟨by kernel_rfl⟩
instance : FieldT Tryz.prog 7 3 3 6 := ⟨by kernel_rfl⟩
instance : StructT Tryz.prog 7 [(0, 1), (1, 1), (2, 1), (3, 1)] := ⟨by kernel_rfl⟩
instance : AggT Tryz.prog 8 4 := ⟨by kernel_rfl⟩
instance : ZeroT Tryz.prog 8 [.int .i64 0, .int .i64 0, .bool false, .int .u8 0] := ⟨by kernel_rfl⟩
instance : PlainT Tryz.prog 8 := ⟨by kernel_rfl⟩
instance : FieldT Tryz.prog 8 0 0 2 := ⟨by kernel_rfl⟩
instance : FieldT Tryz.prog 8 1 1 3 := ⟨by kernel_rfl⟩
instance : FieldT Tryz.prog 8 2 2 4 := ⟨by kernel_rfl⟩
instance : FieldT Tryz.prog 8 3 3 6 := ⟨by kernel_rfl⟩
instance : StructT Tryz.prog 8 [(0, 1), (1, 1), (2, 1), (3, 1)] := ⟨by kernel_rfl⟩
instance : CellT Tryz.prog 9 := ⟨by kernel_rfl⟩
instance : ZeroT Tryz.prog 9 [.string ByteArray.empty] := ⟨by kernel_rfl⟩
instance : StrT Tryz.prog 9 := ⟨by kernel_rfl⟩
instance : PlainT Tryz.prog 9 := ⟨by kernel_rfl⟩
instance : CellT Tryz.prog 10 := ⟨by kernel_rfl⟩
instance : ZeroT Tryz.prog 10 [.string ByteArray.empty] := ⟨by kernel_rfl⟩
instance : StrT Tryz.prog 10 := ⟨by kernel_rfl⟩
instance : PlainT Tryz.prog 10 := ⟨by kernel_rfl⟩
instance : CellT Tryz.prog 11 := ⟨by kernel_rfl⟩
instance : ZeroT Tryz.prog 11 [.string ByteArray.empty] := ⟨by kernel_rfl⟩
instance : StrT Tryz.prog 11 := ⟨by kernel_rfl⟩
instance : PlainT Tryz.prog 11 := ⟨by kernel_rfl⟩
instance : CellT Tryz.prog 12 := ⟨by kernel_rfl⟩
instance : ZeroT Tryz.prog 12 [.int .u64 0] := ⟨by kernel_rfl⟩
instance : PlainT Tryz.prog 12 := ⟨by kernel_rfl⟩
instance : AggT Tryz.prog 13 2 := ⟨by kernel_rfl⟩
instance : ZeroT Tryz.prog 13 [.string ByteArray.empty, .int .u64 0] := ⟨by kernel_rfl⟩
instance : PlainT Tryz.prog 13 := ⟨by kernel_rfl⟩
instance : FieldT Tryz.prog 13 0 0 9 := ⟨by kernel_rfl⟩
instance : FieldT Tryz.prog 13 1 1 12 := ⟨by kernel_rfl⟩
instance : StructT Tryz.prog 13 [(0, 1), (1, 1)] := ⟨by kernel_rfl⟩
instance : AggT Tryz.prog 14 2 := ⟨by kernel_rfl⟩
instance : ZeroT Tryz.prog 14 [.string ByteArray.empty, .int .u64 0] := ⟨by kernel_rfl⟩
instance : PlainT Tryz.prog 14 := ⟨by kernel_rfl⟩
instance : FieldT Tryz.prog 14 0 0 9 := ⟨by kernel_rfl⟩
instance : FieldT Tryz.prog 14 1 1 12 := ⟨by kernel_rfl⟩
instance : StructT Tryz.prog 14 [(0, 1), (1, 1)] := ⟨by kernel_rfl⟩
instance : CellT Tryz.prog 15 := ⟨by kernel_rfl⟩
instance : ZeroT Tryz.prog 15 [.pointer none] := ⟨by kernel_rfl⟩
instance : MethT Tryz.prog 15 "Error" 140 true 233 := ⟨by kernel_rfl⟩
instance : MethT Tryz.prog 15 "RuntimeError" 141 true 233 := ⟨by kernel_rfl⟩
instance : PtrT Tryz.prog 15 := ⟨by kernel_rfl⟩
instance : PlainT Tryz.prog 15 := ⟨by kernel_rfl⟩
instance : CellT Tryz.prog 16 := ⟨by kernel_rfl⟩
instance : ZeroT Tryz.prog 16 [.pointer none] := ⟨by kernel_rfl⟩
instance : MethT Tryz.prog 16 "Error" 142 true 236 := ⟨by kernel_rfl⟩
instance : MethT Tryz.prog 16 "RuntimeError" 143 true 236 := ⟨by kernel_rfl⟩
instance : PtrT Tryz.prog 16 := ⟨by kernel_rfl⟩
instance : PlainT Tryz.prog 16 := ⟨by kernel_rfl⟩
instance : CellT Tryz.prog 17 := ⟨by kernel_rfl⟩
instance : ZeroT Tryz.prog 17 [.pointer none] := ⟨by kernel_rfl⟩
instance : MethT Tryz.prog 17 "Align" 144 true 244 := ⟨by kernel_rfl⟩
instance : MethT Tryz.prog 17 "Len" 145 true 244 := ⟨by kernel_rfl⟩
instance : PtrT Tryz.prog 17 := ⟨by kernel_rfl⟩
instance : PlainT Tryz.prog 17 := ⟨by kernel_rfl⟩
instance : AggT Tryz.prog 18 1 := ⟨by kernel_rfl⟩
instance : ZeroT Tryz.prog 18 [.pointer none] := ⟨by kernel_rfl⟩
instance : PlainT Tryz.prog 18 := ⟨by kernel_rfl⟩
instance : FieldT Tryz.prog 18 0 0 17 := ⟨by kernel_rfl⟩
instance : StructT Tryz.prog 18 [(0, 1)] := ⟨by kernel_rfl⟩
instance : AggT Tryz.prog 19 1 := ⟨by kernel_rfl⟩
instance : ZeroT Tryz.prog 19 [.pointer none] := ⟨by kernel_rfl⟩
instance : PlainT Tryz.prog 19 := ⟨by kernel_rfl⟩
instance : FieldT Tryz.prog 19 0 0 17 := ⟨by kernel_rfl⟩
instance : StructT Tryz.prog 19 [(0, 1)] := ⟨by kernel_rfl⟩
instance : CellT Tryz.prog 20 := ⟨by kernel_rfl⟩
instance : ZeroT Tryz.prog 20 [.nilIface] := ⟨by kernel_rfl⟩
instance : IfaceT Tryz.prog 20 := ⟨by kernel_rfl⟩
instance : CellT Tryz.prog 21 := ⟨by kernel_rfl⟩
instance : ZeroT Tryz.prog 21 [.int .i32 0] := ⟨by kernel_rfl⟩
instance : PlainT Tryz.prog 21 := ⟨by kernel_rfl⟩
instance : SliceT Tryz.prog 22 3 1 8 := ⟨by kernel_rfl⟩
instance : CellT Tryz.prog 22 := ⟨by kernel_rfl⟩
instance : ZeroT Tryz.prog 22 [.slice none 0 0] := ⟨by kernel_rfl⟩
instance : PlainT Tryz.prog 22 := ⟨by kernel_rfl⟩
instance : SliceT Tryz.prog 23 92 2 16 := ⟨by kernel_rfl⟩
instance : CellT Tryz.prog 23 := ⟨by kernel_rfl⟩
instance : ZeroT Tryz.prog 23 [.slice none 0 0] := ⟨by kernel_rfl⟩
instance : PlainT Tryz.prog 23 := ⟨by kernel_rfl⟩
instance : SliceT Tryz.prog 24 31 4 72 := ⟨by kernel_rfl⟩
instance : CellT Tryz.prog 24 := ⟨by kernel_rfl⟩
instance : ZeroT Tryz.prog 24 [.slice none 0 0] := ⟨by kernel_rfl⟩
instance : PlainT Tryz.prog 24 := ⟨by kernel_rfl⟩
instance : AggT Tryz.prog 25 4 := ⟨by kernel_rfl⟩
instance : ZeroT Tryz.prog 25 [.slice none 0 0, .slice none 0 0, .slice none 0 0, .slice none 0 0] := ⟨by kernel_rfl⟩
instance : PlainT Tryz.prog 25 := ⟨by kernel_rfl⟩
instance : FieldT Tryz.prog 25 0 0 22 := ⟨by kernel_rfl⟩
instance : FieldT Tryz.prog 25 1 1 22 := ⟨by kernel_rfl⟩
instance : FieldT Tryz.prog 25 2 2 23 := ⟨by kernel_rfl⟩
instance : FieldT Tryz.prog 25 3 3 24 := ⟨by kernel_rfl⟩
instance : StructT Tryz.prog 25 [(0, 1), (1, 1), (2, 1), (3, 1)] := ⟨by kernel_rfl⟩
instance : AggT Tryz.prog 26 4 := ⟨by kernel_rfl⟩
instance : ZeroT Tryz.prog 26 [.slice none 0 0, .slice none 0 0, .slice none 0 0, .slice none 0 0] := ⟨by kernel_rfl⟩
instance : PlainT Tryz.prog 26 := ⟨by kernel_rfl⟩
instance : FieldT Tryz.prog 26 0 0 22 := ⟨by kernel_rfl⟩
instance : FieldT Tryz.prog 26 1 1 22 := ⟨by kernel_rfl⟩
instance : FieldT Tryz.prog 26 2 2 23 := ⟨by kernel_rfl⟩
instance : FieldT Tryz.prog 26 3 3 24 := ⟨by kernel_rfl⟩
instance : StructT Tryz.prog 26 [(0, 1), (1, 1), (2, 1), (3, 1)] := ⟨by kernel_rfl⟩
instance : CellT Tryz.prog 27 := ⟨by kernel_rfl⟩
instance : ZeroT Tryz.prog 27 [.nilFunc] := ⟨by kernel_rfl⟩
instance : PlainT Tryz.prog 27 := ⟨by kernel_rfl⟩
instance : CellT Tryz.prog 28 := ⟨by kernel_rfl⟩
instance : ZeroT Tryz.prog 28 [.nilFunc] := ⟨by kernel_rfl⟩
instance : PlainT Tryz.prog 28 := ⟨by kernel_rfl⟩
instance : SliceT Tryz.prog 29 90 3 40 := ⟨by kernel_rfl⟩
instance : CellT Tryz.prog 29 := ⟨by kernel_rfl⟩
instance : ZeroT Tryz.prog 29 [.slice none 0 0] := ⟨by kernel_rfl⟩
instance : PlainT Tryz.prog 29 := ⟨by kernel_rfl⟩
instance : AggT Tryz.prog 30 4 := ⟨by kernel_rfl⟩
instance : ZeroT Tryz.prog 30 [.string ByteArray.empty, .int .i64 0, .slice none 0 0, .slice none 0 0] := ⟨by kernel_rfl⟩
instance : PlainT Tryz.prog 30 := ⟨by kernel_rfl⟩
instance : FieldT Tryz.prog 30 0 0 9 := ⟨by kernel_rfl⟩
instance : FieldT Tryz.prog 30 1 1 3 := ⟨by kernel_rfl⟩
instance : FieldT Tryz.prog 30 2 2 23 := ⟨by kernel_rfl⟩
instance : FieldT Tryz.prog 30 3 3 29 := ⟨by kernel_rfl⟩
instance : StructT Tryz.prog 30 [(0, 1), (1, 1), (2, 1), (3, 1)] := ⟨by kernel_rfl⟩
instance : AggT Tryz.prog 31 4 := ⟨by kernel_rfl⟩
instance : ZeroT Tryz.prog 31 [.string ByteArray.empty, .int .i64 0, .slice none 0 0, .slice none 0 0] := ⟨by kernel_rfl⟩
instance : PlainT Tryz.prog 31 := ⟨by kernel_rfl⟩
instance : FieldT Tryz.prog 31 0 0 9 := ⟨by kernel_rfl⟩
instance : FieldT Tryz.prog 31 1 1 3 := ⟨by kernel_rfl⟩
instance : FieldT Tryz.prog 31 2 2 23 := ⟨by kernel_rfl⟩
instance : FieldT Tryz.prog 31 3 3 29 := ⟨by kernel_rfl⟩
instance : StructT Tryz.prog 31 [(0, 1), (1, 1), (2, 1), (3, 1)] := ⟨by kernel_rfl⟩
instance : CellT Tryz.prog 32 := ⟨by kernel_rfl⟩
instance : ZeroT Tryz.prog 32 [.pointer none] := ⟨by kernel_rfl⟩
instance : MethT Tryz.prog 32 "Dead" 148 true 117 := ⟨by kernel_rfl⟩
instance : MethT Tryz.prog 32 "For" 60 true 117 := ⟨by kernel_rfl⟩
instance : MethT Tryz.prog 32 "Value" 28 true 117 := ⟨by kernel_rfl⟩
instance : PtrT Tryz.prog 32 := ⟨by kernel_rfl⟩
instance : PlainT Tryz.prog 32 := ⟨by kernel_rfl⟩
instance : CellT Tryz.prog 33 := ⟨by kernel_rfl⟩
instance : ZeroT Tryz.prog 33 [.nilIface] := ⟨by kernel_rfl⟩
instance : IfaceT Tryz.prog 33 := ⟨by kernel_rfl⟩
instance : CellT Tryz.prog 34 := ⟨by kernel_rfl⟩
instance : ZeroT Tryz.prog 34 [.nilIface] := ⟨by kernel_rfl⟩
instance : IfaceT Tryz.prog 34 := ⟨by kernel_rfl⟩
instance : CellT Tryz.prog 36 := ⟨by kernel_rfl⟩
instance : ZeroT Tryz.prog 36 [.nilFunc] := ⟨by kernel_rfl⟩
instance : PlainT Tryz.prog 36 := ⟨by kernel_rfl⟩
instance : AggT Tryz.prog 37 4 := ⟨by kernel_rfl⟩
instance : ZeroT Tryz.prog 37 [.int .i64 0, .slice none 0 0, .int .i64 0, .int .i64 0] := ⟨by kernel_rfl⟩
instance : PlainT Tryz.prog 37 := ⟨by kernel_rfl⟩
instance : FieldT Tryz.prog 37 0 0 3 := ⟨by kernel_rfl⟩
instance : FieldT Tryz.prog 37 1 1 22 := ⟨by kernel_rfl⟩
instance : FieldT Tryz.prog 37 2 2 3 := ⟨by kernel_rfl⟩
instance : FieldT Tryz.prog 37 3 3 3 := ⟨by kernel_rfl⟩
instance : StructT Tryz.prog 37 [(0, 1), (1, 1), (2, 1), (3, 1)] := ⟨by kernel_rfl⟩
instance : AggT Tryz.prog 38 4 := ⟨by kernel_rfl⟩
instance : ZeroT Tryz.prog 38 [.int .i64 0, .slice none 0 0, .int .i64 0, .int .i64 0] := ⟨by kernel_rfl⟩
instance : PlainT Tryz.prog 38 := ⟨by kernel_rfl⟩
instance : FieldT Tryz.prog 38 0 0 3 := ⟨by kernel_rfl⟩
instance : FieldT Tryz.prog 38 1 1 22 := ⟨by kernel_rfl⟩
instance : FieldT Tryz.prog 38 2 2 3 := ⟨by kernel_rfl⟩
instance : FieldT Tryz.prog 38 3 3 3 := ⟨by kernel_rfl⟩
instance : StructT Tryz.prog 38 [(0, 1), (1, 1), (2, 1), (3, 1)] := ⟨by kernel_rfl⟩
instance : CellT Tryz.prog 40 := ⟨by kernel_rfl⟩
instance : ZeroT Tryz.prog 40 [.nilFunc] := ⟨by kernel_rfl⟩
instance : PlainT Tryz.prog 40 := ⟨by kernel_rfl⟩
instance : CellT Tryz.prog 41 := ⟨by kernel_rfl⟩
instance : ZeroT Tryz.prog 41 [.nilFunc] := ⟨by kernel_rfl⟩
instance : PlainT Tryz.prog 41 := ⟨by kernel_rfl⟩
instance : CellT Tryz.prog 42 := ⟨by kernel_rfl⟩
instance : ZeroT Tryz.prog 42 [.nilFunc] := ⟨by kernel_rfl⟩
instance : PlainT Tryz.prog 42 := ⟨by kernel_rfl⟩
instance : CellT Tryz.prog 43 := ⟨by kernel_rfl⟩
instance : ZeroT Tryz.prog 43 [.nilFunc] := ⟨by kernel_rfl⟩
instance : PlainT Tryz.prog 43 := ⟨by kernel_rfl⟩
instance : CellT Tryz.prog 44 := ⟨by kernel_rfl⟩
instance : ZeroT Tryz.prog 44 [.nilFunc] := ⟨by kernel_rfl⟩
instance : PlainT Tryz.prog 44 := ⟨by kernel_rfl⟩
instance : CellT Tryz.prog 45 := ⟨by kernel_rfl⟩
instance : ZeroT Tryz.prog 45 [.nilFunc] := ⟨by kernel_rfl⟩
instance : PlainT Tryz.prog 45 := ⟨by kernel_rfl⟩
instance : CellT Tryz.prog 46 := ⟨by kernel_rfl⟩
instance : ZeroT Tryz.prog 46 [.nilFunc] := ⟨by kernel_rfl⟩
instance : PlainT Tryz.prog 46 := ⟨by kernel_rfl⟩
instance : SliceT Tryz.prog 47 5 1 1 := ⟨by kernel_rfl⟩
instance : CellT Tryz.prog 47 := ⟨by kernel_rfl⟩
instance : ZeroT Tryz.prog 47 [.slice none 0 0] := ⟨by kernel_rfl⟩
instance : PlainT Tryz.prog 47 := ⟨by kernel_rfl⟩
instance : CellT Tryz.prog 48 := ⟨by kernel_rfl⟩
instance : ZeroT Tryz.prog 48 [.nilFunc] := ⟨by kernel_rfl⟩
instance : PlainT Tryz.prog 48 := ⟨by kernel_rfl⟩
instance : CellT Tryz.prog 49 := ⟨by kernel_rfl⟩
instance : ZeroT Tryz.prog 49 [.nilFunc] := ⟨by kernel_rfl⟩
instance : PlainT Tryz.prog 49 := ⟨by kernel_rfl⟩
instance : CellT Tryz.prog 50 := ⟨by kernel_rfl⟩
instance : ZeroT Tryz.prog 50 [.nilFunc] := ⟨by kernel_rfl⟩
instance : PlainT Tryz.prog 50 := ⟨by kernel_rfl⟩
instance : CellT Tryz.prog 51 := ⟨by kernel_rfl⟩
instance : ZeroT Tryz.prog 51 [.nilFunc] := ⟨by kernel_rfl⟩
instance : PlainT Tryz.prog 51 := ⟨by kernel_rfl⟩
instance : CellT Tryz.prog 52 := ⟨by kernel_rfl⟩
instance : ZeroT Tryz.prog 52 [.nilFunc] := ⟨by kernel_rfl⟩
instance : PlainT Tryz.prog 52 := ⟨by kernel_rfl⟩
instance : CellT Tryz.prog 53 := ⟨by kernel_rfl⟩
instance : ZeroT Tryz.prog 53 [.nilFunc] := ⟨by kernel_rfl⟩
instance : PlainT Tryz.prog 53 := ⟨by kernel_rfl⟩
instance : SliceT Tryz.prog 54 22 1 24 := ⟨by kernel_rfl⟩
instance : CellT Tryz.prog 54 := ⟨by kernel_rfl⟩
instance : ZeroT Tryz.prog 54 [.slice none 0 0] := ⟨by kernel_rfl⟩
instance : PlainT Tryz.prog 54 := ⟨by kernel_rfl⟩
instance : CellT Tryz.prog 55 := ⟨by kernel_rfl⟩
instance : ZeroT Tryz.prog 55 [.nilFunc] := ⟨by kernel_rfl⟩
instance : PlainT Tryz.prog 55 := ⟨by kernel_rfl⟩
instance : CellT Tryz.prog 56 := ⟨by kernel_rfl⟩
instance : ZeroT Tryz.prog 56 [.nilFunc] := ⟨by kernel_rfl⟩
instance : PlainT Tryz.prog 56 := ⟨by kernel_rfl⟩
instance : CellT Tryz.prog 57 := ⟨by kernel_rfl⟩
instance : ZeroT Tryz.prog 57 [.nilFunc] := ⟨by kernel_rfl⟩
instance : PlainT Tryz.prog 57 := ⟨by kernel_rfl⟩
instance : CellT Tryz.prog 58 := ⟨by kernel_rfl⟩
instance : ZeroT Tryz.prog 58 [.nilFunc] := ⟨by kernel_rfl⟩
instance : PlainT Tryz.prog 58 := ⟨by kernel_rfl⟩
instance : CellT Tryz.prog 59 := ⟨by kernel_rfl⟩
instance : ZeroT Tryz.prog 59 [.nilFunc] := ⟨by kernel_rfl⟩
instance : PlainT Tryz.prog 59 := ⟨by kernel_rfl⟩
instance : CellT Tryz.prog 60 := ⟨by kernel_rfl⟩
instance : ZeroT Tryz.prog 60 [.nilFunc] := ⟨by kernel_rfl⟩
instance : PlainT Tryz.prog 60 := ⟨by kernel_rfl⟩
instance : SliceT Tryz.prog 61 62 1 2 := ⟨by kernel_rfl⟩
instance : CellT Tryz.prog 61 := ⟨by kernel_rfl⟩
instance : ZeroT Tryz.prog 61 [.slice none 0 0] := ⟨by kernel_rfl⟩
instance : PlainT Tryz.prog 61 := ⟨by kernel_rfl⟩
instance : CellT Tryz.prog 62 := ⟨by kernel_rfl⟩
instance : ZeroT Tryz.prog 62 [.int .u16 0] := ⟨by kernel_rfl⟩
instance : PlainT Tryz.prog 62 := ⟨by kernel_rfl⟩
instance : CellT Tryz.prog 64 := ⟨by kernel_rfl⟩
instance : ZeroT Tryz.prog 64 [.nilFunc] := ⟨by kernel_rfl⟩
instance : PlainT Tryz.prog 64 := ⟨by kernel_rfl⟩
instance : CellT Tryz.prog 65 := ⟨by kernel_rfl⟩
instance : ZeroT Tryz.prog 65 [.nilFunc] := ⟨by kernel_rfl⟩
instance : PlainT Tryz.prog 65 := ⟨by kernel_rfl⟩
instance : CellT Tryz.prog 66 := ⟨by kernel_rfl⟩
instance : ZeroT Tryz.prog 66 [.nilFunc] := ⟨by kernel_rfl⟩
instance : PlainT Tryz.prog 66 := ⟨by kernel_rfl⟩
instance : CellT Tryz.prog 67 := ⟨by kernel_rfl⟩
instance : ZeroT Tryz.prog 67 [.nilFunc] := ⟨by kernel_rfl⟩
instance : PlainT Tryz.prog 67 := ⟨by kernel_rfl⟩
instance : CellT Tryz.prog 68 := ⟨by kernel_rfl⟩
instance : ZeroT Tryz.prog 68 [.nilFunc] := ⟨by kernel_rfl⟩
instance : PlainT Tryz.prog 68 := ⟨by kernel_rfl⟩
instance : CellT Tryz.prog 69 := ⟨by kernel_rfl⟩
instance : ZeroT Tryz.prog 69 [.nilFunc] := ⟨by kernel_rfl⟩
instance : PlainT Tryz.prog 69 := ⟨by kernel_rfl⟩
instance : AggT Tryz.prog 70 2 := ⟨by kernel_rfl⟩
instance : ZeroT Tryz.prog 70 [.slice none 0 0, .int .i64 0] := ⟨by kernel_rfl⟩
instance : PlainT Tryz.prog 70 := ⟨by kernel_rfl⟩
instance : FieldT Tryz.prog 70 0 0 23 := ⟨by kernel_rfl⟩
instance : FieldT Tryz.prog 70 1 1 3 := ⟨by kernel_rfl⟩
instance : StructT Tryz.prog 70 [(0, 1), (1, 1)] := ⟨by kernel_rfl⟩
instance : AggT Tryz.prog 71 2 := ⟨by kernel_rfl⟩
instance : ZeroT Tryz.prog 71 [.slice none 0 0, .int .i64 0] := ⟨by kernel_rfl⟩
instance : PlainT Tryz.prog 71 := ⟨by kernel_rfl⟩
instance : FieldT Tryz.prog 71 0 0 23 := ⟨by kernel_rfl⟩
instance : FieldT Tryz.prog 71 1 1 3 := ⟨by kernel_rfl⟩
instance : StructT Tryz.prog 71 [(0, 1), (1, 1)] := ⟨by kernel_rfl⟩
instance : CellT Tryz.prog 72 := ⟨by kernel_rfl⟩
instance : ZeroT Tryz.prog 72 [.pointer none] := ⟨by kernel_rfl⟩
instance : MethT Tryz.prog 72 "stratagem/astar.cost" 67 true 82 := ⟨by kernel_rfl⟩
instance : MethT Tryz.prog 72 "stratagem/astar.next" 64 true 82 := ⟨by kernel_rfl⟩
instance : MethT Tryz.prog 72 "stratagem/astar.reach" 63 true 82 := ⟨by kernel_rfl⟩
instance : MethT Tryz.prog 72 "stratagem/astar.run" 36 true 82 := ⟨by kernel_rfl⟩
instance : PtrT Tryz.prog 72 := ⟨by kernel_rfl⟩
instance : PlainT Tryz.prog 72 := ⟨by kernel_rfl⟩
instance : CellT Tryz.prog 74 := ⟨by kernel_rfl⟩
instance : ZeroT Tryz.prog 74 [.nilFunc] := ⟨by kernel_rfl⟩
instance : PlainT Tryz.prog 74 := ⟨by kernel_rfl⟩
instance : CellT Tryz.prog 75 := ⟨by kernel_rfl⟩
instance : ZeroT Tryz.prog 75 [.nilFunc] := ⟨by kernel_rfl⟩
instance : PlainT Tryz.prog 75 := ⟨by kernel_rfl⟩
instance : CellT Tryz.prog 76 := ⟨by kernel_rfl⟩
instance : ZeroT Tryz.prog 76 [.pointer none] := ⟨by kernel_rfl⟩
instance : MethT Tryz.prog 76 "Applicable" 88 true 149 := ⟨by kernel_rfl⟩
instance : MethT Tryz.prog 76 "Count" 150 true 149 := ⟨by kernel_rfl⟩
instance : MethT Tryz.prog 76 "Successors" 68 true 149 := ⟨by kernel_rfl⟩
instance : MethT Tryz.prog 76 "stratagem/succgen.build" 79 true 149 := ⟨by kernel_rfl⟩
instance : MethT Tryz.prog 76 "stratagem/succgen.fact" 96 true 149 := ⟨by kernel_rfl⟩
instance : MethT Tryz.prog 76 "stratagem/succgen.find" 103 true 149 := ⟨by kernel_rfl⟩
instance : PtrT Tryz.prog 76 := ⟨by kernel_rfl⟩
instance : PlainT Tryz.prog 76 := ⟨by kernel_rfl⟩
instance : CellT Tryz.prog 77 := ⟨by kernel_rfl⟩
instance : ZeroT Tryz.prog 77 [.pointer none] := ⟨by kernel_rfl⟩
instance : MethT Tryz.prog 77 "Add" 81 true 157 := ⟨by kernel_rfl⟩
instance : MethT Tryz.prog 77 "Len" 151 true 157 := ⟨by kernel_rfl⟩
instance : MethT Tryz.prog 77 "Path" 66 true 157 := ⟨by kernel_rfl⟩
instance : MethT Tryz.prog 77 "SetLink" 82 true 157 := ⟨by kernel_rfl⟩
instance : MethT Tryz.prog 77 "State" 65 true 157 := ⟨by kernel_rfl⟩
instance : MethT Tryz.prog 77 "stratagem/registry.find" 97 true 157 := ⟨by kernel_rfl⟩
instance : MethT Tryz.prog 77 "stratagem/registry.has" 85 true 157 := ⟨by kernel_rfl⟩
instance : PtrT Tryz.prog 77 := ⟨by kernel_rfl⟩
instance : PlainT Tryz.prog 77 := ⟨by kernel_rfl⟩
instance : SliceT Tryz.prog 78 4 1 1 := ⟨by kernel_rfl⟩
instance : CellT Tryz.prog 78 := ⟨by kernel_rfl⟩
instance : ZeroT Tryz.prog 78 [.slice none 0 0] := ⟨by kernel_rfl⟩
instance : PlainT Tryz.prog 78 := ⟨by kernel_rfl⟩
instance : SliceT Tryz.prog 79 164 5 40 := ⟨by kernel_rfl⟩
instance : CellT Tryz.prog 79 := ⟨by kernel_rfl⟩
instance : ZeroT Tryz.prog 79 [.slice none 0 0] := ⟨by kernel_rfl⟩
instance : PlainT Tryz.prog 79 := ⟨by kernel_rfl⟩
instance : SliceT Tryz.prog 80 164 5 40 := ⟨by kernel_rfl⟩
instance : CellT Tryz.prog 80 := ⟨by kernel_rfl⟩
instance : ZeroT Tryz.prog 80 [.slice none 0 0] := ⟨by kernel_rfl⟩
instance : PlainT Tryz.prog 80 := ⟨by kernel_rfl⟩
instance : AggT Tryz.prog 81 15 := ⟨by kernel_rfl⟩
instance : ZeroT Tryz.prog 81 [.slice none 0 0, .slice none 0 0, .slice none 0 0, .slice none 0 0, .pointer none, .pointer none, .pointer none, .slice none 0 0, .slice none 0 0, .slice none 0 0, .slice none 0 0, .int .i64 0, .bool false, .int .i64 0, .int .i64 0] := ⟨by kernel_rfl⟩
instance : PlainT Tryz.prog 81 := ⟨by kernel_rfl⟩
instance : FieldT Tryz.prog 81 0 0 26 := ⟨by kernel_rfl⟩
instance : FieldT Tryz.prog 81 1 4 32 := ⟨by kernel_rfl⟩
instance : FieldT Tryz.prog 81 2 5 76 := ⟨by kernel_rfl⟩
instance : FieldT Tryz.prog 81 3 6 77 := ⟨by kernel_rfl⟩
instance : FieldT Tryz.prog 81 4 7 22 := ⟨by kernel_rfl⟩
instance : FieldT Tryz.prog 81 5 8 22 := ⟨by kernel_rfl⟩
instance : FieldT Tryz.prog 81 6 9 78 := ⟨by kernel_rfl⟩
instance : FieldT Tryz.prog 81 7 10 80 := ⟨by kernel_rfl⟩
instance : FieldT Tryz.prog 81 8 11 3 := ⟨by kernel_rfl⟩
instance : FieldT Tryz.prog 81 9 12 4 := ⟨by kernel_rfl⟩
instance : FieldT Tryz.prog 81 10 13 3 := ⟨by kernel_rfl⟩
instance : FieldT Tryz.prog 81 11 14 3 := ⟨by kernel_rfl⟩
instance : StructT Tryz.prog 81 [(0, 4), (4, 1), (5, 1), (6, 1), (7, 1), (8, 1), (9, 1), (10, 1), (11, 1), (12, 1), (13, 1), (14, 1)] := ⟨by kernel_rfl⟩
instance : AggT Tryz.prog 82 15 := ⟨by kernel_rfl⟩
instance : ZeroT Tryz.prog 82 [.slice none 0 0, .slice none 0 0, .slice none 0 0, .slice none 0 0, .pointer none, .pointer none, .pointer none, .slice none 0 0, .slice none 0 0, .slice none 0 0, .slice none 0 0, .int .i64 0, .bool false, .int .i64 0, .int .i64 0] := ⟨by kernel_rfl⟩
instance : PlainT Tryz.prog 82 := ⟨by kernel_rfl⟩
instance : FieldT Tryz.prog 82 0 0 26 := ⟨by kernel_rfl⟩
instance : FieldT Tryz.prog 82 1 4 32 := ⟨by kernel_rfl⟩
instance : FieldT Tryz.prog 82 2 5 76 := ⟨by kernel_rfl⟩
instance : FieldT Tryz.prog 82 3 6 77 := ⟨by kernel_rfl⟩
instance : FieldT Tryz.prog 82 4 7 22 := ⟨by kernel_rfl⟩
instance : FieldT Tryz.prog 82 5 8 22 := ⟨by kernel_rfl⟩
instance : FieldT Tryz.prog 82 6 9 78 := ⟨by kernel_rfl⟩
instance : FieldT Tryz.prog 82 7 10 80 := ⟨by kernel_rfl⟩
instance : FieldT Tryz.prog 82 8 11 3 := ⟨by kernel_rfl⟩
instance : FieldT Tryz.prog 82 9 12 4 := ⟨by kernel_rfl⟩
instance : FieldT Tryz.prog 82 10 13 3 := ⟨by kernel_rfl⟩
instance : FieldT Tryz.prog 82 11 14 3 := ⟨by kernel_rfl⟩
instance : StructT Tryz.prog 82 [(0, 4), (4, 1), (5, 1), (6, 1), (7, 1), (8, 1), (9, 1), (10, 1), (11, 1), (12, 1), (13, 1), (14, 1)] := ⟨by kernel_rfl⟩
instance : CellT Tryz.prog 83 := ⟨by kernel_rfl⟩
instance : ZeroT Tryz.prog 83 [.nilFunc] := ⟨by kernel_rfl⟩
instance : PlainT Tryz.prog 83 := ⟨by kernel_rfl⟩
instance : CellT Tryz.prog 84 := ⟨by kernel_rfl⟩
instance : ZeroT Tryz.prog 84 [.nilFunc] := ⟨by kernel_rfl⟩
instance : PlainT Tryz.prog 84 := ⟨by kernel_rfl⟩
instance : CellT Tryz.prog 85 := ⟨by kernel_rfl⟩
instance : ZeroT Tryz.prog 85 [.int .i64 0] := ⟨by kernel_rfl⟩
instance : PlainT Tryz.prog 85 := ⟨by kernel_rfl⟩
instance : SliceT Tryz.prog 87 23 1 24 := ⟨by kernel_rfl⟩
instance : CellT Tryz.prog 87 := ⟨by kernel_rfl⟩
instance : ZeroT Tryz.prog 87 [.slice none 0 0] := ⟨by kernel_rfl⟩
instance : PlainT Tryz.prog 87 := ⟨by kernel_rfl⟩
instance : CellT Tryz.prog 88 := ⟨by kernel_rfl⟩
instance : ZeroT Tryz.prog 88 [.nilFunc] := ⟨by kernel_rfl⟩
instance : PlainT Tryz.prog 88 := ⟨by kernel_rfl⟩
instance : AggT Tryz.prog 89 3 := ⟨by kernel_rfl⟩
instance : ZeroT Tryz.prog 89 [.slice none 0 0, .int .i64 0, .int .i64 0] := ⟨by kernel_rfl⟩
instance : PlainT Tryz.prog 89 := ⟨by kernel_rfl⟩
instance : FieldT Tryz.prog 89 0 0 23 := ⟨by kernel_rfl⟩
instance : FieldT Tryz.prog 89 1 1 3 := ⟨by kernel_rfl⟩
instance : FieldT Tryz.prog 89 2 2 3 := ⟨by kernel_rfl⟩
instance : StructT Tryz.prog 89 [(0, 1), (1, 1), (2, 1)] := ⟨by kernel_rfl⟩
instance : AggT Tryz.prog 90 3 := ⟨by kernel_rfl⟩
instance : ZeroT Tryz.prog 90 [.slice none 0 0, .int .i64 0, .int .i64 0] := ⟨by kernel_rfl⟩
instance : PlainT Tryz.prog 90 := ⟨by kernel_rfl⟩
instance : FieldT Tryz.prog 90 0 0 23 := ⟨by kernel_rfl⟩
instance : FieldT Tryz.prog 90 1 1 3 := ⟨by kernel_rfl⟩
instance : FieldT Tryz.prog 90 2 2 3 := ⟨by kernel_rfl⟩
instance : StructT Tryz.prog 90 [(0, 1), (1, 1), (2, 1)] := ⟨by kernel_rfl⟩
instance : AggT Tryz.prog 91 2 := ⟨by kernel_rfl⟩
instance : ZeroT Tryz.prog 91 [.int .i64 0, .int .i64 0] := ⟨by kernel_rfl⟩
instance : PlainT Tryz.prog 91 := ⟨by kernel_rfl⟩
instance : FieldT Tryz.prog 91 0 0 3 := ⟨by kernel_rfl⟩
instance : FieldT Tryz.prog 91 1 1 3 := ⟨by kernel_rfl⟩
instance : StructT Tryz.prog 91 [(0, 1), (1, 1)] := ⟨by kernel_rfl⟩
instance : AggT Tryz.prog 92 2 := ⟨by kernel_rfl⟩
instance : ZeroT Tryz.prog 92 [.int .i64 0, .int .i64 0] := ⟨by kernel_rfl⟩
instance : PlainT Tryz.prog 92 := ⟨by kernel_rfl⟩
instance : FieldT Tryz.prog 92 0 0 3 := ⟨by kernel_rfl⟩
instance : FieldT Tryz.prog 92 1 1 3 := ⟨by kernel_rfl⟩
instance : StructT Tryz.prog 92 [(0, 1), (1, 1)] := ⟨by kernel_rfl⟩
instance : CellT Tryz.prog 93 := ⟨by kernel_rfl⟩
instance : ZeroT Tryz.prog 93 [.nilFunc] := ⟨by kernel_rfl⟩
instance : PlainT Tryz.prog 93 := ⟨by kernel_rfl⟩
instance : CellT Tryz.prog 94 := ⟨by kernel_rfl⟩
instance : ZeroT Tryz.prog 94 [.nilFunc] := ⟨by kernel_rfl⟩
instance : PlainT Tryz.prog 94 := ⟨by kernel_rfl⟩
instance : CellT Tryz.prog 95 := ⟨by kernel_rfl⟩
instance : ZeroT Tryz.prog 95 [.nilFunc] := ⟨by kernel_rfl⟩
instance : PlainT Tryz.prog 95 := ⟨by kernel_rfl⟩
instance : CellT Tryz.prog 96 := ⟨by kernel_rfl⟩
instance : ZeroT Tryz.prog 96 [.nilFunc] := ⟨by kernel_rfl⟩
instance : PlainT Tryz.prog 96 := ⟨by kernel_rfl⟩
instance : CellT Tryz.prog 97 := ⟨by kernel_rfl⟩
instance : ZeroT Tryz.prog 97 [.nilFunc] := ⟨by kernel_rfl⟩
instance : PlainT Tryz.prog 97 := ⟨by kernel_rfl⟩
instance : CellT Tryz.prog 98 := ⟨by kernel_rfl⟩
instance : ZeroT Tryz.prog 98 [.nilFunc] := ⟨by kernel_rfl⟩
instance : PlainT Tryz.prog 98 := ⟨by kernel_rfl⟩
instance : CellT Tryz.prog 99 := ⟨by kernel_rfl⟩
instance : ZeroT Tryz.prog 99 [.nilFunc] := ⟨by kernel_rfl⟩
instance : PlainT Tryz.prog 99 := ⟨by kernel_rfl⟩
instance : AggT Tryz.prog 100 5 := ⟨by kernel_rfl⟩
instance : ZeroT Tryz.prog 100 [.slice none 0 0, .slice none 0 0, .slice none 0 0, .slice none 0 0, .slice none 0 0] := ⟨by kernel_rfl⟩
instance : PlainT Tryz.prog 100 := ⟨by kernel_rfl⟩
instance : FieldT Tryz.prog 100 0 0 26 := ⟨by kernel_rfl⟩
instance : FieldT Tryz.prog 100 1 4 22 := ⟨by kernel_rfl⟩
instance : StructT Tryz.prog 100 [(0, 4), (4, 1)] := ⟨by kernel_rfl⟩
instance : AggT Tryz.prog 101 5 := ⟨by kernel_rfl⟩
instance : ZeroT Tryz.prog 101 [.slice none 0 0, .slice none 0 0, .slice none 0 0, .slice none 0 0, .slice none 0 0] := ⟨by kernel_rfl⟩
instance : PlainT Tryz.prog 101 := ⟨by kernel_rfl⟩
instance : FieldT Tryz.prog 101 0 0 26 := ⟨by kernel_rfl⟩
instance : FieldT Tryz.prog 101 1 4 22 := ⟨by kernel_rfl⟩
instance : StructT Tryz.prog 101 [(0, 4), (4, 1)] := ⟨by kernel_rfl⟩
instance : CellT Tryz.prog 103 := ⟨by kernel_rfl⟩
instance : ZeroT Tryz.prog 103 [.nilFunc] := ⟨by kernel_rfl⟩
instance : PlainT Tryz.prog 103 := ⟨by kernel_rfl⟩
instance : CellT Tryz.prog 104 := ⟨by kernel_rfl⟩
instance : ZeroT Tryz.prog 104 [.nilFunc] := ⟨by kernel_rfl⟩
instance : PlainT Tryz.prog 104 := ⟨by kernel_rfl⟩
instance : CellT Tryz.prog 105 := ⟨by kernel_rfl⟩
instance : ZeroT Tryz.prog 105 [.pointer none] := ⟨by kernel_rfl⟩
instance : MethT Tryz.prog 105 "Max" 161 true 141 := ⟨by kernel_rfl⟩
instance : MethT Tryz.prog 105 "stratagem/relax.add" 74 true 141 := ⟨by kernel_rfl⟩
instance : MethT Tryz.prog 105 "stratagem/relax.number" 75 true 141 := ⟨by kernel_rfl⟩
instance : MethT Tryz.prog 105 "stratagem/relax.values" 163 true 141 := ⟨by kernel_rfl⟩
instance : PtrT Tryz.prog 105 := ⟨by kernel_rfl⟩
instance : PlainT Tryz.prog 105 := ⟨by kernel_rfl⟩
instance : CellT Tryz.prog 107 := ⟨by kernel_rfl⟩
instance : ZeroT Tryz.prog 107 [.nilFunc] := ⟨by kernel_rfl⟩
instance : PlainT Tryz.prog 107 := ⟨by kernel_rfl⟩
instance : AggT Tryz.prog 108 1 := ⟨by kernel_rfl⟩
instance : ZeroT Tryz.prog 108 [.pointer none] := ⟨by kernel_rfl⟩
instance : PlainT Tryz.prog 108 := ⟨by kernel_rfl⟩
instance : FieldT Tryz.prog 108 0 0 105 := ⟨by kernel_rfl⟩
instance : StructT Tryz.prog 108 [(0, 1)] := ⟨by kernel_rfl⟩
instance : AggT Tryz.prog 109 1 := ⟨by kernel_rfl⟩
instance : ZeroT Tryz.prog 109 [.pointer none] := ⟨by kernel_rfl⟩
instance : PlainT Tryz.prog 109 := ⟨by kernel_rfl⟩
instance : FieldT Tryz.prog 109 0 0 105 := ⟨by kernel_rfl⟩
instance : StructT Tryz.prog 109 [(0, 1)] := ⟨by kernel_rfl⟩
instance : SliceT Tryz.prog 110 113 3 24 := ⟨by kernel_rfl⟩
instance : CellT Tryz.prog 110 := ⟨by kernel_rfl⟩
instance : ZeroT Tryz.prog 110 [.slice none 0 0] := ⟨by kernel_rfl⟩
instance : PlainT Tryz.prog 110 := ⟨by kernel_rfl⟩
instance : CellT Tryz.prog 111 := ⟨by kernel_rfl⟩
instance : ZeroT Tryz.prog 111 [.nilFunc] := ⟨by kernel_rfl⟩
instance : PlainT Tryz.prog 111 := ⟨by kernel_rfl⟩
instance : AggT Tryz.prog 112 3 := ⟨by kernel_rfl⟩
instance : ZeroT Tryz.prog 112 [.int .i64 0, .int .i64 0, .int .i64 0] := ⟨by kernel_rfl⟩
instance : PlainT Tryz.prog 112 := ⟨by kernel_rfl⟩
instance : FieldT Tryz.prog 112 0 0 3 := ⟨by kernel_rfl⟩
instance : FieldT Tryz.prog 112 1 1 3 := ⟨by kernel_rfl⟩
instance : FieldT Tryz.prog 112 2 2 3 := ⟨by kernel_rfl⟩
instance : StructT Tryz.prog 112 [(0, 1), (1, 1), (2, 1)] := ⟨by kernel_rfl⟩
instance : AggT Tryz.prog 113 3 := ⟨by kernel_rfl⟩
instance : ZeroT Tryz.prog 113 [.int .i64 0, .int .i64 0, .int .i64 0] := ⟨by kernel_rfl⟩
instance : PlainT Tryz.prog 113 := ⟨by kernel_rfl⟩
instance : FieldT Tryz.prog 113 0 0 3 := ⟨by kernel_rfl⟩
instance : FieldT Tryz.prog 113 1 1 3 := ⟨by kernel_rfl⟩
instance : FieldT Tryz.prog 113 2 2 3 := ⟨by kernel_rfl⟩
instance : StructT Tryz.prog 113 [(0, 1), (1, 1), (2, 1)] := ⟨by kernel_rfl⟩
instance : CellT Tryz.prog 114 := ⟨by kernel_rfl⟩
instance : ZeroT Tryz.prog 114 [.nilIface] := ⟨by kernel_rfl⟩
instance : IfaceT Tryz.prog 114 := ⟨by kernel_rfl⟩
instance : CellT Tryz.prog 115 := ⟨by kernel_rfl⟩
instance : ZeroT Tryz.prog 115 [.nilIface] := ⟨by kernel_rfl⟩
instance : IfaceT Tryz.prog 115 := ⟨by kernel_rfl⟩
instance : AggT Tryz.prog 116 5 := ⟨by kernel_rfl⟩
instance : ZeroT Tryz.prog 116 [.slice none 0 0, .slice none 0 0, .slice none 0 0, .slice none 0 0, .nilIface] := ⟨by kernel_rfl⟩
instance : PlainT Tryz.prog 116 := ⟨by kernel_rfl⟩
instance : FieldT Tryz.prog 116 0 0 26 := ⟨by kernel_rfl⟩
instance : FieldT Tryz.prog 116 1 4 115 := ⟨by kernel_rfl⟩
instance : StructT Tryz.prog 116 [(0, 4), (4, 1)] := ⟨by kernel_rfl⟩
instance : AggT Tryz.prog 117 5 := ⟨by kernel_rfl⟩
instance : ZeroT Tryz.prog 117 [.slice none 0 0, .slice none 0 0, .slice none 0 0, .slice none 0 0, .nilIface] := ⟨by kernel_rfl⟩
instance : PlainT Tryz.prog 117 := ⟨by kernel_rfl⟩
instance : FieldT Tryz.prog 117 0 0 26 := ⟨by kernel_rfl⟩
instance : FieldT Tryz.prog 117 1 4 115 := ⟨by kernel_rfl⟩
instance : StructT Tryz.prog 117 [(0, 4), (4, 1)] := ⟨by kernel_rfl⟩
instance : CellT Tryz.prog 118 := ⟨by kernel_rfl⟩
instance : ZeroT Tryz.prog 118 [.nilFunc] := ⟨by kernel_rfl⟩
instance : PlainT Tryz.prog 118 := ⟨by kernel_rfl⟩
instance : CellT Tryz.prog 120 := ⟨by kernel_rfl⟩
instance : ZeroT Tryz.prog 120 [.nilFunc] := ⟨by kernel_rfl⟩
instance : PlainT Tryz.prog 120 := ⟨by kernel_rfl⟩
instance : CellT Tryz.prog 122 := ⟨by kernel_rfl⟩
instance : ZeroT Tryz.prog 122 [.nilFunc] := ⟨by kernel_rfl⟩
instance : PlainT Tryz.prog 122 := ⟨by kernel_rfl⟩
instance : CellT Tryz.prog 124 := ⟨by kernel_rfl⟩
instance : ZeroT Tryz.prog 124 [.nilFunc] := ⟨by kernel_rfl⟩
instance : PlainT Tryz.prog 124 := ⟨by kernel_rfl⟩
instance : CellT Tryz.prog 125 := ⟨by kernel_rfl⟩
instance : ZeroT Tryz.prog 125 [.nilFunc] := ⟨by kernel_rfl⟩
instance : PlainT Tryz.prog 125 := ⟨by kernel_rfl⟩
instance : CellT Tryz.prog 126 := ⟨by kernel_rfl⟩
instance : ZeroT Tryz.prog 126 [.nilFunc] := ⟨by kernel_rfl⟩
instance : PlainT Tryz.prog 126 := ⟨by kernel_rfl⟩
instance : CellT Tryz.prog 128 := ⟨by kernel_rfl⟩
instance : ZeroT Tryz.prog 128 [.nilFunc] := ⟨by kernel_rfl⟩
instance : PlainT Tryz.prog 128 := ⟨by kernel_rfl⟩
instance : SliceT Tryz.prog 129 132 2 32 := ⟨by kernel_rfl⟩
instance : CellT Tryz.prog 129 := ⟨by kernel_rfl⟩
instance : ZeroT Tryz.prog 129 [.slice none 0 0] := ⟨by kernel_rfl⟩
instance : PlainT Tryz.prog 129 := ⟨by kernel_rfl⟩
instance : CellT Tryz.prog 130 := ⟨by kernel_rfl⟩
instance : ZeroT Tryz.prog 130 [.nilFunc] := ⟨by kernel_rfl⟩
instance : PlainT Tryz.prog 130 := ⟨by kernel_rfl⟩
instance : AggT Tryz.prog 131 2 := ⟨by kernel_rfl⟩
instance : ZeroT Tryz.prog 131 [.int .i64 0, .slice none 0 0] := ⟨by kernel_rfl⟩
instance : PlainT Tryz.prog 131 := ⟨by kernel_rfl⟩
instance : FieldT Tryz.prog 131 0 0 3 := ⟨by kernel_rfl⟩
instance : FieldT Tryz.prog 131 1 1 22 := ⟨by kernel_rfl⟩
instance : StructT Tryz.prog 131 [(0, 1), (1, 1)] := ⟨by kernel_rfl⟩
instance : AggT Tryz.prog 132 2 := ⟨by kernel_rfl⟩
instance : ZeroT Tryz.prog 132 [.int .i64 0, .slice none 0 0] := ⟨by kernel_rfl⟩
instance : PlainT Tryz.prog 132 := ⟨by kernel_rfl⟩
instance : FieldT Tryz.prog 132 0 0 3 := ⟨by kernel_rfl⟩
instance : FieldT Tryz.prog 132 1 1 22 := ⟨by kernel_rfl⟩
instance : StructT Tryz.prog 132 [(0, 1), (1, 1)] := ⟨by kernel_rfl⟩
instance : CellT Tryz.prog 133 := ⟨by kernel_rfl⟩
instance : ZeroT Tryz.prog 133 [.nilFunc] := ⟨by kernel_rfl⟩
instance : PlainT Tryz.prog 133 := ⟨by kernel_rfl⟩
instance : CellT Tryz.prog 134 := ⟨by kernel_rfl⟩
instance : ZeroT Tryz.prog 134 [.nilFunc] := ⟨by kernel_rfl⟩
instance : PlainT Tryz.prog 134 := ⟨by kernel_rfl⟩
instance : CellT Tryz.prog 135 := ⟨by kernel_rfl⟩
instance : ZeroT Tryz.prog 135 [.nilFunc] := ⟨by kernel_rfl⟩
instance : PlainT Tryz.prog 135 := ⟨by kernel_rfl⟩
instance : CellT Tryz.prog 136 := ⟨by kernel_rfl⟩
instance : ZeroT Tryz.prog 136 [.nilFunc] := ⟨by kernel_rfl⟩
instance : PlainT Tryz.prog 136 := ⟨by kernel_rfl⟩
instance : CellT Tryz.prog 138 := ⟨by kernel_rfl⟩
instance : ZeroT Tryz.prog 138 [.nilFunc] := ⟨by kernel_rfl⟩
instance : PlainT Tryz.prog 138 := ⟨by kernel_rfl⟩
instance : SliceT Tryz.prog 139 145 5 56 := ⟨by kernel_rfl⟩
instance : CellT Tryz.prog 139 := ⟨by kernel_rfl⟩
instance : ZeroT Tryz.prog 139 [.slice none 0 0] := ⟨by kernel_rfl⟩
instance : PlainT Tryz.prog 139 := ⟨by kernel_rfl⟩
instance : AggT Tryz.prog 140 9 := ⟨by kernel_rfl⟩
instance : ZeroT Tryz.prog 140 [.slice none 0 0, .slice none 0 0, .slice none 0 0, .slice none 0 0, .slice none 0 0, .int .i64 0, .slice none 0 0, .slice none 0 0, .slice none 0 0] := ⟨by kernel_rfl⟩
instance : PlainT Tryz.prog 140 := ⟨by kernel_rfl⟩
instance : FieldT Tryz.prog 140 0 0 26 := ⟨by kernel_rfl⟩
instance : FieldT Tryz.prog 140 1 4 22 := ⟨by kernel_rfl⟩
instance : FieldT Tryz.prog 140 2 5 3 := ⟨by kernel_rfl⟩
instance : FieldT Tryz.prog 140 3 6 139 := ⟨by kernel_rfl⟩
instance : FieldT Tryz.prog 140 4 7 54 := ⟨by kernel_rfl⟩
instance : FieldT Tryz.prog 140 5 8 22 := ⟨by kernel_rfl⟩
instance : StructT Tryz.prog 140 [(0, 4), (4, 1), (5, 1), (6, 1), (7, 1), (8, 1)] := ⟨by kernel_rfl⟩
instance : AggT Tryz.prog 141 9 := ⟨by kernel_rfl⟩
instance : ZeroT Tryz.prog 141 [.slice none 0 0, .slice none 0 0, .slice none 0 0, .slice none 0 0, .slice none 0 0, .int .i64 0, .slice none 0 0, .slice none 0 0, .slice none 0 0] := ⟨by kernel_rfl⟩
instance : PlainT Tryz.prog 141 := ⟨by kernel_rfl⟩
instance : FieldT Tryz.prog 141 0 0 26 := ⟨by kernel_rfl⟩
instance : FieldT Tryz.prog 141 1 4 22 := ⟨by kernel_rfl⟩
instance : FieldT Tryz.prog 141 2 5 3 := ⟨by kernel_rfl⟩
instance : FieldT Tryz.prog 141 3 6 139 := ⟨by kernel_rfl⟩
instance : FieldT Tryz.prog 141 4 7 54 := ⟨by kernel_rfl⟩
instance : FieldT Tryz.prog 141 5 8 22 := ⟨by kernel_rfl⟩
instance : StructT Tryz.prog 141 [(0, 4), (4, 1), (5, 1), (6, 1), (7, 1), (8, 1)] := ⟨by kernel_rfl⟩
instance : CellT Tryz.prog 142 := ⟨by kernel_rfl⟩
instance : ZeroT Tryz.prog 142 [.nilFunc] := ⟨by kernel_rfl⟩
instance : PlainT Tryz.prog 142 := ⟨by kernel_rfl⟩
instance : CellT Tryz.prog 143 := ⟨by kernel_rfl⟩
instance : ZeroT Tryz.prog 143 [.nilFunc] := ⟨by kernel_rfl⟩
instance : PlainT Tryz.prog 143 := ⟨by kernel_rfl⟩
instance : AggT Tryz.prog 144 5 := ⟨by kernel_rfl⟩
instance : ZeroT Tryz.prog 144 [.int .i64 0, .int .i64 0, .int .i64 0, .int .i64 0, .slice none 0 0] := ⟨by kernel_rfl⟩
instance : PlainT Tryz.prog 144 := ⟨by kernel_rfl⟩
instance : FieldT Tryz.prog 144 0 0 3 := ⟨by kernel_rfl⟩
instance : FieldT Tryz.prog 144 1 1 3 := ⟨by kernel_rfl⟩
instance : FieldT Tryz.prog 144 2 2 3 := ⟨by kernel_rfl⟩
instance : FieldT Tryz.prog 144 3 3 3 := ⟨by kernel_rfl⟩
instance : FieldT Tryz.prog 144 4 4 22 := ⟨by kernel_rfl⟩
instance : StructT Tryz.prog 144 [(0, 1), (1, 1), (2, 1), (3, 1), (4, 1)] := ⟨by kernel_rfl⟩
instance : AggT Tryz.prog 145 5 := ⟨by kernel_rfl⟩
instance : ZeroT Tryz.prog 145 [.int .i64 0, .int .i64 0, .int .i64 0, .int .i64 0, .slice none 0 0] := ⟨by kernel_rfl⟩
instance : PlainT Tryz.prog 145 := ⟨by kernel_rfl⟩
instance : FieldT Tryz.prog 145 0 0 3 := ⟨by kernel_rfl⟩
instance : FieldT Tryz.prog 145 1 1 3 := ⟨by kernel_rfl⟩
instance : FieldT Tryz.prog 145 2 2 3 := ⟨by kernel_rfl⟩
instance : FieldT Tryz.prog 145 3 3 3 := ⟨by kernel_rfl⟩
instance : FieldT Tryz.prog 145 4 4 22 := ⟨by kernel_rfl⟩
instance : StructT Tryz.prog 145 [(0, 1), (1, 1), (2, 1), (3, 1), (4, 1)] := ⟨by kernel_rfl⟩
instance : CellT Tryz.prog 146 := ⟨by kernel_rfl⟩
instance : ZeroT Tryz.prog 146 [.nilFunc] := ⟨by kernel_rfl⟩
instance : PlainT Tryz.prog 146 := ⟨by kernel_rfl⟩
instance : CellT Tryz.prog 147 := ⟨by kernel_rfl⟩
instance : ZeroT Tryz.prog 147 [.pointer none] := ⟨by kernel_rfl⟩
instance : MethT Tryz.prog 147 "stratagem/succgen.collect" 110 true 181 := ⟨by kernel_rfl⟩
instance : PtrT Tryz.prog 147 := ⟨by kernel_rfl⟩
instance : PlainT Tryz.prog 147 := ⟨by kernel_rfl⟩
instance : AggT Tryz.prog 148 5 := ⟨by kernel_rfl⟩
instance : ZeroT Tryz.prog 148 [.slice none 0 0, .slice none 0 0, .slice none 0 0, .slice none 0 0, .pointer none] := ⟨by kernel_rfl⟩
instance : PlainT Tryz.prog 148 := ⟨by kernel_rfl⟩
instance : FieldT Tryz.prog 148 0 0 26 := ⟨by kernel_rfl⟩
instance : FieldT Tryz.prog 148 1 4 147 := ⟨by kernel_rfl⟩
instance : StructT Tryz.prog 148 [(0, 4), (4, 1)] := ⟨by kernel_rfl⟩
instance : AggT Tryz.prog 149 5 := ⟨by kernel_rfl⟩
instance : ZeroT Tryz.prog 149 [.slice none 0 0, .slice none 0 0, .slice none 0 0, .slice none 0 0, .pointer none] := ⟨by kernel_rfl⟩
instance : PlainT Tryz.prog 149 := ⟨by kernel_rfl⟩
instance : FieldT Tryz.prog 149 0 0 26 := ⟨by kernel_rfl⟩
instance : FieldT Tryz.prog 149 1 4 147 := ⟨by kernel_rfl⟩
instance : StructT Tryz.prog 149 [(0, 4), (4, 1)] := ⟨by kernel_rfl⟩
instance : CellT Tryz.prog 150 := ⟨by kernel_rfl⟩
instance : ZeroT Tryz.prog 150 [.nilFunc] := ⟨by kernel_rfl⟩
instance : PlainT Tryz.prog 150 := ⟨by kernel_rfl⟩
instance : CellT Tryz.prog 151 := ⟨by kernel_rfl⟩
instance : ZeroT Tryz.prog 151 [.pointer none] := ⟨by kernel_rfl⟩
instance : MethT Tryz.prog 151 "Hash" 108 true 184 := ⟨by kernel_rfl⟩
instance : MethT Tryz.prog 151 "Pack" 107 true 184 := ⟨by kernel_rfl⟩
instance : MethT Tryz.prog 151 "Unpack" 86 true 184 := ⟨by kernel_rfl⟩
instance : MethT Tryz.prog 151 "Words" 166 true 184 := ⟨by kernel_rfl⟩
instance : PtrT Tryz.prog 151 := ⟨by kernel_rfl⟩
instance : PlainT Tryz.prog 151 := ⟨by kernel_rfl⟩
instance : CellT Tryz.prog 153 := ⟨by kernel_rfl⟩
instance : ZeroT Tryz.prog 153 [.nilFunc] := ⟨by kernel_rfl⟩
instance : PlainT Tryz.prog 153 := ⟨by kernel_rfl⟩
instance : CellT Tryz.prog 154 := ⟨by kernel_rfl⟩
instance : ZeroT Tryz.prog 154 [.map none] := ⟨by kernel_rfl⟩
instance : PlainT Tryz.prog 154 := ⟨by kernel_rfl⟩
instance : SliceT Tryz.prog 155 171 4 48 := ⟨by kernel_rfl⟩
instance : CellT Tryz.prog 155 := ⟨by kernel_rfl⟩
instance : ZeroT Tryz.prog 155 [.slice none 0 0] := ⟨by kernel_rfl⟩
instance : PlainT Tryz.prog 155 := ⟨by kernel_rfl⟩
instance : AggT Tryz.prog 156 3 := ⟨by kernel_rfl⟩
instance : ZeroT Tryz.prog 156 [.pointer none, .slice none 0 0, .map none] := ⟨by kernel_rfl⟩
instance : PlainT Tryz.prog 156 := ⟨by kernel_rfl⟩
instance : FieldT Tryz.prog 156 0 0 151 := ⟨by kernel_rfl⟩
instance : FieldT Tryz.prog 156 1 1 155 := ⟨by kernel_rfl⟩
instance : FieldT Tryz.prog 156 2 2 154 := ⟨by kernel_rfl⟩
instance : StructT Tryz.prog 156 [(0, 1), (1, 1), (2, 1)] := ⟨by kernel_rfl⟩
instance : AggT Tryz.prog 157 3 := ⟨by kernel_rfl⟩
instance : ZeroT Tryz.prog 157 [.pointer none, .slice none 0 0, .map none] := ⟨by kernel_rfl⟩
instance : PlainT Tryz.prog 157 := ⟨by kernel_rfl⟩
instance : FieldT Tryz.prog 157 0 0 151 := ⟨by kernel_rfl⟩
instance : FieldT Tryz.prog 157 1 1 155 := ⟨by kernel_rfl⟩
instance : FieldT Tryz.prog 157 2 2 154 := ⟨by kernel_rfl⟩
instance : StructT Tryz.prog 157 [(0, 1), (1, 1), (2, 1)] := ⟨by kernel_rfl⟩
instance : CellT Tryz.prog 159 := ⟨by kernel_rfl⟩
instance : ZeroT Tryz.prog 159 [.nilFunc] := ⟨by kernel_rfl⟩
instance : PlainT Tryz.prog 159 := ⟨by kernel_rfl⟩
instance : CellT Tryz.prog 160 := ⟨by kernel_rfl⟩
instance : ZeroT Tryz.prog 160 [.nilFunc] := ⟨by kernel_rfl⟩
instance : PlainT Tryz.prog 160 := ⟨by kernel_rfl⟩
instance : CellT Tryz.prog 161 := ⟨by kernel_rfl⟩
instance : ZeroT Tryz.prog 161 [.nilFunc] := ⟨by kernel_rfl⟩
instance : PlainT Tryz.prog 161 := ⟨by kernel_rfl⟩
instance : CellT Tryz.prog 162 := ⟨by kernel_rfl⟩
instance : ZeroT Tryz.prog 162 [.pointer none] := ⟨by kernel_rfl⟩
instance : MethT Tryz.prog 162 "Len" 152 false 80 := ⟨by kernel_rfl⟩
instance : MethT Tryz.prog 162 "Less" 153 false 80 := ⟨by kernel_rfl⟩
instance : MethT Tryz.prog 162 "Pop" 167 true 80 := ⟨by kernel_rfl⟩
instance : MethT Tryz.prog 162 "Push" 168 true 80 := ⟨by kernel_rfl⟩
instance : MethT Tryz.prog 162 "Swap" 154 false 80 := ⟨by kernel_rfl⟩
instance : PtrT Tryz.prog 162 := ⟨by kernel_rfl⟩
instance : PlainT Tryz.prog 162 := ⟨by kernel_rfl⟩
instance : AggT Tryz.prog 163 5 := ⟨by kernel_rfl⟩
instance : ZeroT Tryz.prog 163 [.int .i64 0, .int .i64 0, .int .i64 0, .int .i64 0, .int .i64 0] := ⟨by kernel_rfl⟩
instance : PlainT Tryz.prog 163 := ⟨by kernel_rfl⟩
instance : FieldT Tryz.prog 163 0 0 3 := ⟨by kernel_rfl⟩
instance : FieldT Tryz.prog 163 1 1 3 := ⟨by kernel_rfl⟩
instance : FieldT Tryz.prog 163 2 2 3 := ⟨by kernel_rfl⟩
instance : FieldT Tryz.prog 163 3 3 3 := ⟨by kernel_rfl⟩
instance : FieldT Tryz.prog 163 4 4 3 := ⟨by kernel_rfl⟩
instance : StructT Tryz.prog 163 [(0, 1), (1, 1), (2, 1), (3, 1), (4, 1)] := ⟨by kernel_rfl⟩
instance : AggT Tryz.prog 164 5 := ⟨by kernel_rfl⟩
instance : ZeroT Tryz.prog 164 [.int .i64 0, .int .i64 0, .int .i64 0, .int .i64 0, .int .i64 0] := ⟨by kernel_rfl⟩
instance : PlainT Tryz.prog 164 := ⟨by kernel_rfl⟩
instance : FieldT Tryz.prog 164 0 0 3 := ⟨by kernel_rfl⟩
instance : FieldT Tryz.prog 164 1 1 3 := ⟨by kernel_rfl⟩
instance : FieldT Tryz.prog 164 2 2 3 := ⟨by kernel_rfl⟩
instance : FieldT Tryz.prog 164 3 3 3 := ⟨by kernel_rfl⟩
instance : FieldT Tryz.prog 164 4 4 3 := ⟨by kernel_rfl⟩
instance : StructT Tryz.prog 164 [(0, 1), (1, 1), (2, 1), (3, 1), (4, 1)] := ⟨by kernel_rfl⟩
instance : CellT Tryz.prog 165 := ⟨by kernel_rfl⟩
instance : ZeroT Tryz.prog 165 [.nilFunc] := ⟨by kernel_rfl⟩
instance : PlainT Tryz.prog 165 := ⟨by kernel_rfl⟩
instance : CellT Tryz.prog 166 := ⟨by kernel_rfl⟩
instance : ZeroT Tryz.prog 166 [.nilFunc] := ⟨by kernel_rfl⟩
instance : PlainT Tryz.prog 166 := ⟨by kernel_rfl⟩
instance : SliceT Tryz.prog 167 198 1 8 := ⟨by kernel_rfl⟩
instance : CellT Tryz.prog 167 := ⟨by kernel_rfl⟩
instance : ZeroT Tryz.prog 167 [.slice none 0 0] := ⟨by kernel_rfl⟩
instance : PlainT Tryz.prog 167 := ⟨by kernel_rfl⟩
instance : AggT Tryz.prog 168 3 := ⟨by kernel_rfl⟩
instance : ZeroT Tryz.prog 168 [.int .i64 0, .int .i64 0, .int .i64 0] := ⟨by kernel_rfl⟩
instance : PlainT Tryz.prog 168 := ⟨by kernel_rfl⟩
instance : FieldT Tryz.prog 168 0 0 3 := ⟨by kernel_rfl⟩
instance : FieldT Tryz.prog 168 1 1 3 := ⟨by kernel_rfl⟩
instance : FieldT Tryz.prog 168 2 2 3 := ⟨by kernel_rfl⟩
instance : StructT Tryz.prog 168 [(0, 1), (1, 1), (2, 1)] := ⟨by kernel_rfl⟩
instance : AggT Tryz.prog 169 3 := ⟨by kernel_rfl⟩
instance : ZeroT Tryz.prog 169 [.int .i64 0, .int .i64 0, .int .i64 0] := ⟨by kernel_rfl⟩
instance : PlainT Tryz.prog 169 := ⟨by kernel_rfl⟩
instance : FieldT Tryz.prog 169 0 0 3 := ⟨by kernel_rfl⟩
instance : FieldT Tryz.prog 169 1 1 3 := ⟨by kernel_rfl⟩
instance : FieldT Tryz.prog 169 2 2 3 := ⟨by kernel_rfl⟩
instance : StructT Tryz.prog 169 [(0, 1), (1, 1), (2, 1)] := ⟨by kernel_rfl⟩
instance : AggT Tryz.prog 170 4 := ⟨by kernel_rfl⟩
instance : ZeroT Tryz.prog 170 [.slice none 0 0, .int .i64 0, .int .i64 0, .int .i64 0] := ⟨by kernel_rfl⟩
instance : PlainT Tryz.prog 170 := ⟨by kernel_rfl⟩
instance : FieldT Tryz.prog 170 0 0 167 := ⟨by kernel_rfl⟩
instance : FieldT Tryz.prog 170 1 1 169 := ⟨by kernel_rfl⟩
instance : StructT Tryz.prog 170 [(0, 1), (1, 3)] := ⟨by kernel_rfl⟩
instance : AggT Tryz.prog 171 4 := ⟨by kernel_rfl⟩
instance : ZeroT Tryz.prog 171 [.slice none 0 0, .int .i64 0, .int .i64 0, .int .i64 0] := ⟨by kernel_rfl⟩
instance : PlainT Tryz.prog 171 := ⟨by kernel_rfl⟩
instance : FieldT Tryz.prog 171 0 0 167 := ⟨by kernel_rfl⟩
instance : FieldT Tryz.prog 171 1 1 169 := ⟨by kernel_rfl⟩
instance : StructT Tryz.prog 171 [(0, 1), (1, 3)] := ⟨by kernel_rfl⟩
instance : CellT Tryz.prog 172 := ⟨by kernel_rfl⟩
instance : ZeroT Tryz.prog 172 [.nilFunc] := ⟨by kernel_rfl⟩
instance : PlainT Tryz.prog 172 := ⟨by kernel_rfl⟩
instance : CellT Tryz.prog 173 := ⟨by kernel_rfl⟩
instance : ZeroT Tryz.prog 173 [.nilFunc] := ⟨by kernel_rfl⟩
instance : PlainT Tryz.prog 173 := ⟨by kernel_rfl⟩
instance : CellT Tryz.prog 174 := ⟨by kernel_rfl⟩
instance : ZeroT Tryz.prog 174 [.nilFunc] := ⟨by kernel_rfl⟩
instance : PlainT Tryz.prog 174 := ⟨by kernel_rfl⟩
instance : CellT Tryz.prog 175 := ⟨by kernel_rfl⟩
instance : ZeroT Tryz.prog 175 [.nilFunc] := ⟨by kernel_rfl⟩
instance : PlainT Tryz.prog 175 := ⟨by kernel_rfl⟩
instance : CellT Tryz.prog 176 := ⟨by kernel_rfl⟩
instance : ZeroT Tryz.prog 176 [.nilFunc] := ⟨by kernel_rfl⟩
instance : PlainT Tryz.prog 176 := ⟨by kernel_rfl⟩
instance : CellT Tryz.prog 178 := ⟨by kernel_rfl⟩
instance : ZeroT Tryz.prog 178 [.nilFunc] := ⟨by kernel_rfl⟩
instance : PlainT Tryz.prog 178 := ⟨by kernel_rfl⟩
instance : SliceT Tryz.prog 179 147 1 8 := ⟨by kernel_rfl⟩
instance : CellT Tryz.prog 179 := ⟨by kernel_rfl⟩
instance : ZeroT Tryz.prog 179 [.slice none 0 0] := ⟨by kernel_rfl⟩
instance : PlainT Tryz.prog 179 := ⟨by kernel_rfl⟩
instance : AggT Tryz.prog 180 5 := ⟨by kernel_rfl⟩
instance : ZeroT Tryz.prog 180 [.slice none 0 0, .bool false, .int .i64 0, .slice none 0 0, .pointer none] := ⟨by kernel_rfl⟩
instance : PlainT Tryz.prog 180 := ⟨by kernel_rfl⟩
instance : FieldT Tryz.prog 180 0 0 22 := ⟨by kernel_rfl⟩
instance : FieldT Tryz.prog 180 1 1 4 := ⟨by kernel_rfl⟩
instance : FieldT Tryz.prog 180 2 2 3 := ⟨by kernel_rfl⟩
instance : FieldT Tryz.prog 180 3 3 179 := ⟨by kernel_rfl⟩
instance : FieldT Tryz.prog 180 4 4 147 := ⟨by kernel_rfl⟩
instance : StructT Tryz.prog 180 [(0, 1), (1, 1), (2, 1), (3, 1), (4, 1)] := ⟨by kernel_rfl⟩
instance : AggT Tryz.prog 181 5 := ⟨by kernel_rfl⟩
instance : ZeroT Tryz.prog 181 [.slice none 0 0, .bool false, .int .i64 0, .slice none 0 0, .pointer none] := ⟨by kernel_rfl⟩
instance : PlainT Tryz.prog 181 := ⟨by kernel_rfl⟩
instance : FieldT Tryz.prog 181 0 0 22 := ⟨by kernel_rfl⟩
instance : FieldT Tryz.prog 181 1 1 4 := ⟨by kernel_rfl⟩
instance : FieldT Tryz.prog 181 2 2 3 := ⟨by kernel_rfl⟩
instance : FieldT Tryz.prog 181 3 3 179 := ⟨by kernel_rfl⟩
instance : FieldT Tryz.prog 181 4 4 147 := ⟨by kernel_rfl⟩
instance : StructT Tryz.prog 181 [(0, 1), (1, 1), (2, 1), (3, 1), (4, 1)] := ⟨by kernel_rfl⟩
instance : SliceT Tryz.prog 182 186 4 32 := ⟨by kernel_rfl⟩
instance : CellT Tryz.prog 182 := ⟨by kernel_rfl⟩
instance : ZeroT Tryz.prog 182 [.slice none 0 0] := ⟨by kernel_rfl⟩
instance : PlainT Tryz.prog 182 := ⟨by kernel_rfl⟩
instance : AggT Tryz.prog 183 2 := ⟨by kernel_rfl⟩
instance : ZeroT Tryz.prog 183 [.slice none 0 0, .int .i64 0] := ⟨by kernel_rfl⟩
instance : PlainT Tryz.prog 183 := ⟨by kernel_rfl⟩
instance : FieldT Tryz.prog 183 0 0 182 := ⟨by kernel_rfl⟩
instance : FieldT Tryz.prog 183 1 1 3 := ⟨by kernel_rfl⟩
instance : StructT Tryz.prog 183 [(0, 1), (1, 1)] := ⟨by kernel_rfl⟩
instance : AggT Tryz.prog 184 2 := ⟨by kernel_rfl⟩
instance : ZeroT Tryz.prog 184 [.slice none 0 0, .int .i64 0] := ⟨by kernel_rfl⟩
instance : PlainT Tryz.prog 184 := ⟨by kernel_rfl⟩
instance : FieldT Tryz.prog 184 0 0 182 := ⟨by kernel_rfl⟩
instance : FieldT Tryz.prog 184 1 1 3 := ⟨by kernel_rfl⟩
instance : StructT Tryz.prog 184 [(0, 1), (1, 1)] := ⟨by kernel_rfl⟩
instance : AggT Tryz.prog 185 4 := ⟨by kernel_rfl⟩
instance : ZeroT Tryz.prog 185 [.int .i64 0, .int .i64 0, .int .i64 0, .int .i64 0] := ⟨by kernel_rfl⟩
instance : PlainT Tryz.prog 185 := ⟨by kernel_rfl⟩
instance : FieldT Tryz.prog 185 0 0 3 := ⟨by kernel_rfl⟩
instance : FieldT Tryz.prog 185 1 1 3 := ⟨by kernel_rfl⟩
instance : FieldT Tryz.prog 185 2 2 3 := ⟨by kernel_rfl⟩
instance : FieldT Tryz.prog 185 3 3 3 := ⟨by kernel_rfl⟩
instance : StructT Tryz.prog 185 [(0, 1), (1, 1), (2, 1), (3, 1)] := ⟨by kernel_rfl⟩
instance : AggT Tryz.prog 186 4 := ⟨by kernel_rfl⟩
instance : ZeroT Tryz.prog 186 [.int .i64 0, .int .i64 0, .int .i64 0, .int .i64 0] := ⟨by kernel_rfl⟩
instance : PlainT Tryz.prog 186 := ⟨by kernel_rfl⟩
instance : FieldT Tryz.prog 186 0 0 3 := ⟨by kernel_rfl⟩
instance : FieldT Tryz.prog 186 1 1 3 := ⟨by kernel_rfl⟩
instance : FieldT Tryz.prog 186 2 2 3 := ⟨by kernel_rfl⟩
instance : FieldT Tryz.prog 186 3 3 3 := ⟨by kernel_rfl⟩
instance : StructT Tryz.prog 186 [(0, 1), (1, 1), (2, 1), (3, 1)] := ⟨by kernel_rfl⟩
instance : CellT Tryz.prog 188 := ⟨by kernel_rfl⟩
instance : ZeroT Tryz.prog 188 [.nilFunc] := ⟨by kernel_rfl⟩
instance : PlainT Tryz.prog 188 := ⟨by kernel_rfl⟩
instance : CellT Tryz.prog 189 := ⟨by kernel_rfl⟩
instance : ZeroT Tryz.prog 189 [.nilIface] := ⟨by kernel_rfl⟩
instance : IfaceT Tryz.prog 189 := ⟨by kernel_rfl⟩
instance : CellT Tryz.prog 190 := ⟨by kernel_rfl⟩
instance : ZeroT Tryz.prog 190 [.nilIface] := ⟨by kernel_rfl⟩
instance : IfaceT Tryz.prog 190 := ⟨by kernel_rfl⟩
instance : CellT Tryz.prog 191 := ⟨by kernel_rfl⟩
instance : ZeroT Tryz.prog 191 [.nilFunc] := ⟨by kernel_rfl⟩
instance : PlainT Tryz.prog 191 := ⟨by kernel_rfl⟩
instance : CellT Tryz.prog 192 := ⟨by kernel_rfl⟩
instance : ZeroT Tryz.prog 192 [.nilFunc] := ⟨by kernel_rfl⟩
instance : PlainT Tryz.prog 192 := ⟨by kernel_rfl⟩
instance : CellT Tryz.prog 193 := ⟨by kernel_rfl⟩
instance : ZeroT Tryz.prog 193 [.nilFunc] := ⟨by kernel_rfl⟩
instance : PlainT Tryz.prog 193 := ⟨by kernel_rfl⟩
instance : CellT Tryz.prog 194 := ⟨by kernel_rfl⟩
instance : ZeroT Tryz.prog 194 [.nilFunc] := ⟨by kernel_rfl⟩
instance : PlainT Tryz.prog 194 := ⟨by kernel_rfl⟩
instance : CellT Tryz.prog 195 := ⟨by kernel_rfl⟩
instance : ZeroT Tryz.prog 195 [.nilFunc] := ⟨by kernel_rfl⟩
instance : PlainT Tryz.prog 195 := ⟨by kernel_rfl⟩
instance : CellT Tryz.prog 196 := ⟨by kernel_rfl⟩
instance : ZeroT Tryz.prog 196 [.nilFunc] := ⟨by kernel_rfl⟩
instance : PlainT Tryz.prog 196 := ⟨by kernel_rfl⟩
instance : CellT Tryz.prog 197 := ⟨by kernel_rfl⟩
instance : ZeroT Tryz.prog 197 [.nilFunc] := ⟨by kernel_rfl⟩
instance : PlainT Tryz.prog 197 := ⟨by kernel_rfl⟩
instance : CellT Tryz.prog 198 := ⟨by kernel_rfl⟩
instance : ZeroT Tryz.prog 198 [.int .u64 0] := ⟨by kernel_rfl⟩
instance : PlainT Tryz.prog 198 := ⟨by kernel_rfl⟩
instance : CellT Tryz.prog 199 := ⟨by kernel_rfl⟩
instance : ZeroT Tryz.prog 199 [.nilFunc] := ⟨by kernel_rfl⟩
instance : PlainT Tryz.prog 199 := ⟨by kernel_rfl⟩
instance : CellT Tryz.prog 200 := ⟨by kernel_rfl⟩
instance : ZeroT Tryz.prog 200 [.nilFunc] := ⟨by kernel_rfl⟩
instance : PlainT Tryz.prog 200 := ⟨by kernel_rfl⟩
instance : CellT Tryz.prog 202 := ⟨by kernel_rfl⟩
instance : ZeroT Tryz.prog 202 [.nilFunc] := ⟨by kernel_rfl⟩
instance : PlainT Tryz.prog 202 := ⟨by kernel_rfl⟩
instance : CellT Tryz.prog 203 := ⟨by kernel_rfl⟩
instance : ZeroT Tryz.prog 203 [.nilFunc] := ⟨by kernel_rfl⟩
instance : PlainT Tryz.prog 203 := ⟨by kernel_rfl⟩
instance : CellT Tryz.prog 204 := ⟨by kernel_rfl⟩
instance : ZeroT Tryz.prog 204 [.nilFunc] := ⟨by kernel_rfl⟩
instance : PlainT Tryz.prog 204 := ⟨by kernel_rfl⟩
instance : CellT Tryz.prog 206 := ⟨by kernel_rfl⟩
instance : ZeroT Tryz.prog 206 [.nilFunc] := ⟨by kernel_rfl⟩
instance : PlainT Tryz.prog 206 := ⟨by kernel_rfl⟩
instance : CellT Tryz.prog 207 := ⟨by kernel_rfl⟩
instance : ZeroT Tryz.prog 207 [.nilFunc] := ⟨by kernel_rfl⟩
instance : PlainT Tryz.prog 207 := ⟨by kernel_rfl⟩
instance : CellT Tryz.prog 208 := ⟨by kernel_rfl⟩
instance : ZeroT Tryz.prog 208 [.nilFunc] := ⟨by kernel_rfl⟩
instance : PlainT Tryz.prog 208 := ⟨by kernel_rfl⟩
instance : CellT Tryz.prog 209 := ⟨by kernel_rfl⟩
instance : ZeroT Tryz.prog 209 [.nilFunc] := ⟨by kernel_rfl⟩
instance : PlainT Tryz.prog 209 := ⟨by kernel_rfl⟩
instance : CellT Tryz.prog 210 := ⟨by kernel_rfl⟩
instance : ZeroT Tryz.prog 210 [.int .u64 0] := ⟨by kernel_rfl⟩
instance : PlainT Tryz.prog 210 := ⟨by kernel_rfl⟩
instance : CellT Tryz.prog 211 := ⟨by kernel_rfl⟩
instance : ZeroT Tryz.prog 211 [.nilFunc] := ⟨by kernel_rfl⟩
instance : PlainT Tryz.prog 211 := ⟨by kernel_rfl⟩
instance : CellT Tryz.prog 212 := ⟨by kernel_rfl⟩
instance : ZeroT Tryz.prog 212 [.nilFunc] := ⟨by kernel_rfl⟩
instance : PlainT Tryz.prog 212 := ⟨by kernel_rfl⟩
instance : CellT Tryz.prog 213 := ⟨by kernel_rfl⟩
instance : ZeroT Tryz.prog 213 [.nilFunc] := ⟨by kernel_rfl⟩
instance : PlainT Tryz.prog 213 := ⟨by kernel_rfl⟩
instance : CellT Tryz.prog 214 := ⟨by kernel_rfl⟩
instance : ZeroT Tryz.prog 214 [.int .i64 0] := ⟨by kernel_rfl⟩
instance : PlainT Tryz.prog 214 := ⟨by kernel_rfl⟩
instance : CellT Tryz.prog 216 := ⟨by kernel_rfl⟩
instance : ZeroT Tryz.prog 216 [.nilFunc] := ⟨by kernel_rfl⟩
instance : PlainT Tryz.prog 216 := ⟨by kernel_rfl⟩
instance : CellT Tryz.prog 217 := ⟨by kernel_rfl⟩
instance : ZeroT Tryz.prog 217 [.nilFunc] := ⟨by kernel_rfl⟩
instance : PlainT Tryz.prog 217 := ⟨by kernel_rfl⟩
instance : CellT Tryz.prog 218 := ⟨by kernel_rfl⟩
instance : ZeroT Tryz.prog 218 [.nilFunc] := ⟨by kernel_rfl⟩
instance : PlainT Tryz.prog 218 := ⟨by kernel_rfl⟩
instance : CellT Tryz.prog 219 := ⟨by kernel_rfl⟩
instance : ZeroT Tryz.prog 219 [.nilFunc] := ⟨by kernel_rfl⟩
instance : PlainT Tryz.prog 219 := ⟨by kernel_rfl⟩
instance : CellT Tryz.prog 220 := ⟨by kernel_rfl⟩
instance : ZeroT Tryz.prog 220 [.nilFunc] := ⟨by kernel_rfl⟩
instance : PlainT Tryz.prog 220 := ⟨by kernel_rfl⟩
instance : CellT Tryz.prog 221 := ⟨by kernel_rfl⟩
instance : ZeroT Tryz.prog 221 [.int .u32 0] := ⟨by kernel_rfl⟩
instance : PlainT Tryz.prog 221 := ⟨by kernel_rfl⟩
instance : CellT Tryz.prog 222 := ⟨by kernel_rfl⟩
instance : ZeroT Tryz.prog 222 [.nilFunc] := ⟨by kernel_rfl⟩
instance : PlainT Tryz.prog 222 := ⟨by kernel_rfl⟩
instance : CellT Tryz.prog 223 := ⟨by kernel_rfl⟩
instance : ZeroT Tryz.prog 223 [.int .u64 0] := ⟨by kernel_rfl⟩
instance : PlainT Tryz.prog 223 := ⟨by kernel_rfl⟩
instance : CellT Tryz.prog 224 := ⟨by kernel_rfl⟩
instance : ZeroT Tryz.prog 224 [.nilFunc] := ⟨by kernel_rfl⟩
instance : PlainT Tryz.prog 224 := ⟨by kernel_rfl⟩
instance : CellT Tryz.prog 225 := ⟨by kernel_rfl⟩
instance : ZeroT Tryz.prog 225 [.nilFunc] := ⟨by kernel_rfl⟩
instance : PlainT Tryz.prog 225 := ⟨by kernel_rfl⟩
instance : CellT Tryz.prog 226 := ⟨by kernel_rfl⟩
instance : ZeroT Tryz.prog 226 [.pointer none] := ⟨by kernel_rfl⟩
instance : PtrT Tryz.prog 226 := ⟨by kernel_rfl⟩
instance : PlainT Tryz.prog 226 := ⟨by kernel_rfl⟩
instance : CellT Tryz.prog 227 := ⟨by kernel_rfl⟩
instance : ZeroT Tryz.prog 227 [.nilFunc] := ⟨by kernel_rfl⟩
instance : PlainT Tryz.prog 227 := ⟨by kernel_rfl⟩
instance : CellT Tryz.prog 228 := ⟨by kernel_rfl⟩
instance : ZeroT Tryz.prog 228 [.pointer none] := ⟨by kernel_rfl⟩
instance : MethT Tryz.prog 228 "Next" 127 true 223 := ⟨by kernel_rfl⟩
instance : PtrT Tryz.prog 228 := ⟨by kernel_rfl⟩
instance : PlainT Tryz.prog 228 := ⟨by kernel_rfl⟩
instance : CellT Tryz.prog 230 := ⟨by kernel_rfl⟩
instance : ZeroT Tryz.prog 230 [.nilFunc] := ⟨by kernel_rfl⟩
instance : PlainT Tryz.prog 230 := ⟨by kernel_rfl⟩
instance : CellT Tryz.prog 231 := ⟨by kernel_rfl⟩
instance : ZeroT Tryz.prog 231 [.nilFunc] := ⟨by kernel_rfl⟩
instance : PlainT Tryz.prog 231 := ⟨by kernel_rfl⟩
instance : AggT Tryz.prog 232 4 := ⟨by kernel_rfl⟩
instance : ZeroT Tryz.prog 232 [.pointer none, .pointer none, .pointer none, .string ByteArray.empty] := ⟨by kernel_rfl⟩
instance : PlainT Tryz.prog 232 := ⟨by kernel_rfl⟩
instance : FieldT Tryz.prog 232 0 0 17 := ⟨by kernel_rfl⟩
instance : FieldT Tryz.prog 232 1 1 17 := ⟨by kernel_rfl⟩
instance : FieldT Tryz.prog 232 2 2 17 := ⟨by kernel_rfl⟩
instance : FieldT Tryz.prog 232 3 3 9 := ⟨by kernel_rfl⟩
instance : StructT Tryz.prog 232 [(0, 1), (1, 1), (2, 1), (3, 1)] := ⟨by kernel_rfl⟩
instance : AggT Tryz.prog 233 4 := ⟨by kernel_rfl⟩
instance : ZeroT Tryz.prog 233 [.pointer none, .pointer none, .pointer none, .string ByteArray.empty] := ⟨by kernel_rfl⟩
instance : PlainT Tryz.prog 233 := ⟨by kernel_rfl⟩
instance : FieldT Tryz.prog 233 0 0 17 := ⟨by kernel_rfl⟩
instance : FieldT Tryz.prog 233 1 1 17 := ⟨by kernel_rfl⟩
instance : FieldT Tryz.prog 233 2 2 17 := ⟨by kernel_rfl⟩
instance : FieldT Tryz.prog 233 3 3 9 := ⟨by kernel_rfl⟩
instance : StructT Tryz.prog 233 [(0, 1), (1, 1), (2, 1), (3, 1)] := ⟨by kernel_rfl⟩
instance : AggT Tryz.prog 234 0 := ⟨by kernel_rfl⟩
instance : ZeroT Tryz.prog 234 [] := ⟨by kernel_rfl⟩
instance : PlainT Tryz.prog 234 := ⟨by kernel_rfl⟩
instance : AggT Tryz.prog 235 0 := ⟨by kernel_rfl⟩
instance : ZeroT Tryz.prog 235 [] := ⟨by kernel_rfl⟩
instance : PlainT Tryz.prog 235 := ⟨by kernel_rfl⟩
instance : StructT Tryz.prog 235 [(0, 0)] := ⟨by kernel_rfl⟩
instance : AggT Tryz.prog 236 0 := ⟨by kernel_rfl⟩
instance : ZeroT Tryz.prog 236 [] := ⟨by kernel_rfl⟩
instance : PlainT Tryz.prog 236 := ⟨by kernel_rfl⟩
instance : StructT Tryz.prog 236 [(0, 0)] := ⟨by kernel_rfl⟩
instance : CellT Tryz.prog 237 := ⟨by kernel_rfl⟩
instance : ZeroT Tryz.prog 237 [.int .u8 0] := ⟨by kernel_rfl⟩
instance : PlainT Tryz.prog 237 := ⟨by kernel_rfl⟩
instance : CellT Tryz.prog 238 := ⟨by kernel_rfl⟩
instance : ZeroT Tryz.prog 238 [.int .u8 0] := ⟨by kernel_rfl⟩
instance : PlainT Tryz.prog 238 := ⟨by kernel_rfl⟩
instance : CellT Tryz.prog 239 := ⟨by kernel_rfl⟩
instance : ZeroT Tryz.prog 239 [.nilFunc] := ⟨by kernel_rfl⟩
instance : PlainT Tryz.prog 239 := ⟨by kernel_rfl⟩
instance : CellT Tryz.prog 240 := ⟨by kernel_rfl⟩
instance : ZeroT Tryz.prog 240 [.pointer none] := ⟨by kernel_rfl⟩
instance : PtrT Tryz.prog 240 := ⟨by kernel_rfl⟩
instance : PlainT Tryz.prog 240 := ⟨by kernel_rfl⟩
instance : CellT Tryz.prog 241 := ⟨by kernel_rfl⟩
instance : ZeroT Tryz.prog 241 [.int .i32 0] := ⟨by kernel_rfl⟩
instance : PlainT Tryz.prog 241 := ⟨by kernel_rfl⟩
instance : CellT Tryz.prog 242 := ⟨by kernel_rfl⟩
instance : ZeroT Tryz.prog 242 [.int .i32 0] := ⟨by kernel_rfl⟩
instance : PlainT Tryz.prog 242 := ⟨by kernel_rfl⟩
instance : AggT Tryz.prog 243 11 := ⟨by kernel_rfl⟩
instance : ZeroT Tryz.prog 243 [.int .u64 0, .int .u64 0, .int .u32 0, .int .u8 0, .int .u8 0, .int .u8 0, .int .u8 0, .nilFunc, .pointer none, .int .i32 0, .int .i32 0] := ⟨by kernel_rfl⟩
instance : PlainT Tryz.prog 243 := ⟨by kernel_rfl⟩
instance : FieldT Tryz.prog 243 0 0 12 := ⟨by kernel_rfl⟩
instance : FieldT Tryz.prog 243 1 1 12 := ⟨by kernel_rfl⟩
instance : FieldT Tryz.prog 243 2 2 221 := ⟨by kernel_rfl⟩
instance : FieldT Tryz.prog 243 3 3 237 := ⟨by kernel_rfl⟩
instance : FieldT Tryz.prog 243 4 4 5 := ⟨by kernel_rfl⟩
instance : FieldT Tryz.prog 243 5 5 5 := ⟨by kernel_rfl⟩
instance : FieldT Tryz.prog 243 6 6 238 := ⟨by kernel_rfl⟩
instance : FieldT Tryz.prog 243 7 7 239 := ⟨by kernel_rfl⟩
instance : FieldT Tryz.prog 243 8 8 240 := ⟨by kernel_rfl⟩
instance : FieldT Tryz.prog 243 9 9 241 := ⟨by kernel_rfl⟩
instance : FieldT Tryz.prog 243 10 10 242 := ⟨by kernel_rfl⟩
instance : StructT Tryz.prog 243 [(0, 1), (1, 1), (2, 1), (3, 1), (4, 1), (5, 1), (6, 1), (7, 1), (8, 1), (9, 1), (10, 1)] := ⟨by kernel_rfl⟩
instance : AggT Tryz.prog 244 11 := ⟨by kernel_rfl⟩
instance : ZeroT Tryz.prog 244 [.int .u64 0, .int .u64 0, .int .u32 0, .int .u8 0, .int .u8 0, .int .u8 0, .int .u8 0, .nilFunc, .pointer none, .int .i32 0, .int .i32 0] := ⟨by kernel_rfl⟩
instance : PlainT Tryz.prog 244 := ⟨by kernel_rfl⟩
instance : FieldT Tryz.prog 244 0 0 12 := ⟨by kernel_rfl⟩
instance : FieldT Tryz.prog 244 1 1 12 := ⟨by kernel_rfl⟩
instance : FieldT Tryz.prog 244 2 2 221 := ⟨by kernel_rfl⟩
instance : FieldT Tryz.prog 244 3 3 237 := ⟨by kernel_rfl⟩
instance : FieldT Tryz.prog 244 4 4 5 := ⟨by kernel_rfl⟩
instance : FieldT Tryz.prog 244 5 5 5 := ⟨by kernel_rfl⟩
instance : FieldT Tryz.prog 244 6 6 238 := ⟨by kernel_rfl⟩
instance : FieldT Tryz.prog 244 7 7 239 := ⟨by kernel_rfl⟩
instance : FieldT Tryz.prog 244 8 8 240 := ⟨by kernel_rfl⟩
instance : FieldT Tryz.prog 244 9 9 241 := ⟨by kernel_rfl⟩
instance : FieldT Tryz.prog 244 10 10 242 := ⟨by kernel_rfl⟩
instance : StructT Tryz.prog 244 [(0, 1), (1, 1), (2, 1), (3, 1), (4, 1), (5, 1), (6, 1), (7, 1), (8, 1), (9, 1), (10, 1)] := ⟨by kernel_rfl⟩
instance : CellT Tryz.prog 245 := ⟨by kernel_rfl⟩
instance : ZeroT Tryz.prog 245 [.nilFunc] := ⟨by kernel_rfl⟩
instance : PlainT Tryz.prog 245 := ⟨by kernel_rfl⟩
instance : CellT Tryz.prog 246 := ⟨by kernel_rfl⟩
instance : ZeroT Tryz.prog 246 [.nilFunc] := ⟨by kernel_rfl⟩
instance : PlainT Tryz.prog 246 := ⟨by kernel_rfl⟩
instance : CellT Tryz.prog 247 := ⟨by kernel_rfl⟩
instance : ZeroT Tryz.prog 247 [.nilFunc] := ⟨by kernel_rfl⟩
instance : PlainT Tryz.prog 247 := ⟨by kernel_rfl⟩
instance : CellT Tryz.prog 248 := ⟨by kernel_rfl⟩
instance : ZeroT Tryz.prog 248 [.nilFunc] := ⟨by kernel_rfl⟩
instance : PlainT Tryz.prog 248 := ⟨by kernel_rfl⟩
instance : CellT Tryz.prog 249 := ⟨by kernel_rfl⟩
instance : ZeroT Tryz.prog 249 [.nilFunc] := ⟨by kernel_rfl⟩
instance : PlainT Tryz.prog 249 := ⟨by kernel_rfl⟩
instance : CellT Tryz.prog 250 := ⟨by kernel_rfl⟩
instance : ZeroT Tryz.prog 250 [.map none] := ⟨by kernel_rfl⟩
instance : PlainT Tryz.prog 250 := ⟨by kernel_rfl⟩
instance : SliceT Tryz.prog 251 255 2 16 := ⟨by kernel_rfl⟩
instance : CellT Tryz.prog 251 := ⟨by kernel_rfl⟩
instance : ZeroT Tryz.prog 251 [.slice none 0 0] := ⟨by kernel_rfl⟩
instance : PlainT Tryz.prog 251 := ⟨by kernel_rfl⟩
instance : SliceT Tryz.prog 252 255 2 16 := ⟨by kernel_rfl⟩
instance : CellT Tryz.prog 252 := ⟨by kernel_rfl⟩
instance : ZeroT Tryz.prog 252 [.slice none 0 0] := ⟨by kernel_rfl⟩
instance : PlainT Tryz.prog 252 := ⟨by kernel_rfl⟩
instance : CellT Tryz.prog 253 := ⟨by kernel_rfl⟩
instance : ZeroT Tryz.prog 253 [.pointer none] := ⟨by kernel_rfl⟩
instance : MethT Tryz.prog 253 "Len" 165 false 252 := ⟨by kernel_rfl⟩
instance : MethT Tryz.prog 253 "Less" 170 false 252 := ⟨by kernel_rfl⟩
instance : MethT Tryz.prog 253 "Pop" 172 true 252 := ⟨by kernel_rfl⟩
instance : MethT Tryz.prog 253 "Push" 173 true 252 := ⟨by kernel_rfl⟩
instance : MethT Tryz.prog 253 "Swap" 171 false 252 := ⟨by kernel_rfl⟩
instance : PtrT Tryz.prog 253 := ⟨by kernel_rfl⟩
instance : PlainT Tryz.prog 253 := ⟨by kernel_rfl⟩
instance : AggT Tryz.prog 254 2 := ⟨by kernel_rfl⟩
instance : ZeroT Tryz.prog 254 [.int .i64 0, .int .i64 0] := ⟨by kernel_rfl⟩
instance : PlainT Tryz.prog 254 := ⟨by kernel_rfl⟩
instance : FieldT Tryz.prog 254 0 0 3 := ⟨by kernel_rfl⟩
instance : FieldT Tryz.prog 254 1 1 3 := ⟨by kernel_rfl⟩
instance : StructT Tryz.prog 254 [(0, 1), (1, 1)] := ⟨by kernel_rfl⟩
instance : AggT Tryz.prog 255 2 := ⟨by kernel_rfl⟩
instance : ZeroT Tryz.prog 255 [.int .i64 0, .int .i64 0] := ⟨by kernel_rfl⟩
instance : PlainT Tryz.prog 255 := ⟨by kernel_rfl⟩
instance : FieldT Tryz.prog 255 0 0 3 := ⟨by kernel_rfl⟩
instance : FieldT Tryz.prog 255 1 1 3 := ⟨by kernel_rfl⟩
instance : StructT Tryz.prog 255 [(0, 1), (1, 1)] := ⟨by kernel_rfl⟩
instance : CellT Tryz.prog 257 := ⟨by kernel_rfl⟩
instance : ZeroT Tryz.prog 257 [.pointer none] := ⟨by kernel_rfl⟩
instance : PlainT Tryz.prog 257 := ⟨by kernel_rfl⟩
-- 3 stratagem/stratagemlaw49.AstarErrors
instance : CallT Tryz.prog 3 := ⟨by kernel_rfl⟩
-- 4 stratagem/stratagemlaw49.AstarTables
instance : CallT Tryz.prog 4 := ⟨by kernel_rfl⟩
-- 5 stratagem/stratagemlaw49.AstarConsistent
instance : CallT Tryz.prog 5 := ⟨by kernel_rfl⟩
-- 6 stratagem/stratagemlaw49.AstarBounded
instance : CallT Tryz.prog 6 := ⟨by kernel_rfl⟩
-- 7 stratagem/stratagemlaw49.AstarPerfect
instance : CallT Tryz.prog 7 := ⟨by kernel_rfl⟩
-- 8 stratagem/stratagemlaw49.AstarAnyTable
instance : CallT Tryz.prog 8 := ⟨by kernel_rfl⟩
-- 9 stratagem/stratagemlaw49.fits
instance : CallT Tryz.prog 9 := ⟨by kernel_rfl⟩
-- 10 stratagem/stratagemlaw49.awake
instance : CallT Tryz.prog 10 := ⟨by kernel_rfl⟩
-- 11 stratagem/estimate.Blind
instance : CallT Tryz.prog 11 := ⟨by kernel_rfl⟩
-- 12 stratagem/astar.Search
instance : CallT Tryz.prog 12 := ⟨by kernel_rfl⟩
-- 13 stratagem/astar.Bounded
instance : CallT Tryz.prog 13 := ⟨by kernel_rfl⟩
-- 14 stratagem/stratagembase.Good
instance : CallT Tryz.prog 14 := ⟨by kernel_rfl⟩
-- 15 stratagem/stratagembase.Num
instance : CallT Tryz.prog 15 := ⟨by kernel_rfl⟩
-- 16 stratagem/task.Check
instance : CallT Tryz.prog 16 := ⟨by kernel_rfl⟩
-- 17 stratagem/stratagembase.Tasks
instance : CallT Tryz.prog 17 := ⟨by kernel_rfl⟩
-- 18 stratagem/stratagemref48.Same
instance : CallT Tryz.prog 18 := ⟨by kernel_rfl⟩
-- 19 stratagem/estimate.Table
instance : CallT Tryz.prog 19 := ⟨by kernel_rfl⟩
-- 20 stratagem/stratagemlaw49.below
instance : CallT Tryz.prog 20 := ⟨by kernel_rfl⟩
-- 21 stratagem/stratagembase.Result
instance : CallT Tryz.prog 21 := ⟨by kernel_rfl⟩
-- 22 stratagem/stratagembase.Best
instance : CallT Tryz.prog 22 := ⟨by kernel_rfl⟩
-- 23 stratagem/stratagembase.Small
instance : CallT Tryz.prog 23 := ⟨by kernel_rfl⟩
-- 24 stratagem/estimate.HMax
instance : CallT Tryz.prog 24 := ⟨by kernel_rfl⟩
-- 25 stratagem/stratagembase.Many
instance : CallT Tryz.prog 25 := ⟨by kernel_rfl⟩
-- 26 stratagem/stratagembase.States
instance : CallT Tryz.prog 26 := ⟨by kernel_rfl⟩
-- 27 stratagem/stratagemref48.Costs
instance : CallT Tryz.prog 27 := ⟨by kernel_rfl⟩
-- 28 (*stratagem/estimate.Estimate).Value
instance : CallT Tryz.prog 28 := ⟨by kernel_rfl⟩
-- 29 stratagem/stratagembase.Distances
instance : CallT Tryz.prog 29 := ⟨by kernel_rfl⟩
-- 30 stratagem/task.Solves
instance : CallT Tryz.prog 30 := ⟨by kernel_rfl⟩
-- 31 stratagem/stratagemlaw49.example
instance : CallT Tryz.prog 31 := ⟨by kernel_rfl⟩
-- 32 stratagem/stratagembase.Ints
instance : CallT Tryz.prog 32 := ⟨by kernel_rfl⟩
-- 33 stratagem/estimate.made
instance : CallT Tryz.prog 33 := ⟨by kernel_rfl⟩
-- 34 stratagem/estimate.facts
instance : CallT Tryz.prog 34 := ⟨by kernel_rfl⟩
-- 35 stratagem/astar.begin
instance : CallT Tryz.prog 35 := ⟨by kernel_rfl⟩
-- 36 (*stratagem/astar.search).run
instance : CallT Tryz.prog 36 := ⟨by kernel_rfl⟩
-- 37 stratagem/stratagembase.State
instance : CallT Tryz.prog 37 := ⟨by kernel_rfl⟩
-- 38 stratagem/stratagembase.Proper
instance : CallT Tryz.prog 38 := ⟨by kernel_rfl⟩
-- 39 stratagem/stratagembase.operator
instance : CallT Tryz.prog 39 := ⟨by kernel_rfl⟩
-- 40 stratagem/task.large
instance : CallT Tryz.prog 40 := ⟨by kernel_rfl⟩
-- 41 stratagem/task.Proper
instance : CallT Tryz.prog 41 := ⟨by kernel_rfl⟩
-- 42 stratagem/task.conditions
instance : CallT Tryz.prog 42 := ⟨by kernel_rfl⟩
-- 43 stratagem/task.Facts
instance : CallT Tryz.prog 43 := ⟨by kernel_rfl⟩
-- 44 stratagem/task.named
instance : CallT Tryz.prog 44 := ⟨by kernel_rfl⟩
-- 45 stratagem/stratagembase.Facts
instance : CallT Tryz.prog 45 := ⟨by kernel_rfl⟩
-- 46 stratagem/stratagembase.Effects
instance : CallT Tryz.prog 46 := ⟨by kernel_rfl⟩
-- 47 stratagem/task.States
instance : CallT Tryz.prog 47 := ⟨by kernel_rfl⟩
-- 48 slices.ContainsFunc[[]int,int]
instance : CallT Tryz.prog 48 := ⟨by kernel_rfl⟩
-- 49 stratagem/estimate.Table$1
instance : CallT Tryz.prog 49 := ⟨by kernel_rfl⟩
-- 50 stratagem/estimate.copied
instance : CallT Tryz.prog 50 := ⟨by kernel_rfl⟩
-- 51 slices.Clone[[]int,int]
instance : CallT Tryz.prog 51 := ⟨by kernel_rfl⟩
-- 52 stratagem/stratagembase.Cost
instance : CallT Tryz.prog 52 := ⟨by kernel_rfl⟩
-- 53 stratagem/stratagembase.Rank
instance : CallT Tryz.prog 53 := ⟨by kernel_rfl⟩
-- 54 stratagem/relax.New
instance : CallT Tryz.prog 54 := ⟨by kernel_rfl⟩
-- 55 stratagem/stratagembase.Edges
instance : CallT Tryz.prog 55 := ⟨by kernel_rfl⟩
-- 56 stratagem/stratagembase.Holds
instance : CallT Tryz.prog 56 := ⟨by kernel_rfl⟩
-- 57 stratagem/task.Run
instance : CallT Tryz.prog 57 := ⟨by kernel_rfl⟩
-- 58 stratagem/task.Holds
instance : CallT Tryz.prog 58 := ⟨by kernel_rfl⟩
-- 59 slices.Clone[[]stratagem/api.Fact,stratagem/api.Fact]
instance : CallT Tryz.prog 59 := ⟨by kernel_rfl⟩
-- 60 (*stratagem/estimate.Estimate).For
instance : CallT Tryz.prog 60 := ⟨by kernel_rfl⟩
-- 61 stratagem/succgen.New
instance : CallT Tryz.prog 61 := ⟨by kernel_rfl⟩
-- 62 stratagem/registry.New
instance : CallT Tryz.prog 62 := ⟨by kernel_rfl⟩
-- 63 (*stratagem/astar.search).reach
instance : CallT Tryz.prog 63 := ⟨by kernel_rfl⟩
-- 64 (*stratagem/astar.search).next
instance : CallT Tryz.prog 64 := ⟨by kernel_rfl⟩
-- 65 (*stratagem/registry.Registry).State
instance : CallT Tryz.prog 65 := ⟨by kernel_rfl⟩
-- 66 (*stratagem/registry.Registry).Path
instance : CallT Tryz.prog 66 := ⟨by kernel_rfl⟩
-- 67 (*stratagem/astar.search).cost
instance : CallT Tryz.prog 67 := ⟨by kernel_rfl⟩
-- 68 (*stratagem/succgen.Generator).Successors
instance : CallT Tryz.prog 68 := ⟨by kernel_rfl⟩
-- 69 slices.ContainsFunc[[][]stratagem/api.Fact,[]stratagem/api.Fact]
instance : CallT Tryz.prog 69 := ⟨by kernel_rfl⟩
-- 70 stratagem/task.large$1
instance : CallT Tryz.prog 70 := ⟨by kernel_rfl⟩
-- 71 slices.IndexFunc[[]int,int]
instance : CallT Tryz.prog 71 := ⟨by kernel_rfl⟩
-- 72 slices.Clone[[]stratagem/api.Effect,stratagem/api.Effect]
instance : CallT Tryz.prog 72 := ⟨by kernel_rfl⟩
-- 73 stratagem/stratagembase.Apply
instance : CallT Tryz.prog 73 := ⟨by kernel_rfl⟩
-- 74 (*stratagem/relax.Relaxation).add
instance : CallT Tryz.prog 74 := ⟨by kernel_rfl⟩
-- 75 (*stratagem/relax.Relaxation).number
instance : CallT Tryz.prog 75 := ⟨by kernel_rfl⟩
-- 76 stratagem/task.apply
instance : CallT Tryz.prog 76 := ⟨by kernel_rfl⟩
-- 77 stratagem/estimate.same
instance : CallT Tryz.prog 77 := ⟨by kernel_rfl⟩
-- 78 stratagem/succgen.copied
instance : CallT Tryz.prog 78 := ⟨by kernel_rfl⟩
-- 79 (*stratagem/succgen.Generator).build
instance : CallT Tryz.prog 79 := ⟨by kernel_rfl⟩
-- 80 stratagem/pack.New
instance : CallT Tryz.prog 80 := ⟨by kernel_rfl⟩
-- 81 (*stratagem/registry.Registry).Add
instance : CallT Tryz.prog 81 := ⟨by kernel_rfl⟩
-- 82 (*stratagem/registry.Registry).SetLink
instance : CallT Tryz.prog 82 := ⟨by kernel_rfl⟩
-- 83 container/heap.Push
instance : CallT Tryz.prog 83 := ⟨by kernel_rfl⟩
-- 84 container/heap.Pop
instance : CallT Tryz.prog 84 := ⟨by kernel_rfl⟩
-- 85 (*stratagem/registry.Registry).has
instance : CallT Tryz.prog 85 := ⟨by kernel_rfl⟩
-- 86 (*stratagem/pack.Packer).Unpack
instance : CallT Tryz.prog 86 := ⟨by kernel_rfl⟩
-- 87 slices.Reverse[[]int,int]
instance : CallT Tryz.prog 87 := ⟨by kernel_rfl⟩
-- 88 (*stratagem/succgen.Generator).Applicable
instance : CallT Tryz.prog 88 := ⟨by kernel_rfl⟩
-- 89 slices.IndexFunc[[][]stratagem/api.Fact,[]stratagem/api.Fact]
instance : CallT Tryz.prog 89 := ⟨by kernel_rfl⟩
-- 90 slices.Contains[[]int,int]
instance : CallT Tryz.prog 90 := ⟨by kernel_rfl⟩
-- 91 slices.Equal[[]int,int]
instance : CallT Tryz.prog 91 := ⟨by kernel_rfl⟩
-- 92 slices.Equal[[]stratagem/api.Fact,stratagem/api.Fact]
instance : CallT Tryz.prog 92 := ⟨by kernel_rfl⟩
-- 93 slices.EqualFunc[[]stratagem/api.Op,[]stratagem/api.Op,stratagem/api.Op,stratagem/api.Op]
instance : CallT Tryz.prog 93 := ⟨by kernel_rfl⟩
-- 94 stratagem/estimate.sameOp
instance : CallT Tryz.prog 94 := ⟨by kernel_rfl⟩
-- 95 (*stratagem/succgen.Generator).build$1
instance : CallT Tryz.prog 95 := ⟨by kernel_rfl⟩
-- 96 (*stratagem/succgen.Generator).fact
instance : CallT Tryz.prog 96 := ⟨by kernel_rfl⟩
-- 97 (*stratagem/registry.Registry).find
instance : CallT Tryz.prog 97 := ⟨by kernel_rfl⟩
-- 98 container/heap.up
instance : CallT Tryz.prog 98 := ⟨by kernel_rfl⟩
-- 99 container/heap.down
instance : CallT Tryz.prog 99 := ⟨by kernel_rfl⟩
-- 100 slices.Clone[[]uint64,uint64]
instance : CallT Tryz.prog 100 := ⟨by kernel_rfl⟩
-- 101 (stratagem/pack.field).get
instance : CallT Tryz.prog 101 := ⟨by kernel_rfl⟩
-- 102 (stratagem/pack.field).mask
instance : CallT Tryz.prog 102 := ⟨by kernel_rfl⟩
-- 103 (*stratagem/succgen.Generator).find
instance : CallT Tryz.prog 103 := ⟨by kernel_rfl⟩
-- 104 slices.Index[[]int,int]
instance : CallT Tryz.prog 104 := ⟨by kernel_rfl⟩
-- 105 slices.EqualFunc[[]stratagem/api.Effect,[]stratagem/api.Effect,stratagem/api.Effect,stratagem/api.Effect]
instance : CallT Tryz.prog 105 := ⟨by kernel_rfl⟩
-- 106 stratagem/estimate.sameEffect
instance : CallT Tryz.prog 106 := ⟨by kernel_rfl⟩
-- 107 (*stratagem/pack.Packer).Pack
instance : CallT Tryz.prog 107 := ⟨by kernel_rfl⟩
-- 108 (*stratagem/pack.Packer).Hash
instance : CallT Tryz.prog 108 := ⟨by kernel_rfl⟩
-- 109 slices.Equal[[]uint64,uint64]
instance : CallT Tryz.prog 109 := ⟨by kernel_rfl⟩
-- 110 (*stratagem/succgen.node).collect
instance : CallT Tryz.prog 110 := ⟨by kernel_rfl⟩
-- 111 slices.Sort[[]int,int]
instance : CallT Tryz.prog 111 := ⟨by kernel_rfl⟩
-- 112 slices.pdqsortOrdered[int]
instance : CallT Tryz.prog 112 := ⟨by kernel_rfl⟩
-- 113 math/bits.Len
instance : CallT Tryz.prog 113 := ⟨by kernel_rfl⟩
-- 114 slices.insertionSortOrdered[int]
instance : CallT Tryz.prog 114 := ⟨by kernel_rfl⟩
-- 115 slices.heapSortOrdered[int]
instance : CallT Tryz.prog 115 := ⟨by kernel_rfl⟩
-- 116 slices.breakPatternsOrdered[int]
instance : CallT Tryz.prog 116 := ⟨by kernel_rfl⟩
-- 117 slices.choosePivotOrdered[int]
instance : CallT Tryz.prog 117 := ⟨by kernel_rfl⟩
-- 118 slices.reverseRangeOrdered[int]
instance : CallT Tryz.prog 118 := ⟨by kernel_rfl⟩
-- 119 slices.partialInsertionSortOrdered[int]
instance : CallT Tryz.prog 119 := ⟨by kernel_rfl⟩
-- 120 cmp.Less[int]
instance : CallT Tryz.prog 120 := ⟨by kernel_rfl⟩
-- 121 slices.partitionEqualOrdered[int]
instance : CallT Tryz.prog 121 := ⟨by kernel_rfl⟩
-- 122 slices.partitionOrdered[int]
instance : CallT Tryz.prog 122 := ⟨by kernel_rfl⟩
-- 123 math/bits.Len32
instance : CallT Tryz.prog 123 := ⟨by kernel_rfl⟩
-- 124 math/bits.Len64
instance : CallT Tryz.prog 124 := ⟨by kernel_rfl⟩
-- 125 slices.siftDownOrdered[int]
instance : CallT Tryz.prog 125 := ⟨by kernel_rfl⟩
-- 126 slices.nextPowerOfTwo
instance : CallT Tryz.prog 126 := ⟨by kernel_rfl⟩
-- 128 slices.medianAdjacentOrdered[int]
instance : CallT Tryz.prog 128 := ⟨by kernel_rfl⟩
-- 129 slices.medianOrdered[int]
instance : CallT Tryz.prog 129 := ⟨by kernel_rfl⟩
-- 130 cmp.isNaN[int]
instance : CallT Tryz.prog 130 := ⟨by kernel_rfl⟩
-- 131 slices.order2Ordered[int]
instance : CallT Tryz.prog 131 := ⟨by kernel_rfl⟩
-- 149 (stratagem/estimate.blind).Value
instance : CallT Tryz.prog 149 := ⟨by kernel_rfl⟩
-- 151 (*stratagem/registry.Registry).Len
instance : CallT Tryz.prog 151 := ⟨by kernel_rfl⟩
-- 152 (stratagem/astar.open).Len
instance : CallT Tryz.prog 152 := ⟨by kernel_rfl⟩
-- 153 (stratagem/astar.open).Less
instance : CallT Tryz.prog 153 := ⟨by kernel_rfl⟩
-- 154 (stratagem/astar.open).Swap
instance : CallT Tryz.prog 154 := ⟨by kernel_rfl⟩
-- 155 cmp.Or[int]
instance : CallT Tryz.prog 155 := ⟨by kernel_rfl⟩
-- 156 cmp.Compare[int]
instance : CallT Tryz.prog 156 := ⟨by kernel_rfl⟩
-- 158 (stratagem/estimate.table).Value
instance : CallT Tryz.prog 158 := ⟨by kernel_rfl⟩
-- 159 stratagem/task.Rank
instance : CallT Tryz.prog 159 := ⟨by kernel_rfl⟩
-- 160 stratagem/task.counted
instance : CallT Tryz.prog 160 := ⟨by kernel_rfl⟩
-- 161 (*stratagem/relax.Relaxation).Max
instance : CallT Tryz.prog 161 := ⟨by kernel_rfl⟩
-- 162 (stratagem/estimate.hmax).Value
instance : CallT Tryz.prog 162 := ⟨by kernel_rfl⟩
-- 163 (*stratagem/relax.Relaxation).values
instance : CallT Tryz.prog 163 := ⟨by kernel_rfl⟩
-- 164 (*stratagem/relax.Relaxation).values$1
instance : CallT Tryz.prog 164 := ⟨by kernel_rfl⟩
-- 165 (stratagem/relax.open).Len
instance : CallT Tryz.prog 165 := ⟨by kernel_rfl⟩
-- 167 (*stratagem/astar.open).Pop
instance : CallT Tryz.prog 167 := ⟨by kernel_rfl⟩
-- 168 (*stratagem/astar.open).Push
instance : CallT Tryz.prog 168 := ⟨by kernel_rfl⟩
-- 170 (stratagem/relax.open).Less
instance : CallT Tryz.prog 170 := ⟨by kernel_rfl⟩
-- 171 (stratagem/relax.open).Swap
instance : CallT Tryz.prog 171 := ⟨by kernel_rfl⟩
-- 172 (*stratagem/relax.open).Pop
instance : CallT Tryz.prog 172 := ⟨by kernel_rfl⟩
-- 173 (*stratagem/relax.open).Push
instance : CallT Tryz.prog 173 := ⟨by kernel_rfl⟩
theorem mixed : Tryz.prog.follows .mixedOrders = true := by kernel_rfl
end Go.Proofs.YtegndanecnicaaaGreat
