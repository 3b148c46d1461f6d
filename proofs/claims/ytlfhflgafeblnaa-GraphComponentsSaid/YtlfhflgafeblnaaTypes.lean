/-
  The types of this seat, as the steps of the generator ask for them: closed facts on the program.
-/
import Derived.Test.YtlfhflgafeblnaaSlGo
import Derived.Test.YtlfhflgafeblnaaProg
import Derived.KernelRfl
namespace Go.Proofs.Ytlfhflgafeblnaa
open Go.Sl
instance : CellT Try.prog 1 := ⟨by kernel_rfl⟩
instance : ZeroT Try.prog 1 [.nilFunc] := ⟨by kernel_rfl⟩
instance : PlainT Try.prog 1 := ⟨by kernel_rfl⟩
instance : CellT Try.prog 2 := ⟨by kernel_rfl⟩
instance : ZeroT Try.prog 2 [.int .i64 0] := ⟨by kernel_rfl⟩
instance : PlainT Try.prog 2 := ⟨by kernel_rfl⟩
instance : CellT Try.prog 3 := ⟨by kernel_rfl⟩
instance : ZeroT Try.prog 3 [.int .i64 0] := ⟨by kernel_rfl⟩
instance : PlainT Try.prog 3 := ⟨by kernel_rfl⟩
instance : CellT Try.prog 4 := ⟨by kernel_rfl⟩
instance : ZeroT Try.prog 4 [.bool false] := ⟨by kernel_rfl⟩
instance : BoolT Try.prog 4 := ⟨by kernel_rfl⟩
instance : PlainT Try.prog 4 := ⟨by kernel_rfl⟩
instance : CellT Try.prog 5 := ⟨by kernel_rfl⟩
instance : ZeroT Try.prog 5 [.int .u8 0] := ⟨by kernel_rfl⟩
instance : PlainT Try.prog 5 := ⟨by kernel_rfl⟩
instance : CellT Try.prog 6 := ⟨by kernel_rfl⟩
instance : ZeroT Try.prog 6 [.int .u8 0] := ⟨by kernel_rfl⟩
instance : PlainT Try.prog 6 := ⟨by kernel_rfl⟩
instance : AggT Try.prog 7 4 := ⟨by kernel_rfl⟩
instance : ZeroT Try.prog 7 [.int .i64 0, .int .i64 0, .bool false, .int .u8 0] := ⟨by kernel_rfl⟩
instance : PlainT Try.prog 7 := ⟨by kernel_rfl⟩
instance : FieldT Try.prog 7 0 0 2 := ⟨by kernel_rfl⟩
instance : FieldT Try.prog 7 1 1 3 := ⟨by kernel_rfl⟩
instance : FieldT Try.prog 7 2 2 4 := ⟨by kernel_rfl⟩
instance : FieldT Try.prog 7 3 3 6 := ⟨by kernel_rfl⟩
instance : StructT Try.prog 7 [(0, 1), (1, 1), (2, 1), (3, 1)] := ⟨by kernel_rfl⟩
instance : AggT Try.prog 8 4 := ⟨by kernel_rfl⟩
instance : ZeroT Try.prog 8 [.int .i64 0, .int .i64 0, .bool false, .int .u8 0] := ⟨by kernel_rfl⟩
instance : PlainT Try.prog 8 := ⟨by kernel_rfl⟩
instance : FieldT Try.prog 8 0 0 2 := ⟨by kernel_rfl⟩
instance : FieldT Try.prog 8 1 1 3 := ⟨by kernel_rfl⟩
instance : FieldT Try.prog 8 2 2 4 := ⟨by kernel_rfl⟩
instance : FieldT Try.prog 8 3 3 6 := ⟨by kernel_rfl⟩
instance : StructT Try.prog 8 [(0, 1), (1, 1), (2, 1), (3, 1)] := ⟨by kernel_rfl⟩
instance : CellT Try.prog 9 := ⟨by kernel_rfl⟩
instance : ZeroT Try.prog 9 [.string ByteArray.empty] := ⟨by kernel_rfl⟩
instance : PlainT Try.prog 9 := ⟨by kernel_rfl⟩
instance : CellT Try.prog 10 := ⟨by kernel_rfl⟩
instance : ZeroT Try.prog 10 [.string ByteArray.empty] := ⟨by kernel_rfl⟩
instance : PlainT Try.prog 10 := ⟨by kernel_rfl⟩
instance : CellT Try.prog 11 := ⟨by kernel_rfl⟩
instance : ZeroT Try.prog 11 [.string ByteArray.empty] := ⟨by kernel_rfl⟩
instance : PlainT Try.prog 11 := ⟨by kernel_rfl⟩
instance : CellT Try.prog 12 := ⟨by kernel_rfl⟩
instance : ZeroT Try.prog 12 [.int .u64 0] := ⟨by kernel_rfl⟩
instance : PlainT Try.prog 12 := ⟨by kernel_rfl⟩
instance : AggT Try.prog 13 2 := ⟨by kernel_rfl⟩
instance : ZeroT Try.prog 13 [.string ByteArray.empty, .int .u64 0] := ⟨by kernel_rfl⟩
instance : PlainT Try.prog 13 := ⟨by kernel_rfl⟩
instance : FieldT Try.prog 13 0 0 9 := ⟨by kernel_rfl⟩
instance : FieldT Try.prog 13 1 1 12 := ⟨by kernel_rfl⟩
instance : StructT Try.prog 13 [(0, 1), (1, 1)] := ⟨by kernel_rfl⟩
instance : AggT Try.prog 14 2 := ⟨by kernel_rfl⟩
instance : ZeroT Try.prog 14 [.string ByteArray.empty, .int .u64 0] := ⟨by kernel_rfl⟩
instance : PlainT Try.prog 14 := ⟨by kernel_rfl⟩
instance : FieldT Try.prog 14 0 0 9 := ⟨by kernel_rfl⟩
instance : FieldT Try.prog 14 1 1 12 := ⟨by kernel_rfl⟩
instance : StructT Try.prog 14 [(0, 1), (1, 1)] := ⟨by kernel_rfl⟩
instance : CellT Try.prog 15 := ⟨by kernel_rfl⟩
instance : ZeroT Try.prog 15 [.pointer none] := ⟨by kernel_rfl⟩
instance : MethT Try.prog 15 "Error" 52 true 85 := ⟨by kernel_rfl⟩
instance : MethT Try.prog 15 "RuntimeError" 53 true 85 := ⟨by kernel_rfl⟩
instance : PlainT Try.prog 15 := ⟨by kernel_rfl⟩
instance : CellT Try.prog 16 := ⟨by kernel_rfl⟩
instance : ZeroT Try.prog 16 [.pointer none] := ⟨by kernel_rfl⟩
instance : MethT Try.prog 16 "Error" 54 true 88 := ⟨by kernel_rfl⟩
instance : MethT Try.prog 16 "RuntimeError" 55 true 88 := ⟨by kernel_rfl⟩
instance : PlainT Try.prog 16 := ⟨by kernel_rfl⟩
instance : CellT Try.prog 17 := ⟨by kernel_rfl⟩
instance : ZeroT Try.prog 17 [.pointer none] := ⟨by kernel_rfl⟩
instance : MethT Try.prog 17 "Align" 56 true 97 := ⟨by kernel_rfl⟩
instance : MethT Try.prog 17 "Len" 57 true 97 := ⟨by kernel_rfl⟩
instance : PlainT Try.prog 17 := ⟨by kernel_rfl⟩
instance : AggT Try.prog 18 1 := ⟨by kernel_rfl⟩
instance : ZeroT Try.prog 18 [.pointer none] := ⟨by kernel_rfl⟩
instance : PlainT Try.prog 18 := ⟨by kernel_rfl⟩
instance : FieldT Try.prog 18 0 0 17 := ⟨by kernel_rfl⟩
instance : StructT Try.prog 18 [(0, 1)] := ⟨by kernel_rfl⟩
instance : AggT Try.prog 19 1 := ⟨by kernel_rfl⟩
instance : ZeroT Try.prog 19 [.pointer none] := ⟨by kernel_rfl⟩
instance : PlainT Try.prog 19 := ⟨by kernel_rfl⟩
instance : FieldT Try.prog 19 0 0 17 := ⟨by kernel_rfl⟩
instance : StructT Try.prog 19 [(0, 1)] := ⟨by kernel_rfl⟩
instance : CellT Try.prog 20 := ⟨by kernel_rfl⟩
instance : ZeroT Try.prog 20 [.nilIface] := ⟨by kernel_rfl⟩
instance : IfaceT Try.prog 20 := ⟨by kernel_rfl⟩
instance : CellT Try.prog 21 := ⟨by kernel_rfl⟩
instance : ZeroT Try.prog 21 [.int .i32 0] := ⟨by kernel_rfl⟩
instance : PlainT Try.prog 21 := ⟨by kernel_rfl⟩
instance : SliceT Try.prog 22 45 3 24 := ⟨by kernel_rfl⟩
instance : CellT Try.prog 22 := ⟨by kernel_rfl⟩
instance : ZeroT Try.prog 22 [.slice none 0 0] := ⟨by kernel_rfl⟩
instance : PlainT Try.prog 22 := ⟨by kernel_rfl⟩
instance : AggT Try.prog 23 2 := ⟨by kernel_rfl⟩
instance : ZeroT Try.prog 23 [.int .i64 0, .slice none 0 0] := ⟨by kernel_rfl⟩
instance : PlainT Try.prog 23 := ⟨by kernel_rfl⟩
instance : FieldT Try.prog 23 0 0 3 := ⟨by kernel_rfl⟩
instance : FieldT Try.prog 23 1 1 22 := ⟨by kernel_rfl⟩
instance : StructT Try.prog 23 [(0, 1), (1, 1)] := ⟨by kernel_rfl⟩
instance : AggT Try.prog 24 2 := ⟨by kernel_rfl⟩
instance : ZeroT Try.prog 24 [.int .i64 0, .slice none 0 0] := ⟨by kernel_rfl⟩
instance : PlainT Try.prog 24 := ⟨by kernel_rfl⟩
instance : FieldT Try.prog 24 0 0 3 := ⟨by kernel_rfl⟩
instance : FieldT Try.prog 24 1 1 22 := ⟨by kernel_rfl⟩
instance : StructT Try.prog 24 [(0, 1), (1, 1)] := ⟨by kernel_rfl⟩
instance : CellT Try.prog 25 := ⟨by kernel_rfl⟩
instance : ZeroT Try.prog 25 [.nilFunc] := ⟨by kernel_rfl⟩
instance : PlainT Try.prog 25 := ⟨by kernel_rfl⟩
instance : CellT Try.prog 26 := ⟨by kernel_rfl⟩
instance : ZeroT Try.prog 26 [.nilFunc] := ⟨by kernel_rfl⟩
instance : PlainT Try.prog 26 := ⟨by kernel_rfl⟩
instance : SliceT Try.prog 27 3 1 8 := ⟨by kernel_rfl⟩
instance : CellT Try.prog 27 := ⟨by kernel_rfl⟩
instance : ZeroT Try.prog 27 [.slice none 0 0] := ⟨by kernel_rfl⟩
instance : PlainT Try.prog 27 := ⟨by kernel_rfl⟩
instance : CellT Try.prog 28 := ⟨by kernel_rfl⟩
instance : ZeroT Try.prog 28 [.nilIface] := ⟨by kernel_rfl⟩
instance : IfaceT Try.prog 28 := ⟨by kernel_rfl⟩
instance : CellT Try.prog 29 := ⟨by kernel_rfl⟩
instance : ZeroT Try.prog 29 [.nilIface] := ⟨by kernel_rfl⟩
instance : IfaceT Try.prog 29 := ⟨by kernel_rfl⟩
instance : CellT Try.prog 31 := ⟨by kernel_rfl⟩
instance : ZeroT Try.prog 31 [.nilFunc] := ⟨by kernel_rfl⟩
instance : PlainT Try.prog 31 := ⟨by kernel_rfl⟩
instance : CellT Try.prog 33 := ⟨by kernel_rfl⟩
instance : ZeroT Try.prog 33 [.nilFunc] := ⟨by kernel_rfl⟩
instance : PlainT Try.prog 33 := ⟨by kernel_rfl⟩
instance : CellT Try.prog 34 := ⟨by kernel_rfl⟩
instance : ZeroT Try.prog 34 [.nilFunc] := ⟨by kernel_rfl⟩
instance : PlainT Try.prog 34 := ⟨by kernel_rfl⟩
instance : CellT Try.prog 35 := ⟨by kernel_rfl⟩
instance : ZeroT Try.prog 35 [.nilFunc] := ⟨by kernel_rfl⟩
instance : PlainT Try.prog 35 := ⟨by kernel_rfl⟩
instance : CellT Try.prog 36 := ⟨by kernel_rfl⟩
instance : ZeroT Try.prog 36 [.nilFunc] := ⟨by kernel_rfl⟩
instance : PlainT Try.prog 36 := ⟨by kernel_rfl⟩
instance : SliceT Try.prog 37 4 1 1 := ⟨by kernel_rfl⟩
instance : CellT Try.prog 37 := ⟨by kernel_rfl⟩
instance : ZeroT Try.prog 37 [.slice none 0 0] := ⟨by kernel_rfl⟩
instance : PlainT Try.prog 37 := ⟨by kernel_rfl⟩
instance : CellT Try.prog 39 := ⟨by kernel_rfl⟩
instance : ZeroT Try.prog 39 [.nilFunc] := ⟨by kernel_rfl⟩
instance : PlainT Try.prog 39 := ⟨by kernel_rfl⟩
instance : CellT Try.prog 41 := ⟨by kernel_rfl⟩
instance : ZeroT Try.prog 41 [.nilFunc] := ⟨by kernel_rfl⟩
instance : PlainT Try.prog 41 := ⟨by kernel_rfl⟩
instance : CellT Try.prog 42 := ⟨by kernel_rfl⟩
instance : ZeroT Try.prog 42 [.nilFunc] := ⟨by kernel_rfl⟩
instance : PlainT Try.prog 42 := ⟨by kernel_rfl⟩
instance : CellT Try.prog 43 := ⟨by kernel_rfl⟩
instance : ZeroT Try.prog 43 [.nilFunc] := ⟨by kernel_rfl⟩
instance : PlainT Try.prog 43 := ⟨by kernel_rfl⟩
instance : AggT Try.prog 44 3 := ⟨by kernel_rfl⟩
instance : ZeroT Try.prog 44 [.int .i64 0, .int .i64 0, .int .i64 0] := ⟨by kernel_rfl⟩
instance : PlainT Try.prog 44 := ⟨by kernel_rfl⟩
instance : FieldT Try.prog 44 0 0 3 := ⟨by kernel_rfl⟩
instance : FieldT Try.prog 44 1 1 3 := ⟨by kernel_rfl⟩
instance : FieldT Try.prog 44 2 2 3 := ⟨by kernel_rfl⟩
instance : StructT Try.prog 44 [(0, 1), (1, 1), (2, 1)] := ⟨by kernel_rfl⟩
instance : AggT Try.prog 45 3 := ⟨by kernel_rfl⟩
instance : ZeroT Try.prog 45 [.int .i64 0, .int .i64 0, .int .i64 0] := ⟨by kernel_rfl⟩
instance : PlainT Try.prog 45 := ⟨by kernel_rfl⟩
instance : FieldT Try.prog 45 0 0 3 := ⟨by kernel_rfl⟩
instance : FieldT Try.prog 45 1 1 3 := ⟨by kernel_rfl⟩
instance : FieldT Try.prog 45 2 2 3 := ⟨by kernel_rfl⟩
instance : StructT Try.prog 45 [(0, 1), (1, 1), (2, 1)] := ⟨by kernel_rfl⟩
instance : CellT Try.prog 46 := ⟨by kernel_rfl⟩
instance : ZeroT Try.prog 46 [.nilFunc] := ⟨by kernel_rfl⟩
instance : PlainT Try.prog 46 := ⟨by kernel_rfl⟩
instance : CellT Try.prog 47 := ⟨by kernel_rfl⟩
instance : ZeroT Try.prog 47 [.int .i64 0] := ⟨by kernel_rfl⟩
instance : PlainT Try.prog 47 := ⟨by kernel_rfl⟩
instance : SliceT Try.prog 48 27 1 24 := ⟨by kernel_rfl⟩
instance : CellT Try.prog 48 := ⟨by kernel_rfl⟩
instance : ZeroT Try.prog 48 [.slice none 0 0] := ⟨by kernel_rfl⟩
instance : PlainT Try.prog 48 := ⟨by kernel_rfl⟩
instance : CellT Try.prog 50 := ⟨by kernel_rfl⟩
instance : ZeroT Try.prog 50 [.nilFunc] := ⟨by kernel_rfl⟩
instance : PlainT Try.prog 50 := ⟨by kernel_rfl⟩
instance : CellT Try.prog 52 := ⟨by kernel_rfl⟩
instance : ZeroT Try.prog 52 [.nilFunc] := ⟨by kernel_rfl⟩
instance : PlainT Try.prog 52 := ⟨by kernel_rfl⟩
instance : CellT Try.prog 53 := ⟨by kernel_rfl⟩
instance : ZeroT Try.prog 53 [.nilFunc] := ⟨by kernel_rfl⟩
instance : PlainT Try.prog 53 := ⟨by kernel_rfl⟩
instance : CellT Try.prog 54 := ⟨by kernel_rfl⟩
instance : ZeroT Try.prog 54 [.nilFunc] := ⟨by kernel_rfl⟩
instance : PlainT Try.prog 54 := ⟨by kernel_rfl⟩
instance : SliceT Try.prog 55 37 1 24 := ⟨by kernel_rfl⟩
instance : CellT Try.prog 55 := ⟨by kernel_rfl⟩
instance : ZeroT Try.prog 55 [.slice none 0 0] := ⟨by kernel_rfl⟩
instance : PlainT Try.prog 55 := ⟨by kernel_rfl⟩
instance : CellT Try.prog 56 := ⟨by kernel_rfl⟩
instance : ZeroT Try.prog 56 [.nilFunc] := ⟨by kernel_rfl⟩
instance : PlainT Try.prog 56 := ⟨by kernel_rfl⟩
instance : CellT Try.prog 57 := ⟨by kernel_rfl⟩
instance : ZeroT Try.prog 57 [.nilFunc] := ⟨by kernel_rfl⟩
instance : PlainT Try.prog 57 := ⟨by kernel_rfl⟩
instance : CellT Try.prog 59 := ⟨by kernel_rfl⟩
instance : ZeroT Try.prog 59 [.nilFunc] := ⟨by kernel_rfl⟩
instance : PlainT Try.prog 59 := ⟨by kernel_rfl⟩
instance : CellT Try.prog 60 := ⟨by kernel_rfl⟩
instance : ZeroT Try.prog 60 [.nilFunc] := ⟨by kernel_rfl⟩
instance : PlainT Try.prog 60 := ⟨by kernel_rfl⟩
instance : CellT Try.prog 61 := ⟨by kernel_rfl⟩
instance : ZeroT Try.prog 61 [.nilFunc] := ⟨by kernel_rfl⟩
instance : PlainT Try.prog 61 := ⟨by kernel_rfl⟩
instance : CellT Try.prog 62 := ⟨by kernel_rfl⟩
instance : ZeroT Try.prog 62 [.nilFunc] := ⟨by kernel_rfl⟩
instance : PlainT Try.prog 62 := ⟨by kernel_rfl⟩
instance : CellT Try.prog 63 := ⟨by kernel_rfl⟩
instance : ZeroT Try.prog 63 [.nilFunc] := ⟨by kernel_rfl⟩
instance : PlainT Try.prog 63 := ⟨by kernel_rfl⟩
instance : CellT Try.prog 64 := ⟨by kernel_rfl⟩
instance : ZeroT Try.prog 64 [.nilFunc] := ⟨by kernel_rfl⟩
instance : PlainT Try.prog 64 := ⟨by kernel_rfl⟩
instance : CellT Try.prog 65 := ⟨by kernel_rfl⟩
instance : ZeroT Try.prog 65 [.nilFunc] := ⟨by kernel_rfl⟩
instance : PlainT Try.prog 65 := ⟨by kernel_rfl⟩
instance : CellT Try.prog 66 := ⟨by kernel_rfl⟩
instance : ZeroT Try.prog 66 [.nilFunc] := ⟨by kernel_rfl⟩
instance : PlainT Try.prog 66 := ⟨by kernel_rfl⟩
instance : CellT Try.prog 67 := ⟨by kernel_rfl⟩
instance : ZeroT Try.prog 67 [.pointer none] := ⟨by kernel_rfl⟩
instance : MethT Try.prog 67 "Len" 37 false 68 := ⟨by kernel_rfl⟩
instance : MethT Try.prog 67 "Less" 61 false 68 := ⟨by kernel_rfl⟩
instance : MethT Try.prog 67 "Pop" 62 true 68 := ⟨by kernel_rfl⟩
instance : MethT Try.prog 67 "Push" 63 true 68 := ⟨by kernel_rfl⟩
instance : MethT Try.prog 67 "Swap" 64 false 68 := ⟨by kernel_rfl⟩
instance : PlainT Try.prog 67 := ⟨by kernel_rfl⟩
instance : SliceT Try.prog 68 3 1 8 := ⟨by kernel_rfl⟩
instance : CellT Try.prog 68 := ⟨by kernel_rfl⟩
instance : ZeroT Try.prog 68 [.slice none 0 0] := ⟨by kernel_rfl⟩
instance : PlainT Try.prog 68 := ⟨by kernel_rfl⟩
instance : CellT Try.prog 69 := ⟨by kernel_rfl⟩
instance : ZeroT Try.prog 69 [.nilFunc] := ⟨by kernel_rfl⟩
instance : PlainT Try.prog 69 := ⟨by kernel_rfl⟩
instance : CellT Try.prog 70 := ⟨by kernel_rfl⟩
instance : ZeroT Try.prog 70 [.nilFunc] := ⟨by kernel_rfl⟩
instance : PlainT Try.prog 70 := ⟨by kernel_rfl⟩
instance : CellT Try.prog 71 := ⟨by kernel_rfl⟩
instance : ZeroT Try.prog 71 [.nilFunc] := ⟨by kernel_rfl⟩
instance : PlainT Try.prog 71 := ⟨by kernel_rfl⟩
instance : CellT Try.prog 72 := ⟨by kernel_rfl⟩
instance : ZeroT Try.prog 72 [.nilFunc] := ⟨by kernel_rfl⟩
instance : PlainT Try.prog 72 := ⟨by kernel_rfl⟩
instance : CellT Try.prog 73 := ⟨by kernel_rfl⟩
instance : ZeroT Try.prog 73 [.nilFunc] := ⟨by kernel_rfl⟩
instance : PlainT Try.prog 73 := ⟨by kernel_rfl⟩
instance : CellT Try.prog 74 := ⟨by kernel_rfl⟩
instance : ZeroT Try.prog 74 [.nilFunc] := ⟨by kernel_rfl⟩
instance : PlainT Try.prog 74 := ⟨by kernel_rfl⟩
instance : CellT Try.prog 75 := ⟨by kernel_rfl⟩
instance : ZeroT Try.prog 75 [.nilIface] := ⟨by kernel_rfl⟩
instance : IfaceT Try.prog 75 := ⟨by kernel_rfl⟩
instance : CellT Try.prog 76 := ⟨by kernel_rfl⟩
instance : ZeroT Try.prog 76 [.nilIface] := ⟨by kernel_rfl⟩
instance : IfaceT Try.prog 76 := ⟨by kernel_rfl⟩
instance : CellT Try.prog 77 := ⟨by kernel_rfl⟩
instance : ZeroT Try.prog 77 [.nilFunc] := ⟨by kernel_rfl⟩
instance : PlainT Try.prog 77 := ⟨by kernel_rfl⟩
instance : CellT Try.prog 78 := ⟨by kernel_rfl⟩
instance : ZeroT Try.prog 78 [.nilFunc] := ⟨by kernel_rfl⟩
instance : PlainT Try.prog 78 := ⟨by kernel_rfl⟩
instance : CellT Try.prog 79 := ⟨by kernel_rfl⟩
instance : ZeroT Try.prog 79 [.nilFunc] := ⟨by kernel_rfl⟩
instance : PlainT Try.prog 79 := ⟨by kernel_rfl⟩
instance : CellT Try.prog 80 := ⟨by kernel_rfl⟩
instance : ZeroT Try.prog 80 [.nilFunc] := ⟨by kernel_rfl⟩
instance : PlainT Try.prog 80 := ⟨by kernel_rfl⟩
instance : CellT Try.prog 81 := ⟨by kernel_rfl⟩
instance : ZeroT Try.prog 81 [.nilFunc] := ⟨by kernel_rfl⟩
instance : PlainT Try.prog 81 := ⟨by kernel_rfl⟩
instance : CellT Try.prog 82 := ⟨by kernel_rfl⟩
instance : ZeroT Try.prog 82 [.nilFunc] := ⟨by kernel_rfl⟩
instance : PlainT Try.prog 82 := ⟨by kernel_rfl⟩
instance : CellT Try.prog 83 := ⟨by kernel_rfl⟩
instance : ZeroT Try.prog 83 [.nilFunc] := ⟨by kernel_rfl⟩
instance : PlainT Try.prog 83 := ⟨by kernel_rfl⟩
instance : AggT Try.prog 84 4 := ⟨by kernel_rfl⟩
instance : ZeroT Try.prog 84 [.pointer none, .pointer none, .pointer none, .string ByteArray.empty] := ⟨by kernel_rfl⟩
instance : PlainT Try.prog 84 := ⟨by kernel_rfl⟩
instance : FieldT Try.prog 84 0 0 17 := ⟨by kernel_rfl⟩
instance : FieldT Try.prog 84 1 1 17 := ⟨by kernel_rfl⟩
instance : FieldT Try.prog 84 2 2 17 := ⟨by kernel_rfl⟩
instance : FieldT Try.prog 84 3 3 9 := ⟨by kernel_rfl⟩
instance : StructT Try.prog 84 [(0, 1), (1, 1), (2, 1), (3, 1)] := ⟨by kernel_rfl⟩
instance : AggT Try.prog 85 4 := ⟨by kernel_rfl⟩
instance : ZeroT Try.prog 85 [.pointer none, .pointer none, .pointer none, .string ByteArray.empty] := ⟨by kernel_rfl⟩
instance : PlainT Try.prog 85 := ⟨by kernel_rfl⟩
instance : FieldT Try.prog 85 0 0 17 := ⟨by kernel_rfl⟩
instance : FieldT Try.prog 85 1 1 17 := ⟨by kernel_rfl⟩
instance : FieldT Try.prog 85 2 2 17 := ⟨by kernel_rfl⟩
instance : FieldT Try.prog 85 3 3 9 := ⟨by kernel_rfl⟩
instance : StructT Try.prog 85 [(0, 1), (1, 1), (2, 1), (3, 1)] := ⟨by kernel_rfl⟩
instance : AggT Try.prog 86 0 := ⟨by kernel_rfl⟩
instance : ZeroT Try.prog 86 [] := ⟨by kernel_rfl⟩
instance : PlainT Try.prog 86 := ⟨by kernel_rfl⟩
instance : AggT Try.prog 87 0 := ⟨by kernel_rfl⟩
instance : ZeroT Try.prog 87 [] := ⟨by kernel_rfl⟩
instance : PlainT Try.prog 87 := ⟨by kernel_rfl⟩
instance : StructT Try.prog 87 [(0, 0)] := ⟨by kernel_rfl⟩
instance : AggT Try.prog 88 0 := ⟨by kernel_rfl⟩
instance : ZeroT Try.prog 88 [] := ⟨by kernel_rfl⟩
instance : PlainT Try.prog 88 := ⟨by kernel_rfl⟩
instance : StructT Try.prog 88 [(0, 0)] := ⟨by kernel_rfl⟩
instance : CellT Try.prog 89 := ⟨by kernel_rfl⟩
instance : ZeroT Try.prog 89 [.int .u32 0] := ⟨by kernel_rfl⟩
instance : PlainT Try.prog 89 := ⟨by kernel_rfl⟩
instance : CellT Try.prog 90 := ⟨by kernel_rfl⟩
instance : ZeroT Try.prog 90 [.int .u8 0] := ⟨by kernel_rfl⟩
instance : PlainT Try.prog 90 := ⟨by kernel_rfl⟩
instance : CellT Try.prog 91 := ⟨by kernel_rfl⟩
instance : ZeroT Try.prog 91 [.int .u8 0] := ⟨by kernel_rfl⟩
instance : PlainT Try.prog 91 := ⟨by kernel_rfl⟩
instance : CellT Try.prog 92 := ⟨by kernel_rfl⟩
instance : ZeroT Try.prog 92 [.nilFunc] := ⟨by kernel_rfl⟩
instance : PlainT Try.prog 92 := ⟨by kernel_rfl⟩
instance : CellT Try.prog 93 := ⟨by kernel_rfl⟩
instance : ZeroT Try.prog 93 [.pointer none] := ⟨by kernel_rfl⟩
instance : PlainT Try.prog 93 := ⟨by kernel_rfl⟩
instance : CellT Try.prog 94 := ⟨by kernel_rfl⟩
instance : ZeroT Try.prog 94 [.int .i32 0] := ⟨by kernel_rfl⟩
instance : PlainT Try.prog 94 := ⟨by kernel_rfl⟩
instance : CellT Try.prog 95 := ⟨by kernel_rfl⟩
instance : ZeroT Try.prog 95 [.int .i32 0] := ⟨by kernel_rfl⟩
instance : PlainT Try.prog 95 := ⟨by kernel_rfl⟩
instance : AggT Try.prog 96 11 := ⟨by kernel_rfl⟩
instance : ZeroT Try.prog 96 [.int .u64 0, .int .u64 0, .int .u32 0, .int .u8 0, .int .u8 0, .int .u8 0, .int .u8 0, .nilFunc, .pointer none, .int .i32 0, .int .i32 0] := ⟨by kernel_rfl⟩
instance : PlainT Try.prog 96 := ⟨by kernel_rfl⟩
instance : FieldT Try.prog 96 0 0 12 := ⟨by kernel_rfl⟩
instance : FieldT Try.prog 96 1 1 12 := ⟨by kernel_rfl⟩
instance : FieldT Try.prog 96 2 2 89 := ⟨by kernel_rfl⟩
instance : FieldT Try.prog 96 3 3 90 := ⟨by kernel_rfl⟩
instance : FieldT Try.prog 96 4 4 5 := ⟨by kernel_rfl⟩
instance : FieldT Try.prog 96 5 5 5 := ⟨by kernel_rfl⟩
instance : FieldT Try.prog 96 6 6 91 := ⟨by kernel_rfl⟩
instance : FieldT Try.prog 96 7 7 92 := ⟨by kernel_rfl⟩
instance : FieldT Try.prog 96 8 8 93 := ⟨by kernel_rfl⟩
instance : FieldT Try.prog 96 9 9 94 := ⟨by kernel_rfl⟩
instance : FieldT Try.prog 96 10 10 95 := ⟨by kernel_rfl⟩
instance : StructT Try.prog 96 [(0, 1), (1, 1), (2, 1), (3, 1), (4, 1), (5, 1), (6, 1), (7, 1), (8, 1), (9, 1), (10, 1)] := ⟨by kernel_rfl⟩
instance : AggT Try.prog 97 11 := ⟨by kernel_rfl⟩
instance : ZeroT Try.prog 97 [.int .u64 0, .int .u64 0, .int .u32 0, .int .u8 0, .int .u8 0, .int .u8 0, .int .u8 0, .nilFunc, .pointer none, .int .i32 0, .int .i32 0] := ⟨by kernel_rfl⟩
instance : PlainT Try.prog 97 := ⟨by kernel_rfl⟩
instance : FieldT Try.prog 97 0 0 12 := ⟨by kernel_rfl⟩
instance : FieldT Try.prog 97 1 1 12 := ⟨by kernel_rfl⟩
instance : FieldT Try.prog 97 2 2 89 := ⟨by kernel_rfl⟩
instance : FieldT Try.prog 97 3 3 90 := ⟨by kernel_rfl⟩
instance : FieldT Try.prog 97 4 4 5 := ⟨by kernel_rfl⟩
instance : FieldT Try.prog 97 5 5 5 := ⟨by kernel_rfl⟩
instance : FieldT Try.prog 97 6 6 91 := ⟨by kernel_rfl⟩
instance : FieldT Try.prog 97 7 7 92 := ⟨by kernel_rfl⟩
instance : FieldT Try.prog 97 8 8 93 := ⟨by kernel_rfl⟩
instance : FieldT Try.prog 97 9 9 94 := ⟨by kernel_rfl⟩
instance : FieldT Try.prog 97 10 10 95 := ⟨by kernel_rfl⟩
instance : StructT Try.prog 97 [(0, 1), (1, 1), (2, 1), (3, 1), (4, 1), (5, 1), (6, 1), (7, 1), (8, 1), (9, 1), (10, 1)] := ⟨by kernel_rfl⟩
instance : CellT Try.prog 98 := ⟨by kernel_rfl⟩
instance : ZeroT Try.prog 98 [.pointer none] := ⟨by kernel_rfl⟩
instance : PlainT Try.prog 98 := ⟨by kernel_rfl⟩
-- 3 stratagem/stratagemlaw04.GraphShortest
instance : CallT Try.prog 3 := ⟨by kernel_rfl⟩
-- 4 stratagem/stratagemlaw04.GraphReaches
instance : CallT Try.prog 4 := ⟨by kernel_rfl⟩
-- 5 stratagem/stratagemlaw04.GraphTight
instance : CallT Try.prog 5 := ⟨by kernel_rfl⟩
-- 6 stratagem/stratagemlaw04.GraphRows
instance : CallT Try.prog 6 := ⟨by kernel_rfl⟩
-- 7 stratagem/stratagemlaw04.GraphOrders
instance : CallT Try.prog 7 := ⟨by kernel_rfl⟩
-- 8 stratagem/stratagemlaw04.GraphComponents
instance : CallT Try.prog 8 := ⟨by kernel_rfl⟩
-- 9 stratagem/stratagemlaw04.GraphMutual
instance : CallT Try.prog 9 := ⟨by kernel_rfl⟩
-- 10 stratagem/stratagemlaw04.awake
instance : CallT Try.prog 10 := ⟨by kernel_rfl⟩
-- 11 stratagem/stratagemlaw04.small
instance : CallT Try.prog 11 := ⟨by kernel_rfl⟩
-- 12 stratagem/graph.Shortest
instance : CallT Try.prog 12 := ⟨by kernel_rfl⟩
-- 13 stratagem/stratagemref04.Shortest
instance : CallT Try.prog 13 := ⟨by kernel_rfl⟩
-- 14 stratagem/stratagembase.Ints
instance : CallT Try.prog 14 := ⟨by kernel_rfl⟩
-- 15 stratagem/stratagembase.Num
instance : CallT Try.prog 15 := ⟨by kernel_rfl⟩
-- 16 stratagem/graph.Reach
instance : CallT Try.prog 16 := ⟨by kernel_rfl⟩
-- 17 stratagem/stratagemref04.Reach
instance : CallT Try.prog 17 := ⟨by kernel_rfl⟩
-- 18 stratagem/stratagemlaw04.same
instance : CallT Try.prog 18 := ⟨by kernel_rfl⟩
-- 19 stratagem/stratagembase.Is
instance : CallT Try.prog 19 := ⟨by kernel_rfl⟩
-- 20 stratagem/graph.Floyd
instance : CallT Try.prog 20 := ⟨by kernel_rfl⟩
-- 21 stratagem/stratagemref04.Floyd
instance : CallT Try.prog 21 := ⟨by kernel_rfl⟩
-- 22 stratagem/graph.Order
instance : CallT Try.prog 22 := ⟨by kernel_rfl⟩
-- 23 stratagem/stratagemref04.Order
instance : CallT Try.prog 23 := ⟨by kernel_rfl⟩
-- 24 stratagem/graph.Components
instance : CallT Try.prog 24 := ⟨by kernel_rfl⟩
-- 25 stratagem/stratagemref04.Components
instance : CallT Try.prog 25 := ⟨by kernel_rfl⟩
-- 26 stratagem/graph.check
instance : CallT Try.prog 26 := ⟨by kernel_rfl⟩
-- 27 stratagem/stratagemref04.Check
instance : CallT Try.prog 27 := ⟨by kernel_rfl⟩
-- 28 stratagem/graph.Reach$1
instance : CallT Try.prog 28 := ⟨by kernel_rfl⟩
-- 29 stratagem/graph.next
instance : CallT Try.prog 29 := ⟨by kernel_rfl⟩
-- 30 stratagem/graph.beyond
instance : CallT Try.prog 30 := ⟨by kernel_rfl⟩
-- 31 stratagem/graph.order
instance : CallT Try.prog 31 := ⟨by kernel_rfl⟩
-- 32 stratagem/graph.components
instance : CallT Try.prog 32 := ⟨by kernel_rfl⟩
-- 33 stratagem/stratagemref04.together
instance : CallT Try.prog 33 := ⟨by kernel_rfl⟩
-- 34 slices.ContainsFunc[[]int,int]
instance : CallT Try.prog 34 := ⟨by kernel_rfl⟩
-- 35 stratagem/graph.beyond$1
instance : CallT Try.prog 35 := ⟨by kernel_rfl⟩
-- 36 container/heap.Push
instance : CallT Try.prog 36 := ⟨by kernel_rfl⟩
-- 37 (stratagem/graph.nodes).Len
instance : CallT Try.prog 37 := ⟨by kernel_rfl⟩
-- 38 container/heap.Pop
instance : CallT Try.prog 38 := ⟨by kernel_rfl⟩
-- 39 stratagem/graph.finish
instance : CallT Try.prog 39 := ⟨by kernel_rfl⟩
-- 40 slices.Min[[]int,int]
instance : CallT Try.prog 40 := ⟨by kernel_rfl⟩
-- 41 slices.IndexFunc[[]int,int]
instance : CallT Try.prog 41 := ⟨by kernel_rfl⟩
-- 42 container/heap.up
instance : CallT Try.prog 42 := ⟨by kernel_rfl⟩
-- 43 container/heap.down
instance : CallT Try.prog 43 := ⟨by kernel_rfl⟩
-- 61 (stratagem/graph.nodes).Less
instance : CallT Try.prog 61 := ⟨by kernel_rfl⟩
-- 62 (*stratagem/graph.nodes).Pop
instance : CallT Try.prog 62 := ⟨by kernel_rfl⟩
-- 63 (*stratagem/graph.nodes).Push
instance : CallT Try.prog 63 := ⟨by kernel_rfl⟩
-- 64 (stratagem/graph.nodes).Swap
instance : CallT Try.prog 64 := ⟨by kernel_rfl⟩
theorem mixed : Try.prog.follows .mixedOrders = true := by kernel_rfl
end Go.Proofs.Ytlfhflgafeblnaa
