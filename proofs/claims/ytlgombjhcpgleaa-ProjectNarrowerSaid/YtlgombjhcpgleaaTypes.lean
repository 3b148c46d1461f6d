/-
  The types of this seat, as the steps of the generator ask for them: closed facts on the program.
-/
import Derived.Test.YtlgombjhcpgleaaSlGo
import Derived.Test.YtlgombjhcpgleaaProg
import Derived.KernelRfl
namespace Go.Proofs.Ytlgombjhcpgleaa
open Go.Sl
instance : CellT Try.prog 1 := ⟨by kernel_rfl⟩
instance : ZeroT Try.prog 1 [.nilFunc] := ⟨by kernel_rfl⟩
instance : PlainT Try.prog 1 := ⟨by kernel_rfl⟩
instance : CellT Try.prog 2 := ⟨by kernel_rfl⟩
instance : ZeroT Try.prog 2 [.int .i64 0] := ⟨by kernel_rfl⟩
instance : PlainT Try.prog 2 := ⟨by kernel_rfl⟩
instance : CellT Try.prog 3 := ⟨by kernel_rfl⟩
instance : ZeroT Try.prog 3 [.int .i64 0] := ⟨by kernel_rfl⟩
instance : PlainT Try.prog 3 := ⟨by kernel_rfl⟩
instance : CellT Try.prog 4 := ⟨by kernel_rfl⟩
instance : ZeroT Try.prog 4 [.bool false] := ⟨by kernel_rfl⟩
instance : BoolT Try.prog 4 := ⟨by kernel_rfl⟩
instance : PlainT Try.prog 4 := ⟨by kernel_rfl⟩
instance : CellT Try.prog 5 := ⟨by kernel_rfl⟩
instance : ZeroT Try.prog 5 [.int .u8 0] := ⟨by kernel_rfl⟩
instance : PlainT Try.prog 5 := ⟨by kernel_rfl⟩
instance : CellT Try.prog 6 := ⟨by kernel_rfl⟩
instance : ZeroT Try.prog 6 [.int .u8 0] := ⟨by kernel_rfl⟩
instance : PlainT Try.prog 6 := ⟨by kernel_rfl⟩
instance : AggT Try.prog 7 4 := ⟨by kernel_rfl⟩
instance : ZeroT Try.prog 7 [.int .i64 0, .int .i64 0, .bool false, .int .u8 0] := ⟨by kernel_rfl⟩
instance : PlainT Try.prog 7 := ⟨by kernel_rfl⟩
instance : FieldT Try.prog 7 0 0 2 := ⟨by kernel_rfl⟩
instance : FieldT Try.prog 7 1 1 3 := ⟨by kernel_rfl⟩
instance : FieldT Try.prog 7 2 2 4 := ⟨by kernel_rfl⟩
instance : FieldT Try.prog 7 3 3 6 := ⟨by kernel_rfl⟩
instance : StructT Try.prog 7 [(0, 1), (1, 1), (2, 1), (3, 1)] := ⟨by kernel_rfl⟩
instance : AggT Try.prog 8 4 := ⟨by kernel_rfl⟩
instance : ZeroT Try.prog 8 [.int .i64 0, .int .i64 0, .bool false, .int .u8 0] := ⟨by kernel_rfl⟩
instance : PlainT Try.prog 8 := ⟨by kernel_rfl⟩
instance : FieldT Try.prog 8 0 0 2 := ⟨by kernel_rfl⟩
instance : FieldT Try.prog 8 1 1 3 := ⟨by kernel_rfl⟩
instance : FieldT Try.prog 8 2 2 4 := ⟨by kernel_rfl⟩
instance : FieldT Try.prog 8 3 3 6 := ⟨by kernel_rfl⟩
instance : StructT Try.prog 8 [(0, 1), (1, 1), (2, 1), (3, 1)] := ⟨by kernel_rfl⟩
instance : CellT Try.prog 9 := ⟨by kernel_rfl⟩
instance : ZeroT Try.prog 9 [.string ByteArray.empty] := ⟨by kernel_rfl⟩
instance : StrT Try.prog 9 := ⟨by kernel_rfl⟩
instance : PlainT Try.prog 9 := ⟨by kernel_rfl⟩
instance : CellT Try.prog 10 := ⟨by kernel_rfl⟩
instance : ZeroT Try.prog 10 [.string ByteArray.empty] := ⟨by kernel_rfl⟩
instance : StrT Try.prog 10 := ⟨by kernel_rfl⟩
instance : PlainT Try.prog 10 := ⟨by kernel_rfl⟩
instance : CellT Try.prog 11 := ⟨by kernel_rfl⟩
instance : ZeroT Try.prog 11 [.string ByteArray.empty] := ⟨by kernel_rfl⟩
instance : StrT Try.prog 11 := ⟨by kernel_rfl⟩
instance : PlainT Try.prog 11 := ⟨by kernel_rfl⟩
instance : CellT Try.prog 12 := ⟨by kernel_rfl⟩
instance : ZeroT Try.prog 12 [.int .u64 0] := ⟨by kernel_rfl⟩
instance : PlainT Try.prog 12 := ⟨by kernel_rfl⟩
instance : AggT Try.prog 13 2 := ⟨by kernel_rfl⟩
instance : ZeroT Try.prog 13 [.string ByteArray.empty, .int .u64 0] := ⟨by kernel_rfl⟩
instance : PlainT Try.prog 13 := ⟨by kernel_rfl⟩
instance : FieldT Try.prog 13 0 0 9 := ⟨by kernel_rfl⟩
instance : FieldT Try.prog 13 1 1 12 := ⟨by kernel_rfl⟩
instance : StructT Try.prog 13 [(0, 1), (1, 1)] := ⟨by kernel_rfl⟩
instance : AggT Try.prog 14 2 := ⟨by kernel_rfl⟩
instance : ZeroT Try.prog 14 [.string ByteArray.empty, .int .u64 0] := ⟨by kernel_rfl⟩
instance : PlainT Try.prog 14 := ⟨by kernel_rfl⟩
instance : FieldT Try.prog 14 0 0 9 := ⟨by kernel_rfl⟩
instance : FieldT Try.prog 14 1 1 12 := ⟨by kernel_rfl⟩
instance : StructT Try.prog 14 [(0, 1), (1, 1)] := ⟨by kernel_rfl⟩
instance : CellT Try.prog 15 := ⟨by kernel_rfl⟩
instance : ZeroT Try.prog 15 [.pointer none] := ⟨by kernel_rfl⟩
instance : MethT Try.prog 15 "Error" 101 true 142 := ⟨by kernel_rfl⟩
instance : MethT Try.prog 15 "RuntimeError" 102 true 142 := ⟨by kernel_rfl⟩
instance : PlainT Try.prog 15 := ⟨by kernel_rfl⟩
instance : CellT Try.prog 16 := ⟨by kernel_rfl⟩
instance : ZeroT Try.prog 16 [.pointer none] := ⟨by kernel_rfl⟩
instance : MethT Try.prog 16 "Error" 103 true 145 := ⟨by kernel_rfl⟩
instance : MethT Try.prog 16 "RuntimeError" 104 true 145 := ⟨by kernel_rfl⟩
instance : PlainT Try.prog 16 := ⟨by kernel_rfl⟩
instance : CellT Try.prog 17 := ⟨by kernel_rfl⟩
instance : ZeroT Try.prog 17 [.pointer none] := ⟨by kernel_rfl⟩
instance : MethT Try.prog 17 "Align" 105 true 154 := ⟨by kernel_rfl⟩
instance : PlainT Try.prog 17 := ⟨by kernel_rfl⟩
instance : AggT Try.prog 18 1 := ⟨by kernel_rfl⟩
instance : ZeroT Try.prog 18 [.pointer none] := ⟨by kernel_rfl⟩
instance : PlainT Try.prog 18 := ⟨by kernel_rfl⟩
instance : FieldT Try.prog 18 0 0 17 := ⟨by kernel_rfl⟩
instance : StructT Try.prog 18 [(0, 1)] := ⟨by kernel_rfl⟩
instance : AggT Try.prog 19 1 := ⟨by kernel_rfl⟩
instance : ZeroT Try.prog 19 [.pointer none] := ⟨by kernel_rfl⟩
instance : PlainT Try.prog 19 := ⟨by kernel_rfl⟩
instance : FieldT Try.prog 19 0 0 17 := ⟨by kernel_rfl⟩
instance : StructT Try.prog 19 [(0, 1)] := ⟨by kernel_rfl⟩
instance : CellT Try.prog 20 := ⟨by kernel_rfl⟩
instance : ZeroT Try.prog 20 [.nilIface] := ⟨by kernel_rfl⟩
instance : IfaceT Try.prog 20 := ⟨by kernel_rfl⟩
instance : CellT Try.prog 21 := ⟨by kernel_rfl⟩
instance : ZeroT Try.prog 21 [.int .i32 0] := ⟨by kernel_rfl⟩
instance : PlainT Try.prog 21 := ⟨by kernel_rfl⟩
instance : SliceT Try.prog 22 3 1 8 := ⟨by kernel_rfl⟩
instance : CellT Try.prog 22 := ⟨by kernel_rfl⟩
instance : ZeroT Try.prog 22 [.slice none 0 0] := ⟨by kernel_rfl⟩
instance : PlainT Try.prog 22 := ⟨by kernel_rfl⟩
instance : SliceT Try.prog 23 66 2 16 := ⟨by kernel_rfl⟩
instance : CellT Try.prog 23 := ⟨by kernel_rfl⟩
instance : ZeroT Try.prog 23 [.slice none 0 0] := ⟨by kernel_rfl⟩
instance : PlainT Try.prog 23 := ⟨by kernel_rfl⟩
instance : SliceT Try.prog 24 62 4 72 := ⟨by kernel_rfl⟩
instance : CellT Try.prog 24 := ⟨by kernel_rfl⟩
instance : ZeroT Try.prog 24 [.slice none 0 0] := ⟨by kernel_rfl⟩
instance : PlainT Try.prog 24 := ⟨by kernel_rfl⟩
instance : AggT Try.prog 25 4 := ⟨by kernel_rfl⟩
instance : ZeroT Try.prog 25 [.slice none 0 0, .slice none 0 0, .slice none 0 0, .slice none 0 0] := ⟨by kernel_rfl⟩
instance : PlainT Try.prog 25 := ⟨by kernel_rfl⟩
instance : FieldT Try.prog 25 0 0 22 := ⟨by kernel_rfl⟩
instance : FieldT Try.prog 25 1 1 22 := ⟨by kernel_rfl⟩
instance : FieldT Try.prog 25 2 2 23 := ⟨by kernel_rfl⟩
instance : FieldT Try.prog 25 3 3 24 := ⟨by kernel_rfl⟩
instance : StructT Try.prog 25 [(0, 1), (1, 1), (2, 1), (3, 1)] := ⟨by kernel_rfl⟩
instance : AggT Try.prog 26 4 := ⟨by kernel_rfl⟩
instance : ZeroT Try.prog 26 [.slice none 0 0, .slice none 0 0, .slice none 0 0, .slice none 0 0] := ⟨by kernel_rfl⟩
instance : PlainT Try.prog 26 := ⟨by kernel_rfl⟩
instance : FieldT Try.prog 26 0 0 22 := ⟨by kernel_rfl⟩
instance : FieldT Try.prog 26 1 1 22 := ⟨by kernel_rfl⟩
instance : FieldT Try.prog 26 2 2 23 := ⟨by kernel_rfl⟩
instance : FieldT Try.prog 26 3 3 24 := ⟨by kernel_rfl⟩
instance : StructT Try.prog 26 [(0, 1), (1, 1), (2, 1), (3, 1)] := ⟨by kernel_rfl⟩
instance : CellT Try.prog 27 := ⟨by kernel_rfl⟩
instance : ZeroT Try.prog 27 [.int .u16 0] := ⟨by kernel_rfl⟩
instance : PlainT Try.prog 27 := ⟨by kernel_rfl⟩
instance : CellT Try.prog 28 := ⟨by kernel_rfl⟩
instance : ZeroT Try.prog 28 [.nilFunc] := ⟨by kernel_rfl⟩
instance : PlainT Try.prog 28 := ⟨by kernel_rfl⟩
instance : CellT Try.prog 29 := ⟨by kernel_rfl⟩
instance : ZeroT Try.prog 29 [.nilFunc] := ⟨by kernel_rfl⟩
instance : PlainT Try.prog 29 := ⟨by kernel_rfl⟩
instance : CellT Try.prog 30 := ⟨by kernel_rfl⟩
instance : ZeroT Try.prog 30 [.nilFunc] := ⟨by kernel_rfl⟩
instance : PlainT Try.prog 30 := ⟨by kernel_rfl⟩
instance : CellT Try.prog 31 := ⟨by kernel_rfl⟩
instance : ZeroT Try.prog 31 [.nilFunc] := ⟨by kernel_rfl⟩
instance : PlainT Try.prog 31 := ⟨by kernel_rfl⟩
instance : SliceT Try.prog 32 50 3 24 := ⟨by kernel_rfl⟩
instance : CellT Try.prog 32 := ⟨by kernel_rfl⟩
instance : ZeroT Try.prog 32 [.slice none 0 0] := ⟨by kernel_rfl⟩
instance : PlainT Try.prog 32 := ⟨by kernel_rfl⟩
instance : SliceT Try.prog 33 4 1 1 := ⟨by kernel_rfl⟩
instance : CellT Try.prog 33 := ⟨by kernel_rfl⟩
instance : ZeroT Try.prog 33 [.slice none 0 0] := ⟨by kernel_rfl⟩
instance : PlainT Try.prog 33 := ⟨by kernel_rfl⟩
instance : AggT Try.prog 34 5 := ⟨by kernel_rfl⟩
instance : ZeroT Try.prog 34 [.int .i64 0, .int .i64 0, .slice none 0 0, .slice none 0 0, .slice none 0 0] := ⟨by kernel_rfl⟩
instance : PlainT Try.prog 34 := ⟨by kernel_rfl⟩
instance : FieldT Try.prog 34 0 0 3 := ⟨by kernel_rfl⟩
instance : FieldT Try.prog 34 1 1 3 := ⟨by kernel_rfl⟩
instance : FieldT Try.prog 34 2 2 22 := ⟨by kernel_rfl⟩
instance : FieldT Try.prog 34 3 3 32 := ⟨by kernel_rfl⟩
instance : FieldT Try.prog 34 4 4 33 := ⟨by kernel_rfl⟩
instance : StructT Try.prog 34 [(0, 1), (1, 1), (2, 1), (3, 1), (4, 1)] := ⟨by kernel_rfl⟩
instance : AggT Try.prog 35 5 := ⟨by kernel_rfl⟩
instance : ZeroT Try.prog 35 [.int .i64 0, .int .i64 0, .slice none 0 0, .slice none 0 0, .slice none 0 0] := ⟨by kernel_rfl⟩
instance : PlainT Try.prog 35 := ⟨by kernel_rfl⟩
instance : FieldT Try.prog 35 0 0 3 := ⟨by kernel_rfl⟩
instance : FieldT Try.prog 35 1 1 3 := ⟨by kernel_rfl⟩
instance : FieldT Try.prog 35 2 2 22 := ⟨by kernel_rfl⟩
instance : FieldT Try.prog 35 3 3 32 := ⟨by kernel_rfl⟩
instance : FieldT Try.prog 35 4 4 33 := ⟨by kernel_rfl⟩
instance : StructT Try.prog 35 [(0, 1), (1, 1), (2, 1), (3, 1), (4, 1)] := ⟨by kernel_rfl⟩
instance : CellT Try.prog 36 := ⟨by kernel_rfl⟩
instance : ZeroT Try.prog 36 [.nilIface] := ⟨by kernel_rfl⟩
instance : IfaceT Try.prog 36 := ⟨by kernel_rfl⟩
instance : CellT Try.prog 37 := ⟨by kernel_rfl⟩
instance : ZeroT Try.prog 37 [.nilIface] := ⟨by kernel_rfl⟩
instance : IfaceT Try.prog 37 := ⟨by kernel_rfl⟩
instance : CellT Try.prog 39 := ⟨by kernel_rfl⟩
instance : ZeroT Try.prog 39 [.nilFunc] := ⟨by kernel_rfl⟩
instance : PlainT Try.prog 39 := ⟨by kernel_rfl⟩
instance : CellT Try.prog 40 := ⟨by kernel_rfl⟩
instance : ZeroT Try.prog 40 [.nilFunc] := ⟨by kernel_rfl⟩
instance : PlainT Try.prog 40 := ⟨by kernel_rfl⟩
instance : CellT Try.prog 41 := ⟨by kernel_rfl⟩
instance : ZeroT Try.prog 41 [.nilFunc] := ⟨by kernel_rfl⟩
instance : PlainT Try.prog 41 := ⟨by kernel_rfl⟩
instance : CellT Try.prog 42 := ⟨by kernel_rfl⟩
instance : ZeroT Try.prog 42 [.nilFunc] := ⟨by kernel_rfl⟩
instance : PlainT Try.prog 42 := ⟨by kernel_rfl⟩
instance : SliceT Try.prog 43 5 1 1 := ⟨by kernel_rfl⟩
instance : CellT Try.prog 43 := ⟨by kernel_rfl⟩
instance : ZeroT Try.prog 43 [.slice none 0 0] := ⟨by kernel_rfl⟩
instance : PlainT Try.prog 43 := ⟨by kernel_rfl⟩
instance : CellT Try.prog 45 := ⟨by kernel_rfl⟩
instance : ZeroT Try.prog 45 [.nilFunc] := ⟨by kernel_rfl⟩
instance : PlainT Try.prog 45 := ⟨by kernel_rfl⟩
instance : CellT Try.prog 46 := ⟨by kernel_rfl⟩
instance : ZeroT Try.prog 46 [.nilFunc] := ⟨by kernel_rfl⟩
instance : PlainT Try.prog 46 := ⟨by kernel_rfl⟩
instance : CellT Try.prog 48 := ⟨by kernel_rfl⟩
instance : ZeroT Try.prog 48 [.nilFunc] := ⟨by kernel_rfl⟩
instance : PlainT Try.prog 48 := ⟨by kernel_rfl⟩
instance : AggT Try.prog 49 3 := ⟨by kernel_rfl⟩
instance : ZeroT Try.prog 49 [.int .i64 0, .int .i64 0, .int .i64 0] := ⟨by kernel_rfl⟩
instance : PlainT Try.prog 49 := ⟨by kernel_rfl⟩
instance : FieldT Try.prog 49 0 0 3 := ⟨by kernel_rfl⟩
instance : FieldT Try.prog 49 1 1 3 := ⟨by kernel_rfl⟩
instance : FieldT Try.prog 49 2 2 3 := ⟨by kernel_rfl⟩
instance : StructT Try.prog 49 [(0, 1), (1, 1), (2, 1)] := ⟨by kernel_rfl⟩
instance : AggT Try.prog 50 3 := ⟨by kernel_rfl⟩
instance : ZeroT Try.prog 50 [.int .i64 0, .int .i64 0, .int .i64 0] := ⟨by kernel_rfl⟩
instance : PlainT Try.prog 50 := ⟨by kernel_rfl⟩
instance : FieldT Try.prog 50 0 0 3 := ⟨by kernel_rfl⟩
instance : FieldT Try.prog 50 1 1 3 := ⟨by kernel_rfl⟩
instance : FieldT Try.prog 50 2 2 3 := ⟨by kernel_rfl⟩
instance : StructT Try.prog 50 [(0, 1), (1, 1), (2, 1)] := ⟨by kernel_rfl⟩
instance : CellT Try.prog 51 := ⟨by kernel_rfl⟩
instance : ZeroT Try.prog 51 [.nilFunc] := ⟨by kernel_rfl⟩
instance : PlainT Try.prog 51 := ⟨by kernel_rfl⟩
instance : SliceT Try.prog 52 22 1 24 := ⟨by kernel_rfl⟩
instance : CellT Try.prog 52 := ⟨by kernel_rfl⟩
instance : ZeroT Try.prog 52 [.slice none 0 0] := ⟨by kernel_rfl⟩
instance : PlainT Try.prog 52 := ⟨by kernel_rfl⟩
instance : CellT Try.prog 53 := ⟨by kernel_rfl⟩
instance : ZeroT Try.prog 53 [.nilFunc] := ⟨by kernel_rfl⟩
instance : PlainT Try.prog 53 := ⟨by kernel_rfl⟩
instance : CellT Try.prog 54 := ⟨by kernel_rfl⟩
instance : ZeroT Try.prog 54 [.map none] := ⟨by kernel_rfl⟩
instance : PlainT Try.prog 54 := ⟨by kernel_rfl⟩
instance : CellT Try.prog 55 := ⟨by kernel_rfl⟩
instance : ZeroT Try.prog 55 [.nilFunc] := ⟨by kernel_rfl⟩
instance : PlainT Try.prog 55 := ⟨by kernel_rfl⟩
instance : CellT Try.prog 56 := ⟨by kernel_rfl⟩
instance : ZeroT Try.prog 56 [.nilFunc] := ⟨by kernel_rfl⟩
instance : PlainT Try.prog 56 := ⟨by kernel_rfl⟩
instance : CellT Try.prog 57 := ⟨by kernel_rfl⟩
instance : ZeroT Try.prog 57 [.nilFunc] := ⟨by kernel_rfl⟩
instance : PlainT Try.prog 57 := ⟨by kernel_rfl⟩
instance : CellT Try.prog 59 := ⟨by kernel_rfl⟩
instance : ZeroT Try.prog 59 [.nilFunc] := ⟨by kernel_rfl⟩
instance : PlainT Try.prog 59 := ⟨by kernel_rfl⟩
instance : SliceT Try.prog 60 64 3 40 := ⟨by kernel_rfl⟩
instance : CellT Try.prog 60 := ⟨by kernel_rfl⟩
instance : ZeroT Try.prog 60 [.slice none 0 0] := ⟨by kernel_rfl⟩
instance : PlainT Try.prog 60 := ⟨by kernel_rfl⟩
instance : AggT Try.prog 61 4 := ⟨by kernel_rfl⟩
instance : ZeroT Try.prog 61 [.string ByteArray.empty, .int .i64 0, .slice none 0 0, .slice none 0 0] := ⟨by kernel_rfl⟩
instance : PlainT Try.prog 61 := ⟨by kernel_rfl⟩
instance : FieldT Try.prog 61 0 0 9 := ⟨by kernel_rfl⟩
instance : FieldT Try.prog 61 1 1 3 := ⟨by kernel_rfl⟩
instance : FieldT Try.prog 61 2 2 23 := ⟨by kernel_rfl⟩
instance : FieldT Try.prog 61 3 3 60 := ⟨by kernel_rfl⟩
instance : StructT Try.prog 61 [(0, 1), (1, 1), (2, 1), (3, 1)] := ⟨by kernel_rfl⟩
instance : AggT Try.prog 62 4 := ⟨by kernel_rfl⟩
instance : ZeroT Try.prog 62 [.string ByteArray.empty, .int .i64 0, .slice none 0 0, .slice none 0 0] := ⟨by kernel_rfl⟩
instance : PlainT Try.prog 62 := ⟨by kernel_rfl⟩
instance : FieldT Try.prog 62 0 0 9 := ⟨by kernel_rfl⟩
instance : FieldT Try.prog 62 1 1 3 := ⟨by kernel_rfl⟩
instance : FieldT Try.prog 62 2 2 23 := ⟨by kernel_rfl⟩
instance : FieldT Try.prog 62 3 3 60 := ⟨by kernel_rfl⟩
instance : StructT Try.prog 62 [(0, 1), (1, 1), (2, 1), (3, 1)] := ⟨by kernel_rfl⟩
instance : AggT Try.prog 63 3 := ⟨by kernel_rfl⟩
instance : ZeroT Try.prog 63 [.slice none 0 0, .int .i64 0, .int .i64 0] := ⟨by kernel_rfl⟩
instance : PlainT Try.prog 63 := ⟨by kernel_rfl⟩
instance : FieldT Try.prog 63 0 0 23 := ⟨by kernel_rfl⟩
instance : FieldT Try.prog 63 1 1 3 := ⟨by kernel_rfl⟩
instance : FieldT Try.prog 63 2 2 3 := ⟨by kernel_rfl⟩
instance : StructT Try.prog 63 [(0, 1), (1, 1), (2, 1)] := ⟨by kernel_rfl⟩
instance : AggT Try.prog 64 3 := ⟨by kernel_rfl⟩
instance : ZeroT Try.prog 64 [.slice none 0 0, .int .i64 0, .int .i64 0] := ⟨by kernel_rfl⟩
instance : PlainT Try.prog 64 := ⟨by kernel_rfl⟩
instance : FieldT Try.prog 64 0 0 23 := ⟨by kernel_rfl⟩
instance : FieldT Try.prog 64 1 1 3 := ⟨by kernel_rfl⟩
instance : FieldT Try.prog 64 2 2 3 := ⟨by kernel_rfl⟩
instance : StructT Try.prog 64 [(0, 1), (1, 1), (2, 1)] := ⟨by kernel_rfl⟩
instance : AggT Try.prog 65 2 := ⟨by kernel_rfl⟩
instance : ZeroT Try.prog 65 [.int .i64 0, .int .i64 0] := ⟨by kernel_rfl⟩
instance : PlainT Try.prog 65 := ⟨by kernel_rfl⟩
instance : FieldT Try.prog 65 0 0 3 := ⟨by kernel_rfl⟩
instance : FieldT Try.prog 65 1 1 3 := ⟨by kernel_rfl⟩
instance : StructT Try.prog 65 [(0, 1), (1, 1)] := ⟨by kernel_rfl⟩
instance : AggT Try.prog 66 2 := ⟨by kernel_rfl⟩
instance : ZeroT Try.prog 66 [.int .i64 0, .int .i64 0] := ⟨by kernel_rfl⟩
instance : PlainT Try.prog 66 := ⟨by kernel_rfl⟩
instance : FieldT Try.prog 66 0 0 3 := ⟨by kernel_rfl⟩
instance : FieldT Try.prog 66 1 1 3 := ⟨by kernel_rfl⟩
instance : StructT Try.prog 66 [(0, 1), (1, 1)] := ⟨by kernel_rfl⟩
instance : CellT Try.prog 67 := ⟨by kernel_rfl⟩
instance : ZeroT Try.prog 67 [.nilFunc] := ⟨by kernel_rfl⟩
instance : PlainT Try.prog 67 := ⟨by kernel_rfl⟩
instance : CellT Try.prog 68 := ⟨by kernel_rfl⟩
instance : ZeroT Try.prog 68 [.int .i64 0] := ⟨by kernel_rfl⟩
instance : PlainT Try.prog 68 := ⟨by kernel_rfl⟩
instance : CellT Try.prog 69 := ⟨by kernel_rfl⟩
instance : ZeroT Try.prog 69 [.nilFunc] := ⟨by kernel_rfl⟩
instance : PlainT Try.prog 69 := ⟨by kernel_rfl⟩
instance : CellT Try.prog 70 := ⟨by kernel_rfl⟩
instance : ZeroT Try.prog 70 [.nilFunc] := ⟨by kernel_rfl⟩
instance : PlainT Try.prog 70 := ⟨by kernel_rfl⟩
instance : CellT Try.prog 71 := ⟨by kernel_rfl⟩
instance : ZeroT Try.prog 71 [.nilFunc] := ⟨by kernel_rfl⟩
instance : PlainT Try.prog 71 := ⟨by kernel_rfl⟩
instance : CellT Try.prog 72 := ⟨by kernel_rfl⟩
instance : ZeroT Try.prog 72 [.nilFunc] := ⟨by kernel_rfl⟩
instance : PlainT Try.prog 72 := ⟨by kernel_rfl⟩
instance : CellT Try.prog 73 := ⟨by kernel_rfl⟩
instance : ZeroT Try.prog 73 [.nilFunc] := ⟨by kernel_rfl⟩
instance : PlainT Try.prog 73 := ⟨by kernel_rfl⟩
instance : CellT Try.prog 74 := ⟨by kernel_rfl⟩
instance : ZeroT Try.prog 74 [.nilFunc] := ⟨by kernel_rfl⟩
instance : PlainT Try.prog 74 := ⟨by kernel_rfl⟩
instance : SliceT Try.prog 75 78 3 24 := ⟨by kernel_rfl⟩
instance : CellT Try.prog 75 := ⟨by kernel_rfl⟩
instance : ZeroT Try.prog 75 [.slice none 0 0] := ⟨by kernel_rfl⟩
instance : PlainT Try.prog 75 := ⟨by kernel_rfl⟩
instance : CellT Try.prog 76 := ⟨by kernel_rfl⟩
instance : ZeroT Try.prog 76 [.nilFunc] := ⟨by kernel_rfl⟩
instance : PlainT Try.prog 76 := ⟨by kernel_rfl⟩
instance : AggT Try.prog 77 3 := ⟨by kernel_rfl⟩
instance : ZeroT Try.prog 77 [.int .i64 0, .int .i64 0, .int .i64 0] := ⟨by kernel_rfl⟩
instance : PlainT Try.prog 77 := ⟨by kernel_rfl⟩
instance : FieldT Try.prog 77 0 0 3 := ⟨by kernel_rfl⟩
instance : FieldT Try.prog 77 1 1 3 := ⟨by kernel_rfl⟩
instance : FieldT Try.prog 77 2 2 3 := ⟨by kernel_rfl⟩
instance : StructT Try.prog 77 [(0, 1), (1, 1), (2, 1)] := ⟨by kernel_rfl⟩
instance : AggT Try.prog 78 3 := ⟨by kernel_rfl⟩
instance : ZeroT Try.prog 78 [.int .i64 0, .int .i64 0, .int .i64 0] := ⟨by kernel_rfl⟩
instance : PlainT Try.prog 78 := ⟨by kernel_rfl⟩
instance : FieldT Try.prog 78 0 0 3 := ⟨by kernel_rfl⟩
instance : FieldT Try.prog 78 1 1 3 := ⟨by kernel_rfl⟩
instance : FieldT Try.prog 78 2 2 3 := ⟨by kernel_rfl⟩
instance : StructT Try.prog 78 [(0, 1), (1, 1), (2, 1)] := ⟨by kernel_rfl⟩
instance : CellT Try.prog 79 := ⟨by kernel_rfl⟩
instance : ZeroT Try.prog 79 [.nilFunc] := ⟨by kernel_rfl⟩
instance : PlainT Try.prog 79 := ⟨by kernel_rfl⟩
instance : CellT Try.prog 80 := ⟨by kernel_rfl⟩
instance : ZeroT Try.prog 80 [.nilFunc] := ⟨by kernel_rfl⟩
instance : PlainT Try.prog 80 := ⟨by kernel_rfl⟩
instance : CellT Try.prog 81 := ⟨by kernel_rfl⟩
instance : ZeroT Try.prog 81 [.nilFunc] := ⟨by kernel_rfl⟩
instance : PlainT Try.prog 81 := ⟨by kernel_rfl⟩
instance : CellT Try.prog 82 := ⟨by kernel_rfl⟩
instance : ZeroT Try.prog 82 [.nilFunc] := ⟨by kernel_rfl⟩
instance : PlainT Try.prog 82 := ⟨by kernel_rfl⟩
instance : CellT Try.prog 84 := ⟨by kernel_rfl⟩
instance : ZeroT Try.prog 84 [.nilFunc] := ⟨by kernel_rfl⟩
instance : PlainT Try.prog 84 := ⟨by kernel_rfl⟩
instance : CellT Try.prog 85 := ⟨by kernel_rfl⟩
instance : ZeroT Try.prog 85 [.nilFunc] := ⟨by kernel_rfl⟩
instance : PlainT Try.prog 85 := ⟨by kernel_rfl⟩
instance : CellT Try.prog 86 := ⟨by kernel_rfl⟩
instance : ZeroT Try.prog 86 [.nilFunc] := ⟨by kernel_rfl⟩
instance : PlainT Try.prog 86 := ⟨by kernel_rfl⟩
instance : CellT Try.prog 87 := ⟨by kernel_rfl⟩
instance : ZeroT Try.prog 87 [.nilFunc] := ⟨by kernel_rfl⟩
instance : PlainT Try.prog 87 := ⟨by kernel_rfl⟩
instance : CellT Try.prog 88 := ⟨by kernel_rfl⟩
instance : ZeroT Try.prog 88 [.nilFunc] := ⟨by kernel_rfl⟩
instance : PlainT Try.prog 88 := ⟨by kernel_rfl⟩
instance : CellT Try.prog 89 := ⟨by kernel_rfl⟩
instance : ZeroT Try.prog 89 [.nilFunc] := ⟨by kernel_rfl⟩
instance : PlainT Try.prog 89 := ⟨by kernel_rfl⟩
instance : CellT Try.prog 90 := ⟨by kernel_rfl⟩
instance : ZeroT Try.prog 90 [.nilFunc] := ⟨by kernel_rfl⟩
instance : PlainT Try.prog 90 := ⟨by kernel_rfl⟩
instance : CellT Try.prog 91 := ⟨by kernel_rfl⟩
instance : ZeroT Try.prog 91 [.nilFunc] := ⟨by kernel_rfl⟩
instance : PlainT Try.prog 91 := ⟨by kernel_rfl⟩
instance : CellT Try.prog 92 := ⟨by kernel_rfl⟩
instance : ZeroT Try.prog 92 [.nilFunc] := ⟨by kernel_rfl⟩
instance : PlainT Try.prog 92 := ⟨by kernel_rfl⟩
instance : CellT Try.prog 93 := ⟨by kernel_rfl⟩
instance : ZeroT Try.prog 93 [.nilFunc] := ⟨by kernel_rfl⟩
instance : PlainT Try.prog 93 := ⟨by kernel_rfl⟩
instance : CellT Try.prog 94 := ⟨by kernel_rfl⟩
instance : ZeroT Try.prog 94 [.nilFunc] := ⟨by kernel_rfl⟩
instance : PlainT Try.prog 94 := ⟨by kernel_rfl⟩
instance : SliceT Try.prog 96 23 1 24 := ⟨by kernel_rfl⟩
instance : CellT Try.prog 96 := ⟨by kernel_rfl⟩
instance : ZeroT Try.prog 96 [.slice none 0 0] := ⟨by kernel_rfl⟩
instance : PlainT Try.prog 96 := ⟨by kernel_rfl⟩
instance : CellT Try.prog 97 := ⟨by kernel_rfl⟩
instance : ZeroT Try.prog 97 [.nilFunc] := ⟨by kernel_rfl⟩
instance : PlainT Try.prog 97 := ⟨by kernel_rfl⟩
instance : CellT Try.prog 98 := ⟨by kernel_rfl⟩
instance : ZeroT Try.prog 98 [.nilFunc] := ⟨by kernel_rfl⟩
instance : PlainT Try.prog 98 := ⟨by kernel_rfl⟩
instance : CellT Try.prog 99 := ⟨by kernel_rfl⟩
instance : ZeroT Try.prog 99 [.nilFunc] := ⟨by kernel_rfl⟩
instance : PlainT Try.prog 99 := ⟨by kernel_rfl⟩
instance : CellT Try.prog 100 := ⟨by kernel_rfl⟩
instance : ZeroT Try.prog 100 [.nilFunc] := ⟨by kernel_rfl⟩
instance : PlainT Try.prog 100 := ⟨by kernel_rfl⟩
instance : CellT Try.prog 101 := ⟨by kernel_rfl⟩
instance : ZeroT Try.prog 101 [.nilFunc] := ⟨by kernel_rfl⟩
instance : PlainT Try.prog 101 := ⟨by kernel_rfl⟩
instance : CellT Try.prog 102 := ⟨by kernel_rfl⟩
instance : ZeroT Try.prog 102 [.nilFunc] := ⟨by kernel_rfl⟩
instance : PlainT Try.prog 102 := ⟨by kernel_rfl⟩
instance : CellT Try.prog 103 := ⟨by kernel_rfl⟩
instance : ZeroT Try.prog 103 [.nilFunc] := ⟨by kernel_rfl⟩
instance : PlainT Try.prog 103 := ⟨by kernel_rfl⟩
instance : CellT Try.prog 104 := ⟨by kernel_rfl⟩
instance : ZeroT Try.prog 104 [.nilFunc] := ⟨by kernel_rfl⟩
instance : PlainT Try.prog 104 := ⟨by kernel_rfl⟩
instance : CellT Try.prog 105 := ⟨by kernel_rfl⟩
instance : ZeroT Try.prog 105 [.nilFunc] := ⟨by kernel_rfl⟩
instance : PlainT Try.prog 105 := ⟨by kernel_rfl⟩
instance : CellT Try.prog 106 := ⟨by kernel_rfl⟩
instance : ZeroT Try.prog 106 [.nilFunc] := ⟨by kernel_rfl⟩
instance : PlainT Try.prog 106 := ⟨by kernel_rfl⟩
instance : CellT Try.prog 107 := ⟨by kernel_rfl⟩
instance : ZeroT Try.prog 107 [.nilFunc] := ⟨by kernel_rfl⟩
instance : PlainT Try.prog 107 := ⟨by kernel_rfl⟩
instance : CellT Try.prog 108 := ⟨by kernel_rfl⟩
instance : ZeroT Try.prog 108 [.nilFunc] := ⟨by kernel_rfl⟩
instance : PlainT Try.prog 108 := ⟨by kernel_rfl⟩
instance : CellT Try.prog 109 := ⟨by kernel_rfl⟩
instance : ZeroT Try.prog 109 [.nilFunc] := ⟨by kernel_rfl⟩
instance : PlainT Try.prog 109 := ⟨by kernel_rfl⟩
instance : CellT Try.prog 110 := ⟨by kernel_rfl⟩
instance : ZeroT Try.prog 110 [.nilFunc] := ⟨by kernel_rfl⟩
instance : PlainT Try.prog 110 := ⟨by kernel_rfl⟩
instance : CellT Try.prog 111 := ⟨by kernel_rfl⟩
instance : ZeroT Try.prog 111 [.nilFunc] := ⟨by kernel_rfl⟩
instance : PlainT Try.prog 111 := ⟨by kernel_rfl⟩
instance : CellT Try.prog 112 := ⟨by kernel_rfl⟩
instance : ZeroT Try.prog 112 [.nilFunc] := ⟨by kernel_rfl⟩
instance : PlainT Try.prog 112 := ⟨by kernel_rfl⟩
instance : CellT Try.prog 113 := ⟨by kernel_rfl⟩
instance : ZeroT Try.prog 113 [.nilFunc] := ⟨by kernel_rfl⟩
instance : PlainT Try.prog 113 := ⟨by kernel_rfl⟩
instance : CellT Try.prog 114 := ⟨by kernel_rfl⟩
instance : ZeroT Try.prog 114 [.nilFunc] := ⟨by kernel_rfl⟩
instance : PlainT Try.prog 114 := ⟨by kernel_rfl⟩
instance : CellT Try.prog 115 := ⟨by kernel_rfl⟩
instance : ZeroT Try.prog 115 [.int .u64 0] := ⟨by kernel_rfl⟩
instance : PlainT Try.prog 115 := ⟨by kernel_rfl⟩
instance : CellT Try.prog 116 := ⟨by kernel_rfl⟩
instance : ZeroT Try.prog 116 [.nilFunc] := ⟨by kernel_rfl⟩
instance : PlainT Try.prog 116 := ⟨by kernel_rfl⟩
instance : CellT Try.prog 117 := ⟨by kernel_rfl⟩
instance : ZeroT Try.prog 117 [.nilFunc] := ⟨by kernel_rfl⟩
instance : PlainT Try.prog 117 := ⟨by kernel_rfl⟩
instance : CellT Try.prog 118 := ⟨by kernel_rfl⟩
instance : ZeroT Try.prog 118 [.nilFunc] := ⟨by kernel_rfl⟩
instance : PlainT Try.prog 118 := ⟨by kernel_rfl⟩
instance : CellT Try.prog 119 := ⟨by kernel_rfl⟩
instance : ZeroT Try.prog 119 [.nilFunc] := ⟨by kernel_rfl⟩
instance : PlainT Try.prog 119 := ⟨by kernel_rfl⟩
instance : CellT Try.prog 120 := ⟨by kernel_rfl⟩
instance : ZeroT Try.prog 120 [.int .i64 0] := ⟨by kernel_rfl⟩
instance : PlainT Try.prog 120 := ⟨by kernel_rfl⟩
instance : CellT Try.prog 122 := ⟨by kernel_rfl⟩
instance : ZeroT Try.prog 122 [.nilFunc] := ⟨by kernel_rfl⟩
instance : PlainT Try.prog 122 := ⟨by kernel_rfl⟩
instance : CellT Try.prog 123 := ⟨by kernel_rfl⟩
instance : ZeroT Try.prog 123 [.nilFunc] := ⟨by kernel_rfl⟩
instance : PlainT Try.prog 123 := ⟨by kernel_rfl⟩
instance : CellT Try.prog 124 := ⟨by kernel_rfl⟩
instance : ZeroT Try.prog 124 [.nilFunc] := ⟨by kernel_rfl⟩
instance : PlainT Try.prog 124 := ⟨by kernel_rfl⟩
instance : CellT Try.prog 125 := ⟨by kernel_rfl⟩
instance : ZeroT Try.prog 125 [.nilFunc] := ⟨by kernel_rfl⟩
instance : PlainT Try.prog 125 := ⟨by kernel_rfl⟩
instance : CellT Try.prog 126 := ⟨by kernel_rfl⟩
instance : ZeroT Try.prog 126 [.nilFunc] := ⟨by kernel_rfl⟩
instance : PlainT Try.prog 126 := ⟨by kernel_rfl⟩
instance : CellT Try.prog 127 := ⟨by kernel_rfl⟩
instance : ZeroT Try.prog 127 [.int .u32 0] := ⟨by kernel_rfl⟩
instance : PlainT Try.prog 127 := ⟨by kernel_rfl⟩
instance : CellT Try.prog 128 := ⟨by kernel_rfl⟩
instance : ZeroT Try.prog 128 [.nilFunc] := ⟨by kernel_rfl⟩
instance : PlainT Try.prog 128 := ⟨by kernel_rfl⟩
instance : CellT Try.prog 129 := ⟨by kernel_rfl⟩
instance : ZeroT Try.prog 129 [.int .u64 0] := ⟨by kernel_rfl⟩
instance : PlainT Try.prog 129 := ⟨by kernel_rfl⟩
instance : CellT Try.prog 130 := ⟨by kernel_rfl⟩
instance : ZeroT Try.prog 130 [.int .u64 0] := ⟨by kernel_rfl⟩
instance : PlainT Try.prog 130 := ⟨by kernel_rfl⟩
instance : CellT Try.prog 131 := ⟨by kernel_rfl⟩
instance : ZeroT Try.prog 131 [.nilFunc] := ⟨by kernel_rfl⟩
instance : PlainT Try.prog 131 := ⟨by kernel_rfl⟩
instance : CellT Try.prog 132 := ⟨by kernel_rfl⟩
instance : ZeroT Try.prog 132 [.nilFunc] := ⟨by kernel_rfl⟩
instance : PlainT Try.prog 132 := ⟨by kernel_rfl⟩
instance : CellT Try.prog 133 := ⟨by kernel_rfl⟩
instance : ZeroT Try.prog 133 [.nilFunc] := ⟨by kernel_rfl⟩
instance : PlainT Try.prog 133 := ⟨by kernel_rfl⟩
instance : CellT Try.prog 134 := ⟨by kernel_rfl⟩
instance : ZeroT Try.prog 134 [.pointer none] := ⟨by kernel_rfl⟩
instance : PlainT Try.prog 134 := ⟨by kernel_rfl⟩
instance : CellT Try.prog 135 := ⟨by kernel_rfl⟩
instance : ZeroT Try.prog 135 [.nilFunc] := ⟨by kernel_rfl⟩
instance : PlainT Try.prog 135 := ⟨by kernel_rfl⟩
instance : CellT Try.prog 136 := ⟨by kernel_rfl⟩
instance : ZeroT Try.prog 136 [.nilFunc] := ⟨by kernel_rfl⟩
instance : PlainT Try.prog 136 := ⟨by kernel_rfl⟩
instance : CellT Try.prog 137 := ⟨by kernel_rfl⟩
instance : ZeroT Try.prog 137 [.pointer none] := ⟨by kernel_rfl⟩
instance : MethT Try.prog 137 "Next" 88 true 130 := ⟨by kernel_rfl⟩
instance : PlainT Try.prog 137 := ⟨by kernel_rfl⟩
instance : CellT Try.prog 139 := ⟨by kernel_rfl⟩
instance : ZeroT Try.prog 139 [.nilFunc] := ⟨by kernel_rfl⟩
instance : PlainT Try.prog 139 := ⟨by kernel_rfl⟩
instance : CellT Try.prog 140 := ⟨by kernel_rfl⟩
instance : ZeroT Try.prog 140 [.nilFunc] := ⟨by kernel_rfl⟩
instance : PlainT Try.prog 140 := ⟨by kernel_rfl⟩
instance : AggT Try.prog 141 4 := ⟨by kernel_rfl⟩
instance : ZeroT Try.prog 141 [.pointer none, .pointer none, .pointer none, .string ByteArray.empty] := ⟨by kernel_rfl⟩
instance : PlainT Try.prog 141 := ⟨by kernel_rfl⟩
instance : FieldT Try.prog 141 0 0 17 := ⟨by kernel_rfl⟩
instance : FieldT Try.prog 141 1 1 17 := ⟨by kernel_rfl⟩
instance : FieldT Try.prog 141 2 2 17 := ⟨by kernel_rfl⟩
instance : FieldT Try.prog 141 3 3 9 := ⟨by kernel_rfl⟩
instance : StructT Try.prog 141 [(0, 1), (1, 1), (2, 1), (3, 1)] := ⟨by kernel_rfl⟩
instance : AggT Try.prog 142 4 := ⟨by kernel_rfl⟩
instance : ZeroT Try.prog 142 [.pointer none, .pointer none, .pointer none, .string ByteArray.empty] := ⟨by kernel_rfl⟩
instance : PlainT Try.prog 142 := ⟨by kernel_rfl⟩
instance : FieldT Try.prog 142 0 0 17 := ⟨by kernel_rfl⟩
instance : FieldT Try.prog 142 1 1 17 := ⟨by kernel_rfl⟩
instance : FieldT Try.prog 142 2 2 17 := ⟨by kernel_rfl⟩
instance : FieldT Try.prog 142 3 3 9 := ⟨by kernel_rfl⟩
instance : StructT Try.prog 142 [(0, 1), (1, 1), (2, 1), (3, 1)] := ⟨by kernel_rfl⟩
instance : AggT Try.prog 143 0 := ⟨by kernel_rfl⟩
instance : ZeroT Try.prog 143 [] := ⟨by kernel_rfl⟩
instance : PlainT Try.prog 143 := ⟨by kernel_rfl⟩
instance : AggT Try.prog 144 0 := ⟨by kernel_rfl⟩
instance : ZeroT Try.prog 144 [] := ⟨by kernel_rfl⟩
instance : PlainT Try.prog 144 := ⟨by kernel_rfl⟩
instance : StructT Try.prog 144 [(0, 0)] := ⟨by kernel_rfl⟩
instance : AggT Try.prog 145 0 := ⟨by kernel_rfl⟩
instance : ZeroT Try.prog 145 [] := ⟨by kernel_rfl⟩
instance : PlainT Try.prog 145 := ⟨by kernel_rfl⟩
instance : StructT Try.prog 145 [(0, 0)] := ⟨by kernel_rfl⟩
instance : CellT Try.prog 146 := ⟨by kernel_rfl⟩
instance : ZeroT Try.prog 146 [.nilFunc] := ⟨by kernel_rfl⟩
instance : PlainT Try.prog 146 := ⟨by kernel_rfl⟩
instance : CellT Try.prog 147 := ⟨by kernel_rfl⟩
instance : ZeroT Try.prog 147 [.int .u8 0] := ⟨by kernel_rfl⟩
instance : PlainT Try.prog 147 := ⟨by kernel_rfl⟩
instance : CellT Try.prog 148 := ⟨by kernel_rfl⟩
instance : ZeroT Try.prog 148 [.int .u8 0] := ⟨by kernel_rfl⟩
instance : PlainT Try.prog 148 := ⟨by kernel_rfl⟩
instance : CellT Try.prog 149 := ⟨by kernel_rfl⟩
instance : ZeroT Try.prog 149 [.nilFunc] := ⟨by kernel_rfl⟩
instance : PlainT Try.prog 149 := ⟨by kernel_rfl⟩
instance : CellT Try.prog 150 := ⟨by kernel_rfl⟩
instance : ZeroT Try.prog 150 [.pointer none] := ⟨by kernel_rfl⟩
instance : PlainT Try.prog 150 := ⟨by kernel_rfl⟩
instance : CellT Try.prog 151 := ⟨by kernel_rfl⟩
instance : ZeroT Try.prog 151 [.int .i32 0] := ⟨by kernel_rfl⟩
instance : PlainT Try.prog 151 := ⟨by kernel_rfl⟩
instance : CellT Try.prog 152 := ⟨by kernel_rfl⟩
instance : ZeroT Try.prog 152 [.int .i32 0] := ⟨by kernel_rfl⟩
instance : PlainT Try.prog 152 := ⟨by kernel_rfl⟩
instance : AggT Try.prog 153 11 := ⟨by kernel_rfl⟩
instance : ZeroT Try.prog 153 [.int .u64 0, .int .u64 0, .int .u32 0, .int .u8 0, .int .u8 0, .int .u8 0, .int .u8 0, .nilFunc, .pointer none, .int .i32 0, .int .i32 0] := ⟨by kernel_rfl⟩
instance : PlainT Try.prog 153 := ⟨by kernel_rfl⟩
instance : FieldT Try.prog 153 0 0 12 := ⟨by kernel_rfl⟩
instance : FieldT Try.prog 153 1 1 12 := ⟨by kernel_rfl⟩
instance : FieldT Try.prog 153 2 2 127 := ⟨by kernel_rfl⟩
instance : FieldT Try.prog 153 3 3 147 := ⟨by kernel_rfl⟩
instance : FieldT Try.prog 153 4 4 5 := ⟨by kernel_rfl⟩
instance : FieldT Try.prog 153 5 5 5 := ⟨by kernel_rfl⟩
instance : FieldT Try.prog 153 6 6 148 := ⟨by kernel_rfl⟩
instance : FieldT Try.prog 153 7 7 149 := ⟨by kernel_rfl⟩
instance : FieldT Try.prog 153 8 8 150 := ⟨by kernel_rfl⟩
instance : FieldT Try.prog 153 9 9 151 := ⟨by kernel_rfl⟩
instance : FieldT Try.prog 153 10 10 152 := ⟨by kernel_rfl⟩
instance : StructT Try.prog 153 [(0, 1), (1, 1), (2, 1), (3, 1), (4, 1), (5, 1), (6, 1), (7, 1), (8, 1), (9, 1), (10, 1)] := ⟨by kernel_rfl⟩
instance : AggT Try.prog 154 11 := ⟨by kernel_rfl⟩
instance : ZeroT Try.prog 154 [.int .u64 0, .int .u64 0, .int .u32 0, .int .u8 0, .int .u8 0, .int .u8 0, .int .u8 0, .nilFunc, .pointer none, .int .i32 0, .int .i32 0] := ⟨by kernel_rfl⟩
instance : PlainT Try.prog 154 := ⟨by kernel_rfl⟩
instance : FieldT Try.prog 154 0 0 12 := ⟨by kernel_rfl⟩
instance : FieldT Try.prog 154 1 1 12 := ⟨by kernel_rfl⟩
instance : FieldT Try.prog 154 2 2 127 := ⟨by kernel_rfl⟩
instance : FieldT Try.prog 154 3 3 147 := ⟨by kernel_rfl⟩
instance : FieldT Try.prog 154 4 4 5 := ⟨by kernel_rfl⟩
instance : FieldT Try.prog 154 5 5 5 := ⟨by kernel_rfl⟩
instance : FieldT Try.prog 154 6 6 148 := ⟨by kernel_rfl⟩
instance : FieldT Try.prog 154 7 7 149 := ⟨by kernel_rfl⟩
instance : FieldT Try.prog 154 8 8 150 := ⟨by kernel_rfl⟩
instance : FieldT Try.prog 154 9 9 151 := ⟨by kernel_rfl⟩
instance : FieldT Try.prog 154 10 10 152 := ⟨by kernel_rfl⟩
instance : StructT Try.prog 154 [(0, 1), (1, 1), (2, 1), (3, 1), (4, 1), (5, 1), (6, 1), (7, 1), (8, 1), (9, 1), (10, 1)] := ⟨by kernel_rfl⟩
instance : CellT Try.prog 155 := ⟨by kernel_rfl⟩
instance : ZeroT Try.prog 155 [.pointer none] := ⟨by kernel_rfl⟩
instance : PlainT Try.prog 155 := ⟨by kernel_rfl⟩
-- 3 stratagem/stratagemlaw40.ProjectSystems
instance : CallT Try.prog 3 := ⟨by kernel_rfl⟩
-- 4 stratagem/stratagemlaw40.ProjectPaths
instance : CallT Try.prog 4 := ⟨by kernel_rfl⟩
-- 5 stratagem/stratagemlaw40.ProjectNarrower
instance : CallT Try.prog 5 := ⟨by kernel_rfl⟩
-- 6 stratagem/stratagemlaw40.ProjectDistances
instance : CallT Try.prog 6 := ⟨by kernel_rfl⟩
-- 7 stratagem/stratagemlaw40.ProjectAffects
instance : CallT Try.prog 7 := ⟨by kernel_rfl⟩
-- 8 stratagem/stratagemlaw40.ProjectLarge
instance : CallT Try.prog 8 := ⟨by kernel_rfl⟩
-- 9 stratagem/stratagemlaw40.ProjectErrors
instance : CallT Try.prog 9 := ⟨by kernel_rfl⟩
-- 10 stratagem/stratagemlaw40.ProjectWhole
instance : CallT Try.prog 10 := ⟨by kernel_rfl⟩
-- 11 stratagem/stratagembase.Small
instance : CallT Try.prog 11 := ⟨by kernel_rfl⟩
-- 12 stratagem/stratagemlaw40.few
instance : CallT Try.prog 12 := ⟨by kernel_rfl⟩
-- 13 stratagem/stratagemlaw40.chosen
instance : CallT Try.prog 13 := ⟨by kernel_rfl⟩
-- 14 stratagem/stratagemlaw40.awake
instance : CallT Try.prog 14 := ⟨by kernel_rfl⟩
-- 15 stratagem/project.Project
instance : CallT Try.prog 15 := ⟨by kernel_rfl⟩
-- 16 stratagem/stratagemref40.Same
instance : CallT Try.prog 16 := ⟨by kernel_rfl⟩
-- 17 stratagem/stratagemref40.Project
instance : CallT Try.prog 17 := ⟨by kernel_rfl⟩
-- 18 stratagem/project.Index
instance : CallT Try.prog 18 := ⟨by kernel_rfl⟩
-- 19 stratagem/stratagembase.Holds
instance : CallT Try.prog 19 := ⟨by kernel_rfl⟩
-- 20 stratagem/stratagembase.Apply
instance : CallT Try.prog 20 := ⟨by kernel_rfl⟩
-- 21 stratagem/stratagembase.States
instance : CallT Try.prog 21 := ⟨by kernel_rfl⟩
-- 22 stratagem/stratagemref40.Distances
instance : CallT Try.prog 22 := ⟨by kernel_rfl⟩
-- 23 stratagem/stratagembase.Distances
instance : CallT Try.prog 23 := ⟨by kernel_rfl⟩
-- 24 stratagem/project.Affects
instance : CallT Try.prog 24 := ⟨by kernel_rfl⟩
-- 25 stratagem/stratagembase.Is
instance : CallT Try.prog 25 := ⟨by kernel_rfl⟩
-- 26 stratagem/stratagembase.Good
instance : CallT Try.prog 26 := ⟨by kernel_rfl⟩
-- 27 stratagem/stratagembase.Num
instance : CallT Try.prog 27 := ⟨by kernel_rfl⟩
-- 28 stratagem/task.Check
instance : CallT Try.prog 28 := ⟨by kernel_rfl⟩
-- 29 stratagem/stratagemref40.Pattern
instance : CallT Try.prog 29 := ⟨by kernel_rfl⟩
-- 30 stratagem/stratagembase.State
instance : CallT Try.prog 30 := ⟨by kernel_rfl⟩
-- 31 stratagem/stratagembase.Many
instance : CallT Try.prog 31 := ⟨by kernel_rfl⟩
-- 32 stratagem/stratagembase.Edges
instance : CallT Try.prog 32 := ⟨by kernel_rfl⟩
-- 33 stratagem/task.Rank
instance : CallT Try.prog 33 := ⟨by kernel_rfl⟩
-- 34 stratagem/stratagemref40.Many
instance : CallT Try.prog 34 := ⟨by kernel_rfl⟩
-- 35 stratagem/stratagemlaw40.example
instance : CallT Try.prog 35 := ⟨by kernel_rfl⟩
-- 36 stratagem/project.check
instance : CallT Try.prog 36 := ⟨by kernel_rfl⟩
-- 37 stratagem/project.count
instance : CallT Try.prog 37 := ⟨by kernel_rfl⟩
-- 38 stratagem/project.number
instance : CallT Try.prog 38 := ⟨by kernel_rfl⟩
-- 39 stratagem/project.outside
instance : CallT Try.prog 39 := ⟨by kernel_rfl⟩
-- 40 stratagem/project.put
instance : CallT Try.prog 40 := ⟨by kernel_rfl⟩
-- 41 slices.Contains[[]int,int]
instance : CallT Try.prog 41 := ⟨by kernel_rfl⟩
-- 42 stratagem/project.targets
instance : CallT Try.prog 42 := ⟨by kernel_rfl⟩
-- 43 stratagem/stratagembase.Ints
instance : CallT Try.prog 43 := ⟨by kernel_rfl⟩
-- 44 stratagem/stratagemref40.Index
instance : CallT Try.prog 44 := ⟨by kernel_rfl⟩
-- 45 stratagem/stratagemref40.Goals
instance : CallT Try.prog 45 := ⟨by kernel_rfl⟩
-- 46 stratagem/task.Proper
instance : CallT Try.prog 46 := ⟨by kernel_rfl⟩
-- 47 slices.ContainsFunc[[]stratagem/api.Effect,stratagem/api.Effect]
instance : CallT Try.prog 47 := ⟨by kernel_rfl⟩
-- 48 stratagem/project.Affects$1
instance : CallT Try.prog 48 := ⟨by kernel_rfl⟩
-- 49 stratagem/stratagembase.Proper
instance : CallT Try.prog 49 := ⟨by kernel_rfl⟩
-- 50 stratagem/stratagembase.operator
instance : CallT Try.prog 50 := ⟨by kernel_rfl⟩
-- 51 stratagem/task.large
instance : CallT Try.prog 51 := ⟨by kernel_rfl⟩
-- 52 stratagem/task.conditions
instance : CallT Try.prog 52 := ⟨by kernel_rfl⟩
-- 53 stratagem/task.Facts
instance : CallT Try.prog 53 := ⟨by kernel_rfl⟩
-- 54 stratagem/task.named
instance : CallT Try.prog 54 := ⟨by kernel_rfl⟩
-- 55 stratagem/stratagembase.Rank
instance : CallT Try.prog 55 := ⟨by kernel_rfl⟩
-- 56 stratagem/task.counted
instance : CallT Try.prog 56 := ⟨by kernel_rfl⟩
-- 57 stratagem/project.has
instance : CallT Try.prog 57 := ⟨by kernel_rfl⟩
-- 58 slices.Sort[[]int,int]
instance : CallT Try.prog 58 := ⟨by kernel_rfl⟩
-- 59 slices.Backward[[]int,int]
instance : CallT Try.prog 59 := ⟨by kernel_rfl⟩
-- 60 slices.Index[[]int,int]
instance : CallT Try.prog 60 := ⟨by kernel_rfl⟩
-- 61 slices.Clone[[]int,int]
instance : CallT Try.prog 61 := ⟨by kernel_rfl⟩
-- 62 stratagem/task.Holds
instance : CallT Try.prog 62 := ⟨by kernel_rfl⟩
-- 63 slices.Compact[[]int,int]
instance : CallT Try.prog 63 := ⟨by kernel_rfl⟩
-- 64 slices.IndexFunc[[]stratagem/api.Effect,stratagem/api.Effect]
instance : CallT Try.prog 64 := ⟨by kernel_rfl⟩
-- 65 slices.ContainsFunc[[][]stratagem/api.Fact,[]stratagem/api.Fact]
instance : CallT Try.prog 65 := ⟨by kernel_rfl⟩
-- 66 stratagem/task.large$1
instance : CallT Try.prog 66 := ⟨by kernel_rfl⟩
-- 67 stratagem/task.States
instance : CallT Try.prog 67 := ⟨by kernel_rfl⟩
-- 68 slices.ContainsFunc[[]stratagem/api.Fact,stratagem/api.Fact]
instance : CallT Try.prog 68 := ⟨by kernel_rfl⟩
-- 69 stratagem/project.has$1
instance : CallT Try.prog 69 := ⟨by kernel_rfl⟩
-- 70 slices.pdqsortOrdered[int]
instance : CallT Try.prog 70 := ⟨by kernel_rfl⟩
-- 71 math/bits.Len
instance : CallT Try.prog 71 := ⟨by kernel_rfl⟩
-- 72 slices.Backward[[]int,int]$1
instance : CallT Try.prog 72 := ⟨by kernel_rfl⟩
-- 73 slices.IndexFunc[[][]stratagem/api.Fact,[]stratagem/api.Fact]
instance : CallT Try.prog 73 := ⟨by kernel_rfl⟩
-- 74 slices.IndexFunc[[]stratagem/api.Fact,stratagem/api.Fact]
instance : CallT Try.prog 74 := ⟨by kernel_rfl⟩
-- 75 slices.insertionSortOrdered[int]
instance : CallT Try.prog 75 := ⟨by kernel_rfl⟩
-- 76 slices.heapSortOrdered[int]
instance : CallT Try.prog 76 := ⟨by kernel_rfl⟩
-- 77 slices.breakPatternsOrdered[int]
instance : CallT Try.prog 77 := ⟨by kernel_rfl⟩
-- 78 slices.choosePivotOrdered[int]
instance : CallT Try.prog 78 := ⟨by kernel_rfl⟩
-- 79 slices.reverseRangeOrdered[int]
instance : CallT Try.prog 79 := ⟨by kernel_rfl⟩
-- 80 slices.partialInsertionSortOrdered[int]
instance : CallT Try.prog 80 := ⟨by kernel_rfl⟩
-- 81 cmp.Less[int]
instance : CallT Try.prog 81 := ⟨by kernel_rfl⟩
-- 82 slices.partitionEqualOrdered[int]
instance : CallT Try.prog 82 := ⟨by kernel_rfl⟩
-- 83 slices.partitionOrdered[int]
instance : CallT Try.prog 83 := ⟨by kernel_rfl⟩
-- 84 math/bits.Len32
instance : CallT Try.prog 84 := ⟨by kernel_rfl⟩
-- 85 math/bits.Len64
instance : CallT Try.prog 85 := ⟨by kernel_rfl⟩
-- 86 slices.siftDownOrdered[int]
instance : CallT Try.prog 86 := ⟨by kernel_rfl⟩
-- 87 slices.nextPowerOfTwo
instance : CallT Try.prog 87 := ⟨by kernel_rfl⟩
-- 89 slices.medianAdjacentOrdered[int]
instance : CallT Try.prog 89 := ⟨by kernel_rfl⟩
-- 90 slices.medianOrdered[int]
instance : CallT Try.prog 90 := ⟨by kernel_rfl⟩
-- 91 cmp.isNaN[int]
instance : CallT Try.prog 91 := ⟨by kernel_rfl⟩
-- 92 slices.order2Ordered[int]
instance : CallT Try.prog 92 := ⟨by kernel_rfl⟩
theorem mixed : Try.prog.follows .mixedOrders = true := by kernel_rfl
end Go.Proofs.Ytlgombjhcpgleaa
