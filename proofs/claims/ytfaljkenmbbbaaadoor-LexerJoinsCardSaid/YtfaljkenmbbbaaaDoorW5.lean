import Derived.Test.YtfaljkenmbbbaaaDoorRows
import Derived.Test.YtfaljkenmbbbaaaDoorW4
import Derived.Test.YtfaljkenmbbbaaaDoorW0
/- What the types of the program are: sizes, fields, zeros, elements. Printed by a small program out of the program's own table; each is proved by the kernel. -/
namespace Go.Proofs.YtfaljkenmbbbaaaDoor
set_option maxRecDepth 100000
instance : HAgg Tryd.prog 0 false 1 := ⟨by kernel_rfl⟩
instance : HSize Tryd.prog 0 1 := ⟨by kernel_rfl⟩
instance : HZero Tryd.prog 0 ((Value.tuple #[])) := ⟨by kernel_rfl⟩
instance : HAgg Tryd.prog 1 false 1 := ⟨by kernel_rfl⟩
instance : HSize Tryd.prog 1 1 := ⟨by kernel_rfl⟩
instance : HZero Tryd.prog 1 (Value.nilFunc) := ⟨by kernel_rfl⟩
instance : HAgg Tryd.prog 2 false 1 := ⟨by kernel_rfl⟩
instance : HSize Tryd.prog 2 1 := ⟨by kernel_rfl⟩
instance : HZero Tryd.prog 2 ((Value.int IntKind.i64 0)) := ⟨by kernel_rfl⟩
instance : HAgg Tryd.prog 3 false 1 := ⟨by kernel_rfl⟩
instance : HSize Tryd.prog 3 1 := ⟨by kernel_rfl⟩
instance : HZero Tryd.prog 3 ((Value.int IntKind.i64 0)) := ⟨by kernel_rfl⟩
instance : HAgg Tryd.prog 4 false 1 := ⟨by kernel_rfl⟩
instance : HSize Tryd.prog 4 1 := ⟨by kernel_rfl⟩
instance : HZero Tryd.prog 4 ((Value.bool false)) := ⟨by kernel_rfl⟩
instance : HAgg Tryd.prog 5 false 1 := ⟨by kernel_rfl⟩
instance : HSize Tryd.prog 5 1 := ⟨by kernel_rfl⟩
instance : HZero Tryd.prog 5 ((Value.int IntKind.u8 0)) := ⟨by kernel_rfl⟩
instance : HAgg Tryd.prog 6 false 1 := ⟨by kernel_rfl⟩
instance : HSize Tryd.prog 6 1 := ⟨by kernel_rfl⟩
instance : HZero Tryd.prog 6 ((Value.int IntKind.u8 0)) := ⟨by kernel_rfl⟩
instance : HAgg Tryd.prog 7 true 4 := ⟨by kernel_rfl⟩
instance : HSize Tryd.prog 7 4 := ⟨by kernel_rfl⟩
instance : HPl Tryd.prog 7 [(0, 1), (1, 1), (2, 1), (3, 1)] [Value.int IntKind.i64 0, Value.int IntKind.i64 0, Value.bool false, Value.int IntKind.u8 0] := ⟨by kernel_rfl⟩
instance : HZero Tryd.prog 7 ((Value.agg #[Value.int IntKind.i64 0, Value.int IntKind.i64 0, Value.bool false, Value.int IntKind.u8 0])) := ⟨by kernel_rfl⟩
instance : HFld Tryd.prog 7 0 0 := ⟨by kernel_rfl⟩
instance : HFld Tryd.prog 7 1 1 := ⟨by kernel_rfl⟩
instance : HFld Tryd.prog 7 2 2 := ⟨by kernel_rfl⟩
instance : HFld Tryd.prog 7 3 3 := ⟨by kernel_rfl⟩
instance : HAgg Tryd.prog 8 true 4 := ⟨by kernel_rfl⟩
instance : HSize Tryd.prog 8 4 := ⟨by kernel_rfl⟩
instance : HPl Tryd.prog 8 [(0, 1), (1, 1), (2, 1), (3, 1)] [Value.int IntKind.i64 0, Value.int IntKind.i64 0, Value.bool false, Value.int IntKind.u8 0] := ⟨by kernel_rfl⟩
instance : HZero Tryd.prog 8 ((Value.agg #[Value.int IntKind.i64 0, Value.int IntKind.i64 0, Value.bool false, Value.int IntKind.u8 0])) := ⟨by kernel_rfl⟩
instance : HFld Tryd.prog 8 0 0 := ⟨by kernel_rfl⟩
instance : HFld Tryd.prog 8 1 1 := ⟨by kernel_rfl⟩
instance : HFld Tryd.prog 8 2 2 := ⟨by kernel_rfl⟩
instance : HFld Tryd.prog 8 3 3 := ⟨by kernel_rfl⟩
instance : HAgg Tryd.prog 9 false 1 := ⟨by kernel_rfl⟩
instance : HSize Tryd.prog 9 1 := ⟨by kernel_rfl⟩
instance : HZero Tryd.prog 9 ((Value.string ⟨#[]⟩)) := ⟨by kernel_rfl⟩
instance : HAgg Tryd.prog 10 false 1 := ⟨by kernel_rfl⟩
instance : HSize Tryd.prog 10 1 := ⟨by kernel_rfl⟩
instance : HZero Tryd.prog 10 ((Value.string ⟨#[]⟩)) := ⟨by kernel_rfl⟩
instance : HAgg Tryd.prog 11 false 1 := ⟨by kernel_rfl⟩
instance : HSize Tryd.prog 11 1 := ⟨by kernel_rfl⟩
instance : HZero Tryd.prog 11 ((Value.string ⟨#[]⟩)) := ⟨by kernel_rfl⟩
instance : HAgg Tryd.prog 12 false 1 := ⟨by kernel_rfl⟩
instance : HSize Tryd.prog 12 1 := ⟨by kernel_rfl⟩
instance : HZero Tryd.prog 12 ((Value.int IntKind.u64 0)) := ⟨by kernel_rfl⟩
instance : HAgg Tryd.prog 13 true 2 := ⟨by kernel_rfl⟩
instance : HSize Tryd.prog 13 2 := ⟨by kernel_rfl⟩
instance : HPl Tryd.prog 13 [(0, 1), (1, 1)] [Value.string ⟨#[]⟩, Value.int IntKind.u64 0] := ⟨by kernel_rfl⟩
instance : HZero Tryd.prog 13 ((Value.agg #[Value.string ⟨#[]⟩, Value.int IntKind.u64 0])) := ⟨by kernel_rfl⟩
instance : HFld Tryd.prog 13 0 0 := ⟨by kernel_rfl⟩
instance : HFld Tryd.prog 13 1 1 := ⟨by kernel_rfl⟩
instance : HAgg Tryd.prog 14 true 2 := ⟨by kernel_rfl⟩
instance : HSize Tryd.prog 14 2 := ⟨by kernel_rfl⟩
instance : HPl Tryd.prog 14 [(0, 1), (1, 1)] [Value.string ⟨#[]⟩, Value.int IntKind.u64 0] := ⟨by kernel_rfl⟩
instance : HZero Tryd.prog 14 ((Value.agg #[Value.string ⟨#[]⟩, Value.int IntKind.u64 0])) := ⟨by kernel_rfl⟩
instance : HFld Tryd.prog 14 0 0 := ⟨by kernel_rfl⟩
instance : HFld Tryd.prog 14 1 1 := ⟨by kernel_rfl⟩
instance : HAgg Tryd.prog 15 false 1 := ⟨by kernel_rfl⟩
instance : HSize Tryd.prog 15 1 := ⟨by kernel_rfl⟩
instance : HZero Tryd.prog 15 ((Value.pointer none)) := ⟨by kernel_rfl⟩
instance : HAgg Tryd.prog 16 false 1 := ⟨by kernel_rfl⟩
instance : HSize Tryd.prog 16 1 := ⟨by kernel_rfl⟩
instance : HZero Tryd.prog 16 ((Value.pointer none)) := ⟨by kernel_rfl⟩
instance : HAgg Tryd.prog 17 false 1 := ⟨by kernel_rfl⟩
instance : HSize Tryd.prog 17 1 := ⟨by kernel_rfl⟩
instance : HZero Tryd.prog 17 ((Value.pointer none)) := ⟨by kernel_rfl⟩
instance : HAgg Tryd.prog 18 true 1 := ⟨by kernel_rfl⟩
instance : HSize Tryd.prog 18 1 := ⟨by kernel_rfl⟩
instance : HPl Tryd.prog 18 [(0, 1)] [Value.pointer none] := ⟨by kernel_rfl⟩
instance : HZero Tryd.prog 18 ((Value.agg #[Value.pointer none])) := ⟨by kernel_rfl⟩
instance : HFld Tryd.prog 18 0 0 := ⟨by kernel_rfl⟩
instance : HAgg Tryd.prog 19 true 1 := ⟨by kernel_rfl⟩
instance : HSize Tryd.prog 19 1 := ⟨by kernel_rfl⟩
instance : HPl Tryd.prog 19 [(0, 1)] [Value.pointer none] := ⟨by kernel_rfl⟩
instance : HZero Tryd.prog 19 ((Value.agg #[Value.pointer none])) := ⟨by kernel_rfl⟩
instance : HFld Tryd.prog 19 0 0 := ⟨by kernel_rfl⟩
instance : HAgg Tryd.prog 20 false 1 := ⟨by kernel_rfl⟩
instance : HSize Tryd.prog 20 1 := ⟨by kernel_rfl⟩
instance : HZero Tryd.prog 20 (Value.nilIface) := ⟨by kernel_rfl⟩
instance : HAgg Tryd.prog 21 false 1 := ⟨by kernel_rfl⟩
instance : HSize Tryd.prog 21 1 := ⟨by kernel_rfl⟩
instance : HZero Tryd.prog 21 ((Value.int IntKind.i32 0)) := ⟨by kernel_rfl⟩
instance : HAgg Tryd.prog 22 false 1 := ⟨by kernel_rfl⟩
instance : HSize Tryd.prog 22 1 := ⟨by kernel_rfl⟩
instance : HEl Tryd.prog 22 3 1 := ⟨by kernel_rfl⟩
instance : HElem Tryd.prog 22 3 (Value.int IntKind.i64 0) 1 8 := ⟨⟨by kernel_rfl, by kernel_rfl, rfl, by decide⟩⟩
instance : HZero Tryd.prog 22 ((Value.slice none 0 0)) := ⟨by kernel_rfl⟩
instance : HAgg Tryd.prog 23 false 1 := ⟨by kernel_rfl⟩
instance : HSize Tryd.prog 23 1 := ⟨by kernel_rfl⟩
instance : HZero Tryd.prog 23 (Value.nilFunc) := ⟨by kernel_rfl⟩
instance : HAgg Tryd.prog 24 false 1 := ⟨by kernel_rfl⟩
instance : HSize Tryd.prog 24 1 := ⟨by kernel_rfl⟩
instance : HZero Tryd.prog 24 ((Value.pointer none)) := ⟨by kernel_rfl⟩
instance : HAgg Tryd.prog 25 false 1 := ⟨by kernel_rfl⟩
instance : HSize Tryd.prog 25 1 := ⟨by kernel_rfl⟩
instance : HZero Tryd.prog 25 (Value.nilFunc) := ⟨by kernel_rfl⟩
instance : HAgg Tryd.prog 26 false 1 := ⟨by kernel_rfl⟩
instance : HSize Tryd.prog 26 1 := ⟨by kernel_rfl⟩
instance : HZero Tryd.prog 26 (Value.nilFunc) := ⟨by kernel_rfl⟩
instance : HAgg Tryd.prog 27 false 1 := ⟨by kernel_rfl⟩
instance : HSize Tryd.prog 27 1 := ⟨by kernel_rfl⟩
instance : HZero Tryd.prog 27 (Value.nilFunc) := ⟨by kernel_rfl⟩
instance : HAgg Tryd.prog 28 false 1 := ⟨by kernel_rfl⟩
instance : HSize Tryd.prog 28 1 := ⟨by kernel_rfl⟩
instance : HEl Tryd.prog 28 9 1 := ⟨by kernel_rfl⟩
instance : HElem Tryd.prog 28 9 (Value.string ⟨#[]⟩) 1 16 := ⟨⟨by kernel_rfl, by kernel_rfl, rfl, by decide⟩⟩
instance : HZero Tryd.prog 28 ((Value.slice none 0 0)) := ⟨by kernel_rfl⟩
instance : HAgg Tryd.prog 29 false 1 := ⟨by kernel_rfl⟩
instance : HSize Tryd.prog 29 1 := ⟨by kernel_rfl⟩
instance : HEl Tryd.prog 29 43 4 := ⟨by kernel_rfl⟩
instance : HElem Tryd.prog 29 43 (Value.agg #[Value.int IntKind.i64 0, Value.string ⟨#[]⟩, Value.int IntKind.i64 0, Value.int IntKind.i64 0]) 4 40 := ⟨⟨by kernel_rfl, by kernel_rfl, rfl, by decide⟩⟩
instance : HZero Tryd.prog 29 ((Value.slice none 0 0)) := ⟨by kernel_rfl⟩
instance : HAgg Tryd.prog 30 false 1 := ⟨by kernel_rfl⟩
instance : HSize Tryd.prog 30 1 := ⟨by kernel_rfl⟩
instance : HZero Tryd.prog 30 ((Value.int IntKind.i64 0)) := ⟨by kernel_rfl⟩
instance : HAgg Tryd.prog 31 true 3 := ⟨by kernel_rfl⟩
instance : HSize Tryd.prog 31 3 := ⟨by kernel_rfl⟩
instance : HPl Tryd.prog 31 [(0, 1), (1, 1), (2, 1)] [Value.int IntKind.i64 0, Value.int IntKind.i64 0, Value.int IntKind.i64 0] := ⟨by kernel_rfl⟩
instance : HZero Tryd.prog 31 ((Value.agg #[Value.int IntKind.i64 0, Value.int IntKind.i64 0, Value.int IntKind.i64 0])) := ⟨by kernel_rfl⟩
instance : HFld Tryd.prog 31 0 0 := ⟨by kernel_rfl⟩
instance : HFld Tryd.prog 31 1 1 := ⟨by kernel_rfl⟩
instance : HFld Tryd.prog 31 2 2 := ⟨by kernel_rfl⟩
instance : HAgg Tryd.prog 32 true 3 := ⟨by kernel_rfl⟩
instance : HSize Tryd.prog 32 3 := ⟨by kernel_rfl⟩
instance : HPl Tryd.prog 32 [(0, 1), (1, 1), (2, 1)] [Value.int IntKind.i64 0, Value.int IntKind.i64 0, Value.int IntKind.i64 0] := ⟨by kernel_rfl⟩
instance : HZero Tryd.prog 32 ((Value.agg #[Value.int IntKind.i64 0, Value.int IntKind.i64 0, Value.int IntKind.i64 0])) := ⟨by kernel_rfl⟩
instance : HFld Tryd.prog 32 0 0 := ⟨by kernel_rfl⟩
instance : HFld Tryd.prog 32 1 1 := ⟨by kernel_rfl⟩
instance : HFld Tryd.prog 32 2 2 := ⟨by kernel_rfl⟩
instance : HAgg Tryd.prog 33 false 1 := ⟨by kernel_rfl⟩
instance : HSize Tryd.prog 33 1 := ⟨by kernel_rfl⟩
instance : HZero Tryd.prog 33 ((Value.tuple #[Value.slice none 0 0, Value.agg #[Value.int IntKind.i64 0, Value.int IntKind.i64 0, Value.int IntKind.i64 0]])) := ⟨by kernel_rfl⟩
instance : HAgg Tryd.prog 34 false 1 := ⟨by kernel_rfl⟩
instance : HSize Tryd.prog 34 1 := ⟨by kernel_rfl⟩
instance : HZero Tryd.prog 34 (Value.nilFunc) := ⟨by kernel_rfl⟩
instance : HAgg Tryd.prog 35 false 1 := ⟨by kernel_rfl⟩
instance : HSize Tryd.prog 35 1 := ⟨by kernel_rfl⟩
instance : HZero Tryd.prog 35 (Value.nilFunc) := ⟨by kernel_rfl⟩
instance : HAgg Tryd.prog 36 false 1 := ⟨by kernel_rfl⟩
instance : HSize Tryd.prog 36 1 := ⟨by kernel_rfl⟩
instance : HZero Tryd.prog 36 (Value.nilFunc) := ⟨by kernel_rfl⟩
instance : HAgg Tryd.prog 37 false 1 := ⟨by kernel_rfl⟩
instance : HSize Tryd.prog 37 1 := ⟨by kernel_rfl⟩
instance : HZero Tryd.prog 37 ((Value.int IntKind.u64 0)) := ⟨by kernel_rfl⟩
instance : HAgg Tryd.prog 38 false 1 := ⟨by kernel_rfl⟩
instance : HSize Tryd.prog 38 1 := ⟨by kernel_rfl⟩
instance : HEl Tryd.prog 38 5 1 := ⟨by kernel_rfl⟩
instance : HElem Tryd.prog 38 5 (Value.int IntKind.u8 0) 1 1 := ⟨⟨by kernel_rfl, by kernel_rfl, rfl, by decide⟩⟩
instance : HZero Tryd.prog 38 ((Value.slice none 0 0)) := ⟨by kernel_rfl⟩
instance : HAgg Tryd.prog 39 false 1 := ⟨by kernel_rfl⟩
instance : HSize Tryd.prog 39 1 := ⟨by kernel_rfl⟩
instance : HZero Tryd.prog 39 (Value.nilFunc) := ⟨by kernel_rfl⟩
instance : HAgg Tryd.prog 40 false 1 := ⟨by kernel_rfl⟩
instance : HSize Tryd.prog 40 1 := ⟨by kernel_rfl⟩
instance : HZero Tryd.prog 40 (Value.nilFunc) := ⟨by kernel_rfl⟩
instance : HAgg Tryd.prog 41 false 1 := ⟨by kernel_rfl⟩
instance : HSize Tryd.prog 41 1 := ⟨by kernel_rfl⟩
instance : HZero Tryd.prog 41 (Value.nilFunc) := ⟨by kernel_rfl⟩
instance : HAgg Tryd.prog 42 true 4 := ⟨by kernel_rfl⟩
instance : HSize Tryd.prog 42 4 := ⟨by kernel_rfl⟩
instance : HPl Tryd.prog 42 [(0, 1), (1, 1), (2, 1), (3, 1)] [Value.int IntKind.i64 0, Value.string ⟨#[]⟩, Value.int IntKind.i64 0, Value.int IntKind.i64 0] := ⟨by kernel_rfl⟩
instance : HZero Tryd.prog 42 ((Value.agg #[Value.int IntKind.i64 0, Value.string ⟨#[]⟩, Value.int IntKind.i64 0, Value.int IntKind.i64 0])) := ⟨by kernel_rfl⟩
instance : HFld Tryd.prog 42 0 0 := ⟨by kernel_rfl⟩
instance : HFld Tryd.prog 42 1 1 := ⟨by kernel_rfl⟩
instance : HFld Tryd.prog 42 2 2 := ⟨by kernel_rfl⟩
instance : HFld Tryd.prog 42 3 3 := ⟨by kernel_rfl⟩
instance : HAgg Tryd.prog 43 true 4 := ⟨by kernel_rfl⟩
instance : HSize Tryd.prog 43 4 := ⟨by kernel_rfl⟩
instance : HPl Tryd.prog 43 [(0, 1), (1, 1), (2, 1), (3, 1)] [Value.int IntKind.i64 0, Value.string ⟨#[]⟩, Value.int IntKind.i64 0, Value.int IntKind.i64 0] := ⟨by kernel_rfl⟩
instance : HZero Tryd.prog 43 ((Value.agg #[Value.int IntKind.i64 0, Value.string ⟨#[]⟩, Value.int IntKind.i64 0, Value.int IntKind.i64 0])) := ⟨by kernel_rfl⟩
instance : HFld Tryd.prog 43 0 0 := ⟨by kernel_rfl⟩
instance : HFld Tryd.prog 43 1 1 := ⟨by kernel_rfl⟩
instance : HFld Tryd.prog 43 2 2 := ⟨by kernel_rfl⟩
instance : HFld Tryd.prog 43 3 3 := ⟨by kernel_rfl⟩
instance : HAgg Tryd.prog 44 false 1 := ⟨by kernel_rfl⟩
instance : HSize Tryd.prog 44 1 := ⟨by kernel_rfl⟩
instance : HZero Tryd.prog 44 (Value.nilFunc) := ⟨by kernel_rfl⟩
instance : HAgg Tryd.prog 45 false 1 := ⟨by kernel_rfl⟩
instance : HSize Tryd.prog 45 1 := ⟨by kernel_rfl⟩
instance : HZero Tryd.prog 45 (Value.nilFunc) := ⟨by kernel_rfl⟩
instance : HAgg Tryd.prog 46 false 1 := ⟨by kernel_rfl⟩
instance : HSize Tryd.prog 46 1 := ⟨by kernel_rfl⟩
instance : HZero Tryd.prog 46 (Value.nilFunc) := ⟨by kernel_rfl⟩
instance : HAgg Tryd.prog 47 false 1 := ⟨by kernel_rfl⟩
instance : HSize Tryd.prog 47 1 := ⟨by kernel_rfl⟩
instance : HZero Tryd.prog 47 (Value.nilFunc) := ⟨by kernel_rfl⟩
instance : HAgg Tryd.prog 48 true 2 := ⟨by kernel_rfl⟩
instance : HSize Tryd.prog 48 2 := ⟨by kernel_rfl⟩
instance : HPl Tryd.prog 48 [(0, 1), (1, 1)] [Value.slice none 0 0, Value.int IntKind.i64 0] := ⟨by kernel_rfl⟩
instance : HZero Tryd.prog 48 ((Value.agg #[Value.slice none 0 0, Value.int IntKind.i64 0])) := ⟨by kernel_rfl⟩
instance : HFld Tryd.prog 48 0 0 := ⟨by kernel_rfl⟩
instance : HFld Tryd.prog 48 1 1 := ⟨by kernel_rfl⟩
instance : HAgg Tryd.prog 49 true 2 := ⟨by kernel_rfl⟩
instance : HSize Tryd.prog 49 2 := ⟨by kernel_rfl⟩
instance : HPl Tryd.prog 49 [(0, 1), (1, 1)] [Value.slice none 0 0, Value.int IntKind.i64 0] := ⟨by kernel_rfl⟩
instance : HZero Tryd.prog 49 ((Value.agg #[Value.slice none 0 0, Value.int IntKind.i64 0])) := ⟨by kernel_rfl⟩
instance : HFld Tryd.prog 49 0 0 := ⟨by kernel_rfl⟩
instance : HFld Tryd.prog 49 1 1 := ⟨by kernel_rfl⟩
instance : HAgg Tryd.prog 50 false 1 := ⟨by kernel_rfl⟩
instance : HSize Tryd.prog 50 1 := ⟨by kernel_rfl⟩
instance : HZero Tryd.prog 50 (Value.nilFunc) := ⟨by kernel_rfl⟩
instance : HAgg Tryd.prog 51 false 1 := ⟨by kernel_rfl⟩
instance : HSize Tryd.prog 51 1 := ⟨by kernel_rfl⟩
instance : HZero Tryd.prog 51 ((Value.tuple #[Value.string ⟨#[]⟩, Value.int IntKind.i64 0])) := ⟨by kernel_rfl⟩
instance : HAgg Tryd.prog 52 false 1 := ⟨by kernel_rfl⟩
instance : HSize Tryd.prog 52 1 := ⟨by kernel_rfl⟩
instance : HZero Tryd.prog 52 (Value.nilFunc) := ⟨by kernel_rfl⟩
instance : HAgg Tryd.prog 53 false 1 := ⟨by kernel_rfl⟩
instance : HSize Tryd.prog 53 1 := ⟨by kernel_rfl⟩
instance : HEl Tryd.prog 53 86 15 := ⟨by kernel_rfl⟩
instance : HElem Tryd.prog 53 86 (Value.agg #[Value.string ⟨#[]⟩, Value.string ⟨#[]⟩, Value.slice none 0 0, Value.slice none 0 0, Value.bool false, Value.string ⟨#[]⟩, Value.int IntKind.i64 0, Value.int IntKind.u64 0, Value.int IntKind.u64 0, Value.int IntKind.u64 0, Value.int IntKind.i64 0, Value.int IntKind.u64 0, Value.slice none 0 0, Value.int IntKind.i64 0, Value.int IntKind.i64 0]) 15 192 := ⟨⟨by kernel_rfl, by kernel_rfl, rfl, by decide⟩⟩
instance : HZero Tryd.prog 53 ((Value.slice none 0 0)) := ⟨by kernel_rfl⟩
instance : HAgg Tryd.prog 54 false 1 := ⟨by kernel_rfl⟩
instance : HSize Tryd.prog 54 1 := ⟨by kernel_rfl⟩
instance : HZero Tryd.prog 54 (Value.nilFunc) := ⟨by kernel_rfl⟩
instance : HAgg Tryd.prog 55 false 1 := ⟨by kernel_rfl⟩
instance : HSize Tryd.prog 55 1 := ⟨by kernel_rfl⟩
instance : HZero Tryd.prog 55 (Value.nilIface) := ⟨by kernel_rfl⟩
instance : HAgg Tryd.prog 56 false 1 := ⟨by kernel_rfl⟩
instance : HSize Tryd.prog 56 1 := ⟨by kernel_rfl⟩
instance : HZero Tryd.prog 56 (Value.nilIface) := ⟨by kernel_rfl⟩
instance : HAgg Tryd.prog 57 false 1 := ⟨by kernel_rfl⟩
instance : HSize Tryd.prog 57 1 := ⟨by kernel_rfl⟩
instance : HZero Tryd.prog 57 ((Value.tuple #[Value.slice none 0 0, Value.nilIface])) := ⟨by kernel_rfl⟩
instance : HAgg Tryd.prog 58 false 1 := ⟨by kernel_rfl⟩
instance : HSize Tryd.prog 58 1 := ⟨by kernel_rfl⟩
instance : HZero Tryd.prog 58 (Value.nilFunc) := ⟨by kernel_rfl⟩
instance : HAgg Tryd.prog 59 false 1 := ⟨by kernel_rfl⟩
instance : HSize Tryd.prog 59 1 := ⟨by kernel_rfl⟩
instance : HZero Tryd.prog 59 ((Value.int IntKind.i64 0)) := ⟨by kernel_rfl⟩
instance : HAgg Tryd.prog 60 false 1 := ⟨by kernel_rfl⟩
instance : HSize Tryd.prog 60 1 := ⟨by kernel_rfl⟩
instance : HZero Tryd.prog 60 (Value.nilFunc) := ⟨by kernel_rfl⟩
instance : HAgg Tryd.prog 61 false 1 := ⟨by kernel_rfl⟩
instance : HSize Tryd.prog 61 1 := ⟨by kernel_rfl⟩
instance : HZero Tryd.prog 61 ((Value.pointer none)) := ⟨by kernel_rfl⟩
instance : HAgg Tryd.prog 62 false 1 := ⟨by kernel_rfl⟩
instance : HSize Tryd.prog 62 1 := ⟨by kernel_rfl⟩
instance : HZero Tryd.prog 62 ((Value.pointer none)) := ⟨by kernel_rfl⟩
instance : HAgg Tryd.prog 63 false 1 := ⟨by kernel_rfl⟩
instance : HSize Tryd.prog 63 1 := ⟨by kernel_rfl⟩
instance : HZero Tryd.prog 63 ((Value.pointer none)) := ⟨by kernel_rfl⟩
instance : HAgg Tryd.prog 64 true 3 := ⟨by kernel_rfl⟩
instance : HSize Tryd.prog 64 3 := ⟨by kernel_rfl⟩
instance : HPl Tryd.prog 64 [(0, 1), (1, 1), (2, 1)] [Value.int IntKind.i64 0, Value.int IntKind.i64 0, Value.nilIface] := ⟨by kernel_rfl⟩
instance : HZero Tryd.prog 64 ((Value.agg #[Value.int IntKind.i64 0, Value.int IntKind.i64 0, Value.nilIface])) := ⟨by kernel_rfl⟩
instance : HFld Tryd.prog 64 0 0 := ⟨by kernel_rfl⟩
instance : HFld Tryd.prog 64 1 1 := ⟨by kernel_rfl⟩
instance : HFld Tryd.prog 64 2 2 := ⟨by kernel_rfl⟩
instance : HAgg Tryd.prog 65 true 3 := ⟨by kernel_rfl⟩
instance : HSize Tryd.prog 65 3 := ⟨by kernel_rfl⟩
instance : HPl Tryd.prog 65 [(0, 1), (1, 1), (2, 1)] [Value.int IntKind.i64 0, Value.int IntKind.i64 0, Value.nilIface] := ⟨by kernel_rfl⟩
instance : HZero Tryd.prog 65 ((Value.agg #[Value.int IntKind.i64 0, Value.int IntKind.i64 0, Value.nilIface])) := ⟨by kernel_rfl⟩
instance : HFld Tryd.prog 65 0 0 := ⟨by kernel_rfl⟩
instance : HFld Tryd.prog 65 1 1 := ⟨by kernel_rfl⟩
instance : HFld Tryd.prog 65 2 2 := ⟨by kernel_rfl⟩
instance : HAgg Tryd.prog 66 false 1 := ⟨by kernel_rfl⟩
instance : HSize Tryd.prog 66 1 := ⟨by kernel_rfl⟩
instance : HZero Tryd.prog 66 (Value.nilFunc) := ⟨by kernel_rfl⟩
instance : HAgg Tryd.prog 67 false 1 := ⟨by kernel_rfl⟩
instance : HSize Tryd.prog 67 1 := ⟨by kernel_rfl⟩
instance : HZero Tryd.prog 67 ((Value.tuple #[Value.int IntKind.i64 0, Value.int IntKind.i64 0])) := ⟨by kernel_rfl⟩
instance : HAgg Tryd.prog 68 false 1 := ⟨by kernel_rfl⟩
instance : HSize Tryd.prog 68 1 := ⟨by kernel_rfl⟩
instance : HZero Tryd.prog 68 (Value.nilFunc) := ⟨by kernel_rfl⟩
instance : HAgg Tryd.prog 69 false 1 := ⟨by kernel_rfl⟩
instance : HSize Tryd.prog 69 1 := ⟨by kernel_rfl⟩
instance : HZero Tryd.prog 69 ((Value.tuple #[Value.int IntKind.i64 0, Value.string ⟨#[]⟩, Value.int IntKind.i64 0, Value.int IntKind.i64 0])) := ⟨by kernel_rfl⟩
instance : HAgg Tryd.prog 70 false 1 := ⟨by kernel_rfl⟩
instance : HSize Tryd.prog 70 1 := ⟨by kernel_rfl⟩
instance : HZero Tryd.prog 70 (Value.nilFunc) := ⟨by kernel_rfl⟩
instance : HAgg Tryd.prog 71 false 1 := ⟨by kernel_rfl⟩
instance : HSize Tryd.prog 71 1 := ⟨by kernel_rfl⟩
instance : HZero Tryd.prog 71 ((Value.pointer none)) := ⟨by kernel_rfl⟩
instance : HAgg Tryd.prog 72 true 2 := ⟨by kernel_rfl⟩
instance : HSize Tryd.prog 72 2 := ⟨by kernel_rfl⟩
instance : HPl Tryd.prog 72 [(0, 1), (1, 1)] [Value.pointer none, Value.slice none 0 0] := ⟨by kernel_rfl⟩
instance : HZero Tryd.prog 72 ((Value.agg #[Value.pointer none, Value.slice none 0 0])) := ⟨by kernel_rfl⟩
instance : HFld Tryd.prog 72 0 0 := ⟨by kernel_rfl⟩
instance : HFld Tryd.prog 72 1 1 := ⟨by kernel_rfl⟩
instance : HAgg Tryd.prog 73 true 2 := ⟨by kernel_rfl⟩
instance : HSize Tryd.prog 73 2 := ⟨by kernel_rfl⟩
instance : HPl Tryd.prog 73 [(0, 1), (1, 1)] [Value.pointer none, Value.slice none 0 0] := ⟨by kernel_rfl⟩
instance : HZero Tryd.prog 73 ((Value.agg #[Value.pointer none, Value.slice none 0 0])) := ⟨by kernel_rfl⟩
instance : HFld Tryd.prog 73 0 0 := ⟨by kernel_rfl⟩
instance : HFld Tryd.prog 73 1 1 := ⟨by kernel_rfl⟩
instance : HAgg Tryd.prog 74 false 1 := ⟨by kernel_rfl⟩
instance : HSize Tryd.prog 74 1 := ⟨by kernel_rfl⟩
instance : HZero Tryd.prog 74 (Value.nilFunc) := ⟨by kernel_rfl⟩
instance : HAgg Tryd.prog 75 false 1 := ⟨by kernel_rfl⟩
instance : HSize Tryd.prog 75 1 := ⟨by kernel_rfl⟩
instance : HZero Tryd.prog 75 ((Value.tuple #[Value.int IntKind.i64 0, Value.nilIface])) := ⟨by kernel_rfl⟩
instance : HAgg Tryd.prog 76 false 1 := ⟨by kernel_rfl⟩
instance : HSize Tryd.prog 76 1 := ⟨by kernel_rfl⟩
instance : HZero Tryd.prog 76 (Value.nilFunc) := ⟨by kernel_rfl⟩
instance : HAgg Tryd.prog 77 false 1 := ⟨by kernel_rfl⟩
instance : HSize Tryd.prog 77 1 := ⟨by kernel_rfl⟩
instance : HZero Tryd.prog 77 ((Value.int IntKind.u64 0)) := ⟨by kernel_rfl⟩
instance : HAgg Tryd.prog 78 false 1 := ⟨by kernel_rfl⟩
instance : HSize Tryd.prog 78 1 := ⟨by kernel_rfl⟩
instance : HZero Tryd.prog 78 (Value.nilFunc) := ⟨by kernel_rfl⟩
instance : HAgg Tryd.prog 79 false 1 := ⟨by kernel_rfl⟩
instance : HSize Tryd.prog 79 1 := ⟨by kernel_rfl⟩
instance : HZero Tryd.prog 79 (Value.nilFunc) := ⟨by kernel_rfl⟩
instance : HAgg Tryd.prog 80 false 1 := ⟨by kernel_rfl⟩
instance : HSize Tryd.prog 80 1 := ⟨by kernel_rfl⟩
instance : HZero Tryd.prog 80 ((Value.tuple #[Value.slice none 0 0, Value.agg #[Value.int IntKind.i64 0, Value.int IntKind.i64 0, Value.int IntKind.i64 0]])) := ⟨by kernel_rfl⟩
instance : HAgg Tryd.prog 81 false 1 := ⟨by kernel_rfl⟩
instance : HSize Tryd.prog 81 1 := ⟨by kernel_rfl⟩
instance : HZero Tryd.prog 81 (Value.nilFunc) := ⟨by kernel_rfl⟩
instance : HAgg Tryd.prog 82 false 1 := ⟨by kernel_rfl⟩
instance : HSize Tryd.prog 82 1 := ⟨by kernel_rfl⟩
instance : HZero Tryd.prog 82 (Value.nilFunc) := ⟨by kernel_rfl⟩
instance : HAgg Tryd.prog 83 false 1 := ⟨by kernel_rfl⟩
instance : HSize Tryd.prog 83 1 := ⟨by kernel_rfl⟩
instance : HEl Tryd.prog 83 118 2 := ⟨by kernel_rfl⟩
instance : HElem Tryd.prog 83 118 (Value.agg #[Value.string ⟨#[]⟩, Value.string ⟨#[]⟩]) 2 32 := ⟨⟨by kernel_rfl, by kernel_rfl, rfl, by decide⟩⟩
instance : HZero Tryd.prog 83 ((Value.slice none 0 0)) := ⟨by kernel_rfl⟩
instance : HAgg Tryd.prog 84 false 1 := ⟨by kernel_rfl⟩
instance : HSize Tryd.prog 84 1 := ⟨by kernel_rfl⟩
instance : HEl Tryd.prog 84 121 2 := ⟨by kernel_rfl⟩
instance : HElem Tryd.prog 84 121 (Value.agg #[Value.int IntKind.i64 0, Value.int IntKind.u64 0]) 2 16 := ⟨⟨by kernel_rfl, by kernel_rfl, rfl, by decide⟩⟩
instance : HZero Tryd.prog 84 ((Value.slice none 0 0)) := ⟨by kernel_rfl⟩
instance : HAgg Tryd.prog 85 true 15 := ⟨by kernel_rfl⟩
instance : HSize Tryd.prog 85 15 := ⟨by kernel_rfl⟩
instance : HPl Tryd.prog 85 [(0, 1), (1, 1), (2, 1), (3, 1), (4, 1), (5, 1), (6, 1), (7, 1), (8, 1), (9, 1), (10, 1), (11, 1), (12, 1), (13, 1), (14, 1)] [Value.string ⟨#[]⟩, Value.string ⟨#[]⟩, Value.slice none 0 0, Value.slice none 0 0, Value.bool false, Value.string ⟨#[]⟩, Value.int IntKind.i64 0, Value.int IntKind.u64 0, Value.int IntKind.u64 0, Value.int IntKind.u64 0, Value.int IntKind.i64 0, Value.int IntKind.u64 0, Value.slice none 0 0, Value.int IntKind.i64 0, Value.int IntKind.i64 0] := ⟨by kernel_rfl⟩
instance : HZero Tryd.prog 85 ((Value.agg #[Value.string ⟨#[]⟩, Value.string ⟨#[]⟩, Value.slice none 0 0, Value.slice none 0 0, Value.bool false, Value.string ⟨#[]⟩, Value.int IntKind.i64 0, Value.int IntKind.u64 0, Value.int IntKind.u64 0, Value.int IntKind.u64 0, Value.int IntKind.i64 0, Value.int IntKind.u64 0, Value.slice none 0 0, Value.int IntKind.i64 0, Value.int IntKind.i64 0])) := ⟨by kernel_rfl⟩
instance : HFld Tryd.prog 85 0 0 := ⟨by kernel_rfl⟩
instance : HFld Tryd.prog 85 1 1 := ⟨by kernel_rfl⟩
instance : HFld Tryd.prog 85 2 2 := ⟨by kernel_rfl⟩
instance : HFld Tryd.prog 85 3 3 := ⟨by kernel_rfl⟩
instance : HFld Tryd.prog 85 4 4 := ⟨by kernel_rfl⟩
instance : HFld Tryd.prog 85 5 5 := ⟨by kernel_rfl⟩
instance : HFld Tryd.prog 85 6 6 := ⟨by kernel_rfl⟩
instance : HFld Tryd.prog 85 7 7 := ⟨by kernel_rfl⟩
instance : HFld Tryd.prog 85 8 8 := ⟨by kernel_rfl⟩
instance : HFld Tryd.prog 85 9 9 := ⟨by kernel_rfl⟩
instance : HFld Tryd.prog 85 10 10 := ⟨by kernel_rfl⟩
instance : HFld Tryd.prog 85 11 11 := ⟨by kernel_rfl⟩
instance : HFld Tryd.prog 85 12 12 := ⟨by kernel_rfl⟩
instance : HFld Tryd.prog 85 13 13 := ⟨by kernel_rfl⟩
instance : HFld Tryd.prog 85 14 14 := ⟨by kernel_rfl⟩
instance : HAgg Tryd.prog 86 true 15 := ⟨by kernel_rfl⟩
instance : HSize Tryd.prog 86 15 := ⟨by kernel_rfl⟩
instance : HPl Tryd.prog 86 [(0, 1), (1, 1), (2, 1), (3, 1), (4, 1), (5, 1), (6, 1), (7, 1), (8, 1), (9, 1), (10, 1), (11, 1), (12, 1), (13, 1), (14, 1)] [Value.string ⟨#[]⟩, Value.string ⟨#[]⟩, Value.slice none 0 0, Value.slice none 0 0, Value.bool false, Value.string ⟨#[]⟩, Value.int IntKind.i64 0, Value.int IntKind.u64 0, Value.int IntKind.u64 0, Value.int IntKind.u64 0, Value.int IntKind.i64 0, Value.int IntKind.u64 0, Value.slice none 0 0, Value.int IntKind.i64 0, Value.int IntKind.i64 0] := ⟨by kernel_rfl⟩
instance : HZero Tryd.prog 86 ((Value.agg #[Value.string ⟨#[]⟩, Value.string ⟨#[]⟩, Value.slice none 0 0, Value.slice none 0 0, Value.bool false, Value.string ⟨#[]⟩, Value.int IntKind.i64 0, Value.int IntKind.u64 0, Value.int IntKind.u64 0, Value.int IntKind.u64 0, Value.int IntKind.i64 0, Value.int IntKind.u64 0, Value.slice none 0 0, Value.int IntKind.i64 0, Value.int IntKind.i64 0])) := ⟨by kernel_rfl⟩
instance : HFld Tryd.prog 86 0 0 := ⟨by kernel_rfl⟩
instance : HFld Tryd.prog 86 1 1 := ⟨by kernel_rfl⟩
instance : HFld Tryd.prog 86 2 2 := ⟨by kernel_rfl⟩
instance : HFld Tryd.prog 86 3 3 := ⟨by kernel_rfl⟩
instance : HFld Tryd.prog 86 4 4 := ⟨by kernel_rfl⟩
instance : HFld Tryd.prog 86 5 5 := ⟨by kernel_rfl⟩
instance : HFld Tryd.prog 86 6 6 := ⟨by kernel_rfl⟩
instance : HFld Tryd.prog 86 7 7 := ⟨by kernel_rfl⟩
instance : HFld Tryd.prog 86 8 8 := ⟨by kernel_rfl⟩
instance : HFld Tryd.prog 86 9 9 := ⟨by kernel_rfl⟩
instance : HFld Tryd.prog 86 10 10 := ⟨by kernel_rfl⟩
instance : HFld Tryd.prog 86 11 11 := ⟨by kernel_rfl⟩
instance : HFld Tryd.prog 86 12 12 := ⟨by kernel_rfl⟩
instance : HFld Tryd.prog 86 13 13 := ⟨by kernel_rfl⟩
instance : HFld Tryd.prog 86 14 14 := ⟨by kernel_rfl⟩
instance : HAgg Tryd.prog 87 false 1 := ⟨by kernel_rfl⟩
instance : HSize Tryd.prog 87 1 := ⟨by kernel_rfl⟩
instance : HZero Tryd.prog 87 (Value.nilFunc) := ⟨by kernel_rfl⟩
instance : HAgg Tryd.prog 88 false 1 := ⟨by kernel_rfl⟩
instance : HSize Tryd.prog 88 1 := ⟨by kernel_rfl⟩
instance : HZero Tryd.prog 88 ((Value.pointer none)) := ⟨by kernel_rfl⟩
instance : HAgg Tryd.prog 89 true 4 := ⟨by kernel_rfl⟩
instance : HSize Tryd.prog 89 4 := ⟨by kernel_rfl⟩
instance : HPl Tryd.prog 89 [(0, 1), (1, 1), (2, 1), (3, 1)] [Value.string ⟨#[]⟩, Value.int IntKind.i64 0, Value.int IntKind.i64 0, Value.int IntKind.i64 0] := ⟨by kernel_rfl⟩
instance : HZero Tryd.prog 89 ((Value.agg #[Value.string ⟨#[]⟩, Value.int IntKind.i64 0, Value.int IntKind.i64 0, Value.int IntKind.i64 0])) := ⟨by kernel_rfl⟩
instance : HFld Tryd.prog 89 0 0 := ⟨by kernel_rfl⟩
instance : HFld Tryd.prog 89 1 1 := ⟨by kernel_rfl⟩
instance : HFld Tryd.prog 89 2 2 := ⟨by kernel_rfl⟩
instance : HFld Tryd.prog 89 3 3 := ⟨by kernel_rfl⟩
instance : HAgg Tryd.prog 90 true 4 := ⟨by kernel_rfl⟩
instance : HSize Tryd.prog 90 4 := ⟨by kernel_rfl⟩
instance : HPl Tryd.prog 90 [(0, 1), (1, 1), (2, 1), (3, 1)] [Value.string ⟨#[]⟩, Value.int IntKind.i64 0, Value.int IntKind.i64 0, Value.int IntKind.i64 0] := ⟨by kernel_rfl⟩
instance : HZero Tryd.prog 90 ((Value.agg #[Value.string ⟨#[]⟩, Value.int IntKind.i64 0, Value.int IntKind.i64 0, Value.int IntKind.i64 0])) := ⟨by kernel_rfl⟩
instance : HFld Tryd.prog 90 0 0 := ⟨by kernel_rfl⟩
instance : HFld Tryd.prog 90 1 1 := ⟨by kernel_rfl⟩
instance : HFld Tryd.prog 90 2 2 := ⟨by kernel_rfl⟩
instance : HFld Tryd.prog 90 3 3 := ⟨by kernel_rfl⟩
instance : HAgg Tryd.prog 91 false 1 := ⟨by kernel_rfl⟩
instance : HSize Tryd.prog 91 1 := ⟨by kernel_rfl⟩
instance : HZero Tryd.prog 91 ((Value.tuple #[Value.int IntKind.i64 0, Value.string ⟨#[]⟩, Value.int IntKind.i64 0, Value.nilIface])) := ⟨by kernel_rfl⟩
instance : HAgg Tryd.prog 92 false 1 := ⟨by kernel_rfl⟩
instance : HSize Tryd.prog 92 1 := ⟨by kernel_rfl⟩
instance : HZero Tryd.prog 92 (Value.nilFunc) := ⟨by kernel_rfl⟩
instance : HAgg Tryd.prog 93 false 1 := ⟨by kernel_rfl⟩
instance : HSize Tryd.prog 93 1 := ⟨by kernel_rfl⟩
instance : HZero Tryd.prog 93 (Value.nilFunc) := ⟨by kernel_rfl⟩
instance : HAgg Tryd.prog 94 false 1 := ⟨by kernel_rfl⟩
instance : HSize Tryd.prog 94 1 := ⟨by kernel_rfl⟩
instance : HZero Tryd.prog 94 ((Value.pointer none)) := ⟨by kernel_rfl⟩
instance : HAgg Tryd.prog 95 false 1 := ⟨by kernel_rfl⟩
instance : HSize Tryd.prog 95 1 := ⟨by kernel_rfl⟩
instance : HZero Tryd.prog 95 ((Value.int IntKind.u64 0)) := ⟨by kernel_rfl⟩
instance : HAgg Tryd.prog 96 true 3 := ⟨by kernel_rfl⟩
instance : HSize Tryd.prog 96 3 := ⟨by kernel_rfl⟩
instance : HPl Tryd.prog 96 [(0, 1), (1, 1), (2, 1)] [Value.pointer none, Value.pointer none, Value.int IntKind.u64 0] := ⟨by kernel_rfl⟩
instance : HZero Tryd.prog 96 ((Value.agg #[Value.pointer none, Value.pointer none, Value.int IntKind.u64 0])) := ⟨by kernel_rfl⟩
instance : HFld Tryd.prog 96 0 0 := ⟨by kernel_rfl⟩
instance : HFld Tryd.prog 96 1 1 := ⟨by kernel_rfl⟩
instance : HFld Tryd.prog 96 2 2 := ⟨by kernel_rfl⟩
instance : HAgg Tryd.prog 97 true 3 := ⟨by kernel_rfl⟩
instance : HSize Tryd.prog 97 3 := ⟨by kernel_rfl⟩
instance : HPl Tryd.prog 97 [(0, 1), (1, 1), (2, 1)] [Value.pointer none, Value.pointer none, Value.int IntKind.u64 0] := ⟨by kernel_rfl⟩
instance : HZero Tryd.prog 97 ((Value.agg #[Value.pointer none, Value.pointer none, Value.int IntKind.u64 0])) := ⟨by kernel_rfl⟩
instance : HFld Tryd.prog 97 0 0 := ⟨by kernel_rfl⟩
instance : HFld Tryd.prog 97 1 1 := ⟨by kernel_rfl⟩
instance : HFld Tryd.prog 97 2 2 := ⟨by kernel_rfl⟩
instance : HAgg Tryd.prog 98 false 1 := ⟨by kernel_rfl⟩
instance : HSize Tryd.prog 98 1 := ⟨by kernel_rfl⟩
instance : HZero Tryd.prog 98 (Value.nilFunc) := ⟨by kernel_rfl⟩
instance : HAgg Tryd.prog 99 false 1 := ⟨by kernel_rfl⟩
instance : HSize Tryd.prog 99 1 := ⟨by kernel_rfl⟩
instance : HZero Tryd.prog 99 (Value.nilIface) := ⟨by kernel_rfl⟩
instance : HAgg Tryd.prog 100 false 1 := ⟨by kernel_rfl⟩
instance : HSize Tryd.prog 100 1 := ⟨by kernel_rfl⟩
instance : HZero Tryd.prog 100 (Value.nilIface) := ⟨by kernel_rfl⟩
instance : HAgg Tryd.prog 101 false 1 := ⟨by kernel_rfl⟩
instance : HSize Tryd.prog 101 1 := ⟨by kernel_rfl⟩
instance : HZero Tryd.prog 101 (Value.nilFunc) := ⟨by kernel_rfl⟩
instance : HAgg Tryd.prog 102 false 1 := ⟨by kernel_rfl⟩
instance : HSize Tryd.prog 102 1 := ⟨by kernel_rfl⟩
instance : HZero Tryd.prog 102 ((Value.int IntKind.u8 0)) := ⟨by kernel_rfl⟩
instance : HAgg Tryd.prog 103 false 1 := ⟨by kernel_rfl⟩
instance : HSize Tryd.prog 103 1 := ⟨by kernel_rfl⟩
instance : HZero Tryd.prog 103 (Value.nilFunc) := ⟨by kernel_rfl⟩
instance : HAgg Tryd.prog 104 false 1 := ⟨by kernel_rfl⟩
instance : HSize Tryd.prog 104 1 := ⟨by kernel_rfl⟩
instance : HZero Tryd.prog 104 (Value.nilFunc) := ⟨by kernel_rfl⟩
instance : HAgg Tryd.prog 105 false 1 := ⟨by kernel_rfl⟩
instance : HSize Tryd.prog 105 1 := ⟨by kernel_rfl⟩
instance : HZero Tryd.prog 105 (Value.nilFunc) := ⟨by kernel_rfl⟩
instance : HAgg Tryd.prog 106 false 1 := ⟨by kernel_rfl⟩
instance : HSize Tryd.prog 106 1 := ⟨by kernel_rfl⟩
instance : HZero Tryd.prog 106 (Value.nilFunc) := ⟨by kernel_rfl⟩
instance : HAgg Tryd.prog 107 false 1 := ⟨by kernel_rfl⟩
instance : HSize Tryd.prog 107 1 := ⟨by kernel_rfl⟩
instance : HZero Tryd.prog 107 (Value.nilFunc) := ⟨by kernel_rfl⟩
instance : HAgg Tryd.prog 108 false 1 := ⟨by kernel_rfl⟩
instance : HSize Tryd.prog 108 1 := ⟨by kernel_rfl⟩
instance : HZero Tryd.prog 108 ((Value.tuple #[Value.string ⟨#[]⟩, Value.int IntKind.i64 0])) := ⟨by kernel_rfl⟩
instance : HAgg Tryd.prog 109 false 1 := ⟨by kernel_rfl⟩
instance : HSize Tryd.prog 109 1 := ⟨by kernel_rfl⟩
instance : HZero Tryd.prog 109 (Value.nilFunc) := ⟨by kernel_rfl⟩
instance : HAgg Tryd.prog 110 false 1 := ⟨by kernel_rfl⟩
instance : HSize Tryd.prog 110 1 := ⟨by kernel_rfl⟩
instance : HZero Tryd.prog 110 ((Value.pointer none)) := ⟨by kernel_rfl⟩
instance : HAgg Tryd.prog 111 false 1 := ⟨by kernel_rfl⟩
instance : HSize Tryd.prog 111 1 := ⟨by kernel_rfl⟩
instance : HZero Tryd.prog 111 (Value.nilFunc) := ⟨by kernel_rfl⟩
instance : HAgg Tryd.prog 112 false 1 := ⟨by kernel_rfl⟩
instance : HSize Tryd.prog 112 1 := ⟨by kernel_rfl⟩
instance : HZero Tryd.prog 112 ((Value.pointer none)) := ⟨by kernel_rfl⟩
instance : HAgg Tryd.prog 113 true 6 := ⟨by kernel_rfl⟩
instance : HSize Tryd.prog 113 6 := ⟨by kernel_rfl⟩
instance : HPl Tryd.prog 113 [(0, 1), (1, 1), (2, 3), (5, 1)] [Value.slice none 0 0, Value.int IntKind.i64 0, Value.int IntKind.i64 0, Value.int IntKind.i64 0, Value.int IntKind.i64 0, Value.slice none 0 0] := ⟨by kernel_rfl⟩
instance : HZero Tryd.prog 113 ((Value.agg #[Value.slice none 0 0, Value.int IntKind.i64 0, Value.int IntKind.i64 0, Value.int IntKind.i64 0, Value.int IntKind.i64 0, Value.slice none 0 0])) := ⟨by kernel_rfl⟩
instance : HFld Tryd.prog 113 0 0 := ⟨by kernel_rfl⟩
instance : HFld Tryd.prog 113 1 1 := ⟨by kernel_rfl⟩
instance : HFld Tryd.prog 113 2 2 := ⟨by kernel_rfl⟩
instance : HFld Tryd.prog 113 3 5 := ⟨by kernel_rfl⟩
instance : HAgg Tryd.prog 114 true 6 := ⟨by kernel_rfl⟩
instance : HSize Tryd.prog 114 6 := ⟨by kernel_rfl⟩
instance : HPl Tryd.prog 114 [(0, 1), (1, 1), (2, 3), (5, 1)] [Value.slice none 0 0, Value.int IntKind.i64 0, Value.int IntKind.i64 0, Value.int IntKind.i64 0, Value.int IntKind.i64 0, Value.slice none 0 0] := ⟨by kernel_rfl⟩
instance : HZero Tryd.prog 114 ((Value.agg #[Value.slice none 0 0, Value.int IntKind.i64 0, Value.int IntKind.i64 0, Value.int IntKind.i64 0, Value.int IntKind.i64 0, Value.slice none 0 0])) := ⟨by kernel_rfl⟩
instance : HFld Tryd.prog 114 0 0 := ⟨by kernel_rfl⟩
instance : HFld Tryd.prog 114 1 1 := ⟨by kernel_rfl⟩
instance : HFld Tryd.prog 114 2 2 := ⟨by kernel_rfl⟩
instance : HFld Tryd.prog 114 3 5 := ⟨by kernel_rfl⟩
instance : HAgg Tryd.prog 115 false 1 := ⟨by kernel_rfl⟩
instance : HSize Tryd.prog 115 1 := ⟨by kernel_rfl⟩
instance : HZero Tryd.prog 115 (Value.nilFunc) := ⟨by kernel_rfl⟩
instance : HAgg Tryd.prog 116 false 1 := ⟨by kernel_rfl⟩
instance : HSize Tryd.prog 116 1 := ⟨by kernel_rfl⟩
instance : HZero Tryd.prog 116 (Value.nilFunc) := ⟨by kernel_rfl⟩
instance : HAgg Tryd.prog 117 true 2 := ⟨by kernel_rfl⟩
instance : HSize Tryd.prog 117 2 := ⟨by kernel_rfl⟩
instance : HPl Tryd.prog 117 [(0, 1), (1, 1)] [Value.string ⟨#[]⟩, Value.string ⟨#[]⟩] := ⟨by kernel_rfl⟩
instance : HZero Tryd.prog 117 ((Value.agg #[Value.string ⟨#[]⟩, Value.string ⟨#[]⟩])) := ⟨by kernel_rfl⟩
instance : HFld Tryd.prog 117 0 0 := ⟨by kernel_rfl⟩
instance : HFld Tryd.prog 117 1 1 := ⟨by kernel_rfl⟩
instance : HAgg Tryd.prog 118 true 2 := ⟨by kernel_rfl⟩
instance : HSize Tryd.prog 118 2 := ⟨by kernel_rfl⟩
instance : HPl Tryd.prog 118 [(0, 1), (1, 1)] [Value.string ⟨#[]⟩, Value.string ⟨#[]⟩] := ⟨by kernel_rfl⟩
instance : HZero Tryd.prog 118 ((Value.agg #[Value.string ⟨#[]⟩, Value.string ⟨#[]⟩])) := ⟨by kernel_rfl⟩
instance : HFld Tryd.prog 118 0 0 := ⟨by kernel_rfl⟩
instance : HFld Tryd.prog 118 1 1 := ⟨by kernel_rfl⟩
instance : HAgg Tryd.prog 119 false 1 := ⟨by kernel_rfl⟩
instance : HSize Tryd.prog 119 1 := ⟨by kernel_rfl⟩
instance : HZero Tryd.prog 119 (Value.nilFunc) := ⟨by kernel_rfl⟩
instance : HAgg Tryd.prog 120 true 2 := ⟨by kernel_rfl⟩
instance : HSize Tryd.prog 120 2 := ⟨by kernel_rfl⟩
instance : HPl Tryd.prog 120 [(0, 1), (1, 1)] [Value.int IntKind.i64 0, Value.int IntKind.u64 0] := ⟨by kernel_rfl⟩
instance : HZero Tryd.prog 120 ((Value.agg #[Value.int IntKind.i64 0, Value.int IntKind.u64 0])) := ⟨by kernel_rfl⟩
instance : HFld Tryd.prog 120 0 0 := ⟨by kernel_rfl⟩
instance : HFld Tryd.prog 120 1 1 := ⟨by kernel_rfl⟩
instance : HAgg Tryd.prog 121 true 2 := ⟨by kernel_rfl⟩
instance : HSize Tryd.prog 121 2 := ⟨by kernel_rfl⟩
instance : HPl Tryd.prog 121 [(0, 1), (1, 1)] [Value.int IntKind.i64 0, Value.int IntKind.u64 0] := ⟨by kernel_rfl⟩
instance : HZero Tryd.prog 121 ((Value.agg #[Value.int IntKind.i64 0, Value.int IntKind.u64 0])) := ⟨by kernel_rfl⟩
instance : HFld Tryd.prog 121 0 0 := ⟨by kernel_rfl⟩
instance : HFld Tryd.prog 121 1 1 := ⟨by kernel_rfl⟩
instance : HAgg Tryd.prog 122 false 1 := ⟨by kernel_rfl⟩
instance : HSize Tryd.prog 122 1 := ⟨by kernel_rfl⟩
instance : HZero Tryd.prog 122 (Value.nilFunc) := ⟨by kernel_rfl⟩
instance : HAgg Tryd.prog 123 false 1 := ⟨by kernel_rfl⟩
instance : HSize Tryd.prog 123 1 := ⟨by kernel_rfl⟩
instance : HZero Tryd.prog 123 (Value.nilFunc) := ⟨by kernel_rfl⟩
instance : HAgg Tryd.prog 124 false 1 := ⟨by kernel_rfl⟩
instance : HSize Tryd.prog 124 1 := ⟨by kernel_rfl⟩
instance : HZero Tryd.prog 124 ((Value.tuple #[Value.string ⟨#[]⟩, Value.int IntKind.i64 0, Value.bool false])) := ⟨by kernel_rfl⟩
instance : HAgg Tryd.prog 125 false 1 := ⟨by kernel_rfl⟩
instance : HSize Tryd.prog 125 1 := ⟨by kernel_rfl⟩
instance : HZero Tryd.prog 125 (Value.nilFunc) := ⟨by kernel_rfl⟩
instance : HAgg Tryd.prog 126 true 1 := ⟨by kernel_rfl⟩
instance : HSize Tryd.prog 126 1 := ⟨by kernel_rfl⟩
instance : HPl Tryd.prog 126 [(0, 1)] [Value.pointer none] := ⟨by kernel_rfl⟩
instance : HZero Tryd.prog 126 ((Value.agg #[Value.pointer none])) := ⟨by kernel_rfl⟩
instance : HFld Tryd.prog 126 0 0 := ⟨by kernel_rfl⟩
instance : HAgg Tryd.prog 127 true 1 := ⟨by kernel_rfl⟩
instance : HSize Tryd.prog 127 1 := ⟨by kernel_rfl⟩
instance : HPl Tryd.prog 127 [(0, 1)] [Value.pointer none] := ⟨by kernel_rfl⟩
instance : HZero Tryd.prog 127 ((Value.agg #[Value.pointer none])) := ⟨by kernel_rfl⟩
instance : HFld Tryd.prog 127 0 0 := ⟨by kernel_rfl⟩
instance : HAgg Tryd.prog 128 false 1 := ⟨by kernel_rfl⟩
instance : HSize Tryd.prog 128 1 := ⟨by kernel_rfl⟩
instance : HZero Tryd.prog 128 ((Value.pointer none)) := ⟨by kernel_rfl⟩
instance : HAgg Tryd.prog 129 false 1 := ⟨by kernel_rfl⟩
instance : HSize Tryd.prog 129 1 := ⟨by kernel_rfl⟩
instance : HZero Tryd.prog 129 (Value.nilFunc) := ⟨by kernel_rfl⟩
instance : HAgg Tryd.prog 130 false 1 := ⟨by kernel_rfl⟩
instance : HSize Tryd.prog 130 1 := ⟨by kernel_rfl⟩
instance : HZero Tryd.prog 130 (Value.nilFunc) := ⟨by kernel_rfl⟩
instance : HAgg Tryd.prog 131 false 1 := ⟨by kernel_rfl⟩
instance : HSize Tryd.prog 131 1 := ⟨by kernel_rfl⟩
instance : HZero Tryd.prog 131 (Value.nilFunc) := ⟨by kernel_rfl⟩
instance : HAgg Tryd.prog 132 false 1 := ⟨by kernel_rfl⟩
instance : HSize Tryd.prog 132 1 := ⟨by kernel_rfl⟩
instance : HZero Tryd.prog 132 (Value.nilIface) := ⟨by kernel_rfl⟩
instance : HAgg Tryd.prog 133 false 1 := ⟨by kernel_rfl⟩
instance : HSize Tryd.prog 133 1 := ⟨by kernel_rfl⟩
instance : HZero Tryd.prog 133 ((Value.tuple #[Value.nilIface, Value.bool false])) := ⟨by kernel_rfl⟩
instance : HAgg Tryd.prog 134 false 1 := ⟨by kernel_rfl⟩
instance : HSize Tryd.prog 134 1 := ⟨by kernel_rfl⟩
instance : HZero Tryd.prog 134 (Value.nilFunc) := ⟨by kernel_rfl⟩
instance : HAgg Tryd.prog 135 false 1 := ⟨by kernel_rfl⟩
instance : HSize Tryd.prog 135 1 := ⟨by kernel_rfl⟩
instance : HZero Tryd.prog 135 (Value.nilIface) := ⟨by kernel_rfl⟩
instance : HAgg Tryd.prog 136 false 1 := ⟨by kernel_rfl⟩
instance : HSize Tryd.prog 136 1 := ⟨by kernel_rfl⟩
instance : HZero Tryd.prog 136 (Value.nilFunc) := ⟨by kernel_rfl⟩
instance : HAgg Tryd.prog 137 false 1 := ⟨by kernel_rfl⟩
instance : HSize Tryd.prog 137 1 := ⟨by kernel_rfl⟩
instance : HZero Tryd.prog 137 (Value.nilIface) := ⟨by kernel_rfl⟩
instance : HAgg Tryd.prog 138 false 1 := ⟨by kernel_rfl⟩
instance : HSize Tryd.prog 138 1 := ⟨by kernel_rfl⟩
instance : HEl Tryd.prog 138 56 1 := ⟨by kernel_rfl⟩
instance : HElem Tryd.prog 138 56 (Value.nilIface) 1 16 := ⟨⟨by kernel_rfl, by kernel_rfl, rfl, by decide⟩⟩
instance : HZero Tryd.prog 138 ((Value.slice none 0 0)) := ⟨by kernel_rfl⟩
instance : HAgg Tryd.prog 139 false 1 := ⟨by kernel_rfl⟩
instance : HSize Tryd.prog 139 1 := ⟨by kernel_rfl⟩
instance : HZero Tryd.prog 139 (Value.nilFunc) := ⟨by kernel_rfl⟩
instance : HAgg Tryd.prog 140 false 1 := ⟨by kernel_rfl⟩
instance : HSize Tryd.prog 140 1 := ⟨by kernel_rfl⟩
instance : HZero Tryd.prog 140 ((Value.tuple #[Value.int IntKind.u8 0, Value.int IntKind.i64 0])) := ⟨by kernel_rfl⟩
instance : HAgg Tryd.prog 141 false 1 := ⟨by kernel_rfl⟩
instance : HSize Tryd.prog 141 1 := ⟨by kernel_rfl⟩
instance : HZero Tryd.prog 141 (Value.nilFunc) := ⟨by kernel_rfl⟩
instance : HAgg Tryd.prog 142 false 1 := ⟨by kernel_rfl⟩
instance : HSize Tryd.prog 142 1 := ⟨by kernel_rfl⟩
instance : HZero Tryd.prog 142 (Value.nilFunc) := ⟨by kernel_rfl⟩
instance : HAgg Tryd.prog 143 false 1 := ⟨by kernel_rfl⟩
instance : HSize Tryd.prog 143 1 := ⟨by kernel_rfl⟩
instance : HZero Tryd.prog 143 (Value.nilFunc) := ⟨by kernel_rfl⟩
instance : HAgg Tryd.prog 144 false 1 := ⟨by kernel_rfl⟩
instance : HSize Tryd.prog 144 1 := ⟨by kernel_rfl⟩
instance : HZero Tryd.prog 144 (Value.nilFunc) := ⟨by kernel_rfl⟩
instance : HAgg Tryd.prog 145 false 1 := ⟨by kernel_rfl⟩
instance : HSize Tryd.prog 145 1 := ⟨by kernel_rfl⟩
instance : HZero Tryd.prog 145 (Value.nilFunc) := ⟨by kernel_rfl⟩
instance : HAgg Tryd.prog 146 false 1 := ⟨by kernel_rfl⟩
instance : HSize Tryd.prog 146 1 := ⟨by kernel_rfl⟩
instance : HZero Tryd.prog 146 (Value.nilFunc) := ⟨by kernel_rfl⟩
instance : HAgg Tryd.prog 147 false 1 := ⟨by kernel_rfl⟩
instance : HSize Tryd.prog 147 1 := ⟨by kernel_rfl⟩
instance : HZero Tryd.prog 147 (Value.nilFunc) := ⟨by kernel_rfl⟩
instance : HAgg Tryd.prog 148 false 1 := ⟨by kernel_rfl⟩
instance : HSize Tryd.prog 148 1 := ⟨by kernel_rfl⟩
instance : HZero Tryd.prog 148 (Value.nilFunc) := ⟨by kernel_rfl⟩
instance : HAgg Tryd.prog 149 false 1 := ⟨by kernel_rfl⟩
instance : HSize Tryd.prog 149 1 := ⟨by kernel_rfl⟩
instance : HZero Tryd.prog 149 (Value.nilFunc) := ⟨by kernel_rfl⟩
instance : HAgg Tryd.prog 150 false 1 := ⟨by kernel_rfl⟩
instance : HSize Tryd.prog 150 1 := ⟨by kernel_rfl⟩
instance : HZero Tryd.prog 150 (Value.nilFunc) := ⟨by kernel_rfl⟩
instance : HAgg Tryd.prog 151 false 1 := ⟨by kernel_rfl⟩
instance : HSize Tryd.prog 151 1 := ⟨by kernel_rfl⟩
instance : HZero Tryd.prog 151 (Value.nilFunc) := ⟨by kernel_rfl⟩
instance : HAgg Tryd.prog 152 false 1 := ⟨by kernel_rfl⟩
instance : HSize Tryd.prog 152 1 := ⟨by kernel_rfl⟩
instance : HZero Tryd.prog 152 ((Value.tuple #[Value.int IntKind.u8 0, Value.bool false])) := ⟨by kernel_rfl⟩
instance : HAgg Tryd.prog 153 false 1 := ⟨by kernel_rfl⟩
instance : HSize Tryd.prog 153 1 := ⟨by kernel_rfl⟩
instance : HZero Tryd.prog 153 (Value.nilFunc) := ⟨by kernel_rfl⟩
instance : HAgg Tryd.prog 154 false 1 := ⟨by kernel_rfl⟩
instance : HSize Tryd.prog 154 1 := ⟨by kernel_rfl⟩
instance : HZero Tryd.prog 154 (Value.nilFunc) := ⟨by kernel_rfl⟩
instance : HAgg Tryd.prog 155 false 1 := ⟨by kernel_rfl⟩
instance : HSize Tryd.prog 155 1 := ⟨by kernel_rfl⟩
instance : HZero Tryd.prog 155 (Value.nilFunc) := ⟨by kernel_rfl⟩
instance : HAgg Tryd.prog 156 false 1 := ⟨by kernel_rfl⟩
instance : HSize Tryd.prog 156 1 := ⟨by kernel_rfl⟩
instance : HZero Tryd.prog 156 (Value.nilFunc) := ⟨by kernel_rfl⟩
instance : HAgg Tryd.prog 157 false 1 := ⟨by kernel_rfl⟩
instance : HSize Tryd.prog 157 1 := ⟨by kernel_rfl⟩
instance : HZero Tryd.prog 157 (Value.nilFunc) := ⟨by kernel_rfl⟩
instance : HAgg Tryd.prog 158 false 1 := ⟨by kernel_rfl⟩
instance : HSize Tryd.prog 158 1 := ⟨by kernel_rfl⟩
instance : HZero Tryd.prog 158 (Value.nilFunc) := ⟨by kernel_rfl⟩
instance : HAgg Tryd.prog 159 true 4 := ⟨by kernel_rfl⟩
instance : HSize Tryd.prog 159 4 := ⟨by kernel_rfl⟩
instance : HPl Tryd.prog 159 [(0, 1), (1, 1), (2, 1), (3, 1)] [Value.pointer none, Value.pointer none, Value.pointer none, Value.string ⟨#[]⟩] := ⟨by kernel_rfl⟩
instance : HZero Tryd.prog 159 ((Value.agg #[Value.pointer none, Value.pointer none, Value.pointer none, Value.string ⟨#[]⟩])) := ⟨by kernel_rfl⟩
instance : HFld Tryd.prog 159 0 0 := ⟨by kernel_rfl⟩
instance : HFld Tryd.prog 159 1 1 := ⟨by kernel_rfl⟩
instance : HFld Tryd.prog 159 2 2 := ⟨by kernel_rfl⟩
instance : HFld Tryd.prog 159 3 3 := ⟨by kernel_rfl⟩
instance : HAgg Tryd.prog 160 true 4 := ⟨by kernel_rfl⟩
instance : HSize Tryd.prog 160 4 := ⟨by kernel_rfl⟩
instance : HPl Tryd.prog 160 [(0, 1), (1, 1), (2, 1), (3, 1)] [Value.pointer none, Value.pointer none, Value.pointer none, Value.string ⟨#[]⟩] := ⟨by kernel_rfl⟩
instance : HZero Tryd.prog 160 ((Value.agg #[Value.pointer none, Value.pointer none, Value.pointer none, Value.string ⟨#[]⟩])) := ⟨by kernel_rfl⟩
instance : HFld Tryd.prog 160 0 0 := ⟨by kernel_rfl⟩
instance : HFld Tryd.prog 160 1 1 := ⟨by kernel_rfl⟩
instance : HFld Tryd.prog 160 2 2 := ⟨by kernel_rfl⟩
instance : HFld Tryd.prog 160 3 3 := ⟨by kernel_rfl⟩
instance : HAgg Tryd.prog 161 true 0 := ⟨by kernel_rfl⟩
instance : HSize Tryd.prog 161 0 := ⟨by kernel_rfl⟩
instance : HZero Tryd.prog 161 ((Value.agg #[])) := ⟨by kernel_rfl⟩
instance : HAgg Tryd.prog 162 true 0 := ⟨by kernel_rfl⟩
instance : HSize Tryd.prog 162 0 := ⟨by kernel_rfl⟩
instance : HPl Tryd.prog 162 [(0, 0)] [] := ⟨by kernel_rfl⟩
instance : HZero Tryd.prog 162 ((Value.agg #[])) := ⟨by kernel_rfl⟩
instance : HAgg Tryd.prog 163 true 0 := ⟨by kernel_rfl⟩
instance : HSize Tryd.prog 163 0 := ⟨by kernel_rfl⟩
instance : HPl Tryd.prog 163 [(0, 0)] [] := ⟨by kernel_rfl⟩
instance : HZero Tryd.prog 163 ((Value.agg #[])) := ⟨by kernel_rfl⟩
instance : HAgg Tryd.prog 164 false 1 := ⟨by kernel_rfl⟩
instance : HSize Tryd.prog 164 1 := ⟨by kernel_rfl⟩
instance : HZero Tryd.prog 164 (Value.nilFunc) := ⟨by kernel_rfl⟩
instance : HAgg Tryd.prog 165 false 1 := ⟨by kernel_rfl⟩
instance : HSize Tryd.prog 165 1 := ⟨by kernel_rfl⟩
instance : HZero Tryd.prog 165 ((Value.int IntKind.u32 0)) := ⟨by kernel_rfl⟩
instance : HAgg Tryd.prog 166 false 1 := ⟨by kernel_rfl⟩
instance : HSize Tryd.prog 166 1 := ⟨by kernel_rfl⟩
instance : HZero Tryd.prog 166 ((Value.int IntKind.u8 0)) := ⟨by kernel_rfl⟩
instance : HAgg Tryd.prog 167 false 1 := ⟨by kernel_rfl⟩
instance : HSize Tryd.prog 167 1 := ⟨by kernel_rfl⟩
instance : HZero Tryd.prog 167 (Value.nilFunc) := ⟨by kernel_rfl⟩
instance : HAgg Tryd.prog 168 false 1 := ⟨by kernel_rfl⟩
instance : HSize Tryd.prog 168 1 := ⟨by kernel_rfl⟩
instance : HZero Tryd.prog 168 ((Value.int IntKind.i32 0)) := ⟨by kernel_rfl⟩
instance : HAgg Tryd.prog 169 false 1 := ⟨by kernel_rfl⟩
instance : HSize Tryd.prog 169 1 := ⟨by kernel_rfl⟩
instance : HZero Tryd.prog 169 ((Value.int IntKind.i32 0)) := ⟨by kernel_rfl⟩
instance : HAgg Tryd.prog 170 true 11 := ⟨by kernel_rfl⟩
instance : HSize Tryd.prog 170 11 := ⟨by kernel_rfl⟩
instance : HPl Tryd.prog 170 [(0, 1), (1, 1), (2, 1), (3, 1), (4, 1), (5, 1), (6, 1), (7, 1), (8, 1), (9, 1), (10, 1)] [Value.int IntKind.u64 0, Value.int IntKind.u64 0, Value.int IntKind.u32 0, Value.int IntKind.u8 0, Value.int IntKind.u8 0, Value.int IntKind.u8 0, Value.int IntKind.u8 0, Value.nilFunc, Value.pointer none, Value.int IntKind.i32 0, Value.int IntKind.i32 0] := ⟨by kernel_rfl⟩
instance : HZero Tryd.prog 170 ((Value.agg #[Value.int IntKind.u64 0, Value.int IntKind.u64 0, Value.int IntKind.u32 0, Value.int IntKind.u8 0, Value.int IntKind.u8 0, Value.int IntKind.u8 0, Value.int IntKind.u8 0, Value.nilFunc, Value.pointer none, Value.int IntKind.i32 0, Value.int IntKind.i32 0])) := ⟨by kernel_rfl⟩
instance : HFld Tryd.prog 170 0 0 := ⟨by kernel_rfl⟩
instance : HFld Tryd.prog 170 1 1 := ⟨by kernel_rfl⟩
instance : HFld Tryd.prog 170 2 2 := ⟨by kernel_rfl⟩
instance : HFld Tryd.prog 170 3 3 := ⟨by kernel_rfl⟩
instance : HFld Tryd.prog 170 4 4 := ⟨by kernel_rfl⟩
instance : HFld Tryd.prog 170 5 5 := ⟨by kernel_rfl⟩
instance : HFld Tryd.prog 170 6 6 := ⟨by kernel_rfl⟩
instance : HFld Tryd.prog 170 7 7 := ⟨by kernel_rfl⟩
instance : HFld Tryd.prog 170 8 8 := ⟨by kernel_rfl⟩
instance : HFld Tryd.prog 170 9 9 := ⟨by kernel_rfl⟩
instance : HFld Tryd.prog 170 10 10 := ⟨by kernel_rfl⟩
instance : HAgg Tryd.prog 171 true 11 := ⟨by kernel_rfl⟩
instance : HSize Tryd.prog 171 11 := ⟨by kernel_rfl⟩
instance : HPl Tryd.prog 171 [(0, 1), (1, 1), (2, 1), (3, 1), (4, 1), (5, 1), (6, 1), (7, 1), (8, 1), (9, 1), (10, 1)] [Value.int IntKind.u64 0, Value.int IntKind.u64 0, Value.int IntKind.u32 0, Value.int IntKind.u8 0, Value.int IntKind.u8 0, Value.int IntKind.u8 0, Value.int IntKind.u8 0, Value.nilFunc, Value.pointer none, Value.int IntKind.i32 0, Value.int IntKind.i32 0] := ⟨by kernel_rfl⟩
instance : HZero Tryd.prog 171 ((Value.agg #[Value.int IntKind.u64 0, Value.int IntKind.u64 0, Value.int IntKind.u32 0, Value.int IntKind.u8 0, Value.int IntKind.u8 0, Value.int IntKind.u8 0, Value.int IntKind.u8 0, Value.nilFunc, Value.pointer none, Value.int IntKind.i32 0, Value.int IntKind.i32 0])) := ⟨by kernel_rfl⟩
instance : HFld Tryd.prog 171 0 0 := ⟨by kernel_rfl⟩
instance : HFld Tryd.prog 171 1 1 := ⟨by kernel_rfl⟩
instance : HFld Tryd.prog 171 2 2 := ⟨by kernel_rfl⟩
instance : HFld Tryd.prog 171 3 3 := ⟨by kernel_rfl⟩
instance : HFld Tryd.prog 171 4 4 := ⟨by kernel_rfl⟩
instance : HFld Tryd.prog 171 5 5 := ⟨by kernel_rfl⟩
instance : HFld Tryd.prog 171 6 6 := ⟨by kernel_rfl⟩
instance : HFld Tryd.prog 171 7 7 := ⟨by kernel_rfl⟩
instance : HFld Tryd.prog 171 8 8 := ⟨by kernel_rfl⟩
instance : HFld Tryd.prog 171 9 9 := ⟨by kernel_rfl⟩
instance : HFld Tryd.prog 171 10 10 := ⟨by kernel_rfl⟩
instance : HAgg Tryd.prog 172 false 1 := ⟨by kernel_rfl⟩
instance : HSize Tryd.prog 172 1 := ⟨by kernel_rfl⟩
instance : HZero Tryd.prog 172 (Value.nilFunc) := ⟨by kernel_rfl⟩
instance : HAgg Tryd.prog 173 false 1 := ⟨by kernel_rfl⟩
instance : HSize Tryd.prog 173 1 := ⟨by kernel_rfl⟩
instance : HZero Tryd.prog 173 (Value.nilFunc) := ⟨by kernel_rfl⟩
instance : HAgg Tryd.prog 174 true 2 := ⟨by kernel_rfl⟩
instance : HSize Tryd.prog 174 2 := ⟨by kernel_rfl⟩
instance : HPl Tryd.prog 174 [(0, 1), (1, 1)] [Value.string ⟨#[]⟩, Value.int IntKind.u8 0] := ⟨by kernel_rfl⟩
instance : HZero Tryd.prog 174 ((Value.agg #[Value.string ⟨#[]⟩, Value.int IntKind.u8 0])) := ⟨by kernel_rfl⟩
instance : HFld Tryd.prog 174 0 0 := ⟨by kernel_rfl⟩
instance : HFld Tryd.prog 174 1 1 := ⟨by kernel_rfl⟩
instance : HAgg Tryd.prog 175 true 2 := ⟨by kernel_rfl⟩
instance : HSize Tryd.prog 175 2 := ⟨by kernel_rfl⟩
instance : HPl Tryd.prog 175 [(0, 1), (1, 1)] [Value.string ⟨#[]⟩, Value.int IntKind.u8 0] := ⟨by kernel_rfl⟩
instance : HZero Tryd.prog 175 ((Value.agg #[Value.string ⟨#[]⟩, Value.int IntKind.u8 0])) := ⟨by kernel_rfl⟩
instance : HFld Tryd.prog 175 0 0 := ⟨by kernel_rfl⟩
instance : HFld Tryd.prog 175 1 1 := ⟨by kernel_rfl⟩
instance : HAgg Tryd.prog 176 false 1 := ⟨by kernel_rfl⟩
instance : HSize Tryd.prog 176 1 := ⟨by kernel_rfl⟩
instance : HZero Tryd.prog 176 ((Value.pointer none)) := ⟨by kernel_rfl⟩
instance : HAgg Tryd.prog 177 false 1 := ⟨by kernel_rfl⟩
instance : HSize Tryd.prog 177 1 := ⟨by kernel_rfl⟩
instance : HZero Tryd.prog 177 (Value.nilFunc) := ⟨by kernel_rfl⟩
instance : HAgg Tryd.prog 178 false 1 := ⟨by kernel_rfl⟩
instance : HSize Tryd.prog 178 1 := ⟨by kernel_rfl⟩
instance : HZero Tryd.prog 178 ((Value.int IntKind.u16 0)) := ⟨by kernel_rfl⟩
instance : HAgg Tryd.prog 179 true 5 := ⟨by kernel_rfl⟩
instance : HSize Tryd.prog 179 5 := ⟨by kernel_rfl⟩
instance : HPl Tryd.prog 179 [(0, 1), (1, 1), (2, 1), (3, 1), (4, 1)] [Value.int IntKind.i32 0, Value.int IntKind.u16 0, Value.int IntKind.u16 0, Value.int IntKind.u32 0, Value.int IntKind.u32 0] := ⟨by kernel_rfl⟩
instance : HZero Tryd.prog 179 ((Value.agg #[Value.int IntKind.i32 0, Value.int IntKind.u16 0, Value.int IntKind.u16 0, Value.int IntKind.u32 0, Value.int IntKind.u32 0])) := ⟨by kernel_rfl⟩
instance : HFld Tryd.prog 179 0 0 := ⟨by kernel_rfl⟩
instance : HFld Tryd.prog 179 1 1 := ⟨by kernel_rfl⟩
instance : HFld Tryd.prog 179 2 2 := ⟨by kernel_rfl⟩
instance : HFld Tryd.prog 179 3 3 := ⟨by kernel_rfl⟩
instance : HFld Tryd.prog 179 4 4 := ⟨by kernel_rfl⟩
instance : HAgg Tryd.prog 180 true 5 := ⟨by kernel_rfl⟩
instance : HSize Tryd.prog 180 5 := ⟨by kernel_rfl⟩
instance : HPl Tryd.prog 180 [(0, 1), (1, 1), (2, 1), (3, 1), (4, 1)] [Value.int IntKind.i32 0, Value.int IntKind.u16 0, Value.int IntKind.u16 0, Value.int IntKind.u32 0, Value.int IntKind.u32 0] := ⟨by kernel_rfl⟩
instance : HZero Tryd.prog 180 ((Value.agg #[Value.int IntKind.i32 0, Value.int IntKind.u16 0, Value.int IntKind.u16 0, Value.int IntKind.u32 0, Value.int IntKind.u32 0])) := ⟨by kernel_rfl⟩
instance : HFld Tryd.prog 180 0 0 := ⟨by kernel_rfl⟩
instance : HFld Tryd.prog 180 1 1 := ⟨by kernel_rfl⟩
instance : HFld Tryd.prog 180 2 2 := ⟨by kernel_rfl⟩
instance : HFld Tryd.prog 180 3 3 := ⟨by kernel_rfl⟩
instance : HFld Tryd.prog 180 4 4 := ⟨by kernel_rfl⟩
instance : HAgg Tryd.prog 181 false 1 := ⟨by kernel_rfl⟩
instance : HSize Tryd.prog 181 1 := ⟨by kernel_rfl⟩
instance : HEl Tryd.prog 181 184 4 := ⟨by kernel_rfl⟩
instance : HElem Tryd.prog 181 184 (Value.agg #[Value.int IntKind.i32 0, Value.int IntKind.i32 0, Value.int IntKind.i32 0, Value.int IntKind.i32 0]) 4 16 := ⟨⟨by kernel_rfl, by kernel_rfl, rfl, by decide⟩⟩
instance : HZero Tryd.prog 181 ((Value.slice none 0 0)) := ⟨by kernel_rfl⟩
instance : HAgg Tryd.prog 182 false 1 := ⟨by kernel_rfl⟩
instance : HSize Tryd.prog 182 1 := ⟨by kernel_rfl⟩
instance : HZero Tryd.prog 182 ((Value.int IntKind.i32 0)) := ⟨by kernel_rfl⟩
instance : HAgg Tryd.prog 183 true 4 := ⟨by kernel_rfl⟩
instance : HSize Tryd.prog 183 4 := ⟨by kernel_rfl⟩
instance : HPl Tryd.prog 183 [(0, 1), (1, 1), (2, 1), (3, 1)] [Value.int IntKind.i32 0, Value.int IntKind.i32 0, Value.int IntKind.i32 0, Value.int IntKind.i32 0] := ⟨by kernel_rfl⟩
instance : HZero Tryd.prog 183 ((Value.agg #[Value.int IntKind.i32 0, Value.int IntKind.i32 0, Value.int IntKind.i32 0, Value.int IntKind.i32 0])) := ⟨by kernel_rfl⟩
instance : HFld Tryd.prog 183 0 0 := ⟨by kernel_rfl⟩
instance : HFld Tryd.prog 183 1 1 := ⟨by kernel_rfl⟩
instance : HFld Tryd.prog 183 2 2 := ⟨by kernel_rfl⟩
instance : HFld Tryd.prog 183 3 3 := ⟨by kernel_rfl⟩
instance : HAgg Tryd.prog 184 true 4 := ⟨by kernel_rfl⟩
instance : HSize Tryd.prog 184 4 := ⟨by kernel_rfl⟩
instance : HPl Tryd.prog 184 [(0, 1), (1, 1), (2, 1), (3, 1)] [Value.int IntKind.i32 0, Value.int IntKind.i32 0, Value.int IntKind.i32 0, Value.int IntKind.i32 0] := ⟨by kernel_rfl⟩
instance : HZero Tryd.prog 184 ((Value.agg #[Value.int IntKind.i32 0, Value.int IntKind.i32 0, Value.int IntKind.i32 0, Value.int IntKind.i32 0])) := ⟨by kernel_rfl⟩
instance : HFld Tryd.prog 184 0 0 := ⟨by kernel_rfl⟩
instance : HFld Tryd.prog 184 1 1 := ⟨by kernel_rfl⟩
instance : HFld Tryd.prog 184 2 2 := ⟨by kernel_rfl⟩
instance : HFld Tryd.prog 184 3 3 := ⟨by kernel_rfl⟩
instance : HAgg Tryd.prog 185 false 1 := ⟨by kernel_rfl⟩
instance : HSize Tryd.prog 185 1 := ⟨by kernel_rfl⟩
instance : HZero Tryd.prog 185 ((Value.pointer none)) := ⟨by kernel_rfl⟩
theorem mixed : Tryd.prog.follows .mixedOrders = true := by kernel_rfl
end Go.Proofs.YtfaljkenmbbbaaaDoor
/- jobmuxmill.Mod: the remainder, from 0 on. -/
namespace Go.Proofs.YtfaljkenmbbbaaaDoor
open Go.RowKit
set_option linter.unusedSimpArgs false
set_option linter.unusedVariables false
theorem tmod_neg {v n : Int} (hn : 0 < n) (h : v.tmod n < 0) : v.tmod n + n = v % n := by
  rw [Int.tmod_eq_emod] at *
  have := Int.emod_nonneg v (show n ≠ 0 by omega)
  split at h <;> rename_i hc <;> simp [hc] at *
  · omega
  · omega
theorem tmod_pos {v n : Int} (hn : 0 < n) (h : 0 ≤ v.tmod n) : v.tmod n = v % n := by
  rw [Int.tmod_eq_emod] at *
  have := Int.emod_lt_of_pos v hn
  split <;> rename_i hc <;> simp [hc] at *
  omega
theorem ret_i64 {a b : Int} (h : a = b) : Ending.returned (.int .i64 a) = .returned (.int .i64 b) := by rw [h]
set_option maxRecDepth 100000 in
set_option maxHeartbeats 800000 in
theorem mod_any (v n : Int) (w : World) (hn : 1 ≤ n) (hn2 : n ≤ 9223372036854775807) (hv : -9223372036854775808 ≤ v) (hv2 : v ≤ 9223372036854775807) :
    Calls Tryd.prog 16 #[.int .i64 v, .int .i64 n] w fun e w' => e = .returned (.int .i64 (v % n)) ∧ w = w' := by
  have h0 : ¬ n = 0 := by omega
  have h1 : v.tmod n < n := Int.tmod_lt_of_pos v (by omega)
  have h2 : -n < v.tmod n := by
    have := Int.lt_tmod_of_pos v (show 0 < n by omega); omega
  go_enter Tryd.func16, Tryd.ntmps16
  go_wp2
  all_goals go_ret
  · exact ⟨ret_i64 (tmod_neg (by omega) (by assumption)), rfl⟩
  · exact ⟨ret_i64 (tmod_pos (by omega) (by assumption)), rfl⟩
end Go.Proofs.YtfaljkenmbbbaaaDoor
/- A walk over symbolic memory: less said of a contract; the end of a law; strings put together. No program in sight. -/
namespace Go.Proofs.YtfaljkenmbbbaaaDoor
open Go.RowKit
set_option linter.unusedSimpArgs false
set_option linter.unusedVariables false
section
variable {P : Program} {f : FuncId} {H : List Hp} {args : List AV}
/-- A contract of which less is said. -/
theorem Spec.weak {Q Q2 : AV → List Hp → Prop} (h : Spec P f H args Q) (hq : ∀ r H', Q r H' → ∃ r2 H2, Weak H' [r] H2 [r2] ∧ Q2 r2 H2) : Spec P f H args Q2 := fun V w vs h1 h2 h3 h4 =>
  (h V w vs h1 h2 h3 h4).mono fun e w' ⟨r, H', v, q, he, hd, hok, hfr, hown⟩ => by
    obtain ⟨r2, H2, hw, q2⟩ := hq r H' q
    obtain ⟨k1, k2, k3⟩ := forgetL (vs := [v]) hok (by rw [DenL]; exact ⟨v, [], rfl, hd, by rw [DenL]⟩) hw
    have k2' := k2.get' 0 r2 v rfl rfl
    exact ⟨r2, H2, v, q2, he, k2', k1, hfr, fun x hx k hk => by
      obtain ⟨y, hy, e⟩ := k3 x hx k hk
      exact hown y hy k e⟩
/-- A law's walk, out of its contract. -/
theorem law_walk (h : Spec P f [] args (fun r H' => r = .x (.bool true) ∧ H' = [])) (W : World) (hg : Gw W) (vs : Array Value) (hd : DenL (fun _ => False) W args vs.toList) : Calls P f vs W fun e w' => e = .returned (.bool true) ∧ Ext W w' := by
  have := h (fun _ => False) W vs.toList (fun _ h => h.elim) ⟨by simp, List.Pairwise.nil, by simp⟩ (hd.weak fun k hk => by rcases hk with hk | ⟨x, hx, _⟩; exact hk; cases hx) ⟨fun k _ ⟨x, hx, _⟩ => (by cases hx), hg⟩
  refine this.mono fun e w' ⟨r, H', v, ⟨hr, _⟩, he, hdv, _, hfr, _⟩ => ?_
  subst hr
  rw [Den] at hdv
  subst hdv
  refine ⟨he, Fr.ext ⟨hfr.os, hfr.tape, hfr.output, hfr.size, fun k hk hn => hfr.block k hk fun ⟨x, hx, _⟩ => by cases hx⟩⟩
end
theorem DenL.cons' {F : Nat → Prop} {W : World} {a : AV} {l : List AV} {v : Value} {vs : List Value} (h : Den F W a v) (k : DenL F W l vs) : DenL F W (a :: l) (v :: vs) := by rw [DenL]; exact ⟨v, vs, rfl, h, k⟩
theorem DenL.nil' {F : Nat → Prop} {W : World} : DenL F W [] [] := by rw [DenL]
theorem den_x {F : Nat → Prop} {W : World} (v : Value) : Den F W (.x v) v := by rw [Den]
theorem bs_of_data (s : ByteArray) : bs s.data.toList = s := by cases s; simp [bs]
theorem den_int {F : Nat → Prop} {W : World} (a : Int) : Den F W (.x (.int .i64 a)) (.int .i64 a) := den_x _
theorem den_str {F : Nat → Prop} {W : World} (s : ByteArray) : Den F W (.x (.string (bs s.data.toList))) (.string s) := by rw [bs_of_data]; exact den_x _
section
variable {P : Program} {o : Oper} {ρ : Operand → AV} {H : List Hp}
theorem bs_app (a b : List UInt8) : bs a ++ bs b = bs (a ++ b) := by
  apply ByteArray.ext
  simp [bs]
/-! Operations on memory that nobody writes, whose results hang on no memory. -/
theorem WInd_nil_at (x : Operand) (cells : List AV) (ho : o.op = .nilCheck x) (hx : ρ x = .at_ cells) : WInd P o ρ H (.at_ cells) := fun V a w r => by
  have hd := r.ops x (by simp [ho, Op.operands])
  rw [hx] at hd
  have hd' := hd
  rw [Den] at hd
  obtain ⟨b, off, vals, hv, _⟩ := hd
  exact ⟨a.eval x, fun w' => by rw [hv]; simp [execOp, ho, hv], hd'⟩
theorem WInd_field_at (s : TypeId) (x : Operand) (f k : Nat) (cells : List AV) (ho : o.op = .fieldAddr s x f) (hx : ρ x = .at_ cells) (hk : fldT P s f = some k) : WInd P o ρ H (.at_ (cells.drop k)) := fun V a w r => by
  have hd := r.ops x (by simp [ho, Op.operands])
  rw [hx, Den] at hd
  obtain ⟨b, off, vals, hv, hm, hl⟩ := hd
  exact ⟨.pointer (some ⟨b, off + k, none⟩), fun w' => by simp [execOp, ho, hv, run_fieldAt s f k hk], by rw [Den]; exact ⟨b, off + k, vals.drop k, rfl, hm.drop k, hl.drop k⟩⟩
theorem WInd_index_sq (t e : TypeId) (x y : Operand) (size n : Nat) (k : IntKind) (i : Int) (j : Nat) (cells : List AV) (ho : o.op = .indexAddr t x y) (hx : ρ x = .sq n cells) (hy : ρ y = .x (.int k i)) (ht : elT P t = some (e, size)) (hi : i = (j : Int)) (h1 : j < n) (hc : 0 < cells.length) : WInd P o ρ H (.at_ (cells.drop (j * size))) := by
  subst hi
  intro V a w r
  have hd := r.ops x (by simp [ho, Op.operands])
  rw [hx, Den] at hd
  obtain ⟨ad, cap, vals, hv, h2, h3, h4, hm, hl⟩ := hd
  have hm' := hm
  rcases hm with rfl | ⟨b, off, rfl, hb, hcl⟩
  · have := hl.len; simp at this; omega
  · refine ⟨.pointer (some ⟨b, off + j * size, none⟩), fun w' => by simp [execOp, ho, hv, r.evx (x := y) (by simp [ho, Op.operands]) hy, run_indexAt t e size ht b off n cap k j (by omega) (by omega)], ?_⟩
    rw [Den]
    exact ⟨b, _, vals.drop (j * size), rfl, hm'.drop (j * size), hl.drop (j * size)⟩
/-- Two strings, one after the other. -/
theorem Evl_concat {x y : Operand} (t t2 : TypeId) (a b : List UInt8) (ho : o.op = .binOp .add t x y t2) (hx : ρ x = .x (.string (bs a))) (hy : ρ y = .x (.string (bs b))) (hl : a.length + b.length ≤ 1000000000) : Evl P o ρ H (.x (.string (bs (a ++ b)))) := by
  apply Evl_x
  case hs => (intro cs b h; rw [ho] at h; cases h)
  case hx => simp [ho, Op.operands, hx, hy, AV.ex]
  case hrun =>
    intro w
    have h1 : (bs a).size = a.length := by simp [bs, ByteArray.size]
    have h2 : (bs b).size = b.length := by simp [bs, ByteArray.size]
    have h3 : (a.length : Int) + (b.length : Int) ≤ 9223372036854775807 := by omega
    simp [execOp, ho, hx, hy, AV.val, go_sem, Op.stringOp, h1, h2, h3, bs_app]
end
end Go.Proofs.YtfaljkenmbbbaaaDoor
/- Rows of ints, of strings. -/
namespace Go.Proofs.YtfaljkenmbbbaaaDoor
open Go.RowKit
set_option linter.unusedSimpArgs false
set_option linter.unusedVariables false
theorem take_snoc' {α : Type} (l : List α) (k : Nat) (h : k < l.length) : l.take (k + 1) = l.take k ++ [l[k]] := by
  rw [List.take_succ_eq_append_getElem h]
def sa (l : List (List UInt8)) : List AV := l.map fun s => .x (.string (bs s))
@[simp] theorem sa_len (l : List (List UInt8)) : (sa l).length = l.length := by simp [sa]
theorem sa_drop (l : List (List UInt8)) (k : Nat) (h : k < l.length) : (sa l).drop k = .x (.string (bs l[k])) :: sa (l.drop (k + 1)) := by
  rw [sa, ← List.map_drop, List.drop_eq_getElem_cons h]; rfl
theorem sa_app (l m : List (List UInt8)) : sa (l ++ m) = sa l ++ sa m := by simp [sa]
theorem u8a_one (v : Int) (h0 : 0 ≤ v) (h1 : v < 256) : u8a [UInt8.ofNat v.toNat] = [.x (.int .u8 v)] := by
  have e : (UInt8.ofNat v.toNat).toNat = v.toNat := by
    rw [UInt8.toNat_ofNat']
    exact Nat.mod_eq_of_lt (by omega)
  simp [u8a, u8s, e]
  omega
theorem Src.chr {ρ : Operand → AV} {H : List Hp} {x : Operand} (q : Nat) {ad : Option Addr} {cap : Nat} {e : TypeId} {size : Nat} (v : Int) (h0 : 0 ≤ v) (h1 : v < 256) (hx : ρ x = .x (.slice ad 1 cap)) (hq : H[q]? = some (.row ad 1 cap e size [.x (.int .u8 v)])) :
    Src ρ H x [UInt8.ofNat v.toNat].length (u8a [UInt8.ofNat v.toNat]) := by
  rw [u8a_one v h0 h1]; exact Src.row q hx hq
theorem u8a_app (l m : List UInt8) : u8a (l ++ m) = u8a l ++ u8a m := by simp [u8a, u8s]
theorem u8a_cons (b : UInt8) (l : List UInt8) : u8a (b :: l) = .x (.int .u8 (b.toNat : Nat)) :: u8a l := by simp [u8a, u8s]
theorem u8a_nil : u8a [] = [] := rfl
end Go.Proofs.YtfaljkenmbbbaaaDoor
