/- Facts on the types and functions of the program, by program.
   Plain: spans in order, and what the strategies keep of them.
   Plain: matches, their order, and the matches of chosen spans.
   Plain: insertion into an ascending list from behind.
   Plain: matches and what a strategy keeps of them.
   Plain: what the laws about strategies say of lists.
   Own layer: slices.SortFunc over a slice of the walk's own, by the library's proved contract. -/
import Derived.Test.YthacphfjchpoaaaGreatDoorProg
import Derived.Shelf.SlSortCmp.NoneTotal
import Derived.Test.YthacphfjchpoaaaGreatDoorG2
namespace Go.Proofs.YthacphfjchpoaaaGreatDoor

instance : IsOne Tryz.prog 1 := ⟨fun _ => by kernel_rfl, fun _ => by kernel_rfl⟩
instance : ElOf Tryz.prog 1 1 8 := elOf_mk (by kernel_rfl) (by decide)
instance : ZeroOf Tryz.prog 1 [.nilFunc] := ⟨.nilFunc, fun _ => by kernel_rfl, by kernel_rfl⟩
instance : IsOne Tryz.prog 2 := ⟨fun _ => by kernel_rfl, fun _ => by kernel_rfl⟩
instance : IntT Tryz.prog 2 .i64 := ⟨by kernel_rfl⟩
instance : ElOf Tryz.prog 2 1 8 := elOf_mk (by kernel_rfl) (by decide)
instance : ZeroOf Tryz.prog 2 [(.int .i64 0)] := ⟨(.int .i64 0), fun _ => by kernel_rfl, by kernel_rfl⟩
instance : IsOne Tryz.prog 3 := ⟨fun _ => by kernel_rfl, fun _ => by kernel_rfl⟩
instance : IntT Tryz.prog 3 .i64 := ⟨by kernel_rfl⟩
instance : ElOf Tryz.prog 3 1 8 := elOf_mk (by kernel_rfl) (by decide)
instance : ZeroOf Tryz.prog 3 [(.int .i64 0)] := ⟨(.int .i64 0), fun _ => by kernel_rfl, by kernel_rfl⟩
instance : IsOne Tryz.prog 4 := ⟨fun _ => by kernel_rfl, fun _ => by kernel_rfl⟩
instance : BoolT Tryz.prog 4 := ⟨by kernel_rfl⟩
instance : ElOf Tryz.prog 4 1 1 := elOf_mk (by kernel_rfl) (by decide)
instance : ZeroOf Tryz.prog 4 [(.bool false)] := ⟨(.bool false), fun _ => by kernel_rfl, by kernel_rfl⟩
instance : IsOne Tryz.prog 5 := ⟨fun _ => by kernel_rfl, fun _ => by kernel_rfl⟩
instance : IntT Tryz.prog 5 .u8 := ⟨by kernel_rfl⟩
instance : ElOf Tryz.prog 5 1 1 := elOf_mk (by kernel_rfl) (by decide)
instance : ZeroOf Tryz.prog 5 [(.int .u8 0)] := ⟨(.int .u8 0), fun _ => by kernel_rfl, by kernel_rfl⟩
instance : IsOne Tryz.prog 6 := ⟨fun _ => by kernel_rfl, fun _ => by kernel_rfl⟩
instance : IntT Tryz.prog 6 .u8 := ⟨by kernel_rfl⟩
instance : ElOf Tryz.prog 6 1 1 := elOf_mk (by kernel_rfl) (by decide)
instance : ZeroOf Tryz.prog 6 [(.int .u8 0)] := ⟨(.int .u8 0), fun _ => by kernel_rfl, by kernel_rfl⟩
instance : IsAgg Tryz.prog 7 4 := ⟨fun _ => by kernel_rfl, fun _ => by kernel_rfl⟩
instance : FldAt Tryz.prog 7 0 0 := ⟨fun _ _ _ => by kernel_rfl⟩
instance : FldAt Tryz.prog 7 1 1 := ⟨fun _ _ _ => by kernel_rfl⟩
instance : FldAt Tryz.prog 7 2 2 := ⟨fun _ _ _ => by kernel_rfl⟩
instance : FldAt Tryz.prog 7 3 3 := ⟨fun _ _ _ => by kernel_rfl⟩
instance : ElOf Tryz.prog 7 4 24 := elOf_mk (by kernel_rfl) (by decide)
instance : ZeroOf Tryz.prog 7 [(.int .i64 0), (.int .i64 0), (.bool false), (.int .u8 0)] := ⟨(.agg #[(.int .i64 0), (.int .i64 0), (.bool false), (.int .u8 0)]), fun _ => by kernel_rfl, by kernel_rfl⟩
instance : PlacesOf Tryz.prog 7 [(0, 1), (1, 1), (2, 1), (3, 1)] [(.int .i64 0), (.int .i64 0), (.bool false), (.int .u8 0)] := placesOf_mk (Tryz.prog.fieldsOf 7) (.agg #[(.int .i64 0), (.int .i64 0), (.bool false), (.int .u8 0)]) (fun _ => by kernel_rfl) (by kernel_rfl) (by kernel_rfl) (fun _ => by kernel_rfl)
instance : IsAgg Tryz.prog 8 4 := ⟨fun _ => by kernel_rfl, fun _ => by kernel_rfl⟩
instance : FldAt Tryz.prog 8 0 0 := ⟨fun _ _ _ => by kernel_rfl⟩
instance : FldAt Tryz.prog 8 1 1 := ⟨fun _ _ _ => by kernel_rfl⟩
instance : FldAt Tryz.prog 8 2 2 := ⟨fun _ _ _ => by kernel_rfl⟩
instance : FldAt Tryz.prog 8 3 3 := ⟨fun _ _ _ => by kernel_rfl⟩
instance : ElOf Tryz.prog 8 4 24 := elOf_mk (by kernel_rfl) (by decide)
instance : ZeroOf Tryz.prog 8 [(.int .i64 0), (.int .i64 0), (.bool false), (.int .u8 0)] := ⟨(.agg #[(.int .i64 0), (.int .i64 0), (.bool false), (.int .u8 0)]), fun _ => by kernel_rfl, by kernel_rfl⟩
instance : PlacesOf Tryz.prog 8 [(0, 1), (1, 1), (2, 1), (3, 1)] [(.int .i64 0), (.int .i64 0), (.bool false), (.int .u8 0)] := placesOf_mk (Tryz.prog.fieldsOf 8) (.agg #[(.int .i64 0), (.int .i64 0), (.bool false), (.int .u8 0)]) (fun _ => by kernel_rfl) (by kernel_rfl) (by kernel_rfl) (fun _ => by kernel_rfl)
instance : IsOne Tryz.prog 9 := ⟨fun _ => by kernel_rfl, fun _ => by kernel_rfl⟩
instance : NotInt Tryz.prog 9 := ⟨.inl (by kernel_rfl)⟩
instance : StrT Tryz.prog 9 := ⟨by kernel_rfl⟩
instance : ElOf Tryz.prog 9 1 16 := elOf_mk (by kernel_rfl) (by decide)
instance : ZeroOf Tryz.prog 9 [(.string ⟨#[]⟩)] := ⟨(.string ⟨#[]⟩), fun _ => by kernel_rfl, by kernel_rfl⟩
instance : IsOne Tryz.prog 10 := ⟨fun _ => by kernel_rfl, fun _ => by kernel_rfl⟩
instance : NotInt Tryz.prog 10 := ⟨.inl (by kernel_rfl)⟩
instance : StrT Tryz.prog 10 := ⟨by kernel_rfl⟩
instance : ElOf Tryz.prog 10 1 16 := elOf_mk (by kernel_rfl) (by decide)
instance : ZeroOf Tryz.prog 10 [(.string ⟨#[]⟩)] := ⟨(.string ⟨#[]⟩), fun _ => by kernel_rfl, by kernel_rfl⟩
instance : IsOne Tryz.prog 11 := ⟨fun _ => by kernel_rfl, fun _ => by kernel_rfl⟩
instance : NotInt Tryz.prog 11 := ⟨.inl (by kernel_rfl)⟩
instance : StrT Tryz.prog 11 := ⟨by kernel_rfl⟩
instance : ElOf Tryz.prog 11 1 16 := elOf_mk (by kernel_rfl) (by decide)
instance : ZeroOf Tryz.prog 11 [(.string ⟨#[]⟩)] := ⟨(.string ⟨#[]⟩), fun _ => by kernel_rfl, by kernel_rfl⟩
instance : IsOne Tryz.prog 12 := ⟨fun _ => by kernel_rfl, fun _ => by kernel_rfl⟩
instance : IntT Tryz.prog 12 .u64 := ⟨by kernel_rfl⟩
instance : ElOf Tryz.prog 12 1 8 := elOf_mk (by kernel_rfl) (by decide)
instance : ZeroOf Tryz.prog 12 [(.int .u64 0)] := ⟨(.int .u64 0), fun _ => by kernel_rfl, by kernel_rfl⟩
instance : IsAgg Tryz.prog 13 2 := ⟨fun _ => by kernel_rfl, fun _ => by kernel_rfl⟩
instance : FldAt Tryz.prog 13 0 0 := ⟨fun _ _ _ => by kernel_rfl⟩
instance : FldAt Tryz.prog 13 1 1 := ⟨fun _ _ _ => by kernel_rfl⟩
instance : ElOf Tryz.prog 13 2 24 := elOf_mk (by kernel_rfl) (by decide)
instance : ZeroOf Tryz.prog 13 [(.string ⟨#[]⟩), (.int .u64 0)] := ⟨(.agg #[(.string ⟨#[]⟩), (.int .u64 0)]), fun _ => by kernel_rfl, by kernel_rfl⟩
instance : PlacesOf Tryz.prog 13 [(0, 1), (1, 1)] [(.string ⟨#[]⟩), (.int .u64 0)] := placesOf_mk (Tryz.prog.fieldsOf 13) (.agg #[(.string ⟨#[]⟩), (.int .u64 0)]) (fun _ => by kernel_rfl) (by kernel_rfl) (by kernel_rfl) (fun _ => by kernel_rfl)
instance : IsAgg Tryz.prog 14 2 := ⟨fun _ => by kernel_rfl, fun _ => by kernel_rfl⟩
instance : FldAt Tryz.prog 14 0 0 := ⟨fun _ _ _ => by kernel_rfl⟩
instance : FldAt Tryz.prog 14 1 1 := ⟨fun _ _ _ => by kernel_rfl⟩
instance : ElOf Tryz.prog 14 2 24 := elOf_mk (by kernel_rfl) (by decide)
instance : ZeroOf Tryz.prog 14 [(.string ⟨#[]⟩), (.int .u64 0)] := ⟨(.agg #[(.string ⟨#[]⟩), (.int .u64 0)]), fun _ => by kernel_rfl, by kernel_rfl⟩
instance : PlacesOf Tryz.prog 14 [(0, 1), (1, 1)] [(.string ⟨#[]⟩), (.int .u64 0)] := placesOf_mk (Tryz.prog.fieldsOf 14) (.agg #[(.string ⟨#[]⟩), (.int .u64 0)]) (fun _ => by kernel_rfl) (by kernel_rfl) (by kernel_rfl) (fun _ => by kernel_rfl)
instance : IsOne Tryz.prog 15 := ⟨fun _ => by kernel_rfl, fun _ => by kernel_rfl⟩
instance : ElOf Tryz.prog 15 1 8 := elOf_mk (by kernel_rfl) (by decide)
instance : ZeroOf Tryz.prog 15 [(.pointer none)] := ⟨(.pointer none), fun _ => by kernel_rfl, by kernel_rfl⟩
instance : IsOne Tryz.prog 16 := ⟨fun _ => by kernel_rfl, fun _ => by kernel_rfl⟩
instance : ElOf Tryz.prog 16 1 8 := elOf_mk (by kernel_rfl) (by decide)
instance : ZeroOf Tryz.prog 16 [(.pointer none)] := ⟨(.pointer none), fun _ => by kernel_rfl, by kernel_rfl⟩
instance : IsOne Tryz.prog 17 := ⟨fun _ => by kernel_rfl, fun _ => by kernel_rfl⟩
instance : ElOf Tryz.prog 17 1 8 := elOf_mk (by kernel_rfl) (by decide)
instance : ZeroOf Tryz.prog 17 [(.pointer none)] := ⟨(.pointer none), fun _ => by kernel_rfl, by kernel_rfl⟩
instance : IsAgg Tryz.prog 18 1 := ⟨fun _ => by kernel_rfl, fun _ => by kernel_rfl⟩
instance : FldAt Tryz.prog 18 0 0 := ⟨fun _ _ _ => by kernel_rfl⟩
instance : ElOf Tryz.prog 18 1 8 := elOf_mk (by kernel_rfl) (by decide)
instance : ZeroOf Tryz.prog 18 [(.pointer none)] := ⟨(.agg #[(.pointer none)]), fun _ => by kernel_rfl, by kernel_rfl⟩
instance : PlacesOf Tryz.prog 18 [(0, 1)] [(.pointer none)] := placesOf_mk (Tryz.prog.fieldsOf 18) (.agg #[(.pointer none)]) (fun _ => by kernel_rfl) (by kernel_rfl) (by kernel_rfl) (fun _ => by kernel_rfl)
instance : IsAgg Tryz.prog 19 1 := ⟨fun _ => by kernel_rfl, fun _ => by kernel_rfl⟩
instance : FldAt Tryz.prog 19 0 0 := ⟨fun _ _ _ => by kernel_rfl⟩
instance : ElOf Tryz.prog 19 1 8 := elOf_mk (by kernel_rfl) (by decide)
instance : ZeroOf Tryz.prog 19 [(.pointer none)] := ⟨(.agg #[(.pointer none)]), fun _ => by kernel_rfl, by kernel_rfl⟩
instance : PlacesOf Tryz.prog 19 [(0, 1)] [(.pointer none)] := placesOf_mk (Tryz.prog.fieldsOf 19) (.agg #[(.pointer none)]) (fun _ => by kernel_rfl) (by kernel_rfl) (by kernel_rfl) (fun _ => by kernel_rfl)
instance : IsOne Tryz.prog 20 := ⟨fun _ => by kernel_rfl, fun _ => by kernel_rfl⟩
instance : ElOf Tryz.prog 20 1 16 := elOf_mk (by kernel_rfl) (by decide)
instance : ZeroOf Tryz.prog 20 [.nilIface] := ⟨.nilIface, fun _ => by kernel_rfl, by kernel_rfl⟩
instance : IsOne Tryz.prog 21 := ⟨fun _ => by kernel_rfl, fun _ => by kernel_rfl⟩
instance : IntT Tryz.prog 21 .i32 := ⟨by kernel_rfl⟩
instance : ElOf Tryz.prog 21 1 4 := elOf_mk (by kernel_rfl) (by decide)
instance : ZeroOf Tryz.prog 21 [(.int .i32 0)] := ⟨(.int .i32 0), fun _ => by kernel_rfl, by kernel_rfl⟩
instance : IsOne Tryz.prog 22 := ⟨fun _ => by kernel_rfl, fun _ => by kernel_rfl⟩
instance : NotInt Tryz.prog 22 := ⟨.inr ⟨3, by kernel_rfl⟩⟩
instance : SlOf Tryz.prog 22 3 1 := ⟨by kernel_rfl, fun _ => by kernel_rfl⟩
instance : ElOf Tryz.prog 22 1 24 := elOf_mk (by kernel_rfl) (by decide)
instance : ZeroOf Tryz.prog 22 [(.slice none 0 0)] := ⟨(.slice none 0 0), fun _ => by kernel_rfl, by kernel_rfl⟩
instance : IsOne Tryz.prog 23 := ⟨fun _ => by kernel_rfl, fun _ => by kernel_rfl⟩
instance : ElOf Tryz.prog 23 1 8 := elOf_mk (by kernel_rfl) (by decide)
instance : ZeroOf Tryz.prog 23 [(.pointer none)] := ⟨(.pointer none), fun _ => by kernel_rfl, by kernel_rfl⟩
instance : IsOne Tryz.prog 24 := ⟨fun _ => by kernel_rfl, fun _ => by kernel_rfl⟩
instance : ElOf Tryz.prog 24 1 8 := elOf_mk (by kernel_rfl) (by decide)
instance : ZeroOf Tryz.prog 24 [.nilFunc] := ⟨.nilFunc, fun _ => by kernel_rfl, by kernel_rfl⟩
instance : IsOne Tryz.prog 25 := ⟨fun _ => by kernel_rfl, fun _ => by kernel_rfl⟩
instance : NotInt Tryz.prog 25 := ⟨.inr ⟨84, by kernel_rfl⟩⟩
instance : SlOf Tryz.prog 25 84 2 := ⟨by kernel_rfl, fun _ => by kernel_rfl⟩
instance : ElOf Tryz.prog 25 1 24 := elOf_mk (by kernel_rfl) (by decide)
instance : ZeroOf Tryz.prog 25 [(.slice none 0 0)] := ⟨(.slice none 0 0), fun _ => by kernel_rfl, by kernel_rfl⟩
instance : IsOne Tryz.prog 26 := ⟨fun _ => by kernel_rfl, fun _ => by kernel_rfl⟩
instance : NotInt Tryz.prog 26 := ⟨.inr ⟨30, by kernel_rfl⟩⟩
instance : SlOf Tryz.prog 26 30 1 := ⟨by kernel_rfl, fun _ => by kernel_rfl⟩
instance : ElOf Tryz.prog 26 1 24 := elOf_mk (by kernel_rfl) (by decide)
instance : ZeroOf Tryz.prog 26 [(.slice none 0 0)] := ⟨(.slice none 0 0), fun _ => by kernel_rfl, by kernel_rfl⟩
instance : IsOne Tryz.prog 27 := ⟨fun _ => by kernel_rfl, fun _ => by kernel_rfl⟩
instance : NotInt Tryz.prog 27 := ⟨.inr ⟨71, by kernel_rfl⟩⟩
instance : SlOf Tryz.prog 27 71 4 := ⟨by kernel_rfl, fun _ => by kernel_rfl⟩
instance : ElOf Tryz.prog 27 1 24 := elOf_mk (by kernel_rfl) (by decide)
instance : ZeroOf Tryz.prog 27 [(.slice none 0 0)] := ⟨(.slice none 0 0), fun _ => by kernel_rfl, by kernel_rfl⟩
instance : IsOne Tryz.prog 28 := ⟨fun _ => by kernel_rfl, fun _ => by kernel_rfl⟩
instance : NotInt Tryz.prog 28 := ⟨.inr ⟨97, by kernel_rfl⟩⟩
instance : SlOf Tryz.prog 28 97 4 := ⟨by kernel_rfl, fun _ => by kernel_rfl⟩
instance : ElOf Tryz.prog 28 1 24 := elOf_mk (by kernel_rfl) (by decide)
instance : ZeroOf Tryz.prog 28 [(.slice none 0 0)] := ⟨(.slice none 0 0), fun _ => by kernel_rfl, by kernel_rfl⟩
instance : IsOne Tryz.prog 29 := ⟨fun _ => by kernel_rfl, fun _ => by kernel_rfl⟩
instance : NotInt Tryz.prog 29 := ⟨.inr ⟨105, by kernel_rfl⟩⟩
instance : SlOf Tryz.prog 29 105 4 := ⟨by kernel_rfl, fun _ => by kernel_rfl⟩
instance : ElOf Tryz.prog 29 1 24 := elOf_mk (by kernel_rfl) (by decide)
instance : ZeroOf Tryz.prog 29 [(.slice none 0 0)] := ⟨(.slice none 0 0), fun _ => by kernel_rfl, by kernel_rfl⟩
instance : IsOne Tryz.prog 30 := ⟨fun _ => by kernel_rfl, fun _ => by kernel_rfl⟩
instance : NotInt Tryz.prog 30 := ⟨.inr ⟨9, by kernel_rfl⟩⟩
instance : SlOf Tryz.prog 30 9 1 := ⟨by kernel_rfl, fun _ => by kernel_rfl⟩
instance : ElOf Tryz.prog 30 1 24 := elOf_mk (by kernel_rfl) (by decide)
instance : ZeroOf Tryz.prog 30 [(.slice none 0 0)] := ⟨(.slice none 0 0), fun _ => by kernel_rfl, by kernel_rfl⟩
instance : IsAgg Tryz.prog 31 7 := ⟨fun _ => by kernel_rfl, fun _ => by kernel_rfl⟩
instance : FldAt Tryz.prog 31 0 0 := ⟨fun _ _ _ => by kernel_rfl⟩
instance : FldAt Tryz.prog 31 1 1 := ⟨fun _ _ _ => by kernel_rfl⟩
instance : FldAt Tryz.prog 31 2 2 := ⟨fun _ _ _ => by kernel_rfl⟩
instance : FldAt Tryz.prog 31 3 3 := ⟨fun _ _ _ => by kernel_rfl⟩
instance : FldAt Tryz.prog 31 4 4 := ⟨fun _ _ _ => by kernel_rfl⟩
instance : FldAt Tryz.prog 31 5 5 := ⟨fun _ _ _ => by kernel_rfl⟩
instance : FldAt Tryz.prog 31 6 6 := ⟨fun _ _ _ => by kernel_rfl⟩
instance : ElOf Tryz.prog 31 7 168 := elOf_mk (by kernel_rfl) (by decide)
instance : ZeroOf Tryz.prog 31 [(.slice none 0 0), (.slice none 0 0), (.slice none 0 0), (.slice none 0 0), (.slice none 0 0), (.slice none 0 0), (.slice none 0 0)] := ⟨(.agg #[(.slice none 0 0), (.slice none 0 0), (.slice none 0 0), (.slice none 0 0), (.slice none 0 0), (.slice none 0 0), (.slice none 0 0)]), fun _ => by kernel_rfl, by kernel_rfl⟩
instance : PlacesOf Tryz.prog 31 [(0, 1), (1, 1), (2, 1), (3, 1), (4, 1), (5, 1), (6, 1)] [(.slice none 0 0), (.slice none 0 0), (.slice none 0 0), (.slice none 0 0), (.slice none 0 0), (.slice none 0 0), (.slice none 0 0)] := placesOf_mk (Tryz.prog.fieldsOf 31) (.agg #[(.slice none 0 0), (.slice none 0 0), (.slice none 0 0), (.slice none 0 0), (.slice none 0 0), (.slice none 0 0), (.slice none 0 0)]) (fun _ => by kernel_rfl) (by kernel_rfl) (by kernel_rfl) (fun _ => by kernel_rfl)
instance : IsAgg Tryz.prog 32 7 := ⟨fun _ => by kernel_rfl, fun _ => by kernel_rfl⟩
instance : FldAt Tryz.prog 32 0 0 := ⟨fun _ _ _ => by kernel_rfl⟩
instance : FldAt Tryz.prog 32 1 1 := ⟨fun _ _ _ => by kernel_rfl⟩
instance : FldAt Tryz.prog 32 2 2 := ⟨fun _ _ _ => by kernel_rfl⟩
instance : FldAt Tryz.prog 32 3 3 := ⟨fun _ _ _ => by kernel_rfl⟩
instance : FldAt Tryz.prog 32 4 4 := ⟨fun _ _ _ => by kernel_rfl⟩
instance : FldAt Tryz.prog 32 5 5 := ⟨fun _ _ _ => by kernel_rfl⟩
instance : FldAt Tryz.prog 32 6 6 := ⟨fun _ _ _ => by kernel_rfl⟩
instance : ElOf Tryz.prog 32 7 168 := elOf_mk (by kernel_rfl) (by decide)
instance : ZeroOf Tryz.prog 32 [(.slice none 0 0), (.slice none 0 0), (.slice none 0 0), (.slice none 0 0), (.slice none 0 0), (.slice none 0 0), (.slice none 0 0)] := ⟨(.agg #[(.slice none 0 0), (.slice none 0 0), (.slice none 0 0), (.slice none 0 0), (.slice none 0 0), (.slice none 0 0), (.slice none 0 0)]), fun _ => by kernel_rfl, by kernel_rfl⟩
instance : PlacesOf Tryz.prog 32 [(0, 1), (1, 1), (2, 1), (3, 1), (4, 1), (5, 1), (6, 1)] [(.slice none 0 0), (.slice none 0 0), (.slice none 0 0), (.slice none 0 0), (.slice none 0 0), (.slice none 0 0), (.slice none 0 0)] := placesOf_mk (Tryz.prog.fieldsOf 32) (.agg #[(.slice none 0 0), (.slice none 0 0), (.slice none 0 0), (.slice none 0 0), (.slice none 0 0), (.slice none 0 0), (.slice none 0 0)]) (fun _ => by kernel_rfl) (by kernel_rfl) (by kernel_rfl) (fun _ => by kernel_rfl)
instance : IsOne Tryz.prog 33 := ⟨fun _ => by kernel_rfl, fun _ => by kernel_rfl⟩
instance : ElOf Tryz.prog 33 1 8 := elOf_mk (by kernel_rfl) (by decide)
instance : ZeroOf Tryz.prog 33 [.nilFunc] := ⟨.nilFunc, fun _ => by kernel_rfl, by kernel_rfl⟩
instance : IsOne Tryz.prog 34 := ⟨fun _ => by kernel_rfl, fun _ => by kernel_rfl⟩
instance : NotInt Tryz.prog 34 := ⟨.inr ⟨44, by kernel_rfl⟩⟩
instance : SlOf Tryz.prog 34 44 3 := ⟨by kernel_rfl, fun _ => by kernel_rfl⟩
instance : ElOf Tryz.prog 34 1 24 := elOf_mk (by kernel_rfl) (by decide)
instance : ZeroOf Tryz.prog 34 [(.slice none 0 0)] := ⟨(.slice none 0 0), fun _ => by kernel_rfl, by kernel_rfl⟩
instance : IsOne Tryz.prog 35 := ⟨fun _ => by kernel_rfl, fun _ => by kernel_rfl⟩
instance : ElOf Tryz.prog 35 1 8 := elOf_mk (by kernel_rfl) (by decide)
instance : ZeroOf Tryz.prog 35 [.nilFunc] := ⟨.nilFunc, fun _ => by kernel_rfl, by kernel_rfl⟩
instance : IsOne Tryz.prog 36 := ⟨fun _ => by kernel_rfl, fun _ => by kernel_rfl⟩
instance : NotInt Tryz.prog 36 := ⟨.inr ⟨57, by kernel_rfl⟩⟩
instance : SlOf Tryz.prog 36 57 6 := ⟨by kernel_rfl, fun _ => by kernel_rfl⟩
instance : ElOf Tryz.prog 36 1 24 := elOf_mk (by kernel_rfl) (by decide)
instance : ZeroOf Tryz.prog 36 [(.slice none 0 0)] := ⟨(.slice none 0 0), fun _ => by kernel_rfl, by kernel_rfl⟩
instance : IsOne Tryz.prog 37 := ⟨fun _ => by kernel_rfl, fun _ => by kernel_rfl⟩
instance : ElOf Tryz.prog 37 1 8 := elOf_mk (by kernel_rfl) (by decide)
instance : ZeroOf Tryz.prog 37 [.nilFunc] := ⟨.nilFunc, fun _ => by kernel_rfl, by kernel_rfl⟩
instance : IsOne Tryz.prog 38 := ⟨fun _ => by kernel_rfl, fun _ => by kernel_rfl⟩
instance : NotInt Tryz.prog 38 := ⟨.inr ⟨52, by kernel_rfl⟩⟩
instance : SlOf Tryz.prog 38 52 2 := ⟨by kernel_rfl, fun _ => by kernel_rfl⟩
instance : ElOf Tryz.prog 38 1 24 := elOf_mk (by kernel_rfl) (by decide)
instance : ZeroOf Tryz.prog 38 [(.slice none 0 0)] := ⟨(.slice none 0 0), fun _ => by kernel_rfl, by kernel_rfl⟩
instance : IsOne Tryz.prog 39 := ⟨fun _ => by kernel_rfl, fun _ => by kernel_rfl⟩
instance : IntT Tryz.prog 39 .i64 := ⟨by kernel_rfl⟩
instance : ElOf Tryz.prog 39 1 8 := elOf_mk (by kernel_rfl) (by decide)
instance : ZeroOf Tryz.prog 39 [(.int .i64 0)] := ⟨(.int .i64 0), fun _ => by kernel_rfl, by kernel_rfl⟩
instance : IsOne Tryz.prog 41 := ⟨fun _ => by kernel_rfl, fun _ => by kernel_rfl⟩
instance : ElOf Tryz.prog 41 1 8 := elOf_mk (by kernel_rfl) (by decide)
instance : ZeroOf Tryz.prog 41 [.nilFunc] := ⟨.nilFunc, fun _ => by kernel_rfl, by kernel_rfl⟩
instance : IsOne Tryz.prog 42 := ⟨fun _ => by kernel_rfl, fun _ => by kernel_rfl⟩
instance : ElOf Tryz.prog 42 1 8 := elOf_mk (by kernel_rfl) (by decide)
instance : ZeroOf Tryz.prog 42 [.nilFunc] := ⟨.nilFunc, fun _ => by kernel_rfl, by kernel_rfl⟩
instance : IsAgg Tryz.prog 43 3 := ⟨fun _ => by kernel_rfl, fun _ => by kernel_rfl⟩
instance : FldAt Tryz.prog 43 0 0 := ⟨fun _ _ _ => by kernel_rfl⟩
instance : FldAt Tryz.prog 43 1 1 := ⟨fun _ _ _ => by kernel_rfl⟩
instance : FldAt Tryz.prog 43 2 2 := ⟨fun _ _ _ => by kernel_rfl⟩
instance : ElOf Tryz.prog 43 3 40 := elOf_mk (by kernel_rfl) (by decide)
instance : ZeroOf Tryz.prog 43 [(.int .i64 0), (.int .i64 0), (.slice none 0 0)] := ⟨(.agg #[(.int .i64 0), (.int .i64 0), (.slice none 0 0)]), fun _ => by kernel_rfl, by kernel_rfl⟩
instance : PlacesOf Tryz.prog 43 [(0, 1), (1, 1), (2, 1)] [(.int .i64 0), (.int .i64 0), (.slice none 0 0)] := placesOf_mk (Tryz.prog.fieldsOf 43) (.agg #[(.int .i64 0), (.int .i64 0), (.slice none 0 0)]) (fun _ => by kernel_rfl) (by kernel_rfl) (by kernel_rfl) (fun _ => by kernel_rfl)
instance : IsAgg Tryz.prog 44 3 := ⟨fun _ => by kernel_rfl, fun _ => by kernel_rfl⟩
instance : FldAt Tryz.prog 44 0 0 := ⟨fun _ _ _ => by kernel_rfl⟩
instance : FldAt Tryz.prog 44 1 1 := ⟨fun _ _ _ => by kernel_rfl⟩
instance : FldAt Tryz.prog 44 2 2 := ⟨fun _ _ _ => by kernel_rfl⟩
instance : ElOf Tryz.prog 44 3 40 := elOf_mk (by kernel_rfl) (by decide)
instance : ZeroOf Tryz.prog 44 [(.int .i64 0), (.int .i64 0), (.slice none 0 0)] := ⟨(.agg #[(.int .i64 0), (.int .i64 0), (.slice none 0 0)]), fun _ => by kernel_rfl, by kernel_rfl⟩
instance : PlacesOf Tryz.prog 44 [(0, 1), (1, 1), (2, 1)] [(.int .i64 0), (.int .i64 0), (.slice none 0 0)] := placesOf_mk (Tryz.prog.fieldsOf 44) (.agg #[(.int .i64 0), (.int .i64 0), (.slice none 0 0)]) (fun _ => by kernel_rfl) (by kernel_rfl) (by kernel_rfl) (fun _ => by kernel_rfl)
instance : IsOne Tryz.prog 45 := ⟨fun _ => by kernel_rfl, fun _ => by kernel_rfl⟩
instance : ElOf Tryz.prog 45 1 8 := elOf_mk (by kernel_rfl) (by decide)
instance : ZeroOf Tryz.prog 45 [.nilFunc] := ⟨.nilFunc, fun _ => by kernel_rfl, by kernel_rfl⟩
instance : IsOne Tryz.prog 46 := ⟨fun _ => by kernel_rfl, fun _ => by kernel_rfl⟩
instance : ElOf Tryz.prog 46 1 8 := elOf_mk (by kernel_rfl) (by decide)
instance : ZeroOf Tryz.prog 46 [.nilFunc] := ⟨.nilFunc, fun _ => by kernel_rfl, by kernel_rfl⟩
instance : IsOne Tryz.prog 47 := ⟨fun _ => by kernel_rfl, fun _ => by kernel_rfl⟩
instance : ElOf Tryz.prog 47 1 8 := elOf_mk (by kernel_rfl) (by decide)
instance : ZeroOf Tryz.prog 47 [.nilFunc] := ⟨.nilFunc, fun _ => by kernel_rfl, by kernel_rfl⟩
instance : IsOne Tryz.prog 48 := ⟨fun _ => by kernel_rfl, fun _ => by kernel_rfl⟩
instance : ElOf Tryz.prog 48 1 8 := elOf_mk (by kernel_rfl) (by decide)
instance : ZeroOf Tryz.prog 48 [.nilFunc] := ⟨.nilFunc, fun _ => by kernel_rfl, by kernel_rfl⟩
instance : IsOne Tryz.prog 49 := ⟨fun _ => by kernel_rfl, fun _ => by kernel_rfl⟩
instance : ElOf Tryz.prog 49 1 8 := elOf_mk (by kernel_rfl) (by decide)
instance : ZeroOf Tryz.prog 49 [.nilFunc] := ⟨.nilFunc, fun _ => by kernel_rfl, by kernel_rfl⟩
instance : IsOne Tryz.prog 50 := ⟨fun _ => by kernel_rfl, fun _ => by kernel_rfl⟩
instance : ElOf Tryz.prog 50 1 8 := elOf_mk (by kernel_rfl) (by decide)
instance : ZeroOf Tryz.prog 50 [.nilFunc] := ⟨.nilFunc, fun _ => by kernel_rfl, by kernel_rfl⟩
instance : IsAgg Tryz.prog 51 2 := ⟨fun _ => by kernel_rfl, fun _ => by kernel_rfl⟩
instance : FldAt Tryz.prog 51 0 0 := ⟨fun _ _ _ => by kernel_rfl⟩
instance : FldAt Tryz.prog 51 1 1 := ⟨fun _ _ _ => by kernel_rfl⟩
instance : ElOf Tryz.prog 51 2 32 := elOf_mk (by kernel_rfl) (by decide)
instance : ZeroOf Tryz.prog 51 [(.slice none 0 0), (.int .i64 0)] := ⟨(.agg #[(.slice none 0 0), (.int .i64 0)]), fun _ => by kernel_rfl, by kernel_rfl⟩
instance : PlacesOf Tryz.prog 51 [(0, 1), (1, 1)] [(.slice none 0 0), (.int .i64 0)] := placesOf_mk (Tryz.prog.fieldsOf 51) (.agg #[(.slice none 0 0), (.int .i64 0)]) (fun _ => by kernel_rfl) (by kernel_rfl) (by kernel_rfl) (fun _ => by kernel_rfl)
instance : IsAgg Tryz.prog 52 2 := ⟨fun _ => by kernel_rfl, fun _ => by kernel_rfl⟩
instance : FldAt Tryz.prog 52 0 0 := ⟨fun _ _ _ => by kernel_rfl⟩
instance : FldAt Tryz.prog 52 1 1 := ⟨fun _ _ _ => by kernel_rfl⟩
instance : ElOf Tryz.prog 52 2 32 := elOf_mk (by kernel_rfl) (by decide)
instance : ZeroOf Tryz.prog 52 [(.slice none 0 0), (.int .i64 0)] := ⟨(.agg #[(.slice none 0 0), (.int .i64 0)]), fun _ => by kernel_rfl, by kernel_rfl⟩
instance : PlacesOf Tryz.prog 52 [(0, 1), (1, 1)] [(.slice none 0 0), (.int .i64 0)] := placesOf_mk (Tryz.prog.fieldsOf 52) (.agg #[(.slice none 0 0), (.int .i64 0)]) (fun _ => by kernel_rfl) (by kernel_rfl) (by kernel_rfl) (fun _ => by kernel_rfl)
instance : IsOne Tryz.prog 53 := ⟨fun _ => by kernel_rfl, fun _ => by kernel_rfl⟩
instance : ElOf Tryz.prog 53 1 8 := elOf_mk (by kernel_rfl) (by decide)
instance : ZeroOf Tryz.prog 53 [.nilFunc] := ⟨.nilFunc, fun _ => by kernel_rfl, by kernel_rfl⟩
instance : IsOne Tryz.prog 54 := ⟨fun _ => by kernel_rfl, fun _ => by kernel_rfl⟩
instance : ElOf Tryz.prog 54 1 8 := elOf_mk (by kernel_rfl) (by decide)
instance : ZeroOf Tryz.prog 54 [(.pointer none)] := ⟨(.pointer none), fun _ => by kernel_rfl, by kernel_rfl⟩
instance : IsOne Tryz.prog 55 := ⟨fun _ => by kernel_rfl, fun _ => by kernel_rfl⟩
instance : ElOf Tryz.prog 55 1 8 := elOf_mk (by kernel_rfl) (by decide)
instance : ZeroOf Tryz.prog 55 [(.pointer none)] := ⟨(.pointer none), fun _ => by kernel_rfl, by kernel_rfl⟩
instance : IsAgg Tryz.prog 56 6 := ⟨fun _ => by kernel_rfl, fun _ => by kernel_rfl⟩
instance : FldAt Tryz.prog 56 0 0 := ⟨fun _ _ _ => by kernel_rfl⟩
instance : FldAt Tryz.prog 56 1 1 := ⟨fun _ _ _ => by kernel_rfl⟩
instance : FldAt Tryz.prog 56 2 2 := ⟨fun _ _ _ => by kernel_rfl⟩
instance : FldAt Tryz.prog 56 3 3 := ⟨fun _ _ _ => by kernel_rfl⟩
instance : FldAt Tryz.prog 56 4 4 := ⟨fun _ _ _ => by kernel_rfl⟩
instance : FldAt Tryz.prog 56 5 5 := ⟨fun _ _ _ => by kernel_rfl⟩
instance : ElOf Tryz.prog 56 6 72 := elOf_mk (by kernel_rfl) (by decide)
instance : ZeroOf Tryz.prog 56 [(.int .i64 0), (.int .i64 0), (.int .i64 0), (.string ⟨#[]⟩), (.string ⟨#[]⟩), (.string ⟨#[]⟩)] := ⟨(.agg #[(.int .i64 0), (.int .i64 0), (.int .i64 0), (.string ⟨#[]⟩), (.string ⟨#[]⟩), (.string ⟨#[]⟩)]), fun _ => by kernel_rfl, by kernel_rfl⟩
instance : PlacesOf Tryz.prog 56 [(0, 1), (1, 1), (2, 1), (3, 1), (4, 1), (5, 1)] [(.int .i64 0), (.int .i64 0), (.int .i64 0), (.string ⟨#[]⟩), (.string ⟨#[]⟩), (.string ⟨#[]⟩)] := placesOf_mk (Tryz.prog.fieldsOf 56) (.agg #[(.int .i64 0), (.int .i64 0), (.int .i64 0), (.string ⟨#[]⟩), (.string ⟨#[]⟩), (.string ⟨#[]⟩)]) (fun _ => by kernel_rfl) (by kernel_rfl) (by kernel_rfl) (fun _ => by kernel_rfl)
instance : IsAgg Tryz.prog 57 6 := ⟨fun _ => by kernel_rfl, fun _ => by kernel_rfl⟩
instance : FldAt Tryz.prog 57 0 0 := ⟨fun _ _ _ => by kernel_rfl⟩
instance : FldAt Tryz.prog 57 1 1 := ⟨fun _ _ _ => by kernel_rfl⟩
instance : FldAt Tryz.prog 57 2 2 := ⟨fun _ _ _ => by kernel_rfl⟩
instance : FldAt Tryz.prog 57 3 3 := ⟨fun _ _ _ => by kernel_rfl⟩
instance : FldAt Tryz.prog 57 4 4 := ⟨fun _ _ _ => by kernel_rfl⟩
instance : FldAt Tryz.prog 57 5 5 := ⟨fun _ _ _ => by kernel_rfl⟩
set_option maxRecDepth 100000 in
instance : FlatEq Tryz.prog 57 [.int .i64, .int .i64, .int .i64, .str, .str, .str] := ⟨by kernel_rfl, .cons (by kernel_rfl) (of_decide_eq_true (by kernel_rfl)) (fun _ => by kernel_rfl) (by kernel_rfl) (.cons (by kernel_rfl) (of_decide_eq_true (by kernel_rfl)) (fun _ => by kernel_rfl) (by kernel_rfl) (.cons (by kernel_rfl) (of_decide_eq_true (by kernel_rfl)) (fun _ => by kernel_rfl) (by kernel_rfl) (.cons (by kernel_rfl) (of_decide_eq_true (by kernel_rfl)) (fun _ => by kernel_rfl) (by kernel_rfl) (.cons (by kernel_rfl) (of_decide_eq_true (by kernel_rfl)) (fun _ => by kernel_rfl) (by kernel_rfl) (.cons (by kernel_rfl) (of_decide_eq_true (by kernel_rfl)) (fun _ => by kernel_rfl) (by kernel_rfl) (.nil)))))), by kernel_rfl, by kernel_rfl⟩
instance : ElOf Tryz.prog 57 6 72 := elOf_mk (by kernel_rfl) (by decide)
instance : ZeroOf Tryz.prog 57 [(.int .i64 0), (.int .i64 0), (.int .i64 0), (.string ⟨#[]⟩), (.string ⟨#[]⟩), (.string ⟨#[]⟩)] := ⟨(.agg #[(.int .i64 0), (.int .i64 0), (.int .i64 0), (.string ⟨#[]⟩), (.string ⟨#[]⟩), (.string ⟨#[]⟩)]), fun _ => by kernel_rfl, by kernel_rfl⟩
instance : PlacesOf Tryz.prog 57 [(0, 1), (1, 1), (2, 1), (3, 1), (4, 1), (5, 1)] [(.int .i64 0), (.int .i64 0), (.int .i64 0), (.string ⟨#[]⟩), (.string ⟨#[]⟩), (.string ⟨#[]⟩)] := placesOf_mk (Tryz.prog.fieldsOf 57) (.agg #[(.int .i64 0), (.int .i64 0), (.int .i64 0), (.string ⟨#[]⟩), (.string ⟨#[]⟩), (.string ⟨#[]⟩)]) (fun _ => by kernel_rfl) (by kernel_rfl) (by kernel_rfl) (fun _ => by kernel_rfl)
instance : IsOne Tryz.prog 58 := ⟨fun _ => by kernel_rfl, fun _ => by kernel_rfl⟩
instance : ElOf Tryz.prog 58 1 8 := elOf_mk (by kernel_rfl) (by decide)
instance : ZeroOf Tryz.prog 58 [.nilFunc] := ⟨.nilFunc, fun _ => by kernel_rfl, by kernel_rfl⟩
instance : IsOne Tryz.prog 59 := ⟨fun _ => by kernel_rfl, fun _ => by kernel_rfl⟩
instance : ElOf Tryz.prog 59 1 8 := elOf_mk (by kernel_rfl) (by decide)
instance : ZeroOf Tryz.prog 59 [.nilFunc] := ⟨.nilFunc, fun _ => by kernel_rfl, by kernel_rfl⟩
instance : IsOne Tryz.prog 60 := ⟨fun _ => by kernel_rfl, fun _ => by kernel_rfl⟩
instance : ElOf Tryz.prog 60 1 8 := elOf_mk (by kernel_rfl) (by decide)
instance : ZeroOf Tryz.prog 60 [.nilFunc] := ⟨.nilFunc, fun _ => by kernel_rfl, by kernel_rfl⟩
instance : IsOne Tryz.prog 61 := ⟨fun _ => by kernel_rfl, fun _ => by kernel_rfl⟩
instance : ElOf Tryz.prog 61 1 8 := elOf_mk (by kernel_rfl) (by decide)
instance : ZeroOf Tryz.prog 61 [.nilFunc] := ⟨.nilFunc, fun _ => by kernel_rfl, by kernel_rfl⟩
instance : IsOne Tryz.prog 62 := ⟨fun _ => by kernel_rfl, fun _ => by kernel_rfl⟩
instance : ElOf Tryz.prog 62 1 8 := elOf_mk (by kernel_rfl) (by decide)
instance : ZeroOf Tryz.prog 62 [.nilFunc] := ⟨.nilFunc, fun _ => by kernel_rfl, by kernel_rfl⟩
instance : IsAgg Tryz.prog 63 2 := ⟨fun _ => by kernel_rfl, fun _ => by kernel_rfl⟩
instance : FldAt Tryz.prog 63 0 0 := ⟨fun _ _ _ => by kernel_rfl⟩
instance : FldAt Tryz.prog 63 1 1 := ⟨fun _ _ _ => by kernel_rfl⟩
instance : ElOf Tryz.prog 63 2 32 := elOf_mk (by kernel_rfl) (by decide)
instance : ZeroOf Tryz.prog 63 [(.slice none 0 0), (.int .i64 0)] := ⟨(.agg #[(.slice none 0 0), (.int .i64 0)]), fun _ => by kernel_rfl, by kernel_rfl⟩
instance : PlacesOf Tryz.prog 63 [(0, 1), (1, 1)] [(.slice none 0 0), (.int .i64 0)] := placesOf_mk (Tryz.prog.fieldsOf 63) (.agg #[(.slice none 0 0), (.int .i64 0)]) (fun _ => by kernel_rfl) (by kernel_rfl) (by kernel_rfl) (fun _ => by kernel_rfl)
instance : IsAgg Tryz.prog 64 2 := ⟨fun _ => by kernel_rfl, fun _ => by kernel_rfl⟩
instance : FldAt Tryz.prog 64 0 0 := ⟨fun _ _ _ => by kernel_rfl⟩
instance : FldAt Tryz.prog 64 1 1 := ⟨fun _ _ _ => by kernel_rfl⟩
instance : ElOf Tryz.prog 64 2 32 := elOf_mk (by kernel_rfl) (by decide)
instance : ZeroOf Tryz.prog 64 [(.slice none 0 0), (.int .i64 0)] := ⟨(.agg #[(.slice none 0 0), (.int .i64 0)]), fun _ => by kernel_rfl, by kernel_rfl⟩
instance : PlacesOf Tryz.prog 64 [(0, 1), (1, 1)] [(.slice none 0 0), (.int .i64 0)] := placesOf_mk (Tryz.prog.fieldsOf 64) (.agg #[(.slice none 0 0), (.int .i64 0)]) (fun _ => by kernel_rfl) (by kernel_rfl) (by kernel_rfl) (fun _ => by kernel_rfl)
instance : IsOne Tryz.prog 65 := ⟨fun _ => by kernel_rfl, fun _ => by kernel_rfl⟩
instance : ElOf Tryz.prog 65 1 8 := elOf_mk (by kernel_rfl) (by decide)
instance : ZeroOf Tryz.prog 65 [.nilFunc] := ⟨.nilFunc, fun _ => by kernel_rfl, by kernel_rfl⟩
instance : IsOne Tryz.prog 66 := ⟨fun _ => by kernel_rfl, fun _ => by kernel_rfl⟩
instance : ElOf Tryz.prog 66 1 8 := elOf_mk (by kernel_rfl) (by decide)
instance : ZeroOf Tryz.prog 66 [.nilFunc] := ⟨.nilFunc, fun _ => by kernel_rfl, by kernel_rfl⟩
instance : IsOne Tryz.prog 68 := ⟨fun _ => by kernel_rfl, fun _ => by kernel_rfl⟩
instance : ElOf Tryz.prog 68 1 8 := elOf_mk (by kernel_rfl) (by decide)
instance : ZeroOf Tryz.prog 68 [.nilFunc] := ⟨.nilFunc, fun _ => by kernel_rfl, by kernel_rfl⟩
instance : IsOne Tryz.prog 69 := ⟨fun _ => by kernel_rfl, fun _ => by kernel_rfl⟩
instance : NotInt Tryz.prog 69 := ⟨.inr ⟨94, by kernel_rfl⟩⟩
instance : SlOf Tryz.prog 69 94 2 := ⟨by kernel_rfl, fun _ => by kernel_rfl⟩
instance : ElOf Tryz.prog 69 1 24 := elOf_mk (by kernel_rfl) (by decide)
instance : ZeroOf Tryz.prog 69 [(.slice none 0 0)] := ⟨(.slice none 0 0), fun _ => by kernel_rfl, by kernel_rfl⟩
instance : IsAgg Tryz.prog 70 4 := ⟨fun _ => by kernel_rfl, fun _ => by kernel_rfl⟩
instance : FldAt Tryz.prog 70 0 0 := ⟨fun _ _ _ => by kernel_rfl⟩
instance : FldAt Tryz.prog 70 1 1 := ⟨fun _ _ _ => by kernel_rfl⟩
instance : FldAt Tryz.prog 70 2 2 := ⟨fun _ _ _ => by kernel_rfl⟩
instance : FldAt Tryz.prog 70 3 3 := ⟨fun _ _ _ => by kernel_rfl⟩
instance : ElOf Tryz.prog 70 4 56 := elOf_mk (by kernel_rfl) (by decide)
instance : ZeroOf Tryz.prog 70 [(.string ⟨#[]⟩), (.int .i64 0), (.int .i64 0), (.slice none 0 0)] := ⟨(.agg #[(.string ⟨#[]⟩), (.int .i64 0), (.int .i64 0), (.slice none 0 0)]), fun _ => by kernel_rfl, by kernel_rfl⟩
instance : PlacesOf Tryz.prog 70 [(0, 1), (1, 1), (2, 1), (3, 1)] [(.string ⟨#[]⟩), (.int .i64 0), (.int .i64 0), (.slice none 0 0)] := placesOf_mk (Tryz.prog.fieldsOf 70) (.agg #[(.string ⟨#[]⟩), (.int .i64 0), (.int .i64 0), (.slice none 0 0)]) (fun _ => by kernel_rfl) (by kernel_rfl) (by kernel_rfl) (fun _ => by kernel_rfl)
instance : IsAgg Tryz.prog 71 4 := ⟨fun _ => by kernel_rfl, fun _ => by kernel_rfl⟩
instance : FldAt Tryz.prog 71 0 0 := ⟨fun _ _ _ => by kernel_rfl⟩
instance : FldAt Tryz.prog 71 1 1 := ⟨fun _ _ _ => by kernel_rfl⟩
instance : FldAt Tryz.prog 71 2 2 := ⟨fun _ _ _ => by kernel_rfl⟩
instance : FldAt Tryz.prog 71 3 3 := ⟨fun _ _ _ => by kernel_rfl⟩
instance : ElOf Tryz.prog 71 4 56 := elOf_mk (by kernel_rfl) (by decide)
instance : ZeroOf Tryz.prog 71 [(.string ⟨#[]⟩), (.int .i64 0), (.int .i64 0), (.slice none 0 0)] := ⟨(.agg #[(.string ⟨#[]⟩), (.int .i64 0), (.int .i64 0), (.slice none 0 0)]), fun _ => by kernel_rfl, by kernel_rfl⟩
instance : PlacesOf Tryz.prog 71 [(0, 1), (1, 1), (2, 1), (3, 1)] [(.string ⟨#[]⟩), (.int .i64 0), (.int .i64 0), (.slice none 0 0)] := placesOf_mk (Tryz.prog.fieldsOf 71) (.agg #[(.string ⟨#[]⟩), (.int .i64 0), (.int .i64 0), (.slice none 0 0)]) (fun _ => by kernel_rfl) (by kernel_rfl) (by kernel_rfl) (fun _ => by kernel_rfl)
instance : IsOne Tryz.prog 72 := ⟨fun _ => by kernel_rfl, fun _ => by kernel_rfl⟩
instance : ElOf Tryz.prog 72 1 8 := elOf_mk (by kernel_rfl) (by decide)
instance : ZeroOf Tryz.prog 72 [.nilFunc] := ⟨.nilFunc, fun _ => by kernel_rfl, by kernel_rfl⟩
instance : IsOne Tryz.prog 73 := ⟨fun _ => by kernel_rfl, fun _ => by kernel_rfl⟩
instance : ElOf Tryz.prog 73 1 8 := elOf_mk (by kernel_rfl) (by decide)
instance : ZeroOf Tryz.prog 73 [.nilFunc] := ⟨.nilFunc, fun _ => by kernel_rfl, by kernel_rfl⟩
instance : IsOne Tryz.prog 75 := ⟨fun _ => by kernel_rfl, fun _ => by kernel_rfl⟩
instance : ElOf Tryz.prog 75 1 8 := elOf_mk (by kernel_rfl) (by decide)
instance : ZeroOf Tryz.prog 75 [.nilFunc] := ⟨.nilFunc, fun _ => by kernel_rfl, by kernel_rfl⟩
instance : IsOne Tryz.prog 76 := ⟨fun _ => by kernel_rfl, fun _ => by kernel_rfl⟩
instance : ElOf Tryz.prog 76 1 8 := elOf_mk (by kernel_rfl) (by decide)
instance : ZeroOf Tryz.prog 76 [.nilFunc] := ⟨.nilFunc, fun _ => by kernel_rfl, by kernel_rfl⟩
instance : IsOne Tryz.prog 77 := ⟨fun _ => by kernel_rfl, fun _ => by kernel_rfl⟩
instance : ElOf Tryz.prog 77 1 8 := elOf_mk (by kernel_rfl) (by decide)
instance : ZeroOf Tryz.prog 77 [.nilFunc] := ⟨.nilFunc, fun _ => by kernel_rfl, by kernel_rfl⟩
instance : IsOne Tryz.prog 78 := ⟨fun _ => by kernel_rfl, fun _ => by kernel_rfl⟩
instance : ElOf Tryz.prog 78 1 8 := elOf_mk (by kernel_rfl) (by decide)
instance : ZeroOf Tryz.prog 78 [.nilFunc] := ⟨.nilFunc, fun _ => by kernel_rfl, by kernel_rfl⟩
instance : IsOne Tryz.prog 79 := ⟨fun _ => by kernel_rfl, fun _ => by kernel_rfl⟩
instance : ElOf Tryz.prog 79 1 8 := elOf_mk (by kernel_rfl) (by decide)
instance : ZeroOf Tryz.prog 79 [.nilFunc] := ⟨.nilFunc, fun _ => by kernel_rfl, by kernel_rfl⟩
instance : IsOne Tryz.prog 80 := ⟨fun _ => by kernel_rfl, fun _ => by kernel_rfl⟩
instance : ElOf Tryz.prog 80 1 8 := elOf_mk (by kernel_rfl) (by decide)
instance : ZeroOf Tryz.prog 80 [.nilFunc] := ⟨.nilFunc, fun _ => by kernel_rfl, by kernel_rfl⟩
instance : IsOne Tryz.prog 81 := ⟨fun _ => by kernel_rfl, fun _ => by kernel_rfl⟩
instance : ElOf Tryz.prog 81 1 8 := elOf_mk (by kernel_rfl) (by decide)
instance : ZeroOf Tryz.prog 81 [.nilFunc] := ⟨.nilFunc, fun _ => by kernel_rfl, by kernel_rfl⟩
instance : IsOne Tryz.prog 82 := ⟨fun _ => by kernel_rfl, fun _ => by kernel_rfl⟩
instance : ElOf Tryz.prog 82 1 8 := elOf_mk (by kernel_rfl) (by decide)
instance : ZeroOf Tryz.prog 82 [.nilFunc] := ⟨.nilFunc, fun _ => by kernel_rfl, by kernel_rfl⟩
instance : IsAgg Tryz.prog 83 2 := ⟨fun _ => by kernel_rfl, fun _ => by kernel_rfl⟩
instance : FldAt Tryz.prog 83 0 0 := ⟨fun _ _ _ => by kernel_rfl⟩
instance : FldAt Tryz.prog 83 1 1 := ⟨fun _ _ _ => by kernel_rfl⟩
instance : ElOf Tryz.prog 83 2 24 := elOf_mk (by kernel_rfl) (by decide)
instance : ZeroOf Tryz.prog 83 [(.string ⟨#[]⟩), (.bool false)] := ⟨(.agg #[(.string ⟨#[]⟩), (.bool false)]), fun _ => by kernel_rfl, by kernel_rfl⟩
instance : PlacesOf Tryz.prog 83 [(0, 1), (1, 1)] [(.string ⟨#[]⟩), (.bool false)] := placesOf_mk (Tryz.prog.fieldsOf 83) (.agg #[(.string ⟨#[]⟩), (.bool false)]) (fun _ => by kernel_rfl) (by kernel_rfl) (by kernel_rfl) (fun _ => by kernel_rfl)
instance : IsAgg Tryz.prog 84 2 := ⟨fun _ => by kernel_rfl, fun _ => by kernel_rfl⟩
instance : FldAt Tryz.prog 84 0 0 := ⟨fun _ _ _ => by kernel_rfl⟩
instance : FldAt Tryz.prog 84 1 1 := ⟨fun _ _ _ => by kernel_rfl⟩
set_option maxRecDepth 100000 in
instance : FlatEq Tryz.prog 84 [.str, .bool] := ⟨by kernel_rfl, .cons (by kernel_rfl) (of_decide_eq_true (by kernel_rfl)) (fun _ => by kernel_rfl) (by kernel_rfl) (.cons (by kernel_rfl) (of_decide_eq_true (by kernel_rfl)) (fun _ => by kernel_rfl) (by kernel_rfl) (.nil)), by kernel_rfl, by kernel_rfl⟩
instance : ElOf Tryz.prog 84 2 24 := elOf_mk (by kernel_rfl) (by decide)
instance : ZeroOf Tryz.prog 84 [(.string ⟨#[]⟩), (.bool false)] := ⟨(.agg #[(.string ⟨#[]⟩), (.bool false)]), fun _ => by kernel_rfl, by kernel_rfl⟩
instance : PlacesOf Tryz.prog 84 [(0, 1), (1, 1)] [(.string ⟨#[]⟩), (.bool false)] := placesOf_mk (Tryz.prog.fieldsOf 84) (.agg #[(.string ⟨#[]⟩), (.bool false)]) (fun _ => by kernel_rfl) (by kernel_rfl) (by kernel_rfl) (fun _ => by kernel_rfl)
instance : IsOne Tryz.prog 85 := ⟨fun _ => by kernel_rfl, fun _ => by kernel_rfl⟩
instance : ElOf Tryz.prog 85 1 8 := elOf_mk (by kernel_rfl) (by decide)
instance : ZeroOf Tryz.prog 85 [.nilFunc] := ⟨.nilFunc, fun _ => by kernel_rfl, by kernel_rfl⟩
instance : IsOne Tryz.prog 86 := ⟨fun _ => by kernel_rfl, fun _ => by kernel_rfl⟩
instance : ElOf Tryz.prog 86 1 8 := elOf_mk (by kernel_rfl) (by decide)
instance : ZeroOf Tryz.prog 86 [(.map none)] := ⟨(.map none), fun _ => by kernel_rfl, by kernel_rfl⟩
instance : IsOne Tryz.prog 87 := ⟨fun _ => by kernel_rfl, fun _ => by kernel_rfl⟩
instance : ElOf Tryz.prog 87 1 8 := elOf_mk (by kernel_rfl) (by decide)
instance : ZeroOf Tryz.prog 87 [.nilFunc] := ⟨.nilFunc, fun _ => by kernel_rfl, by kernel_rfl⟩
instance : IsOne Tryz.prog 88 := ⟨fun _ => by kernel_rfl, fun _ => by kernel_rfl⟩
instance : ElOf Tryz.prog 88 1 8 := elOf_mk (by kernel_rfl) (by decide)
instance : ZeroOf Tryz.prog 88 [.nilFunc] := ⟨.nilFunc, fun _ => by kernel_rfl, by kernel_rfl⟩
instance : IsOne Tryz.prog 89 := ⟨fun _ => by kernel_rfl, fun _ => by kernel_rfl⟩
instance : ElOf Tryz.prog 89 1 8 := elOf_mk (by kernel_rfl) (by decide)
instance : ZeroOf Tryz.prog 89 [.nilFunc] := ⟨.nilFunc, fun _ => by kernel_rfl, by kernel_rfl⟩
instance : IsOne Tryz.prog 90 := ⟨fun _ => by kernel_rfl, fun _ => by kernel_rfl⟩
instance : ElOf Tryz.prog 90 1 8 := elOf_mk (by kernel_rfl) (by decide)
instance : ZeroOf Tryz.prog 90 [.nilFunc] := ⟨.nilFunc, fun _ => by kernel_rfl, by kernel_rfl⟩
instance : IsOne Tryz.prog 91 := ⟨fun _ => by kernel_rfl, fun _ => by kernel_rfl⟩
instance : ElOf Tryz.prog 91 1 8 := elOf_mk (by kernel_rfl) (by decide)
instance : ZeroOf Tryz.prog 91 [.nilFunc] := ⟨.nilFunc, fun _ => by kernel_rfl, by kernel_rfl⟩
instance : IsOne Tryz.prog 92 := ⟨fun _ => by kernel_rfl, fun _ => by kernel_rfl⟩
instance : ElOf Tryz.prog 92 1 8 := elOf_mk (by kernel_rfl) (by decide)
instance : ZeroOf Tryz.prog 92 [.nilFunc] := ⟨.nilFunc, fun _ => by kernel_rfl, by kernel_rfl⟩
instance : IsAgg Tryz.prog 93 2 := ⟨fun _ => by kernel_rfl, fun _ => by kernel_rfl⟩
instance : FldAt Tryz.prog 93 0 0 := ⟨fun _ _ _ => by kernel_rfl⟩
instance : FldAt Tryz.prog 93 1 1 := ⟨fun _ _ _ => by kernel_rfl⟩
instance : ElOf Tryz.prog 93 2 32 := elOf_mk (by kernel_rfl) (by decide)
instance : ZeroOf Tryz.prog 93 [(.string ⟨#[]⟩), (.string ⟨#[]⟩)] := ⟨(.agg #[(.string ⟨#[]⟩), (.string ⟨#[]⟩)]), fun _ => by kernel_rfl, by kernel_rfl⟩
instance : PlacesOf Tryz.prog 93 [(0, 1), (1, 1)] [(.string ⟨#[]⟩), (.string ⟨#[]⟩)] := placesOf_mk (Tryz.prog.fieldsOf 93) (.agg #[(.string ⟨#[]⟩), (.string ⟨#[]⟩)]) (fun _ => by kernel_rfl) (by kernel_rfl) (by kernel_rfl) (fun _ => by kernel_rfl)
instance : IsAgg Tryz.prog 94 2 := ⟨fun _ => by kernel_rfl, fun _ => by kernel_rfl⟩
instance : FldAt Tryz.prog 94 0 0 := ⟨fun _ _ _ => by kernel_rfl⟩
instance : FldAt Tryz.prog 94 1 1 := ⟨fun _ _ _ => by kernel_rfl⟩
set_option maxRecDepth 100000 in
instance : FlatEq Tryz.prog 94 [.str, .str] := ⟨by kernel_rfl, .cons (by kernel_rfl) (of_decide_eq_true (by kernel_rfl)) (fun _ => by kernel_rfl) (by kernel_rfl) (.cons (by kernel_rfl) (of_decide_eq_true (by kernel_rfl)) (fun _ => by kernel_rfl) (by kernel_rfl) (.nil)), by kernel_rfl, by kernel_rfl⟩
instance : ElOf Tryz.prog 94 2 32 := elOf_mk (by kernel_rfl) (by decide)
instance : ZeroOf Tryz.prog 94 [(.string ⟨#[]⟩), (.string ⟨#[]⟩)] := ⟨(.agg #[(.string ⟨#[]⟩), (.string ⟨#[]⟩)]), fun _ => by kernel_rfl, by kernel_rfl⟩
instance : PlacesOf Tryz.prog 94 [(0, 1), (1, 1)] [(.string ⟨#[]⟩), (.string ⟨#[]⟩)] := placesOf_mk (Tryz.prog.fieldsOf 94) (.agg #[(.string ⟨#[]⟩), (.string ⟨#[]⟩)]) (fun _ => by kernel_rfl) (by kernel_rfl) (by kernel_rfl) (fun _ => by kernel_rfl)
instance : IsOne Tryz.prog 95 := ⟨fun _ => by kernel_rfl, fun _ => by kernel_rfl⟩
instance : ElOf Tryz.prog 95 1 8 := elOf_mk (by kernel_rfl) (by decide)
instance : ZeroOf Tryz.prog 95 [.nilFunc] := ⟨.nilFunc, fun _ => by kernel_rfl, by kernel_rfl⟩
instance : IsAgg Tryz.prog 96 4 := ⟨fun _ => by kernel_rfl, fun _ => by kernel_rfl⟩
instance : FldAt Tryz.prog 96 0 0 := ⟨fun _ _ _ => by kernel_rfl⟩
instance : FldAt Tryz.prog 96 1 1 := ⟨fun _ _ _ => by kernel_rfl⟩
instance : FldAt Tryz.prog 96 2 2 := ⟨fun _ _ _ => by kernel_rfl⟩
instance : FldAt Tryz.prog 96 3 3 := ⟨fun _ _ _ => by kernel_rfl⟩
instance : ElOf Tryz.prog 96 4 56 := elOf_mk (by kernel_rfl) (by decide)
instance : ZeroOf Tryz.prog 96 [(.string ⟨#[]⟩), (.int .i64 0), (.int .i64 0), (.slice none 0 0)] := ⟨(.agg #[(.string ⟨#[]⟩), (.int .i64 0), (.int .i64 0), (.slice none 0 0)]), fun _ => by kernel_rfl, by kernel_rfl⟩
instance : PlacesOf Tryz.prog 96 [(0, 1), (1, 1), (2, 1), (3, 1)] [(.string ⟨#[]⟩), (.int .i64 0), (.int .i64 0), (.slice none 0 0)] := placesOf_mk (Tryz.prog.fieldsOf 96) (.agg #[(.string ⟨#[]⟩), (.int .i64 0), (.int .i64 0), (.slice none 0 0)]) (fun _ => by kernel_rfl) (by kernel_rfl) (by kernel_rfl) (fun _ => by kernel_rfl)
instance : IsAgg Tryz.prog 97 4 := ⟨fun _ => by kernel_rfl, fun _ => by kernel_rfl⟩
instance : FldAt Tryz.prog 97 0 0 := ⟨fun _ _ _ => by kernel_rfl⟩
instance : FldAt Tryz.prog 97 1 1 := ⟨fun _ _ _ => by kernel_rfl⟩
instance : FldAt Tryz.prog 97 2 2 := ⟨fun _ _ _ => by kernel_rfl⟩
instance : FldAt Tryz.prog 97 3 3 := ⟨fun _ _ _ => by kernel_rfl⟩
instance : ElOf Tryz.prog 97 4 56 := elOf_mk (by kernel_rfl) (by decide)
instance : ZeroOf Tryz.prog 97 [(.string ⟨#[]⟩), (.int .i64 0), (.int .i64 0), (.slice none 0 0)] := ⟨(.agg #[(.string ⟨#[]⟩), (.int .i64 0), (.int .i64 0), (.slice none 0 0)]), fun _ => by kernel_rfl, by kernel_rfl⟩
instance : PlacesOf Tryz.prog 97 [(0, 1), (1, 1), (2, 1), (3, 1)] [(.string ⟨#[]⟩), (.int .i64 0), (.int .i64 0), (.slice none 0 0)] := placesOf_mk (Tryz.prog.fieldsOf 97) (.agg #[(.string ⟨#[]⟩), (.int .i64 0), (.int .i64 0), (.slice none 0 0)]) (fun _ => by kernel_rfl) (by kernel_rfl) (by kernel_rfl) (fun _ => by kernel_rfl)
instance : IsOne Tryz.prog 98 := ⟨fun _ => by kernel_rfl, fun _ => by kernel_rfl⟩
instance : ElOf Tryz.prog 98 1 8 := elOf_mk (by kernel_rfl) (by decide)
instance : ZeroOf Tryz.prog 98 [.nilFunc] := ⟨.nilFunc, fun _ => by kernel_rfl, by kernel_rfl⟩
instance : IsOne Tryz.prog 99 := ⟨fun _ => by kernel_rfl, fun _ => by kernel_rfl⟩
instance : ElOf Tryz.prog 99 1 8 := elOf_mk (by kernel_rfl) (by decide)
instance : ZeroOf Tryz.prog 99 [.nilFunc] := ⟨.nilFunc, fun _ => by kernel_rfl, by kernel_rfl⟩
instance : IsOne Tryz.prog 100 := ⟨fun _ => by kernel_rfl, fun _ => by kernel_rfl⟩
instance : ElOf Tryz.prog 100 1 8 := elOf_mk (by kernel_rfl) (by decide)
instance : ZeroOf Tryz.prog 100 [(.pointer none)] := ⟨(.pointer none), fun _ => by kernel_rfl, by kernel_rfl⟩
instance : IsOne Tryz.prog 101 := ⟨fun _ => by kernel_rfl, fun _ => by kernel_rfl⟩
instance : ElOf Tryz.prog 101 1 8 := elOf_mk (by kernel_rfl) (by decide)
instance : ZeroOf Tryz.prog 101 [.nilFunc] := ⟨.nilFunc, fun _ => by kernel_rfl, by kernel_rfl⟩
instance : IsOne Tryz.prog 102 := ⟨fun _ => by kernel_rfl, fun _ => by kernel_rfl⟩
instance : ElOf Tryz.prog 102 1 8 := elOf_mk (by kernel_rfl) (by decide)
instance : ZeroOf Tryz.prog 102 [.nilFunc] := ⟨.nilFunc, fun _ => by kernel_rfl, by kernel_rfl⟩
instance : IsOne Tryz.prog 103 := ⟨fun _ => by kernel_rfl, fun _ => by kernel_rfl⟩
instance : ElOf Tryz.prog 103 1 8 := elOf_mk (by kernel_rfl) (by decide)
instance : ZeroOf Tryz.prog 103 [.nilFunc] := ⟨.nilFunc, fun _ => by kernel_rfl, by kernel_rfl⟩
instance : IsAgg Tryz.prog 104 4 := ⟨fun _ => by kernel_rfl, fun _ => by kernel_rfl⟩
instance : FldAt Tryz.prog 104 0 0 := ⟨fun _ _ _ => by kernel_rfl⟩
instance : FldAt Tryz.prog 104 1 1 := ⟨fun _ _ _ => by kernel_rfl⟩
instance : FldAt Tryz.prog 104 2 2 := ⟨fun _ _ _ => by kernel_rfl⟩
instance : FldAt Tryz.prog 104 3 3 := ⟨fun _ _ _ => by kernel_rfl⟩
instance : ElOf Tryz.prog 104 4 40 := elOf_mk (by kernel_rfl) (by decide)
instance : ZeroOf Tryz.prog 104 [(.string ⟨#[]⟩), (.int .i64 0), (.int .i64 0), (.int .i64 0)] := ⟨(.agg #[(.string ⟨#[]⟩), (.int .i64 0), (.int .i64 0), (.int .i64 0)]), fun _ => by kernel_rfl, by kernel_rfl⟩
instance : PlacesOf Tryz.prog 104 [(0, 1), (1, 1), (2, 1), (3, 1)] [(.string ⟨#[]⟩), (.int .i64 0), (.int .i64 0), (.int .i64 0)] := placesOf_mk (Tryz.prog.fieldsOf 104) (.agg #[(.string ⟨#[]⟩), (.int .i64 0), (.int .i64 0), (.int .i64 0)]) (fun _ => by kernel_rfl) (by kernel_rfl) (by kernel_rfl) (fun _ => by kernel_rfl)
instance : IsAgg Tryz.prog 105 4 := ⟨fun _ => by kernel_rfl, fun _ => by kernel_rfl⟩
instance : FldAt Tryz.prog 105 0 0 := ⟨fun _ _ _ => by kernel_rfl⟩
instance : FldAt Tryz.prog 105 1 1 := ⟨fun _ _ _ => by kernel_rfl⟩
instance : FldAt Tryz.prog 105 2 2 := ⟨fun _ _ _ => by kernel_rfl⟩
instance : FldAt Tryz.prog 105 3 3 := ⟨fun _ _ _ => by kernel_rfl⟩
set_option maxRecDepth 100000 in
instance : FlatEq Tryz.prog 105 [.str, .int .i64, .int .i64, .int .i64] := ⟨by kernel_rfl, .cons (by kernel_rfl) (of_decide_eq_true (by kernel_rfl)) (fun _ => by kernel_rfl) (by kernel_rfl) (.cons (by kernel_rfl) (of_decide_eq_true (by kernel_rfl)) (fun _ => by kernel_rfl) (by kernel_rfl) (.cons (by kernel_rfl) (of_decide_eq_true (by kernel_rfl)) (fun _ => by kernel_rfl) (by kernel_rfl) (.cons (by kernel_rfl) (of_decide_eq_true (by kernel_rfl)) (fun _ => by kernel_rfl) (by kernel_rfl) (.nil)))), by kernel_rfl, by kernel_rfl⟩
instance : ElOf Tryz.prog 105 4 40 := elOf_mk (by kernel_rfl) (by decide)
instance : ZeroOf Tryz.prog 105 [(.string ⟨#[]⟩), (.int .i64 0), (.int .i64 0), (.int .i64 0)] := ⟨(.agg #[(.string ⟨#[]⟩), (.int .i64 0), (.int .i64 0), (.int .i64 0)]), fun _ => by kernel_rfl, by kernel_rfl⟩
instance : PlacesOf Tryz.prog 105 [(0, 1), (1, 1), (2, 1), (3, 1)] [(.string ⟨#[]⟩), (.int .i64 0), (.int .i64 0), (.int .i64 0)] := placesOf_mk (Tryz.prog.fieldsOf 105) (.agg #[(.string ⟨#[]⟩), (.int .i64 0), (.int .i64 0), (.int .i64 0)]) (fun _ => by kernel_rfl) (by kernel_rfl) (by kernel_rfl) (fun _ => by kernel_rfl)
instance : IsOne Tryz.prog 107 := ⟨fun _ => by kernel_rfl, fun _ => by kernel_rfl⟩
instance : ElOf Tryz.prog 107 1 8 := elOf_mk (by kernel_rfl) (by decide)
instance : ZeroOf Tryz.prog 107 [.nilFunc] := ⟨.nilFunc, fun _ => by kernel_rfl, by kernel_rfl⟩
instance : IsOne Tryz.prog 108 := ⟨fun _ => by kernel_rfl, fun _ => by kernel_rfl⟩
instance : ElOf Tryz.prog 108 1 8 := elOf_mk (by kernel_rfl) (by decide)
instance : ZeroOf Tryz.prog 108 [.nilFunc] := ⟨.nilFunc, fun _ => by kernel_rfl, by kernel_rfl⟩
instance : IsOne Tryz.prog 109 := ⟨fun _ => by kernel_rfl, fun _ => by kernel_rfl⟩
instance : ElOf Tryz.prog 109 1 8 := elOf_mk (by kernel_rfl) (by decide)
instance : ZeroOf Tryz.prog 109 [.nilFunc] := ⟨.nilFunc, fun _ => by kernel_rfl, by kernel_rfl⟩
instance : IsOne Tryz.prog 110 := ⟨fun _ => by kernel_rfl, fun _ => by kernel_rfl⟩
instance : ElOf Tryz.prog 110 1 8 := elOf_mk (by kernel_rfl) (by decide)
instance : ZeroOf Tryz.prog 110 [.nilFunc] := ⟨.nilFunc, fun _ => by kernel_rfl, by kernel_rfl⟩
instance : IsOne Tryz.prog 111 := ⟨fun _ => by kernel_rfl, fun _ => by kernel_rfl⟩
instance : ElOf Tryz.prog 111 1 8 := elOf_mk (by kernel_rfl) (by decide)
instance : ZeroOf Tryz.prog 111 [.nilFunc] := ⟨.nilFunc, fun _ => by kernel_rfl, by kernel_rfl⟩
instance : IsOne Tryz.prog 112 := ⟨fun _ => by kernel_rfl, fun _ => by kernel_rfl⟩
instance : ElOf Tryz.prog 112 1 8 := elOf_mk (by kernel_rfl) (by decide)
instance : ZeroOf Tryz.prog 112 [(.map none)] := ⟨(.map none), fun _ => by kernel_rfl, by kernel_rfl⟩
instance : IsOne Tryz.prog 114 := ⟨fun _ => by kernel_rfl, fun _ => by kernel_rfl⟩
instance : ElOf Tryz.prog 114 1 8 := elOf_mk (by kernel_rfl) (by decide)
instance : ZeroOf Tryz.prog 114 [.nilFunc] := ⟨.nilFunc, fun _ => by kernel_rfl, by kernel_rfl⟩
instance : IsOne Tryz.prog 115 := ⟨fun _ => by kernel_rfl, fun _ => by kernel_rfl⟩
instance : ElOf Tryz.prog 115 1 8 := elOf_mk (by kernel_rfl) (by decide)
instance : ZeroOf Tryz.prog 115 [.nilFunc] := ⟨.nilFunc, fun _ => by kernel_rfl, by kernel_rfl⟩
instance : IsOne Tryz.prog 116 := ⟨fun _ => by kernel_rfl, fun _ => by kernel_rfl⟩
instance : ElOf Tryz.prog 116 1 8 := elOf_mk (by kernel_rfl) (by decide)
instance : ZeroOf Tryz.prog 116 [.nilFunc] := ⟨.nilFunc, fun _ => by kernel_rfl, by kernel_rfl⟩
instance : IsOne Tryz.prog 117 := ⟨fun _ => by kernel_rfl, fun _ => by kernel_rfl⟩
instance : ElOf Tryz.prog 117 1 8 := elOf_mk (by kernel_rfl) (by decide)
instance : ZeroOf Tryz.prog 117 [.nilFunc] := ⟨.nilFunc, fun _ => by kernel_rfl, by kernel_rfl⟩
instance : IsAgg Tryz.prog 118 7 := ⟨fun _ => by kernel_rfl, fun _ => by kernel_rfl⟩
instance : FldAt Tryz.prog 118 0 0 := ⟨fun _ _ _ => by kernel_rfl⟩
instance : FldAt Tryz.prog 118 1 1 := ⟨fun _ _ _ => by kernel_rfl⟩
instance : FldAt Tryz.prog 118 2 2 := ⟨fun _ _ _ => by kernel_rfl⟩
instance : FldAt Tryz.prog 118 3 3 := ⟨fun _ _ _ => by kernel_rfl⟩
instance : FldAt Tryz.prog 118 4 4 := ⟨fun _ _ _ => by kernel_rfl⟩
instance : FldAt Tryz.prog 118 5 5 := ⟨fun _ _ _ => by kernel_rfl⟩
instance : FldAt Tryz.prog 118 6 6 := ⟨fun _ _ _ => by kernel_rfl⟩
instance : ElOf Tryz.prog 118 7 56 := elOf_mk (by kernel_rfl) (by decide)
instance : ZeroOf Tryz.prog 118 [(.int .i64 0), (.int .i64 0), (.string ⟨#[]⟩), (.string ⟨#[]⟩), (.bool false), (.bool false), (.bool false)] := ⟨(.agg #[(.int .i64 0), (.int .i64 0), (.string ⟨#[]⟩), (.string ⟨#[]⟩), (.bool false), (.bool false), (.bool false)]), fun _ => by kernel_rfl, by kernel_rfl⟩
instance : PlacesOf Tryz.prog 118 [(0, 1), (1, 1), (2, 1), (3, 1), (4, 1), (5, 1), (6, 1)] [(.int .i64 0), (.int .i64 0), (.string ⟨#[]⟩), (.string ⟨#[]⟩), (.bool false), (.bool false), (.bool false)] := placesOf_mk (Tryz.prog.fieldsOf 118) (.agg #[(.int .i64 0), (.int .i64 0), (.string ⟨#[]⟩), (.string ⟨#[]⟩), (.bool false), (.bool false), (.bool false)]) (fun _ => by kernel_rfl) (by kernel_rfl) (by kernel_rfl) (fun _ => by kernel_rfl)
instance : IsAgg Tryz.prog 119 7 := ⟨fun _ => by kernel_rfl, fun _ => by kernel_rfl⟩
instance : FldAt Tryz.prog 119 0 0 := ⟨fun _ _ _ => by kernel_rfl⟩
instance : FldAt Tryz.prog 119 1 1 := ⟨fun _ _ _ => by kernel_rfl⟩
instance : FldAt Tryz.prog 119 2 2 := ⟨fun _ _ _ => by kernel_rfl⟩
instance : FldAt Tryz.prog 119 3 3 := ⟨fun _ _ _ => by kernel_rfl⟩
instance : FldAt Tryz.prog 119 4 4 := ⟨fun _ _ _ => by kernel_rfl⟩
instance : FldAt Tryz.prog 119 5 5 := ⟨fun _ _ _ => by kernel_rfl⟩
instance : FldAt Tryz.prog 119 6 6 := ⟨fun _ _ _ => by kernel_rfl⟩
set_option maxRecDepth 100000 in
instance : FlatEq Tryz.prog 119 [.int .i64, .int .i64, .str, .str, .bool, .bool, .bool] := ⟨by kernel_rfl, .cons (by kernel_rfl) (of_decide_eq_true (by kernel_rfl)) (fun _ => by kernel_rfl) (by kernel_rfl) (.cons (by kernel_rfl) (of_decide_eq_true (by kernel_rfl)) (fun _ => by kernel_rfl) (by kernel_rfl) (.cons (by kernel_rfl) (of_decide_eq_true (by kernel_rfl)) (fun _ => by kernel_rfl) (by kernel_rfl) (.cons (by kernel_rfl) (of_decide_eq_true (by kernel_rfl)) (fun _ => by kernel_rfl) (by kernel_rfl) (.cons (by kernel_rfl) (of_decide_eq_true (by kernel_rfl)) (fun _ => by kernel_rfl) (by kernel_rfl) (.cons (by kernel_rfl) (of_decide_eq_true (by kernel_rfl)) (fun _ => by kernel_rfl) (by kernel_rfl) (.cons (by kernel_rfl) (of_decide_eq_true (by kernel_rfl)) (fun _ => by kernel_rfl) (by kernel_rfl) (.nil))))))), by kernel_rfl, by kernel_rfl⟩
instance : ElOf Tryz.prog 119 7 56 := elOf_mk (by kernel_rfl) (by decide)
instance : ZeroOf Tryz.prog 119 [(.int .i64 0), (.int .i64 0), (.string ⟨#[]⟩), (.string ⟨#[]⟩), (.bool false), (.bool false), (.bool false)] := ⟨(.agg #[(.int .i64 0), (.int .i64 0), (.string ⟨#[]⟩), (.string ⟨#[]⟩), (.bool false), (.bool false), (.bool false)]), fun _ => by kernel_rfl, by kernel_rfl⟩
instance : PlacesOf Tryz.prog 119 [(0, 1), (1, 1), (2, 1), (3, 1), (4, 1), (5, 1), (6, 1)] [(.int .i64 0), (.int .i64 0), (.string ⟨#[]⟩), (.string ⟨#[]⟩), (.bool false), (.bool false), (.bool false)] := placesOf_mk (Tryz.prog.fieldsOf 119) (.agg #[(.int .i64 0), (.int .i64 0), (.string ⟨#[]⟩), (.string ⟨#[]⟩), (.bool false), (.bool false), (.bool false)]) (fun _ => by kernel_rfl) (by kernel_rfl) (by kernel_rfl) (fun _ => by kernel_rfl)
instance : IsOne Tryz.prog 120 := ⟨fun _ => by kernel_rfl, fun _ => by kernel_rfl⟩
instance : ElOf Tryz.prog 120 1 8 := elOf_mk (by kernel_rfl) (by decide)
instance : ZeroOf Tryz.prog 120 [.nilFunc] := ⟨.nilFunc, fun _ => by kernel_rfl, by kernel_rfl⟩
instance : IsOne Tryz.prog 121 := ⟨fun _ => by kernel_rfl, fun _ => by kernel_rfl⟩
instance : ElOf Tryz.prog 121 1 8 := elOf_mk (by kernel_rfl) (by decide)
instance : ZeroOf Tryz.prog 121 [.nilFunc] := ⟨.nilFunc, fun _ => by kernel_rfl, by kernel_rfl⟩
instance : IsAgg Tryz.prog 122 2 := ⟨fun _ => by kernel_rfl, fun _ => by kernel_rfl⟩
instance : FldAt Tryz.prog 122 0 0 := ⟨fun _ _ _ => by kernel_rfl⟩
instance : FldAt Tryz.prog 122 1 1 := ⟨fun _ _ _ => by kernel_rfl⟩
instance : ElOf Tryz.prog 122 2 16 := elOf_mk (by kernel_rfl) (by decide)
instance : ZeroOf Tryz.prog 122 [(.int .i64 0), (.int .i64 0)] := ⟨(.agg #[(.int .i64 0), (.int .i64 0)]), fun _ => by kernel_rfl, by kernel_rfl⟩
instance : PlacesOf Tryz.prog 122 [(0, 1), (1, 1)] [(.int .i64 0), (.int .i64 0)] := placesOf_mk (Tryz.prog.fieldsOf 122) (.agg #[(.int .i64 0), (.int .i64 0)]) (fun _ => by kernel_rfl) (by kernel_rfl) (by kernel_rfl) (fun _ => by kernel_rfl)
instance : IsAgg Tryz.prog 123 2 := ⟨fun _ => by kernel_rfl, fun _ => by kernel_rfl⟩
instance : FldAt Tryz.prog 123 0 0 := ⟨fun _ _ _ => by kernel_rfl⟩
instance : FldAt Tryz.prog 123 1 1 := ⟨fun _ _ _ => by kernel_rfl⟩
set_option maxRecDepth 100000 in
instance : FlatEq Tryz.prog 123 [.int .i64, .int .i64] := ⟨by kernel_rfl, .cons (by kernel_rfl) (of_decide_eq_true (by kernel_rfl)) (fun _ => by kernel_rfl) (by kernel_rfl) (.cons (by kernel_rfl) (of_decide_eq_true (by kernel_rfl)) (fun _ => by kernel_rfl) (by kernel_rfl) (.nil)), by kernel_rfl, by kernel_rfl⟩
instance : ElOf Tryz.prog 123 2 16 := elOf_mk (by kernel_rfl) (by decide)
instance : ZeroOf Tryz.prog 123 [(.int .i64 0), (.int .i64 0)] := ⟨(.agg #[(.int .i64 0), (.int .i64 0)]), fun _ => by kernel_rfl, by kernel_rfl⟩
instance : PlacesOf Tryz.prog 123 [(0, 1), (1, 1)] [(.int .i64 0), (.int .i64 0)] := placesOf_mk (Tryz.prog.fieldsOf 123) (.agg #[(.int .i64 0), (.int .i64 0)]) (fun _ => by kernel_rfl) (by kernel_rfl) (by kernel_rfl) (fun _ => by kernel_rfl)
instance : IsOne Tryz.prog 124 := ⟨fun _ => by kernel_rfl, fun _ => by kernel_rfl⟩
instance : ElOf Tryz.prog 124 1 8 := elOf_mk (by kernel_rfl) (by decide)
instance : ZeroOf Tryz.prog 124 [.nilFunc] := ⟨.nilFunc, fun _ => by kernel_rfl, by kernel_rfl⟩
instance : IsOne Tryz.prog 125 := ⟨fun _ => by kernel_rfl, fun _ => by kernel_rfl⟩
instance : ElOf Tryz.prog 125 1 8 := elOf_mk (by kernel_rfl) (by decide)
instance : ZeroOf Tryz.prog 125 [.nilFunc] := ⟨.nilFunc, fun _ => by kernel_rfl, by kernel_rfl⟩
instance : IsOne Tryz.prog 126 := ⟨fun _ => by kernel_rfl, fun _ => by kernel_rfl⟩
instance : NotInt Tryz.prog 126 := ⟨.inr ⟨5, by kernel_rfl⟩⟩
instance : SlOf Tryz.prog 126 5 1 := ⟨by kernel_rfl, fun _ => by kernel_rfl⟩
instance : ElOf Tryz.prog 126 1 24 := elOf_mk (by kernel_rfl) (by decide)
instance : ZeroOf Tryz.prog 126 [(.slice none 0 0)] := ⟨(.slice none 0 0), fun _ => by kernel_rfl, by kernel_rfl⟩
instance : IsOne Tryz.prog 127 := ⟨fun _ => by kernel_rfl, fun _ => by kernel_rfl⟩
instance : ElOf Tryz.prog 127 1 8 := elOf_mk (by kernel_rfl) (by decide)
instance : ZeroOf Tryz.prog 127 [.nilFunc] := ⟨.nilFunc, fun _ => by kernel_rfl, by kernel_rfl⟩
instance : IsOne Tryz.prog 128 := ⟨fun _ => by kernel_rfl, fun _ => by kernel_rfl⟩
instance : NotInt Tryz.prog 128 := ⟨.inr ⟨38, by kernel_rfl⟩⟩
instance : SlOf Tryz.prog 128 38 1 := ⟨by kernel_rfl, fun _ => by kernel_rfl⟩
instance : ElOf Tryz.prog 128 1 24 := elOf_mk (by kernel_rfl) (by decide)
instance : ZeroOf Tryz.prog 128 [(.slice none 0 0)] := ⟨(.slice none 0 0), fun _ => by kernel_rfl, by kernel_rfl⟩
instance : IsOne Tryz.prog 129 := ⟨fun _ => by kernel_rfl, fun _ => by kernel_rfl⟩
instance : ElOf Tryz.prog 129 1 8 := elOf_mk (by kernel_rfl) (by decide)
instance : ZeroOf Tryz.prog 129 [.nilFunc] := ⟨.nilFunc, fun _ => by kernel_rfl, by kernel_rfl⟩
instance : IsOne Tryz.prog 130 := ⟨fun _ => by kernel_rfl, fun _ => by kernel_rfl⟩
instance : ElOf Tryz.prog 130 1 8 := elOf_mk (by kernel_rfl) (by decide)
instance : ZeroOf Tryz.prog 130 [.nilFunc] := ⟨.nilFunc, fun _ => by kernel_rfl, by kernel_rfl⟩
instance : IsOne Tryz.prog 132 := ⟨fun _ => by kernel_rfl, fun _ => by kernel_rfl⟩
instance : ElOf Tryz.prog 132 1 8 := elOf_mk (by kernel_rfl) (by decide)
instance : ZeroOf Tryz.prog 132 [.nilFunc] := ⟨.nilFunc, fun _ => by kernel_rfl, by kernel_rfl⟩
instance : IsOne Tryz.prog 133 := ⟨fun _ => by kernel_rfl, fun _ => by kernel_rfl⟩
instance : ElOf Tryz.prog 133 1 8 := elOf_mk (by kernel_rfl) (by decide)
instance : ZeroOf Tryz.prog 133 [.nilFunc] := ⟨.nilFunc, fun _ => by kernel_rfl, by kernel_rfl⟩
instance : IsOne Tryz.prog 134 := ⟨fun _ => by kernel_rfl, fun _ => by kernel_rfl⟩
instance : ElOf Tryz.prog 134 1 8 := elOf_mk (by kernel_rfl) (by decide)
instance : ZeroOf Tryz.prog 134 [.nilFunc] := ⟨.nilFunc, fun _ => by kernel_rfl, by kernel_rfl⟩
instance : IsOne Tryz.prog 135 := ⟨fun _ => by kernel_rfl, fun _ => by kernel_rfl⟩
instance : ElOf Tryz.prog 135 1 8 := elOf_mk (by kernel_rfl) (by decide)
instance : ZeroOf Tryz.prog 135 [.nilFunc] := ⟨.nilFunc, fun _ => by kernel_rfl, by kernel_rfl⟩
instance : IsOne Tryz.prog 136 := ⟨fun _ => by kernel_rfl, fun _ => by kernel_rfl⟩
instance : ElOf Tryz.prog 136 1 8 := elOf_mk (by kernel_rfl) (by decide)
instance : ZeroOf Tryz.prog 136 [.nilFunc] := ⟨.nilFunc, fun _ => by kernel_rfl, by kernel_rfl⟩
instance : IsOne Tryz.prog 137 := ⟨fun _ => by kernel_rfl, fun _ => by kernel_rfl⟩
instance : ElOf Tryz.prog 137 1 8 := elOf_mk (by kernel_rfl) (by decide)
instance : ZeroOf Tryz.prog 137 [.nilFunc] := ⟨.nilFunc, fun _ => by kernel_rfl, by kernel_rfl⟩
instance : IsOne Tryz.prog 138 := ⟨fun _ => by kernel_rfl, fun _ => by kernel_rfl⟩
instance : ElOf Tryz.prog 138 1 8 := elOf_mk (by kernel_rfl) (by decide)
instance : ZeroOf Tryz.prog 138 [.nilFunc] := ⟨.nilFunc, fun _ => by kernel_rfl, by kernel_rfl⟩
instance : IsOne Tryz.prog 139 := ⟨fun _ => by kernel_rfl, fun _ => by kernel_rfl⟩
instance : ElOf Tryz.prog 139 1 8 := elOf_mk (by kernel_rfl) (by decide)
instance : ZeroOf Tryz.prog 139 [.nilFunc] := ⟨.nilFunc, fun _ => by kernel_rfl, by kernel_rfl⟩
instance : IsOne Tryz.prog 140 := ⟨fun _ => by kernel_rfl, fun _ => by kernel_rfl⟩
instance : IntT Tryz.prog 140 .u64 := ⟨by kernel_rfl⟩
instance : ElOf Tryz.prog 140 1 8 := elOf_mk (by kernel_rfl) (by decide)
instance : ZeroOf Tryz.prog 140 [(.int .u64 0)] := ⟨(.int .u64 0), fun _ => by kernel_rfl, by kernel_rfl⟩
instance : IsOne Tryz.prog 141 := ⟨fun _ => by kernel_rfl, fun _ => by kernel_rfl⟩
instance : ElOf Tryz.prog 141 1 8 := elOf_mk (by kernel_rfl) (by decide)
instance : ZeroOf Tryz.prog 141 [.nilFunc] := ⟨.nilFunc, fun _ => by kernel_rfl, by kernel_rfl⟩
instance : IsOne Tryz.prog 142 := ⟨fun _ => by kernel_rfl, fun _ => by kernel_rfl⟩
instance : ElOf Tryz.prog 142 1 8 := elOf_mk (by kernel_rfl) (by decide)
instance : ZeroOf Tryz.prog 142 [.nilFunc] := ⟨.nilFunc, fun _ => by kernel_rfl, by kernel_rfl⟩
instance : IsOne Tryz.prog 143 := ⟨fun _ => by kernel_rfl, fun _ => by kernel_rfl⟩
instance : ElOf Tryz.prog 143 1 8 := elOf_mk (by kernel_rfl) (by decide)
instance : ZeroOf Tryz.prog 143 [.nilFunc] := ⟨.nilFunc, fun _ => by kernel_rfl, by kernel_rfl⟩
instance : IsOne Tryz.prog 144 := ⟨fun _ => by kernel_rfl, fun _ => by kernel_rfl⟩
instance : ElOf Tryz.prog 144 1 8 := elOf_mk (by kernel_rfl) (by decide)
instance : ZeroOf Tryz.prog 144 [.nilFunc] := ⟨.nilFunc, fun _ => by kernel_rfl, by kernel_rfl⟩
instance : IsOne Tryz.prog 145 := ⟨fun _ => by kernel_rfl, fun _ => by kernel_rfl⟩
instance : ElOf Tryz.prog 145 1 8 := elOf_mk (by kernel_rfl) (by decide)
instance : ZeroOf Tryz.prog 145 [.nilFunc] := ⟨.nilFunc, fun _ => by kernel_rfl, by kernel_rfl⟩
instance : IsOne Tryz.prog 146 := ⟨fun _ => by kernel_rfl, fun _ => by kernel_rfl⟩
instance : ElOf Tryz.prog 146 1 8 := elOf_mk (by kernel_rfl) (by decide)
instance : ZeroOf Tryz.prog 146 [.nilFunc] := ⟨.nilFunc, fun _ => by kernel_rfl, by kernel_rfl⟩
instance : IsOne Tryz.prog 147 := ⟨fun _ => by kernel_rfl, fun _ => by kernel_rfl⟩
instance : ElOf Tryz.prog 147 1 8 := elOf_mk (by kernel_rfl) (by decide)
instance : ZeroOf Tryz.prog 147 [.nilFunc] := ⟨.nilFunc, fun _ => by kernel_rfl, by kernel_rfl⟩
instance : IsOne Tryz.prog 148 := ⟨fun _ => by kernel_rfl, fun _ => by kernel_rfl⟩
instance : ElOf Tryz.prog 148 1 8 := elOf_mk (by kernel_rfl) (by decide)
instance : ZeroOf Tryz.prog 148 [.nilFunc] := ⟨.nilFunc, fun _ => by kernel_rfl, by kernel_rfl⟩
instance : IsOne Tryz.prog 149 := ⟨fun _ => by kernel_rfl, fun _ => by kernel_rfl⟩
instance : ElOf Tryz.prog 149 1 8 := elOf_mk (by kernel_rfl) (by decide)
instance : ZeroOf Tryz.prog 149 [.nilFunc] := ⟨.nilFunc, fun _ => by kernel_rfl, by kernel_rfl⟩
instance : IsOne Tryz.prog 150 := ⟨fun _ => by kernel_rfl, fun _ => by kernel_rfl⟩
instance : ElOf Tryz.prog 150 1 8 := elOf_mk (by kernel_rfl) (by decide)
instance : ZeroOf Tryz.prog 150 [.nilFunc] := ⟨.nilFunc, fun _ => by kernel_rfl, by kernel_rfl⟩
instance : IsOne Tryz.prog 151 := ⟨fun _ => by kernel_rfl, fun _ => by kernel_rfl⟩
instance : ElOf Tryz.prog 151 1 8 := elOf_mk (by kernel_rfl) (by decide)
instance : ZeroOf Tryz.prog 151 [.nilFunc] := ⟨.nilFunc, fun _ => by kernel_rfl, by kernel_rfl⟩
instance : IsOne Tryz.prog 153 := ⟨fun _ => by kernel_rfl, fun _ => by kernel_rfl⟩
instance : ElOf Tryz.prog 153 1 8 := elOf_mk (by kernel_rfl) (by decide)
instance : ZeroOf Tryz.prog 153 [.nilFunc] := ⟨.nilFunc, fun _ => by kernel_rfl, by kernel_rfl⟩
instance : IsOne Tryz.prog 154 := ⟨fun _ => by kernel_rfl, fun _ => by kernel_rfl⟩
instance : ElOf Tryz.prog 154 1 8 := elOf_mk (by kernel_rfl) (by decide)
instance : ZeroOf Tryz.prog 154 [.nilFunc] := ⟨.nilFunc, fun _ => by kernel_rfl, by kernel_rfl⟩
instance : IsOne Tryz.prog 155 := ⟨fun _ => by kernel_rfl, fun _ => by kernel_rfl⟩
instance : ElOf Tryz.prog 155 1 8 := elOf_mk (by kernel_rfl) (by decide)
instance : ZeroOf Tryz.prog 155 [.nilFunc] := ⟨.nilFunc, fun _ => by kernel_rfl, by kernel_rfl⟩
instance : IsOne Tryz.prog 156 := ⟨fun _ => by kernel_rfl, fun _ => by kernel_rfl⟩
instance : ElOf Tryz.prog 156 1 8 := elOf_mk (by kernel_rfl) (by decide)
instance : ZeroOf Tryz.prog 156 [.nilFunc] := ⟨.nilFunc, fun _ => by kernel_rfl, by kernel_rfl⟩
instance : IsOne Tryz.prog 157 := ⟨fun _ => by kernel_rfl, fun _ => by kernel_rfl⟩
instance : IntT Tryz.prog 157 .i64 := ⟨by kernel_rfl⟩
instance : ElOf Tryz.prog 157 1 8 := elOf_mk (by kernel_rfl) (by decide)
instance : ZeroOf Tryz.prog 157 [(.int .i64 0)] := ⟨(.int .i64 0), fun _ => by kernel_rfl, by kernel_rfl⟩
instance : IsOne Tryz.prog 159 := ⟨fun _ => by kernel_rfl, fun _ => by kernel_rfl⟩
instance : ElOf Tryz.prog 159 1 8 := elOf_mk (by kernel_rfl) (by decide)
instance : ZeroOf Tryz.prog 159 [.nilFunc] := ⟨.nilFunc, fun _ => by kernel_rfl, by kernel_rfl⟩
instance : IsOne Tryz.prog 160 := ⟨fun _ => by kernel_rfl, fun _ => by kernel_rfl⟩
instance : ElOf Tryz.prog 160 1 8 := elOf_mk (by kernel_rfl) (by decide)
instance : ZeroOf Tryz.prog 160 [.nilFunc] := ⟨.nilFunc, fun _ => by kernel_rfl, by kernel_rfl⟩
instance : IsOne Tryz.prog 161 := ⟨fun _ => by kernel_rfl, fun _ => by kernel_rfl⟩
instance : ElOf Tryz.prog 161 1 8 := elOf_mk (by kernel_rfl) (by decide)
instance : ZeroOf Tryz.prog 161 [.nilFunc] := ⟨.nilFunc, fun _ => by kernel_rfl, by kernel_rfl⟩
instance : IsOne Tryz.prog 162 := ⟨fun _ => by kernel_rfl, fun _ => by kernel_rfl⟩
instance : ElOf Tryz.prog 162 1 8 := elOf_mk (by kernel_rfl) (by decide)
instance : ZeroOf Tryz.prog 162 [.nilFunc] := ⟨.nilFunc, fun _ => by kernel_rfl, by kernel_rfl⟩
instance : IsOne Tryz.prog 163 := ⟨fun _ => by kernel_rfl, fun _ => by kernel_rfl⟩
instance : ElOf Tryz.prog 163 1 8 := elOf_mk (by kernel_rfl) (by decide)
instance : ZeroOf Tryz.prog 163 [.nilFunc] := ⟨.nilFunc, fun _ => by kernel_rfl, by kernel_rfl⟩
instance : IsOne Tryz.prog 164 := ⟨fun _ => by kernel_rfl, fun _ => by kernel_rfl⟩
instance : IntT Tryz.prog 164 .u32 := ⟨by kernel_rfl⟩
instance : ElOf Tryz.prog 164 1 4 := elOf_mk (by kernel_rfl) (by decide)
instance : ZeroOf Tryz.prog 164 [(.int .u32 0)] := ⟨(.int .u32 0), fun _ => by kernel_rfl, by kernel_rfl⟩
instance : IsOne Tryz.prog 165 := ⟨fun _ => by kernel_rfl, fun _ => by kernel_rfl⟩
instance : ElOf Tryz.prog 165 1 8 := elOf_mk (by kernel_rfl) (by decide)
instance : ZeroOf Tryz.prog 165 [.nilFunc] := ⟨.nilFunc, fun _ => by kernel_rfl, by kernel_rfl⟩
instance : IsOne Tryz.prog 166 := ⟨fun _ => by kernel_rfl, fun _ => by kernel_rfl⟩
instance : IntT Tryz.prog 166 .u64 := ⟨by kernel_rfl⟩
instance : ElOf Tryz.prog 166 1 8 := elOf_mk (by kernel_rfl) (by decide)
instance : ZeroOf Tryz.prog 166 [(.int .u64 0)] := ⟨(.int .u64 0), fun _ => by kernel_rfl, by kernel_rfl⟩
instance : IsOne Tryz.prog 167 := ⟨fun _ => by kernel_rfl, fun _ => by kernel_rfl⟩
instance : ElOf Tryz.prog 167 1 8 := elOf_mk (by kernel_rfl) (by decide)
instance : ZeroOf Tryz.prog 167 [.nilFunc] := ⟨.nilFunc, fun _ => by kernel_rfl, by kernel_rfl⟩
instance : IsOne Tryz.prog 168 := ⟨fun _ => by kernel_rfl, fun _ => by kernel_rfl⟩
instance : ElOf Tryz.prog 168 1 8 := elOf_mk (by kernel_rfl) (by decide)
instance : ZeroOf Tryz.prog 168 [.nilFunc] := ⟨.nilFunc, fun _ => by kernel_rfl, by kernel_rfl⟩
instance : IsAgg Tryz.prog 169 3 := ⟨fun _ => by kernel_rfl, fun _ => by kernel_rfl⟩
instance : FldAt Tryz.prog 169 0 0 := ⟨fun _ _ _ => by kernel_rfl⟩
instance : FldAt Tryz.prog 169 1 1 := ⟨fun _ _ _ => by kernel_rfl⟩
instance : FldAt Tryz.prog 169 2 2 := ⟨fun _ _ _ => by kernel_rfl⟩
instance : ElOf Tryz.prog 169 3 24 := elOf_mk (by kernel_rfl) (by decide)
instance : ZeroOf Tryz.prog 169 [(.int .i32 0), (.int .i64 0), (.int .i64 0)] := ⟨(.agg #[(.int .i32 0), (.int .i64 0), (.int .i64 0)]), fun _ => by kernel_rfl, by kernel_rfl⟩
instance : PlacesOf Tryz.prog 169 [(0, 1), (1, 1), (2, 1)] [(.int .i32 0), (.int .i64 0), (.int .i64 0)] := placesOf_mk (Tryz.prog.fieldsOf 169) (.agg #[(.int .i32 0), (.int .i64 0), (.int .i64 0)]) (fun _ => by kernel_rfl) (by kernel_rfl) (by kernel_rfl) (fun _ => by kernel_rfl)
instance : IsAgg Tryz.prog 170 3 := ⟨fun _ => by kernel_rfl, fun _ => by kernel_rfl⟩
instance : FldAt Tryz.prog 170 0 0 := ⟨fun _ _ _ => by kernel_rfl⟩
instance : FldAt Tryz.prog 170 1 1 := ⟨fun _ _ _ => by kernel_rfl⟩
instance : FldAt Tryz.prog 170 2 2 := ⟨fun _ _ _ => by kernel_rfl⟩
set_option maxRecDepth 100000 in
instance : FlatEq Tryz.prog 170 [.int .i32, .int .i64, .int .i64] := ⟨by kernel_rfl, .cons (by kernel_rfl) (of_decide_eq_true (by kernel_rfl)) (fun _ => by kernel_rfl) (by kernel_rfl) (.cons (by kernel_rfl) (of_decide_eq_true (by kernel_rfl)) (fun _ => by kernel_rfl) (by kernel_rfl) (.cons (by kernel_rfl) (of_decide_eq_true (by kernel_rfl)) (fun _ => by kernel_rfl) (by kernel_rfl) (.nil))), by kernel_rfl, by kernel_rfl⟩
instance : ElOf Tryz.prog 170 3 24 := elOf_mk (by kernel_rfl) (by decide)
instance : ZeroOf Tryz.prog 170 [(.int .i32 0), (.int .i64 0), (.int .i64 0)] := ⟨(.agg #[(.int .i32 0), (.int .i64 0), (.int .i64 0)]), fun _ => by kernel_rfl, by kernel_rfl⟩
instance : PlacesOf Tryz.prog 170 [(0, 1), (1, 1), (2, 1)] [(.int .i32 0), (.int .i64 0), (.int .i64 0)] := placesOf_mk (Tryz.prog.fieldsOf 170) (.agg #[(.int .i32 0), (.int .i64 0), (.int .i64 0)]) (fun _ => by kernel_rfl) (by kernel_rfl) (by kernel_rfl) (fun _ => by kernel_rfl)
instance : IsOne Tryz.prog 171 := ⟨fun _ => by kernel_rfl, fun _ => by kernel_rfl⟩
instance : ElOf Tryz.prog 171 1 8 := elOf_mk (by kernel_rfl) (by decide)
instance : ZeroOf Tryz.prog 171 [.nilFunc] := ⟨.nilFunc, fun _ => by kernel_rfl, by kernel_rfl⟩
instance : IsOne Tryz.prog 172 := ⟨fun _ => by kernel_rfl, fun _ => by kernel_rfl⟩
instance : NotInt Tryz.prog 172 := ⟨.inr ⟨170, by kernel_rfl⟩⟩
instance : SlOf Tryz.prog 172 170 3 := ⟨by kernel_rfl, fun _ => by kernel_rfl⟩
instance : ElOf Tryz.prog 172 1 24 := elOf_mk (by kernel_rfl) (by decide)
instance : ZeroOf Tryz.prog 172 [(.slice none 0 0)] := ⟨(.slice none 0 0), fun _ => by kernel_rfl, by kernel_rfl⟩
instance : IsOne Tryz.prog 173 := ⟨fun _ => by kernel_rfl, fun _ => by kernel_rfl⟩
instance : ElOf Tryz.prog 173 1 8 := elOf_mk (by kernel_rfl) (by decide)
instance : ZeroOf Tryz.prog 173 [.nilFunc] := ⟨.nilFunc, fun _ => by kernel_rfl, by kernel_rfl⟩
instance : IsOne Tryz.prog 174 := ⟨fun _ => by kernel_rfl, fun _ => by kernel_rfl⟩
instance : ElOf Tryz.prog 174 1 8 := elOf_mk (by kernel_rfl) (by decide)
instance : ZeroOf Tryz.prog 174 [.nilFunc] := ⟨.nilFunc, fun _ => by kernel_rfl, by kernel_rfl⟩
instance : IsOne Tryz.prog 175 := ⟨fun _ => by kernel_rfl, fun _ => by kernel_rfl⟩
instance : ElOf Tryz.prog 175 1 8 := elOf_mk (by kernel_rfl) (by decide)
instance : ZeroOf Tryz.prog 175 [.nilFunc] := ⟨.nilFunc, fun _ => by kernel_rfl, by kernel_rfl⟩
instance : IsOne Tryz.prog 176 := ⟨fun _ => by kernel_rfl, fun _ => by kernel_rfl⟩
instance : NotInt Tryz.prog 176 := ⟨.inr ⟨179, by kernel_rfl⟩⟩
instance : SlOf Tryz.prog 176 179 4 := ⟨by kernel_rfl, fun _ => by kernel_rfl⟩
instance : ElOf Tryz.prog 176 1 24 := elOf_mk (by kernel_rfl) (by decide)
instance : ZeroOf Tryz.prog 176 [(.slice none 0 0)] := ⟨(.slice none 0 0), fun _ => by kernel_rfl, by kernel_rfl⟩
instance : IsOne Tryz.prog 177 := ⟨fun _ => by kernel_rfl, fun _ => by kernel_rfl⟩
instance : ElOf Tryz.prog 177 1 8 := elOf_mk (by kernel_rfl) (by decide)
instance : ZeroOf Tryz.prog 177 [.nilFunc] := ⟨.nilFunc, fun _ => by kernel_rfl, by kernel_rfl⟩
instance : IsAgg Tryz.prog 178 4 := ⟨fun _ => by kernel_rfl, fun _ => by kernel_rfl⟩
instance : FldAt Tryz.prog 178 0 0 := ⟨fun _ _ _ => by kernel_rfl⟩
instance : FldAt Tryz.prog 178 1 1 := ⟨fun _ _ _ => by kernel_rfl⟩
instance : FldAt Tryz.prog 178 2 2 := ⟨fun _ _ _ => by kernel_rfl⟩
instance : FldAt Tryz.prog 178 3 3 := ⟨fun _ _ _ => by kernel_rfl⟩
instance : ElOf Tryz.prog 178 4 32 := elOf_mk (by kernel_rfl) (by decide)
instance : ZeroOf Tryz.prog 178 [(.int .i32 0), (.int .i64 0), (.int .i64 0), (.bool false)] := ⟨(.agg #[(.int .i32 0), (.int .i64 0), (.int .i64 0), (.bool false)]), fun _ => by kernel_rfl, by kernel_rfl⟩
instance : PlacesOf Tryz.prog 178 [(0, 1), (1, 1), (2, 1), (3, 1)] [(.int .i32 0), (.int .i64 0), (.int .i64 0), (.bool false)] := placesOf_mk (Tryz.prog.fieldsOf 178) (.agg #[(.int .i32 0), (.int .i64 0), (.int .i64 0), (.bool false)]) (fun _ => by kernel_rfl) (by kernel_rfl) (by kernel_rfl) (fun _ => by kernel_rfl)
instance : IsAgg Tryz.prog 179 4 := ⟨fun _ => by kernel_rfl, fun _ => by kernel_rfl⟩
instance : FldAt Tryz.prog 179 0 0 := ⟨fun _ _ _ => by kernel_rfl⟩
instance : FldAt Tryz.prog 179 1 1 := ⟨fun _ _ _ => by kernel_rfl⟩
instance : FldAt Tryz.prog 179 2 2 := ⟨fun _ _ _ => by kernel_rfl⟩
instance : FldAt Tryz.prog 179 3 3 := ⟨fun _ _ _ => by kernel_rfl⟩
set_option maxRecDepth 100000 in
instance : FlatEq Tryz.prog 179 [.int .i32, .int .i64, .int .i64, .bool] := ⟨by kernel_rfl, .cons (by kernel_rfl) (of_decide_eq_true (by kernel_rfl)) (fun _ => by kernel_rfl) (by kernel_rfl) (.cons (by kernel_rfl) (of_decide_eq_true (by kernel_rfl)) (fun _ => by kernel_rfl) (by kernel_rfl) (.cons (by kernel_rfl) (of_decide_eq_true (by kernel_rfl)) (fun _ => by kernel_rfl) (by kernel_rfl) (.cons (by kernel_rfl) (of_decide_eq_true (by kernel_rfl)) (fun _ => by kernel_rfl) (by kernel_rfl) (.nil)))), by kernel_rfl, by kernel_rfl⟩
instance : ElOf Tryz.prog 179 4 32 := elOf_mk (by kernel_rfl) (by decide)
instance : ZeroOf Tryz.prog 179 [(.int .i32 0), (.int .i64 0), (.int .i64 0), (.bool false)] := ⟨(.agg #[(.int .i32 0), (.int .i64 0), (.int .i64 0), (.bool false)]), fun _ => by kernel_rfl, by kernel_rfl⟩
instance : PlacesOf Tryz.prog 179 [(0, 1), (1, 1), (2, 1), (3, 1)] [(.int .i32 0), (.int .i64 0), (.int .i64 0), (.bool false)] := placesOf_mk (Tryz.prog.fieldsOf 179) (.agg #[(.int .i32 0), (.int .i64 0), (.int .i64 0), (.bool false)]) (fun _ => by kernel_rfl) (by kernel_rfl) (by kernel_rfl) (fun _ => by kernel_rfl)
instance : IsOne Tryz.prog 180 := ⟨fun _ => by kernel_rfl, fun _ => by kernel_rfl⟩
instance : ElOf Tryz.prog 180 1 8 := elOf_mk (by kernel_rfl) (by decide)
instance : ZeroOf Tryz.prog 180 [.nilFunc] := ⟨.nilFunc, fun _ => by kernel_rfl, by kernel_rfl⟩
instance : IsOne Tryz.prog 181 := ⟨fun _ => by kernel_rfl, fun _ => by kernel_rfl⟩
instance : ElOf Tryz.prog 181 1 8 := elOf_mk (by kernel_rfl) (by decide)
instance : ZeroOf Tryz.prog 181 [.nilFunc] := ⟨.nilFunc, fun _ => by kernel_rfl, by kernel_rfl⟩
instance : IsOne Tryz.prog 182 := ⟨fun _ => by kernel_rfl, fun _ => by kernel_rfl⟩
instance : ElOf Tryz.prog 182 1 8 := elOf_mk (by kernel_rfl) (by decide)
instance : ZeroOf Tryz.prog 182 [.nilFunc] := ⟨.nilFunc, fun _ => by kernel_rfl, by kernel_rfl⟩
instance : IsOne Tryz.prog 183 := ⟨fun _ => by kernel_rfl, fun _ => by kernel_rfl⟩
instance : ElOf Tryz.prog 183 1 8 := elOf_mk (by kernel_rfl) (by decide)
instance : ZeroOf Tryz.prog 183 [.nilFunc] := ⟨.nilFunc, fun _ => by kernel_rfl, by kernel_rfl⟩
instance : IsOne Tryz.prog 184 := ⟨fun _ => by kernel_rfl, fun _ => by kernel_rfl⟩
instance : ElOf Tryz.prog 184 1 8 := elOf_mk (by kernel_rfl) (by decide)
instance : ZeroOf Tryz.prog 184 [.nilFunc] := ⟨.nilFunc, fun _ => by kernel_rfl, by kernel_rfl⟩
instance : IsOne Tryz.prog 185 := ⟨fun _ => by kernel_rfl, fun _ => by kernel_rfl⟩
instance : ElOf Tryz.prog 185 1 8 := elOf_mk (by kernel_rfl) (by decide)
instance : ZeroOf Tryz.prog 185 [.nilFunc] := ⟨.nilFunc, fun _ => by kernel_rfl, by kernel_rfl⟩
instance : IsOne Tryz.prog 186 := ⟨fun _ => by kernel_rfl, fun _ => by kernel_rfl⟩
instance : ElOf Tryz.prog 186 1 8 := elOf_mk (by kernel_rfl) (by decide)
instance : ZeroOf Tryz.prog 186 [.nilFunc] := ⟨.nilFunc, fun _ => by kernel_rfl, by kernel_rfl⟩
instance : IsOne Tryz.prog 187 := ⟨fun _ => by kernel_rfl, fun _ => by kernel_rfl⟩
instance : IntT Tryz.prog 187 .u64 := ⟨by kernel_rfl⟩
instance : ElOf Tryz.prog 187 1 8 := elOf_mk (by kernel_rfl) (by decide)
instance : ZeroOf Tryz.prog 187 [(.int .u64 0)] := ⟨(.int .u64 0), fun _ => by kernel_rfl, by kernel_rfl⟩
instance : IsOne Tryz.prog 188 := ⟨fun _ => by kernel_rfl, fun _ => by kernel_rfl⟩
instance : ElOf Tryz.prog 188 1 8 := elOf_mk (by kernel_rfl) (by decide)
instance : ZeroOf Tryz.prog 188 [.nilFunc] := ⟨.nilFunc, fun _ => by kernel_rfl, by kernel_rfl⟩
instance : IsOne Tryz.prog 189 := ⟨fun _ => by kernel_rfl, fun _ => by kernel_rfl⟩
instance : ElOf Tryz.prog 189 1 8 := elOf_mk (by kernel_rfl) (by decide)
instance : ZeroOf Tryz.prog 189 [.nilFunc] := ⟨.nilFunc, fun _ => by kernel_rfl, by kernel_rfl⟩
instance : IsOne Tryz.prog 190 := ⟨fun _ => by kernel_rfl, fun _ => by kernel_rfl⟩
instance : ElOf Tryz.prog 190 1 8 := elOf_mk (by kernel_rfl) (by decide)
instance : ZeroOf Tryz.prog 190 [.nilFunc] := ⟨.nilFunc, fun _ => by kernel_rfl, by kernel_rfl⟩
instance : IsOne Tryz.prog 191 := ⟨fun _ => by kernel_rfl, fun _ => by kernel_rfl⟩
instance : ElOf Tryz.prog 191 1 8 := elOf_mk (by kernel_rfl) (by decide)
instance : ZeroOf Tryz.prog 191 [(.pointer none)] := ⟨(.pointer none), fun _ => by kernel_rfl, by kernel_rfl⟩
instance : IsOne Tryz.prog 192 := ⟨fun _ => by kernel_rfl, fun _ => by kernel_rfl⟩
instance : ElOf Tryz.prog 192 1 8 := elOf_mk (by kernel_rfl) (by decide)
instance : ZeroOf Tryz.prog 192 [.nilFunc] := ⟨.nilFunc, fun _ => by kernel_rfl, by kernel_rfl⟩
instance : IsOne Tryz.prog 193 := ⟨fun _ => by kernel_rfl, fun _ => by kernel_rfl⟩
instance : ElOf Tryz.prog 193 1 8 := elOf_mk (by kernel_rfl) (by decide)
instance : ZeroOf Tryz.prog 193 [.nilFunc] := ⟨.nilFunc, fun _ => by kernel_rfl, by kernel_rfl⟩
instance : IsAgg Tryz.prog 194 24 := ⟨fun _ => by kernel_rfl, fun _ => by kernel_rfl⟩
instance : ElOf Tryz.prog 194 24 24 := elOf_mk (by kernel_rfl) (by decide)
instance : ZeroOf Tryz.prog 194 [(.int .u8 0), (.int .u8 0), (.int .u8 0), (.int .u8 0), (.int .u8 0), (.int .u8 0), (.int .u8 0), (.int .u8 0), (.int .u8 0), (.int .u8 0), (.int .u8 0), (.int .u8 0), (.int .u8 0), (.int .u8 0), (.int .u8 0), (.int .u8 0), (.int .u8 0), (.int .u8 0), (.int .u8 0), (.int .u8 0), (.int .u8 0), (.int .u8 0), (.int .u8 0), (.int .u8 0)] := ⟨(.agg #[(.int .u8 0), (.int .u8 0), (.int .u8 0), (.int .u8 0), (.int .u8 0), (.int .u8 0), (.int .u8 0), (.int .u8 0), (.int .u8 0), (.int .u8 0), (.int .u8 0), (.int .u8 0), (.int .u8 0), (.int .u8 0), (.int .u8 0), (.int .u8 0), (.int .u8 0), (.int .u8 0), (.int .u8 0), (.int .u8 0), (.int .u8 0), (.int .u8 0), (.int .u8 0), (.int .u8 0)]), fun _ => by kernel_rfl, by kernel_rfl⟩
instance : IsOne Tryz.prog 195 := ⟨fun _ => by kernel_rfl, fun _ => by kernel_rfl⟩
instance : ElOf Tryz.prog 195 1 8 := elOf_mk (by kernel_rfl) (by decide)
instance : ZeroOf Tryz.prog 195 [.nilFunc] := ⟨.nilFunc, fun _ => by kernel_rfl, by kernel_rfl⟩
instance : IsOne Tryz.prog 197 := ⟨fun _ => by kernel_rfl, fun _ => by kernel_rfl⟩
instance : ElOf Tryz.prog 197 1 8 := elOf_mk (by kernel_rfl) (by decide)
instance : ZeroOf Tryz.prog 197 [.nilFunc] := ⟨.nilFunc, fun _ => by kernel_rfl, by kernel_rfl⟩
instance : IsOne Tryz.prog 198 := ⟨fun _ => by kernel_rfl, fun _ => by kernel_rfl⟩
instance : ElOf Tryz.prog 198 1 8 := elOf_mk (by kernel_rfl) (by decide)
instance : ZeroOf Tryz.prog 198 [.nilFunc] := ⟨.nilFunc, fun _ => by kernel_rfl, by kernel_rfl⟩
instance : IsOne Tryz.prog 200 := ⟨fun _ => by kernel_rfl, fun _ => by kernel_rfl⟩
instance : ElOf Tryz.prog 200 1 8 := elOf_mk (by kernel_rfl) (by decide)
instance : ZeroOf Tryz.prog 200 [.nilFunc] := ⟨.nilFunc, fun _ => by kernel_rfl, by kernel_rfl⟩
instance : IsOne Tryz.prog 201 := ⟨fun _ => by kernel_rfl, fun _ => by kernel_rfl⟩
instance : ElOf Tryz.prog 201 1 8 := elOf_mk (by kernel_rfl) (by decide)
instance : ZeroOf Tryz.prog 201 [.nilFunc] := ⟨.nilFunc, fun _ => by kernel_rfl, by kernel_rfl⟩
instance : IsOne Tryz.prog 202 := ⟨fun _ => by kernel_rfl, fun _ => by kernel_rfl⟩
instance : ElOf Tryz.prog 202 1 8 := elOf_mk (by kernel_rfl) (by decide)
instance : ZeroOf Tryz.prog 202 [(.pointer none)] := ⟨(.pointer none), fun _ => by kernel_rfl, by kernel_rfl⟩
instance : IsOne Tryz.prog 204 := ⟨fun _ => by kernel_rfl, fun _ => by kernel_rfl⟩
instance : ElOf Tryz.prog 204 1 8 := elOf_mk (by kernel_rfl) (by decide)
instance : ZeroOf Tryz.prog 204 [.nilFunc] := ⟨.nilFunc, fun _ => by kernel_rfl, by kernel_rfl⟩
instance : IsAgg Tryz.prog 205 20 := ⟨fun _ => by kernel_rfl, fun _ => by kernel_rfl⟩
instance : ElOf Tryz.prog 205 20 160 := elOf_mk (by kernel_rfl) (by decide)
instance : ZeroOf Tryz.prog 205 [(.int .u64 0), (.int .u64 0), (.int .u64 0), (.int .u64 0), (.int .u64 0), (.int .u64 0), (.int .u64 0), (.int .u64 0), (.int .u64 0), (.int .u64 0), (.int .u64 0), (.int .u64 0), (.int .u64 0), (.int .u64 0), (.int .u64 0), (.int .u64 0), (.int .u64 0), (.int .u64 0), (.int .u64 0), (.int .u64 0)] := ⟨(.agg #[(.int .u64 0), (.int .u64 0), (.int .u64 0), (.int .u64 0), (.int .u64 0), (.int .u64 0), (.int .u64 0), (.int .u64 0), (.int .u64 0), (.int .u64 0), (.int .u64 0), (.int .u64 0), (.int .u64 0), (.int .u64 0), (.int .u64 0), (.int .u64 0), (.int .u64 0), (.int .u64 0), (.int .u64 0), (.int .u64 0)]), fun _ => by kernel_rfl, by kernel_rfl⟩
instance : IsAgg Tryz.prog 206 65 := ⟨fun _ => by kernel_rfl, fun _ => by kernel_rfl⟩
instance : IsAgg Tryz.prog 207 32 := ⟨fun _ => by kernel_rfl, fun _ => by kernel_rfl⟩
instance : ElOf Tryz.prog 207 32 32 := elOf_mk (by kernel_rfl) (by decide)
instance : ZeroOf Tryz.prog 207 [(.int .u8 0), (.int .u8 0), (.int .u8 0), (.int .u8 0), (.int .u8 0), (.int .u8 0), (.int .u8 0), (.int .u8 0), (.int .u8 0), (.int .u8 0), (.int .u8 0), (.int .u8 0), (.int .u8 0), (.int .u8 0), (.int .u8 0), (.int .u8 0), (.int .u8 0), (.int .u8 0), (.int .u8 0), (.int .u8 0), (.int .u8 0), (.int .u8 0), (.int .u8 0), (.int .u8 0), (.int .u8 0), (.int .u8 0), (.int .u8 0), (.int .u8 0), (.int .u8 0), (.int .u8 0), (.int .u8 0), (.int .u8 0)] := ⟨(.agg #[(.int .u8 0), (.int .u8 0), (.int .u8 0), (.int .u8 0), (.int .u8 0), (.int .u8 0), (.int .u8 0), (.int .u8 0), (.int .u8 0), (.int .u8 0), (.int .u8 0), (.int .u8 0), (.int .u8 0), (.int .u8 0), (.int .u8 0), (.int .u8 0), (.int .u8 0), (.int .u8 0), (.int .u8 0), (.int .u8 0), (.int .u8 0), (.int .u8 0), (.int .u8 0), (.int .u8 0), (.int .u8 0), (.int .u8 0), (.int .u8 0), (.int .u8 0), (.int .u8 0), (.int .u8 0), (.int .u8 0), (.int .u8 0)]), fun _ => by kernel_rfl, by kernel_rfl⟩
instance : IsAgg Tryz.prog 208 64 := ⟨fun _ => by kernel_rfl, fun _ => by kernel_rfl⟩
instance : ElOf Tryz.prog 208 64 64 := elOf_mk (by kernel_rfl) (by decide)
instance : ZeroOf Tryz.prog 208 [(.int .u8 0), (.int .u8 0), (.int .u8 0), (.int .u8 0), (.int .u8 0), (.int .u8 0), (.int .u8 0), (.int .u8 0), (.int .u8 0), (.int .u8 0), (.int .u8 0), (.int .u8 0), (.int .u8 0), (.int .u8 0), (.int .u8 0), (.int .u8 0), (.int .u8 0), (.int .u8 0), (.int .u8 0), (.int .u8 0), (.int .u8 0), (.int .u8 0), (.int .u8 0), (.int .u8 0), (.int .u8 0), (.int .u8 0), (.int .u8 0), (.int .u8 0), (.int .u8 0), (.int .u8 0), (.int .u8 0), (.int .u8 0), (.int .u8 0), (.int .u8 0), (.int .u8 0), (.int .u8 0), (.int .u8 0), (.int .u8 0), (.int .u8 0), (.int .u8 0), (.int .u8 0), (.int .u8 0), (.int .u8 0), (.int .u8 0), (.int .u8 0), (.int .u8 0), (.int .u8 0), (.int .u8 0), (.int .u8 0), (.int .u8 0), (.int .u8 0), (.int .u8 0), (.int .u8 0), (.int .u8 0), (.int .u8 0), (.int .u8 0), (.int .u8 0), (.int .u8 0), (.int .u8 0), (.int .u8 0), (.int .u8 0), (.int .u8 0), (.int .u8 0), (.int .u8 0)] := ⟨(.agg #[(.int .u8 0), (.int .u8 0), (.int .u8 0), (.int .u8 0), (.int .u8 0), (.int .u8 0), (.int .u8 0), (.int .u8 0), (.int .u8 0), (.int .u8 0), (.int .u8 0), (.int .u8 0), (.int .u8 0), (.int .u8 0), (.int .u8 0), (.int .u8 0), (.int .u8 0), (.int .u8 0), (.int .u8 0), (.int .u8 0), (.int .u8 0), (.int .u8 0), (.int .u8 0), (.int .u8 0), (.int .u8 0), (.int .u8 0), (.int .u8 0), (.int .u8 0), (.int .u8 0), (.int .u8 0), (.int .u8 0), (.int .u8 0), (.int .u8 0), (.int .u8 0), (.int .u8 0), (.int .u8 0), (.int .u8 0), (.int .u8 0), (.int .u8 0), (.int .u8 0), (.int .u8 0), (.int .u8 0), (.int .u8 0), (.int .u8 0), (.int .u8 0), (.int .u8 0), (.int .u8 0), (.int .u8 0), (.int .u8 0), (.int .u8 0), (.int .u8 0), (.int .u8 0), (.int .u8 0), (.int .u8 0), (.int .u8 0), (.int .u8 0), (.int .u8 0), (.int .u8 0), (.int .u8 0), (.int .u8 0), (.int .u8 0), (.int .u8 0), (.int .u8 0), (.int .u8 0)]), fun _ => by kernel_rfl, by kernel_rfl⟩
instance : IsOne Tryz.prog 209 := ⟨fun _ => by kernel_rfl, fun _ => by kernel_rfl⟩
instance : ElOf Tryz.prog 209 1 8 := elOf_mk (by kernel_rfl) (by decide)
instance : ZeroOf Tryz.prog 209 [.nilFunc] := ⟨.nilFunc, fun _ => by kernel_rfl, by kernel_rfl⟩
instance : IsAgg Tryz.prog 210 4 := ⟨fun _ => by kernel_rfl, fun _ => by kernel_rfl⟩
instance : FldAt Tryz.prog 210 0 0 := ⟨fun _ _ _ => by kernel_rfl⟩
instance : FldAt Tryz.prog 210 1 1 := ⟨fun _ _ _ => by kernel_rfl⟩
instance : FldAt Tryz.prog 210 2 2 := ⟨fun _ _ _ => by kernel_rfl⟩
instance : FldAt Tryz.prog 210 3 3 := ⟨fun _ _ _ => by kernel_rfl⟩
instance : ElOf Tryz.prog 210 4 40 := elOf_mk (by kernel_rfl) (by decide)
instance : ZeroOf Tryz.prog 210 [(.pointer none), (.pointer none), (.pointer none), (.string ⟨#[]⟩)] := ⟨(.agg #[(.pointer none), (.pointer none), (.pointer none), (.string ⟨#[]⟩)]), fun _ => by kernel_rfl, by kernel_rfl⟩
instance : PlacesOf Tryz.prog 210 [(0, 1), (1, 1), (2, 1), (3, 1)] [(.pointer none), (.pointer none), (.pointer none), (.string ⟨#[]⟩)] := placesOf_mk (Tryz.prog.fieldsOf 210) (.agg #[(.pointer none), (.pointer none), (.pointer none), (.string ⟨#[]⟩)]) (fun _ => by kernel_rfl) (by kernel_rfl) (by kernel_rfl) (fun _ => by kernel_rfl)
instance : IsAgg Tryz.prog 211 4 := ⟨fun _ => by kernel_rfl, fun _ => by kernel_rfl⟩
instance : FldAt Tryz.prog 211 0 0 := ⟨fun _ _ _ => by kernel_rfl⟩
instance : FldAt Tryz.prog 211 1 1 := ⟨fun _ _ _ => by kernel_rfl⟩
instance : FldAt Tryz.prog 211 2 2 := ⟨fun _ _ _ => by kernel_rfl⟩
instance : FldAt Tryz.prog 211 3 3 := ⟨fun _ _ _ => by kernel_rfl⟩
instance : ElOf Tryz.prog 211 4 40 := elOf_mk (by kernel_rfl) (by decide)
instance : ZeroOf Tryz.prog 211 [(.pointer none), (.pointer none), (.pointer none), (.string ⟨#[]⟩)] := ⟨(.agg #[(.pointer none), (.pointer none), (.pointer none), (.string ⟨#[]⟩)]), fun _ => by kernel_rfl, by kernel_rfl⟩
instance : PlacesOf Tryz.prog 211 [(0, 1), (1, 1), (2, 1), (3, 1)] [(.pointer none), (.pointer none), (.pointer none), (.string ⟨#[]⟩)] := placesOf_mk (Tryz.prog.fieldsOf 211) (.agg #[(.pointer none), (.pointer none), (.pointer none), (.string ⟨#[]⟩)]) (fun _ => by kernel_rfl) (by kernel_rfl) (by kernel_rfl) (fun _ => by kernel_rfl)
instance : IsOne Tryz.prog 215 := ⟨fun _ => by kernel_rfl, fun _ => by kernel_rfl⟩
instance : ElOf Tryz.prog 215 1 8 := elOf_mk (by kernel_rfl) (by decide)
instance : ZeroOf Tryz.prog 215 [.nilFunc] := ⟨.nilFunc, fun _ => by kernel_rfl, by kernel_rfl⟩
instance : IsOne Tryz.prog 216 := ⟨fun _ => by kernel_rfl, fun _ => by kernel_rfl⟩
instance : IntT Tryz.prog 216 .u8 := ⟨by kernel_rfl⟩
instance : ElOf Tryz.prog 216 1 1 := elOf_mk (by kernel_rfl) (by decide)
instance : ZeroOf Tryz.prog 216 [(.int .u8 0)] := ⟨(.int .u8 0), fun _ => by kernel_rfl, by kernel_rfl⟩
instance : IsOne Tryz.prog 217 := ⟨fun _ => by kernel_rfl, fun _ => by kernel_rfl⟩
instance : IntT Tryz.prog 217 .u8 := ⟨by kernel_rfl⟩
instance : ElOf Tryz.prog 217 1 1 := elOf_mk (by kernel_rfl) (by decide)
instance : ZeroOf Tryz.prog 217 [(.int .u8 0)] := ⟨(.int .u8 0), fun _ => by kernel_rfl, by kernel_rfl⟩
instance : IsOne Tryz.prog 218 := ⟨fun _ => by kernel_rfl, fun _ => by kernel_rfl⟩
instance : ElOf Tryz.prog 218 1 8 := elOf_mk (by kernel_rfl) (by decide)
instance : ZeroOf Tryz.prog 218 [.nilFunc] := ⟨.nilFunc, fun _ => by kernel_rfl, by kernel_rfl⟩
instance : IsOne Tryz.prog 219 := ⟨fun _ => by kernel_rfl, fun _ => by kernel_rfl⟩
instance : ElOf Tryz.prog 219 1 8 := elOf_mk (by kernel_rfl) (by decide)
instance : ZeroOf Tryz.prog 219 [(.pointer none)] := ⟨(.pointer none), fun _ => by kernel_rfl, by kernel_rfl⟩
instance : IsOne Tryz.prog 220 := ⟨fun _ => by kernel_rfl, fun _ => by kernel_rfl⟩
instance : IntT Tryz.prog 220 .i32 := ⟨by kernel_rfl⟩
instance : ElOf Tryz.prog 220 1 4 := elOf_mk (by kernel_rfl) (by decide)
instance : ZeroOf Tryz.prog 220 [(.int .i32 0)] := ⟨(.int .i32 0), fun _ => by kernel_rfl, by kernel_rfl⟩
instance : IsOne Tryz.prog 221 := ⟨fun _ => by kernel_rfl, fun _ => by kernel_rfl⟩
instance : IntT Tryz.prog 221 .i32 := ⟨by kernel_rfl⟩
instance : ElOf Tryz.prog 221 1 4 := elOf_mk (by kernel_rfl) (by decide)
instance : ZeroOf Tryz.prog 221 [(.int .i32 0)] := ⟨(.int .i32 0), fun _ => by kernel_rfl, by kernel_rfl⟩
instance : IsAgg Tryz.prog 222 11 := ⟨fun _ => by kernel_rfl, fun _ => by kernel_rfl⟩
instance : FldAt Tryz.prog 222 0 0 := ⟨fun _ _ _ => by kernel_rfl⟩
instance : FldAt Tryz.prog 222 1 1 := ⟨fun _ _ _ => by kernel_rfl⟩
instance : FldAt Tryz.prog 222 2 2 := ⟨fun _ _ _ => by kernel_rfl⟩
instance : FldAt Tryz.prog 222 3 3 := ⟨fun _ _ _ => by kernel_rfl⟩
instance : FldAt Tryz.prog 222 4 4 := ⟨fun _ _ _ => by kernel_rfl⟩
instance : FldAt Tryz.prog 222 5 5 := ⟨fun _ _ _ => by kernel_rfl⟩
instance : FldAt Tryz.prog 222 6 6 := ⟨fun _ _ _ => by kernel_rfl⟩
instance : FldAt Tryz.prog 222 7 7 := ⟨fun _ _ _ => by kernel_rfl⟩
instance : FldAt Tryz.prog 222 8 8 := ⟨fun _ _ _ => by kernel_rfl⟩
instance : FldAt Tryz.prog 222 9 9 := ⟨fun _ _ _ => by kernel_rfl⟩
instance : FldAt Tryz.prog 222 10 10 := ⟨fun _ _ _ => by kernel_rfl⟩
instance : ElOf Tryz.prog 222 11 48 := elOf_mk (by kernel_rfl) (by decide)
instance : ZeroOf Tryz.prog 222 [(.int .u64 0), (.int .u64 0), (.int .u32 0), (.int .u8 0), (.int .u8 0), (.int .u8 0), (.int .u8 0), .nilFunc, (.pointer none), (.int .i32 0), (.int .i32 0)] := ⟨(.agg #[(.int .u64 0), (.int .u64 0), (.int .u32 0), (.int .u8 0), (.int .u8 0), (.int .u8 0), (.int .u8 0), .nilFunc, (.pointer none), (.int .i32 0), (.int .i32 0)]), fun _ => by kernel_rfl, by kernel_rfl⟩
instance : PlacesOf Tryz.prog 222 [(0, 1), (1, 1), (2, 1), (3, 1), (4, 1), (5, 1), (6, 1), (7, 1), (8, 1), (9, 1), (10, 1)] [(.int .u64 0), (.int .u64 0), (.int .u32 0), (.int .u8 0), (.int .u8 0), (.int .u8 0), (.int .u8 0), .nilFunc, (.pointer none), (.int .i32 0), (.int .i32 0)] := placesOf_mk (Tryz.prog.fieldsOf 222) (.agg #[(.int .u64 0), (.int .u64 0), (.int .u32 0), (.int .u8 0), (.int .u8 0), (.int .u8 0), (.int .u8 0), .nilFunc, (.pointer none), (.int .i32 0), (.int .i32 0)]) (fun _ => by kernel_rfl) (by kernel_rfl) (by kernel_rfl) (fun _ => by kernel_rfl)
instance : IsAgg Tryz.prog 223 11 := ⟨fun _ => by kernel_rfl, fun _ => by kernel_rfl⟩
instance : FldAt Tryz.prog 223 0 0 := ⟨fun _ _ _ => by kernel_rfl⟩
instance : FldAt Tryz.prog 223 1 1 := ⟨fun _ _ _ => by kernel_rfl⟩
instance : FldAt Tryz.prog 223 2 2 := ⟨fun _ _ _ => by kernel_rfl⟩
instance : FldAt Tryz.prog 223 3 3 := ⟨fun _ _ _ => by kernel_rfl⟩
instance : FldAt Tryz.prog 223 4 4 := ⟨fun _ _ _ => by kernel_rfl⟩
instance : FldAt Tryz.prog 223 5 5 := ⟨fun _ _ _ => by kernel_rfl⟩
instance : FldAt Tryz.prog 223 6 6 := ⟨fun _ _ _ => by kernel_rfl⟩
instance : FldAt Tryz.prog 223 7 7 := ⟨fun _ _ _ => by kernel_rfl⟩
instance : FldAt Tryz.prog 223 8 8 := ⟨fun _ _ _ => by kernel_rfl⟩
instance : FldAt Tryz.prog 223 9 9 := ⟨fun _ _ _ => by kernel_rfl⟩
instance : FldAt Tryz.prog 223 10 10 := ⟨fun _ _ _ => by kernel_rfl⟩
instance : ElOf Tryz.prog 223 11 48 := elOf_mk (by kernel_rfl) (by decide)
instance : ZeroOf Tryz.prog 223 [(.int .u64 0), (.int .u64 0), (.int .u32 0), (.int .u8 0), (.int .u8 0), (.int .u8 0), (.int .u8 0), .nilFunc, (.pointer none), (.int .i32 0), (.int .i32 0)] := ⟨(.agg #[(.int .u64 0), (.int .u64 0), (.int .u32 0), (.int .u8 0), (.int .u8 0), (.int .u8 0), (.int .u8 0), .nilFunc, (.pointer none), (.int .i32 0), (.int .i32 0)]), fun _ => by kernel_rfl, by kernel_rfl⟩
instance : PlacesOf Tryz.prog 223 [(0, 1), (1, 1), (2, 1), (3, 1), (4, 1), (5, 1), (6, 1), (7, 1), (8, 1), (9, 1), (10, 1)] [(.int .u64 0), (.int .u64 0), (.int .u32 0), (.int .u8 0), (.int .u8 0), (.int .u8 0), (.int .u8 0), .nilFunc, (.pointer none), (.int .i32 0), (.int .i32 0)] := placesOf_mk (Tryz.prog.fieldsOf 223) (.agg #[(.int .u64 0), (.int .u64 0), (.int .u32 0), (.int .u8 0), (.int .u8 0), (.int .u8 0), (.int .u8 0), .nilFunc, (.pointer none), (.int .i32 0), (.int .i32 0)]) (fun _ => by kernel_rfl) (by kernel_rfl) (by kernel_rfl) (fun _ => by kernel_rfl)
instance : IsOne Tryz.prog 224 := ⟨fun _ => by kernel_rfl, fun _ => by kernel_rfl⟩
instance : ElOf Tryz.prog 224 1 8 := elOf_mk (by kernel_rfl) (by decide)
instance : ZeroOf Tryz.prog 224 [(.pointer none)] := ⟨(.pointer none), fun _ => by kernel_rfl, by kernel_rfl⟩
instance : Mixed Tryz.prog := ⟨by kernel_rfl⟩
instance : Ent Tryz.prog 3 := ⟨enters_of Tryz.func3 (by kernel_rfl) rfl⟩
instance : Ent Tryz.prog 4 := ⟨enters_of Tryz.func4 (by kernel_rfl) rfl⟩
instance : Ent Tryz.prog 5 := ⟨enters_of Tryz.func5 (by kernel_rfl) rfl⟩
instance : Ent Tryz.prog 6 := ⟨enters_of Tryz.func6 (by kernel_rfl) rfl⟩
instance : Ent Tryz.prog 7 := ⟨enters_of Tryz.func7 (by kernel_rfl) rfl⟩
instance : Ent Tryz.prog 8 := ⟨enters_of Tryz.func8 (by kernel_rfl) rfl⟩
instance : Ent Tryz.prog 9 := ⟨enters_of Tryz.func9 (by kernel_rfl) rfl⟩
instance : Ent Tryz.prog 10 := ⟨enters_of Tryz.func10 (by kernel_rfl) rfl⟩
instance : Ent Tryz.prog 11 := ⟨enters_of Tryz.func11 (by kernel_rfl) rfl⟩
instance : Ent Tryz.prog 12 := ⟨enters_of Tryz.func12 (by kernel_rfl) rfl⟩
instance : Ent Tryz.prog 13 := ⟨enters_of Tryz.func13 (by kernel_rfl) rfl⟩
instance : Ent Tryz.prog 14 := ⟨enters_of Tryz.func14 (by kernel_rfl) rfl⟩
instance : Ent Tryz.prog 15 := ⟨enters_of Tryz.func15 (by kernel_rfl) rfl⟩
instance : Ent Tryz.prog 16 := ⟨enters_of Tryz.func16 (by kernel_rfl) rfl⟩
instance : Ent Tryz.prog 17 := ⟨enters_of Tryz.func17 (by kernel_rfl) rfl⟩
instance : Ent Tryz.prog 18 := ⟨enters_of Tryz.func18 (by kernel_rfl) rfl⟩
instance : Ent Tryz.prog 19 := ⟨enters_of Tryz.func19 (by kernel_rfl) rfl⟩
instance : Ent Tryz.prog 20 := ⟨enters_of Tryz.func20 (by kernel_rfl) rfl⟩
instance : Ent Tryz.prog 21 := ⟨enters_of Tryz.func21 (by kernel_rfl) rfl⟩
instance : Ent Tryz.prog 22 := ⟨enters_of Tryz.func22 (by kernel_rfl) rfl⟩
instance : Ent Tryz.prog 23 := ⟨enters_of Tryz.func23 (by kernel_rfl) rfl⟩
instance : Ent Tryz.prog 24 := ⟨enters_of Tryz.func24 (by kernel_rfl) rfl⟩
instance : Ent Tryz.prog 25 := ⟨enters_of Tryz.func25 (by kernel_rfl) rfl⟩
instance : Ent Tryz.prog 26 := ⟨enters_of Tryz.func26 (by kernel_rfl) rfl⟩
instance : Ent Tryz.prog 27 := ⟨enters_of Tryz.func27 (by kernel_rfl) rfl⟩
instance : Ent Tryz.prog 28 := ⟨enters_of Tryz.func28 (by kernel_rfl) rfl⟩
instance : Ent Tryz.prog 29 := ⟨enters_of Tryz.func29 (by kernel_rfl) rfl⟩
instance : Ent Tryz.prog 30 := ⟨enters_of Tryz.func30 (by kernel_rfl) rfl⟩
instance : Ent Tryz.prog 31 := ⟨enters_of Tryz.func31 (by kernel_rfl) rfl⟩
instance : Ent Tryz.prog 32 := ⟨enters_of Tryz.func32 (by kernel_rfl) rfl⟩
instance : Ent Tryz.prog 33 := ⟨enters_of Tryz.func33 (by kernel_rfl) rfl⟩
instance : Ent Tryz.prog 34 := ⟨enters_of Tryz.func34 (by kernel_rfl) rfl⟩
instance : Ent Tryz.prog 35 := ⟨enters_of Tryz.func35 (by kernel_rfl) rfl⟩
instance : Ent Tryz.prog 36 := ⟨enters_of Tryz.func36 (by kernel_rfl) rfl⟩
instance : Ent Tryz.prog 37 := ⟨enters_of Tryz.func37 (by kernel_rfl) rfl⟩
instance : Ent Tryz.prog 38 := ⟨enters_of Tryz.func38 (by kernel_rfl) rfl⟩
instance : Ent Tryz.prog 39 := ⟨enters_of Tryz.func39 (by kernel_rfl) rfl⟩
instance : Ent Tryz.prog 40 := ⟨enters_of Tryz.func40 (by kernel_rfl) rfl⟩
instance : Ent Tryz.prog 41 := ⟨enters_of Tryz.func41 (by kernel_rfl) rfl⟩
instance : Ent Tryz.prog 42 := ⟨enters_of Tryz.func42 (by kernel_rfl) rfl⟩
instance : Ent Tryz.prog 43 := ⟨enters_of Tryz.func43 (by kernel_rfl) rfl⟩
instance : Ent Tryz.prog 44 := ⟨enters_of Tryz.func44 (by kernel_rfl) rfl⟩
instance : Ent Tryz.prog 45 := ⟨enters_of Tryz.func45 (by kernel_rfl) rfl⟩
instance : Ent Tryz.prog 46 := ⟨enters_of Tryz.func46 (by kernel_rfl) rfl⟩
instance : Ent Tryz.prog 47 := ⟨enters_of Tryz.func47 (by kernel_rfl) rfl⟩
instance : Ent Tryz.prog 48 := ⟨enters_of Tryz.func48 (by kernel_rfl) rfl⟩
instance : Ent Tryz.prog 49 := ⟨enters_of Tryz.func49 (by kernel_rfl) rfl⟩
instance : Ent Tryz.prog 50 := ⟨enters_of Tryz.func50 (by kernel_rfl) rfl⟩
instance : Ent Tryz.prog 51 := ⟨enters_of Tryz.func51 (by kernel_rfl) rfl⟩
instance : Ent Tryz.prog 52 := ⟨enters_of Tryz.func52 (by kernel_rfl) rfl⟩
instance : Ent Tryz.prog 53 := ⟨enters_of Tryz.func53 (by kernel_rfl) rfl⟩
instance : Ent Tryz.prog 54 := ⟨enters_of Tryz.func54 (by kernel_rfl) rfl⟩
instance : Ent Tryz.prog 55 := ⟨enters_of Tryz.func55 (by kernel_rfl) rfl⟩
instance : Ent Tryz.prog 56 := ⟨enters_of Tryz.func56 (by kernel_rfl) rfl⟩
instance : Ent Tryz.prog 57 := ⟨enters_of Tryz.func57 (by kernel_rfl) rfl⟩
instance : Ent Tryz.prog 58 := ⟨enters_of Tryz.func58 (by kernel_rfl) rfl⟩
instance : Ent Tryz.prog 59 := ⟨enters_of Tryz.func59 (by kernel_rfl) rfl⟩
instance : Ent Tryz.prog 60 := ⟨enters_of Tryz.func60 (by kernel_rfl) rfl⟩
instance : Ent Tryz.prog 61 := ⟨enters_of Tryz.func61 (by kernel_rfl) rfl⟩
instance : Ent Tryz.prog 62 := ⟨enters_of Tryz.func62 (by kernel_rfl) rfl⟩
instance : Ent Tryz.prog 63 := ⟨enters_of Tryz.func63 (by kernel_rfl) rfl⟩
instance : Ent Tryz.prog 64 := ⟨enters_of Tryz.func64 (by kernel_rfl) rfl⟩
instance : Ent Tryz.prog 65 := ⟨enters_of Tryz.func65 (by kernel_rfl) rfl⟩
instance : Ent Tryz.prog 66 := ⟨enters_of Tryz.func66 (by kernel_rfl) rfl⟩
instance : Ent Tryz.prog 67 := ⟨enters_of Tryz.func67 (by kernel_rfl) rfl⟩
instance : Ent Tryz.prog 68 := ⟨enters_of Tryz.func68 (by kernel_rfl) rfl⟩
instance : Ent Tryz.prog 69 := ⟨enters_of Tryz.func69 (by kernel_rfl) rfl⟩
instance : Ent Tryz.prog 70 := ⟨enters_of Tryz.func70 (by kernel_rfl) rfl⟩
instance : Ent Tryz.prog 71 := ⟨enters_of Tryz.func71 (by kernel_rfl) rfl⟩
instance : Ent Tryz.prog 72 := ⟨enters_of Tryz.func72 (by kernel_rfl) rfl⟩
instance : Ent Tryz.prog 73 := ⟨enters_of Tryz.func73 (by kernel_rfl) rfl⟩
instance : Ent Tryz.prog 74 := ⟨enters_of Tryz.func74 (by kernel_rfl) rfl⟩
instance : Ent Tryz.prog 75 := ⟨enters_of Tryz.func75 (by kernel_rfl) rfl⟩
instance : Ent Tryz.prog 76 := ⟨enters_of Tryz.func76 (by kernel_rfl) rfl⟩
instance : Ent Tryz.prog 77 := ⟨enters_of Tryz.func77 (by kernel_rfl) rfl⟩
instance : Ent Tryz.prog 78 := ⟨enters_of Tryz.func78 (by kernel_rfl) rfl⟩
instance : Ent Tryz.prog 79 := ⟨enters_of Tryz.func79 (by kernel_rfl) rfl⟩
instance : Ent Tryz.prog 80 := ⟨enters_of Tryz.func80 (by kernel_rfl) rfl⟩
instance : Ent Tryz.prog 81 := ⟨enters_of Tryz.func81 (by kernel_rfl) rfl⟩
instance : Ent Tryz.prog 82 := ⟨enters_of Tryz.func82 (by kernel_rfl) rfl⟩
instance : Ent Tryz.prog 83 := ⟨enters_of Tryz.func83 (by kernel_rfl) rfl⟩
instance : Ent Tryz.prog 84 := ⟨enters_of Tryz.func84 (by kernel_rfl) rfl⟩
instance : Ent Tryz.prog 85 := ⟨enters_of Tryz.func85 (by kernel_rfl) rfl⟩
instance : Ent Tryz.prog 86 := ⟨enters_of Tryz.func86 (by kernel_rfl) rfl⟩
instance : Ent Tryz.prog 87 := ⟨enters_of Tryz.func87 (by kernel_rfl) rfl⟩
instance : Ent Tryz.prog 88 := ⟨enters_of Tryz.func88 (by kernel_rfl) rfl⟩
instance : Ent Tryz.prog 89 := ⟨enters_of Tryz.func89 (by kernel_rfl) rfl⟩
instance : Ent Tryz.prog 90 := ⟨enters_of Tryz.func90 (by kernel_rfl) rfl⟩
instance : Ent Tryz.prog 91 := ⟨enters_of Tryz.func91 (by kernel_rfl) rfl⟩
instance : Ent Tryz.prog 92 := ⟨enters_of Tryz.func92 (by kernel_rfl) rfl⟩
instance : Ent Tryz.prog 93 := ⟨enters_of Tryz.func93 (by kernel_rfl) rfl⟩
instance : Ent Tryz.prog 94 := ⟨enters_of Tryz.func94 (by kernel_rfl) rfl⟩
instance : Ent Tryz.prog 95 := ⟨enters_of Tryz.func95 (by kernel_rfl) rfl⟩
instance : Ent Tryz.prog 96 := ⟨enters_of Tryz.func96 (by kernel_rfl) rfl⟩
instance : Ent Tryz.prog 97 := ⟨enters_of Tryz.func97 (by kernel_rfl) rfl⟩
instance : Ent Tryz.prog 98 := ⟨enters_of Tryz.func98 (by kernel_rfl) rfl⟩
instance : Ent Tryz.prog 99 := ⟨enters_of Tryz.func99 (by kernel_rfl) rfl⟩
instance : Ent Tryz.prog 100 := ⟨enters_of Tryz.func100 (by kernel_rfl) rfl⟩
instance : Ent Tryz.prog 101 := ⟨enters_of Tryz.func101 (by kernel_rfl) rfl⟩
instance : Ent Tryz.prog 102 := ⟨enters_of Tryz.func102 (by kernel_rfl) rfl⟩
instance : Ent Tryz.prog 103 := ⟨enters_of Tryz.func103 (by kernel_rfl) rfl⟩
instance : Ent Tryz.prog 104 := ⟨enters_of Tryz.func104 (by kernel_rfl) rfl⟩
instance : Ent Tryz.prog 105 := ⟨enters_of Tryz.func105 (by kernel_rfl) rfl⟩
instance : Ent Tryz.prog 106 := ⟨enters_of Tryz.func106 (by kernel_rfl) rfl⟩
instance : Ent Tryz.prog 107 := ⟨enters_of Tryz.func107 (by kernel_rfl) rfl⟩
instance : Ent Tryz.prog 108 := ⟨enters_of Tryz.func108 (by kernel_rfl) rfl⟩
instance : Ent Tryz.prog 109 := ⟨enters_of Tryz.func109 (by kernel_rfl) rfl⟩
instance : Ent Tryz.prog 110 := ⟨enters_of Tryz.func110 (by kernel_rfl) rfl⟩
instance : Ent Tryz.prog 111 := ⟨enters_of Tryz.func111 (by kernel_rfl) rfl⟩
instance : Ent Tryz.prog 112 := ⟨enters_of Tryz.func112 (by kernel_rfl) rfl⟩
instance : Ent Tryz.prog 113 := ⟨enters_of Tryz.func113 (by kernel_rfl) rfl⟩
instance : Ent Tryz.prog 114 := ⟨enters_of Tryz.func114 (by kernel_rfl) rfl⟩
instance : Ent Tryz.prog 115 := ⟨enters_of Tryz.func115 (by kernel_rfl) rfl⟩
instance : Ent Tryz.prog 116 := ⟨enters_of Tryz.func116 (by kernel_rfl) rfl⟩
instance : Ent Tryz.prog 117 := ⟨enters_of Tryz.func117 (by kernel_rfl) rfl⟩
instance : Ent Tryz.prog 118 := ⟨enters_of Tryz.func118 (by kernel_rfl) rfl⟩
instance : Ent Tryz.prog 119 := ⟨enters_of Tryz.func119 (by kernel_rfl) rfl⟩
instance : Ent Tryz.prog 120 := ⟨enters_of Tryz.func120 (by kernel_rfl) rfl⟩
instance : Ent Tryz.prog 121 := ⟨enters_of Tryz.func121 (by kernel_rfl) rfl⟩
instance : Ent Tryz.prog 122 := ⟨enters_of Tryz.func122 (by kernel_rfl) rfl⟩
instance : Ent Tryz.prog 123 := ⟨enters_of Tryz.func123 (by kernel_rfl) rfl⟩
instance : Ent Tryz.prog 124 := ⟨enters_of Tryz.func124 (by kernel_rfl) rfl⟩
instance : Ent Tryz.prog 125 := ⟨enters_of Tryz.func125 (by kernel_rfl) rfl⟩
instance : Ent Tryz.prog 126 := ⟨enters_of Tryz.func126 (by kernel_rfl) rfl⟩
instance : Ent Tryz.prog 127 := ⟨enters_of Tryz.func127 (by kernel_rfl) rfl⟩
instance : Ent Tryz.prog 128 := ⟨enters_of Tryz.func128 (by kernel_rfl) rfl⟩
instance : Ent Tryz.prog 129 := ⟨enters_of Tryz.func129 (by kernel_rfl) rfl⟩
instance : Ent Tryz.prog 130 := ⟨enters_of Tryz.func130 (by kernel_rfl) rfl⟩
instance : Ent Tryz.prog 131 := ⟨enters_of Tryz.func131 (by kernel_rfl) rfl⟩
instance : Ent Tryz.prog 132 := ⟨enters_of Tryz.func132 (by kernel_rfl) rfl⟩
instance : Ent Tryz.prog 133 := ⟨enters_of Tryz.func133 (by kernel_rfl) rfl⟩
instance : Ent Tryz.prog 134 := ⟨enters_of Tryz.func134 (by kernel_rfl) rfl⟩
instance : Ent Tryz.prog 135 := ⟨enters_of Tryz.func135 (by kernel_rfl) rfl⟩
instance : Ent Tryz.prog 136 := ⟨enters_of Tryz.func136 (by kernel_rfl) rfl⟩
instance : Ent Tryz.prog 137 := ⟨enters_of Tryz.func137 (by kernel_rfl) rfl⟩
instance : Ent Tryz.prog 138 := ⟨enters_of Tryz.func138 (by kernel_rfl) rfl⟩
instance : Ent Tryz.prog 139 := ⟨enters_of Tryz.func139 (by kernel_rfl) rfl⟩
instance : Ent Tryz.prog 140 := ⟨enters_of Tryz.func140 (by kernel_rfl) rfl⟩
instance : Ent Tryz.prog 141 := ⟨enters_of Tryz.func141 (by kernel_rfl) rfl⟩
instance : Ent Tryz.prog 142 := ⟨enters_of Tryz.func142 (by kernel_rfl) rfl⟩
instance : Ent Tryz.prog 143 := ⟨enters_of Tryz.func143 (by kernel_rfl) rfl⟩
instance : Ent Tryz.prog 144 := ⟨enters_of Tryz.func144 (by kernel_rfl) rfl⟩
instance : Ent Tryz.prog 145 := ⟨enters_of Tryz.func145 (by kernel_rfl) rfl⟩
instance : Ent Tryz.prog 146 := ⟨enters_of Tryz.func146 (by kernel_rfl) rfl⟩
instance : Ent Tryz.prog 147 := ⟨enters_of Tryz.func147 (by kernel_rfl) rfl⟩
instance : Ent Tryz.prog 148 := ⟨enters_of Tryz.func148 (by kernel_rfl) rfl⟩
instance : Ent Tryz.prog 149 := ⟨enters_of Tryz.func149 (by kernel_rfl) rfl⟩
instance : Ent Tryz.prog 150 := ⟨enters_of Tryz.func150 (by kernel_rfl) rfl⟩
instance : Ent Tryz.prog 151 := ⟨enters_of Tryz.func151 (by kernel_rfl) rfl⟩
instance : Ent Tryz.prog 152 := ⟨enters_of Tryz.func152 (by kernel_rfl) rfl⟩
instance : Ent Tryz.prog 153 := ⟨enters_of Tryz.func153 (by kernel_rfl) rfl⟩
instance : Ent Tryz.prog 154 := ⟨enters_of Tryz.func154 (by kernel_rfl) rfl⟩
instance : Ent Tryz.prog 155 := ⟨enters_of Tryz.func155 (by kernel_rfl) rfl⟩
instance : Ent Tryz.prog 156 := ⟨enters_of Tryz.func156 (by kernel_rfl) rfl⟩
instance : Ent Tryz.prog 157 := ⟨enters_of Tryz.func157 (by kernel_rfl) rfl⟩
instance : Ent Tryz.prog 158 := ⟨enters_of Tryz.func158 (by kernel_rfl) rfl⟩
instance : Ent Tryz.prog 159 := ⟨enters_of Tryz.func159 (by kernel_rfl) rfl⟩
instance : Ent Tryz.prog 160 := ⟨enters_of Tryz.func160 (by kernel_rfl) rfl⟩
instance : Ent Tryz.prog 161 := ⟨enters_of Tryz.func161 (by kernel_rfl) rfl⟩
instance : Ent Tryz.prog 162 := ⟨enters_of Tryz.func162 (by kernel_rfl) rfl⟩
instance : Ent Tryz.prog 186 := ⟨enters_of Tryz.func186 (by kernel_rfl) rfl⟩
end Go.Proofs.YthacphfjchpoaaaGreatDoor
namespace Go.Proofs.YthacphfjchpoaaaGreatDoor

abbrev Sp := Int × Int
/-- the order of spans: by begin, then by end -/
def ltC (a b : Sp) : Prop := a.1 < b.1 ∨ (a.1 = b.1 ∧ a.2 < b.2)
instance (a b : Sp) : Decidable (ltC a b) := by unfold ltC; exact inferInstance
theorem ltC_sto : STO ltC where
  irr a := by unfold ltC; omega
  trans a b c := by unfold ltC; omega
  tri a b := by
    unfold ltC
    by_cases h : a.1 = b.1 ∧ a.2 = b.2
    · exact .inr (.inl (Prod.ext h.1 h.2))
    · omega
def conS (a b : Sp) : Bool := decide (a.1 ≤ b.1 ∧ b.2 ≤ a.2)
/-- of a list: contains no other one -/
def keepShort (l : List Sp) (s : Sp) : Bool := l.all fun t => !(conS s t) || decide (t = s)
/-- of a list: is in no other one -/
def keepLong (l : List Sp) (s : Sp) : Bool := l.all fun t => !(conS t s) || decide (t = s)
theorem keepShort_iff {l : List Sp} {s : Sp} : keepShort l s = true ↔ ∀ t ∈ l, s.1 ≤ t.1 → t.2 ≤ s.2 → t = s := by
  unfold keepShort conS
  rw [List.all_eq_true]
  refine forall_congr' fun t => forall_congr' fun ht => ?_
  by_cases h : t = s
  · simp [h]
  · simp [h]; omega
theorem keepLong_iff {l : List Sp} {s : Sp} : keepLong l s = true ↔ ∀ t ∈ l, t.1 ≤ s.1 → s.2 ≤ t.2 → t = s := by
  unfold keepLong conS
  rw [List.all_eq_true]
  refine forall_congr' fun t => forall_congr' fun ht => ?_
  by_cases h : t = s
  · simp [h]
  · simp [h]; omega
/-- two places of an ascending list -/
theorem asc_at {l : List Sp} (h : l.Pairwise ltC) {i j : Nat} {s t : Sp} (hs : l[i]? = some s) (ht : l[j]? = some t) (hij : i < j) : ltC s t := by
  obtain ⟨hi, rfl⟩ := List.getElem?_eq_some_iff.1 hs
  obtain ⟨hj, rfl⟩ := List.getElem?_eq_some_iff.1 ht
  exact List.pairwise_iff_getElem.1 h i j hi hj hij
theorem asc_le {l : List Sp} (h : l.Pairwise ltC) {i j : Nat} {s t : Sp} (hs : l[i]? = some s) (ht : l[j]? = some t) (hij : i ≤ j) : s = t ∨ ltC s t := by
  rcases Nat.lt_or_ge i j with h1 | h1
  · exact .inr (asc_at h hs ht h1)
  · have : i = j := by omega
    subst this; rw [hs] at ht; exact .inl (by injection ht)

/-! ### shortest: from the last one on -/
/-- the first one with its begin -/
def isFirst (l : List Sp) (j : Nat) (t : Sp) : Prop := l[j]? = some t ∧ (j = 0 ∨ ∀ u, l[j - 1]? = some u → u.1 ≠ t.1)
/-- of the first ones from place i on, least is the least end (−1: none) -/
def LeastOk (l : List Sp) (i : Nat) (least : Int) : Prop :=
  (least = -1 ∧ ∀ j t, i ≤ j → ¬ isFirst l j t) ∨ (0 < least ∧ (∃ j t, i ≤ j ∧ isFirst l j t ∧ t.2 = least) ∧ ∀ j t, i ≤ j → isFirst l j t → least ≤ t.2)
theorem first_of {l : List Sp} (h : l.Pairwise ltC) : ∀ (j : Nat) (t : Sp), l[j]? = some t → ∃ j' u, j' ≤ j ∧ isFirst l j' u ∧ u.1 = t.1 ∧ u.2 ≤ t.2
  | 0, t, ht => ⟨0, t, Nat.le_refl _, ⟨ht, .inl rfl⟩, rfl, Int.le_refl _⟩
  | j + 1, t, ht => by
    obtain ⟨v, hv⟩ : ∃ v, l[j]? = some v := ⟨_, List.getElem?_eq_getElem (by have := (List.getElem?_eq_some_iff.1 ht).1; omega)⟩
    by_cases e : v.1 = t.1
    · obtain ⟨j', u, h1, h2, h3, h4⟩ := first_of h j v hv
      have h5 := asc_at h hv ht (by omega)
      unfold ltC at h5
      exact ⟨j', u, by omega, h2, by omega, by omega⟩
    · refine ⟨j + 1, t, Nat.le_refl _, ⟨ht, .inr fun u hu => ?_⟩, rfl, Int.le_refl _⟩
      rw [Nat.add_sub_cancel, hv] at hu
      injection hu with hu
      rw [← hu]; exact e
theorem LeastOk.skip {l : List Sp} (h : l.Pairwise ltC) {i : Nat} {s t : Sp} {least : Int} (hs : l[i + 1]? = some s) (ht : l[i]? = some t) (e : t.1 = s.1) (hl : LeastOk l (i + 2) least) : keepShort l s = false ∧ LeastOk l (i + 1) least := by
  constructor
  · rw [Bool.eq_false_iff]
    intro hk
    have h1 := asc_at h ht hs (by omega)
    have := keepShort_iff.1 hk t (List.mem_of_getElem? ht) (by omega) (by unfold ltC at h1; omega)
    rw [this] at h1
    exact ltC_sto.irr s h1
  · have hn : ∀ j u, i + 1 ≤ j → isFirst l j u → i + 2 ≤ j := by
      intro j u hj hf
      by_cases hji : j = i + 1
      · subst hji
        exfalso
        rcases hf.2 with h0 | h0
        · omega
        · have hu : u = s := by have := hf.1; rw [hs] at this; injection this with this; exact this.symm
          subst hu
          exact h0 t ht e
      · omega
    rcases hl with ⟨h1, h2⟩ | ⟨h1, ⟨j, u, h2, h3, h4⟩, h5⟩
    · exact .inl ⟨h1, fun j u hj hf => h2 j u (hn j u hj hf) hf⟩
    · exact .inr ⟨h1, ⟨j, u, by omega, h3, h4⟩, fun j u hj hf => h5 j u (hn j u hj hf) hf⟩
theorem LeastOk.keep {l : List Sp} (h : l.Pairwise ltC) (hv : ∀ s ∈ l, 0 ≤ s.1 ∧ s.1 < s.2) {i : Nat} {s : Sp} {least : Int} (hf : isFirst l i s) (hl : LeastOk l (i + 1) least) (hk : least < 0 ∨ s.2 < least) : keepShort l s = true ∧ LeastOk l i s.2 := by
  have hs := hf.1
  constructor
  · refine keepShort_iff.2 fun t ht h1 h2 => ?_
    obtain ⟨j, hj, rfl⟩ := List.mem_iff_getElem.1 ht
    have hjs : l[j]? = some l[j] := List.getElem?_eq_getElem hj
    generalize l[j] = t at *
    rcases Nat.lt_trichotomy j i with h3 | h3 | h3
    · exfalso
      have h4 := asc_at h hjs hs h3
      unfold ltC at h4
      rcases hf.2 with h5 | h5
      · omega
      · obtain ⟨v, hvv⟩ : ∃ v, l[i - 1]? = some v := ⟨_, List.getElem?_eq_getElem (by have := (List.getElem?_eq_some_iff.1 hs).1; omega)⟩
        have h6 := asc_le h hjs hvv (by omega)
        have h7 := asc_at h hvv hs (by omega)
        have h8 := h5 v hvv
        unfold ltC at h6 h7
        rcases h6 with rfl | h6
        · omega
        · omega
    · subst h3
      rw [hs] at hjs; injection hjs with e; exact e.symm
    · exfalso
      have h4 := asc_at h hs hjs h3
      obtain ⟨j', u, k1, k2, k3, k4⟩ := first_of h j t hjs
      have hij : i + 1 ≤ j' := by
        by_cases hle : j' ≤ i
        · have h5 := asc_le h k2.1 hs hle
          unfold ltC at h4 h5
          rcases h5 with rfl | h5
          · omega
          · omega
        · omega
      rcases hl with ⟨l1, l2⟩ | ⟨l1, _, l3⟩
      · exact l2 j' u hij k2
      · have := l3 j' u hij k2
        omega
  · refine .inr ⟨by have := hv s (List.mem_of_getElem? hs); omega, ⟨i, s, Nat.le_refl _, hf, rfl⟩, fun j t hj ht => ?_⟩
    by_cases hji : j = i
    · subst hji
      have := ht.1; rw [hs] at this; injection this with this; rw [this]; exact Int.le_refl _
    · rcases hl with ⟨l1, l2⟩ | ⟨l1, _, l3⟩
      · exact absurd ht (l2 j t (by omega))
      · have := l3 j t (by omega) ht
        omega
theorem LeastOk.drop {l : List Sp} (h : l.Pairwise ltC) {i : Nat} {s : Sp} {least : Int} (hf : isFirst l i s) (hl : LeastOk l (i + 1) least) (hk : ¬ (least < 0 ∨ s.2 < least)) : keepShort l s = false ∧ LeastOk l i least := by
  rcases hl with ⟨l1, _⟩ | ⟨l1, ⟨j, t, l2, l3, l4⟩, l5⟩
  · omega
  · have h4 := asc_at h hf.1 l3.1 (by omega)
    constructor
    · rw [Bool.eq_false_iff]
      intro hkk
      have := keepShort_iff.1 hkk t (List.mem_of_getElem? l3.1) (by unfold ltC at h4; omega) (by omega)
      rw [this] at h4
      exact ltC_sto.irr s h4
    · refine .inr ⟨l1, ⟨j, t, by omega, l3, l4⟩, fun j' u hj hu => ?_⟩
      by_cases hji : j' = i
      · subst hji
        have := hu.1; rw [hf.1] at this; injection this with this; rw [← this]; omega
      · exact l5 j' u (by omega) hu

/-! ### longest: from the first one on -/
/-- the last one with its begin -/
def isLast (l : List Sp) (j : Nat) (t : Sp) : Prop := l[j]? = some t ∧ ∀ u, l[j + 1]? = some u → u.1 ≠ t.1
def MostOk (l : List Sp) (i : Nat) (most : Int) : Prop :=
  (most = -1 ∧ ∀ j t, j < i → ¬ isLast l j t) ∨ (0 < most ∧ (∃ j t, j < i ∧ isLast l j t ∧ t.2 = most) ∧ ∀ j t, j < i → isLast l j t → t.2 ≤ most)
theorem last_of {l : List Sp} (h : l.Pairwise ltC) : ∀ (n j : Nat) (t : Sp), l.length - j = n → l[j]? = some t → ∃ j' u, j ≤ j' ∧ isLast l j' u ∧ u.1 = t.1 ∧ t.2 ≤ u.2
  | 0, j, t, hn, ht => by have := (List.getElem?_eq_some_iff.1 ht).1; omega
  | n + 1, j, t, hn, ht => by
    cases hv : l[j + 1]? with
    | none => exact ⟨j, t, Nat.le_refl _, ⟨ht, fun u hu => by rw [hv] at hu; cases hu⟩, rfl, Int.le_refl _⟩
    | some v =>
      by_cases e : v.1 = t.1
      · obtain ⟨j', u, h1, h2, h3, h4⟩ := last_of h n (j + 1) v (by omega) hv
        have h5 := asc_at h ht hv (by omega)
        unfold ltC at h5
        exact ⟨j', u, by omega, h2, by omega, by omega⟩
      · exact ⟨j, t, Nat.le_refl _, ⟨ht, fun u hu => by rw [hv] at hu; injection hu with hu; rw [← hu]; exact e⟩, rfl, Int.le_refl _⟩
theorem MostOk.skip {l : List Sp} (h : l.Pairwise ltC) {i : Nat} {s t : Sp} {most : Int} (hs : l[i]? = some s) (ht : l[i + 1]? = some t) (e : t.1 = s.1) (hl : MostOk l i most) : keepLong l s = false ∧ MostOk l (i + 1) most := by
  constructor
  · rw [Bool.eq_false_iff]
    intro hk
    have h1 := asc_at h hs ht (by omega)
    have := keepLong_iff.1 hk t (List.mem_of_getElem? ht) (by omega) (by unfold ltC at h1; omega)
    rw [this] at h1
    exact ltC_sto.irr s h1
  · have hn : ∀ j u, j < i + 1 → isLast l j u → j < i := by
      intro j u hj hf
      by_cases hji : j = i
      · subst hji
        exfalso
        have hu : u = s := by have := hf.1; rw [hs] at this; injection this with this; exact this.symm
        subst hu
        exact hf.2 t ht e
      · omega
    rcases hl with ⟨h1, h2⟩ | ⟨h1, ⟨j, u, h2, h3, h4⟩, h5⟩
    · exact .inl ⟨h1, fun j u hj hf => h2 j u (hn j u hj hf) hf⟩
    · exact .inr ⟨h1, ⟨j, u, by omega, h3, h4⟩, fun j u hj hf => h5 j u (hn j u hj hf) hf⟩
theorem MostOk.keep {l : List Sp} (h : l.Pairwise ltC) (hv : ∀ s ∈ l, 0 ≤ s.1 ∧ s.1 < s.2) {i : Nat} {s : Sp} {most : Int} (hf : isLast l i s) (hl : MostOk l i most) (hk : most < s.2) : keepLong l s = true ∧ MostOk l (i + 1) s.2 := by
  have hs := hf.1
  constructor
  · refine keepLong_iff.2 fun t ht h1 h2 => ?_
    obtain ⟨j, hj, rfl⟩ := List.mem_iff_getElem.1 ht
    have hjs : l[j]? = some l[j] := List.getElem?_eq_getElem hj
    generalize l[j] = t at *
    rcases Nat.lt_trichotomy j i with h3 | h3 | h3
    · exfalso
      have h4 := asc_at h hjs hs h3
      obtain ⟨j', u, k1, k2, k3, k4⟩ := last_of h _ j t rfl hjs
      unfold ltC at h4
      have hij : j' < i := by
        by_cases hle : i ≤ j'
        · have h5 := asc_le h hs k2.1 hle
          unfold ltC at h5
          rcases h5 with rfl | h5
          · omega
          · omega
        · omega
      rcases hl with ⟨l1, l2⟩ | ⟨l1, _, l3⟩
      · exact l2 j' u hij k2
      · have := l3 j' u hij k2
        omega
    · subst h3
      rw [hs] at hjs; injection hjs with e; exact e.symm
    · exfalso
      have h4 := asc_at h hs hjs h3
      unfold ltC at h4
      obtain ⟨v, hvv⟩ : ∃ v, l[i + 1]? = some v := ⟨_, List.getElem?_eq_getElem (by omega)⟩
      have h6 := asc_at h hs hvv (by omega)
      have h7 := asc_le h hvv hjs (by omega)
      have h8 := hf.2 v hvv
      unfold ltC at h6 h7
      rcases h7 with rfl | h7
      · omega
      · omega
  · refine .inr ⟨by have := hv s (List.mem_of_getElem? hs); omega, ⟨i, s, by omega, hf, rfl⟩, fun j t hj ht => ?_⟩
    by_cases hji : j = i
    · subst hji
      have := ht.1; rw [hs] at this; injection this with this; rw [this]; exact Int.le_refl _
    · rcases hl with ⟨l1, l2⟩ | ⟨l1, _, l3⟩
      · exact absurd ht (l2 j t (by omega))
      · have := l3 j t (by omega) ht
        omega
theorem MostOk.drop {l : List Sp} (h : l.Pairwise ltC) (hv : ∀ s ∈ l, 0 ≤ s.1 ∧ s.1 < s.2) {i : Nat} {s : Sp} {most : Int} (hf : isLast l i s) (hl : MostOk l i most) (hk : ¬ most < s.2) : keepLong l s = false ∧ MostOk l (i + 1) most := by
  have hsv := hv s (List.mem_of_getElem? hf.1)
  rcases hl with ⟨l1, _⟩ | ⟨l1, ⟨j, t, l2, l3, l4⟩, l5⟩
  · omega
  · have h4 := asc_at h l3.1 hf.1 l2
    constructor
    · rw [Bool.eq_false_iff]
      intro hkk
      have := keepLong_iff.1 hkk t (List.mem_of_getElem? l3.1) (by unfold ltC at h4; omega) (by omega)
      rw [this] at h4
      exact ltC_sto.irr s h4
    · refine .inr ⟨l1, ⟨j, t, by omega, l3, l4⟩, fun j' u hj hu => ?_⟩
      by_cases hji : j' = i
      · subst hji
        have := hu.1; rw [hf.1] at this; injection this with this; rw [← this]; omega
      · exact l5 j' u (by omega) hu

end Go.Proofs.YthacphfjchpoaaaGreatDoor
namespace Go.Proofs.YthacphfjchpoaaaGreatDoor

/-- the order of lists of integers: by the first difference; a beginning comes first -/
def cmpL : List Int → List Int → Int
  | [], [] => 0
  | [], _ :: _ => -1
  | _ :: _, [] => 1
  | a :: l, b :: m => if a < b then -1 else if b < a then 1 else cmpL l m
def ltK (a b : List Int) : Prop := cmpL a b < 0
end Go.Proofs.YthacphfjchpoaaaGreatDoor
namespace Go.Proofs.YthacphfjchpoaaaGreatDoor

instance (a b : List Int) : Decidable (ltK a b) := by unfold ltK; exact inferInstance
end Go.Proofs.YthacphfjchpoaaaGreatDoor
namespace Go.Proofs.YthacphfjchpoaaaGreatDoor
open Go.RowKit

structure Mt where
  b : Int
  e : Int
  v : Value
  ls : List Int
def spm (m : Mt) : Sp := (m.b, m.e)
def keyM (m : Mt) : List Int := m.b :: m.e :: m.ls
def okS (s : Sp) : Prop := 0 ≤ s.1 ∧ s.1 < s.2
instance (s : Sp) : Decidable (okS s) := by unfold okS; exact inferInstance
def ascM (l : List Mt) : Prop := l.Pairwise fun a b => ltK (keyM a) (keyM b)
instance (l : List Mt) : Decidable (ascM l) := by unfold ascM; exact inferInstance
def goodM (k : Int) (l : List Mt) : Prop := (0 ≤ k ∧ k ≤ 3) ∧ (∀ m ∈ l, okS (spm m)) ∧ ascM l
instance (k : Int) (l : List Mt) : Decidable (goodM k l) := by unfold goodM; exact inferInstance
end Go.Proofs.YthacphfjchpoaaaGreatDoor
namespace Go.Proofs.YthacphfjchpoaaaGreatDoor
open Go.RowKit

end Go.Proofs.YthacphfjchpoaaaGreatDoor
namespace Go.Proofs.YthacphfjchpoaaaGreatDoor
open Go.RowKit

theorem flatK_list {α : Type} [Inhabited α] {enc : α → List Value} {k : Nat} (hk : ∀ x, (enc x).length = k) (d : Array α) : (Go.Sort.flatK enc k d).toList = d.toList.flatMap enc := by
  refine List.ext_getElem? fun t => ?_
  have hl : (d.toList.flatMap enc).length = d.size * k := by rw [flat_len hk]; simp
  by_cases ht : t < d.size * k
  · have k0 : 0 < k := by rcases Nat.eq_zero_or_pos k with h | h
                          · subst h; simp at ht
                          · exact h
    have hi : t / k < d.size := Nat.div_lt_of_lt_mul (by rw [Nat.mul_comm]; exact ht)
    have hm : t % k < k := Nat.mod_lt _ k0
    have h1 := Go.Sort.get_flatK enc k d t ht
    have hs : t < (Go.Sort.flatK enc k d).size := by simpa using ht
    rw [Array.getElem?_toList, Array.getElem?_eq_getElem hs, ← getElem!_pos (Go.Sort.flatK enc k d) t hs, h1]
    have hx : d.toList[t / k]? = some d[t / k]! := by rw [Array.getElem?_toList, Array.getElem?_eq_getElem hi, getElem!_pos d _ hi]
    have h2 := flat_elem hk d.toList (t / k) _ hx
    have h3 : (enc d[t / k]!)[t % k]? = (d.toList.flatMap enc)[t / k * k + t % k]? := by
      rw [← h2, List.getElem?_take, if_pos hm, List.getElem?_drop]
    have h4 : t / k * k + t % k = t := by rw [Nat.mul_comm]; exact Nat.div_add_mod t k
    rw [h4] at h3
    rw [← h3, List.getElem?_eq_getElem (by rw [hk]; exact hm), getElem!_pos (enc d[t / k]!) (t % k) (by rw [hk]; exact hm)]
  · have e1 : (Go.Sort.flatK enc k d).toList.length ≤ t := by rw [Array.length_toList, Go.Sort.size_flatK]; omega
    have e2 : (d.toList.flatMap enc).length ≤ t := by rw [hl]; omega
    rw [List.getElem?_eq_none e1, List.getElem?_eq_none e2]

theorem keep_grow {w w' : World} (h : Keep All w w') : ∃ q os', w' = Go.Sort.grow (w.drewN q) os' := by
  refine ⟨w'.drawn - w.drawn, w'.heap.extract w.heap.size w'.heap.size, ?_⟩
  have h1 := h.os
  have h2 := h.tape
  have h3 := h.output
  have h4 := h.drawn
  have hd : ∀ n (u : World), u.drewN n = { u with drawn := u.drawn + n } := by
    intro n u
    rfl
  rw [hd]
  have hh : w'.heap = w.heap ++ w'.heap.extract w.heap.size w'.heap.size := by
    refine Array.ext_getElem? fun i => ?_
    by_cases hi : i < w.heap.size
    · rw [Array.getElem?_append_left hi]; exact h.block i hi trivial
    · rw [Array.getElem?_append_right (by omega), Array.getElem?_extract]
      have := h.size
      by_cases hj : i < w'.heap.size
      · rw [if_pos (by omega)]; congr 1; omega
      · rw [if_neg (by omega), Array.getElem?_eq_none (by omega)]
  cases w' with
  | mk hp tp dr os out =>
    simp only at h1 h2 h3 h4 hh
    unfold Go.Sort.grow
    simp only
    rw [← hh, ← h1, ← h2, ← h3]
    congr 1
    omega

section
variable {P : Program} {α : Type} [Inhabited α] {enc : α → List Value} {k : Nat}
theorem holdsK_of {w : World} {b el : Nat} {d : List α} {tl : List Value} (hk : ∀ x, (enc x).length = k) (hb : w.heap[b]? = some (.cells (d.flatMap enc ++ tl).toArray el (0, 0))) : Go.Sort.HoldsK enc k w b 0 d.toArray := by
  intro j hj
  rw [Go.Sort.size_flatK] at hj
  have hf : (Go.Sort.flatK enc k d.toArray).toList = d.flatMap enc := flatK_list hk d.toArray
  have hl : (d.flatMap enc).length = d.length * k := flat_len hk d
  have hj' : j < (d.flatMap enc).length := by rw [hl]; simpa using hj
  constructor
  · have h1 : (Go.Sort.flatK enc k d.toArray)[j]! = (d.flatMap enc)[j] := by
      rw [getElem!_pos _ j (by simpa using hj)]
      rw [← Array.getElem_toList]
      simp only [hf]
    simp only [World.cell?, hb, Nat.zero_add, id]
    rw [h1]
    simp [List.getElem?_append_left hj', List.getElem?_eq_getElem hj']
  · simp [World.frozen?, hb]

theorem putRowK_heap {w : World} {b el : Nat} {d : List α} {tl : List Value} (hk : ∀ x, (enc x).length = k) (hb : w.heap[b]? = some (.cells (d.flatMap enc ++ tl).toArray el (0, 0))) (dk : Array α) (hs : dk.size = d.length) :
    (Go.Sort.putRowK enc k w b 0 dk).heap[b]? = some (.cells (dk.toList.flatMap enc ++ tl).toArray el (0, 0)) ∧ ∀ c, c ≠ b → (Go.Sort.putRowK enc k w b 0 dk).heap[c]? = w.heap[c]? := by
  unfold Go.Sort.putRowK Go.Sort.putRow Go.Sort.mapBlock
  constructor
  · simp only [Array.getElem?_modify, if_true, hb, Option.map_some, Go.Sort.onCells]
    congr 2
    refine Array.ext_getElem? fun t => ?_
    unfold Go.Sort.putCells
    have hf : (Go.Sort.flatK enc k dk).toList = dk.toList.flatMap enc := flatK_list hk dk
    have hl : (d.flatMap enc).length = d.length * k := flat_len hk d
    have hl2 : (dk.toList.flatMap enc).length = dk.size * k := by rw [flat_len hk]; simp
    rw [Array.getElem?_mapIdx, Go.Sort.size_flatK]
    by_cases ht : t < dk.size * k
    · have ht1 : t < (d.flatMap enc).length := by rw [hl, ← hs]; exact ht
      have e3 : ((d.flatMap enc ++ tl).toArray)[t]? = some ((d.flatMap enc)[t]'ht1) := by
        rw [List.getElem?_toArray, List.getElem?_append_left ht1, List.getElem?_eq_getElem ht1]
      rw [e3]
      simp only [Option.map_some, Nat.zero_le, Nat.zero_add, ht, and_self, if_true, Nat.sub_zero, id]
      rw [getElem!_pos _ t (by simpa using ht), ← Array.getElem_toList]
      simp only [hf]
      simp [List.getElem?_append_left (show t < (dk.toList.flatMap enc).length by rw [hl2]; exact ht), List.getElem?_eq_getElem (show t < (dk.toList.flatMap enc).length by rw [hl2]; exact ht)]
    · have e1 : ((d.flatMap enc ++ tl).toArray)[t]? = tl[t - dk.size * k]? := by
        rw [List.getElem?_toArray, List.getElem?_append_right (by rw [hl, ← hs]; omega), hl, ← hs]
      have e2 : ((dk.toList.flatMap enc ++ tl).toArray)[t]? = tl[t - dk.size * k]? := by
        rw [List.getElem?_toArray, List.getElem?_append_right (by rw [hl2]; omega), hl2]
      rw [e1, e2]
      cases tl[t - dk.size * k]? with
      | none => rfl
      | some v => simp [ht]
  · intro c hc
    simp only [Array.getElem?_modify]
    rw [if_neg (fun h => hc h.symm)]

theorem sortWorldK_facts {w : World} {b el m : Nat} {d : List α} {tl : List Value} (hk : ∀ x, (enc x).length = k) (hb : w.heap[b]? = some (.cells (d.flatMap enc ++ tl).toArray el (0, 0))) (dk : Array α) (hs : dk.size = d.length) (os : Array Obj) :
    let W := Go.Proofs.sortWorldK enc k w b 0 m dk os
    W.heap[b]? = some (.cells (dk.toList.flatMap enc ++ tl).toArray el (0, 0)) ∧ (∀ c, c < w.heap.size → c ≠ b → W.heap[c]? = w.heap[c]?) ∧ w.heap.size ≤ W.heap.size ∧ W.os = w.os ∧ W.tape = w.tape ∧ W.output = w.output ∧ w.drawn ≤ W.drawn := by
  have hlt : b < w.heap.size := (Array.getElem?_eq_some_iff.1 hb).1
  obtain ⟨h1, h2⟩ := putRowK_heap (w := Go.Sort.ahead w m) hk hb dk hs
  have hsz : (Go.Sort.putRowK enc k (Go.Sort.ahead w m) b 0 dk).heap.size = w.heap.size := by
    unfold Go.Sort.putRowK Go.Sort.putRow Go.Sort.mapBlock Go.Sort.ahead
    simp
  refine ⟨?_, ?_, ?_, rfl, rfl, rfl, ?_⟩
  · show ((Go.Sort.putRowK enc k (Go.Sort.ahead w m) b 0 dk).heap ++ os)[b]? = _
    rw [Array.getElem?_append_left (by rw [hsz]; exact hlt)]; exact h1
  · intro c hc hcb
    show ((Go.Sort.putRowK enc k (Go.Sort.ahead w m) b 0 dk).heap ++ os)[c]? = _
    rw [Array.getElem?_append_left (by rw [hsz]; exact hc)]; exact h2 c hcb
  · show w.heap.size ≤ ((Go.Sort.putRowK enc k (Go.Sort.ahead w m) b 0 dk).heap ++ os).size
    rw [Array.size_append, hsz]; omega
  · show w.drawn ≤ w.drawn + m
    omega

/-- slices.SortFunc under a comparison that parts whatever is not one. -/
theorem sort_FnW {ρ : Go.Shelf.Ren} (L : Go.Proofs.SlLaysF0.n6 P ρ) (aE : ∀ w, (isAgg (ρ.t 24)).run P w = .ok true w) (zE : ∀ w, (Go.sizeOf (ρ.t 24)).run P w = .ok k w) (hk : ∀ x, (enc x).length = k) (h1 : ∀ x, ∀ v ∈ enc x, v.oneCell' = true)
    (cf : α → α → Int) (hO : Go.Sort.SWO (Go.Proofs.ltOf cf)) (hT : ∀ x y, Go.Proofs.ltOf cf x y = false → Go.Proofs.ltOf cf y x = false → x = y) (g : Nat) [hE : Ent P g] (cb : List Value) {H : Hp} {b cap el : Nat} (d : List α) (tl : List Value)
    (hcmp : ∀ x y, Fn P g ([Value.agg (enc x).toArray, .agg (enc y).toArray] ++ cb).toArray H (fun v _ => v = .int .i64 (cf x y))) (hsz : d.length < 4611686018427387904) :
    FnW P (ρ.f 6) #[.slice (some ⟨b, 0, none⟩) d.length cap, .func (.func g) #[] cb.toArray] H [(b, .cells (d.flatMap enc ++ tl).toArray el (0, 0))]
      (fun v H' l' => v = .tuple #[] ∧ H' = H ∧ l' = [(b, .cells ((d.mergeSort fun x y => !(Go.Proofs.ltOf cf) y x).flatMap enc ++ tl).toArray el (0, 0))]) := FnW.mk fun w hw => by
  obtain ⟨hb, hHb, _⟩ := hw.own _ List.mem_cons_self
  simp only at hb hHb
  have hlt : b < w.heap.size := (Array.getElem?_eq_some_iff.1 hb).1
  have hwd : ∀ (m : Nat) (dk : Array α) (os : Array Obj), dk.size = d.length → (X0.mk w H (own0 [(b, .cells (d.flatMap enc ++ tl).toArray el (0, 0))])).wd [(b, .cells (dk.toList.flatMap enc ++ tl).toArray el (0, 0))] H (Go.Proofs.sortWorldK enc k w b 0 m dk os) := by
    intro m dk os hs
    obtain ⟨f1, f2, f3, f4, f5, f6, f7⟩ := sortWorldK_facts (m := m) hk hb dk hs os
    refine ⟨fun p hp => ?_, by simp, fun c o hc => ?_, ⟨f4, f5, f6, f3, f7, fun c hc hp => ?_⟩, Hp.le.refl _, fun _ _ _ => rfl⟩
    · obtain rfl := List.mem_singleton.1 hp
      exact ⟨f1, hHb, fun _ hn => hn (by simp)⟩
    · have hcb : c ≠ b := fun e => by subst e; rw [hHb] at hc; cases hc
      exact (f2 c (hw.ltH hc) hcb).trans (hw.fro c o hc)
    · exact f2 c hc (fun e => hp (by subst e; simp))
  have hs0 := Go.Proofs.AnyQ.slices_SortFunc_total L k aE zE enc hk h1 cf hO g cb.toArray b 0 cap d.toArray w (fun args w => hE.h args w) (fun m os dk hs x y => ?_) (holdsK_of hk hb) hlt (by simpa using hsz) hT
  · refine callsIn_wide.2 (hs0.mono ?_)
    rintro e w' ⟨rfl, n, os, rfl⟩
    refine ⟨_, H, _, rfl, hwd n _ os ?_, rfl, rfl, rfl⟩
    simp [List.length_mergeSort]
  · have hs' : dk.size = d.length := by simpa using hs
    have hW := hwd m dk os hs'
    have hc := (hcmp x y).get _ hW.fro
    have hargs : (([Value.agg (enc x).toArray, .agg (enc y).toArray] ++ cb).toArray : Array Value) = #[.agg (enc x).toArray, .agg (enc y).toArray] ++ cb.toArray := by simp
    rw [hargs] at hc
    refine (callsIn_wide.1 hc).mono ?_
    rintro e w' ⟨v, H', rfl, _, _, hkp, rfl⟩
    exact ⟨rfl, keep_grow hkp⟩
end
end Go.Proofs.YthacphfjchpoaaaGreatDoor
