/- Facts on the types and functions of the program, by program.
   Plain: spans in order, and what the strategies keep of them.
   Plain: matches, their order, and the matches of chosen spans.
   Plain: insertion into an ascending list from behind.
   Plain: matches and what a strategy keeps of them.
   Plain: what the laws about strategies say of lists. -/
import Derived.Test.YtbcadnjfegiakaaGreatDoorProg
import Derived.Test.YtbcadnjfegiakaaGreatDoorG2
namespace Go.Proofs.YtbcadnjfegiakaaGreatDoor

instance : IsOne Tryz.prog 1 := ⟨fun _ => by kernel_rfl, fun _ => by kernel_rfl⟩
instance : ElOf Tryz.prog 1 1 8 := elOf_mk (by kernel_rfl) (by decide)
instance : ZeroOf Tryz.prog 1 [.nilFunc] := ⟨.nilFunc, fun _ => by kernel_rfl, by kernel_rfl⟩
instance : IsOne Tryz.prog 2 := ⟨fun _ => by kernel_rfl, fun _ => by kernel_rfl⟩
instance : IntT Tryz.prog 2 .i64 := ⟨by kernel_rfl⟩
instance : ElOf Tryz.prog 2 1 8 := elOf_mk (by kernel_rfl) (by decide)
instance : ZeroOf Tryz.prog 2 [(.int .i64 0)] := ⟨(.int .i64 0), fun _ => by kernel_rfl, by kernel_rfl⟩
instance : IsOne Tryz.prog 3 := ⟨fun _ => by kernel_rfl, fun _ => by kernel_rfl⟩
instance : IntT Tryz.prog 3 .i64 := ⟨by kernel_rfl⟩
instance : ElOf Tryz.prog 3 1 8 := elOf_mk (by kernel_rfl) (by decide)
instance : ZeroOf Tryz.prog 3 [(.int .i64 0)] := ⟨(.int .i64 0), fun _ => by kernel_rfl, by kernel_rfl⟩
instance : IsOne Tryz.prog 4 := ⟨fun _ => by kernel_rfl, fun _ => by kernel_rfl⟩
instance : BoolT Tryz.prog 4 := ⟨by kernel_rfl⟩
instance : ElOf Tryz.prog 4 1 1 := elOf_mk (by kernel_rfl) (by decide)
instance : ZeroOf Tryz.prog 4 [(.bool false)] := ⟨(.bool false), fun _ => by kernel_rfl, by kernel_rfl⟩
instance : IsOne Tryz.prog 5 := ⟨fun _ => by kernel_rfl, fun _ => by kernel_rfl⟩
instance : IntT Tryz.prog 5 .u8 := ⟨by kernel_rfl⟩
instance : ElOf Tryz.prog 5 1 1 := elOf_mk (by kernel_rfl) (by decide)
instance : ZeroOf Tryz.prog 5 [(.int .u8 0)] := ⟨(.int .u8 0), fun _ => by kernel_rfl, by kernel_rfl⟩
instance : IsOne Tryz.prog 6 := ⟨fun _ => by kernel_rfl, fun _ => by kernel_rfl⟩
instance : IntT Tryz.prog 6 .u8 := ⟨by kernel_rfl⟩
instance : ElOf Tryz.prog 6 1 1 := elOf_mk (by kernel_rfl) (by decide)
instance : ZeroOf Tryz.prog 6 [(.int .u8 0)] := ⟨(.int .u8 0), fun _ => by kernel_rfl, by kernel_rfl⟩
instance : IsAgg Tryz.prog 7 4 := ⟨fun _ => by kernel_rfl, fun _ => by kernel_rfl⟩
instance : FldAt Tryz.prog 7 0 0 := ⟨fun _ _ _ => by kernel_rfl⟩
instance : FldAt Tryz.prog 7 1 1 := ⟨fun _ _ _ => by kernel_rfl⟩
instance : FldAt Tryz.prog 7 2 2 := ⟨fun _ _ _ => by kernel_rfl⟩
instance : FldAt Tryz.prog 7 3 3 := ⟨fun _ _ _ => by kernel_rfl⟩
instance : ElOf Tryz.prog 7 4 24 := elOf_mk (by kernel_rfl) (by decide)
instance : ZeroOf Tryz.prog 7 [(.int .i64 0), (.int .i64 0), (.bool false), (.int .u8 0)] := ⟨(.agg #[(.int .i64 0), (.int .i64 0), (.bool false), (.int .u8 0)]), fun _ => by kernel_rfl, by kernel_rfl⟩
instance : PlacesOf Tryz.prog 7 [(0, 1), (1, 1), (2, 1), (3, 1)] [(.int .i64 0), (.int .i64 0), (.bool false), (.int .u8 0)] := placesOf_mk (Tryz.prog.fieldsOf 7) (.agg #[(.int .i64 0), (.int .i64 0), (.bool false), (.int .u8 0)]) (fun _ => by kernel_rfl) (by kernel_rfl) (by kernel_rfl) (fun _ => by kernel_rfl)
instance : IsAgg Tryz.prog 8 4 := ⟨fun _ => by kernel_rfl, fun _ => by kernel_rfl⟩
instance : FldAt Tryz.prog 8 0 0 := ⟨fun _ _ _ => by kernel_rfl⟩
instance : FldAt Tryz.prog 8 1 1 := ⟨fun _ _ _ => by kernel_rfl⟩
instance : FldAt Tryz.prog 8 2 2 := ⟨fun _ _ _ => by kernel_rfl⟩
instance : FldAt Tryz.prog 8 3 3 := ⟨fun _ _ _ => by kernel_rfl⟩
instance : ElOf Tryz.prog 8 4 24 := elOf_mk (by kernel_rfl) (by decide)
instance : ZeroOf Tryz.prog 8 [(.int .i64 0), (.int .i64 0), (.bool false), (.int .u8 0)] := ⟨(.agg #[(.int .i64 0), (.int .i64 0), (.bool false), (.int .u8 0)]), fun _ => by kernel_rfl, by kernel_rfl⟩
instance : PlacesOf Tryz.prog 8 [(0, 1), (1, 1), (2, 1), (3, 1)] [(.int .i64 0), (.int .i64 0), (.bool false), (.int .u8 0)] := placesOf_mk (Tryz.prog.fieldsOf 8) (.agg #[(.int .i64 0), (.int .i64 0), (.bool false), (.int .u8 0)]) (fun _ => by kernel_rfl) (by kernel_rfl) (by kernel_rfl) (fun _ => by kernel_rfl)
instance : IsOne Tryz.prog 9 := ⟨fun _ => by kernel_rfl, fun _ => by kernel_rfl⟩
instance : NotInt Tryz.prog 9 := ⟨.inl (by kernel_rfl)⟩
instance : StrT Tryz.prog 9 := ⟨by kernel_rfl⟩
instance : ElOf Tryz.prog 9 1 16 := elOf_mk (by kernel_rfl) (by decide)
instance : ZeroOf Tryz.prog 9 [(.string ⟨#[]⟩)] := ⟨(.string ⟨#[]⟩), fun _ => by kernel_rfl, by kernel_rfl⟩
instance : IsOne Tryz.prog 10 := ⟨fun _ => by kernel_rfl, fun _ => by kernel_rfl⟩
instance : NotInt Tryz.prog 10 := ⟨.inl (by kernel_rfl)⟩
instance : StrT Tryz.prog 10 := ⟨by kernel_rfl⟩
instance : ElOf Tryz.prog 10 1 16 := elOf_mk (by kernel_rfl) (by decide)
instance : ZeroOf Tryz.prog 10 [(.string ⟨#[]⟩)] := ⟨(.string ⟨#[]⟩), fun _ => by kernel_rfl, by kernel_rfl⟩
instance : IsOne Tryz.prog 11 := ⟨fun _ => by kernel_rfl, fun _ => by kernel_rfl⟩
instance : NotInt Tryz.prog 11 := ⟨.inl (by kernel_rfl)⟩
instance : StrT Tryz.prog 11 := ⟨by kernel_rfl⟩
instance : ElOf Tryz.prog 11 1 16 := elOf_mk (by kernel_rfl) (by decide)
instance : ZeroOf Tryz.prog 11 [(.string ⟨#[]⟩)] := ⟨(.string ⟨#[]⟩), fun _ => by kernel_rfl, by kernel_rfl⟩
instance : IsOne Tryz.prog 12 := ⟨fun _ => by kernel_rfl, fun _ => by kernel_rfl⟩
instance : IntT Tryz.prog 12 .u64 := ⟨by kernel_rfl⟩
instance : ElOf Tryz.prog 12 1 8 := elOf_mk (by kernel_rfl) (by decide)
instance : ZeroOf Tryz.prog 12 [(.int .u64 0)] := ⟨(.int .u64 0), fun _ => by kernel_rfl, by kernel_rfl⟩
instance : IsAgg Tryz.prog 13 2 := ⟨fun _ => by kernel_rfl, fun _ => by kernel_rfl⟩
instance : FldAt Tryz.prog 13 0 0 := ⟨fun _ _ _ => by kernel_rfl⟩
instance : FldAt Tryz.prog 13 1 1 := ⟨fun _ _ _ => by kernel_rfl⟩
instance : ElOf Tryz.prog 13 2 24 := elOf_mk (by kernel_rfl) (by decide)
instance : ZeroOf Tryz.prog 13 [(.string ⟨#[]⟩), (.int .u64 0)] := ⟨(.agg #[(.string ⟨#[]⟩), (.int .u64 0)]), fun _ => by kernel_rfl, by kernel_rfl⟩
instance : PlacesOf Tryz.prog 13 [(0, 1), (1, 1)] [(.string ⟨#[]⟩), (.int .u64 0)] := placesOf_mk (Tryz.prog.fieldsOf 13) (.agg #[(.string ⟨#[]⟩), (.int .u64 0)]) (fun _ => by kernel_rfl) (by kernel_rfl) (by kernel_rfl) (fun _ => by kernel_rfl)
instance : IsAgg Tryz.prog 14 2 := ⟨fun _ => by kernel_rfl, fun _ => by kernel_rfl⟩
instance : FldAt Tryz.prog 14 0 0 := ⟨fun _ _ _ => by kernel_rfl⟩
instance : FldAt Tryz.prog 14 1 1 := ⟨fun _ _ _ => by kernel_rfl⟩
instance : ElOf Tryz.prog 14 2 24 := elOf_mk (by kernel_rfl) (by decide)
instance : ZeroOf Tryz.prog 14 [(.string ⟨#[]⟩), (.int .u64 0)] := ⟨(.agg #[(.string ⟨#[]⟩), (.int .u64 0)]), fun _ => by kernel_rfl, by kernel_rfl⟩
instance : PlacesOf Tryz.prog 14 [(0, 1), (1, 1)] [(.string ⟨#[]⟩), (.int .u64 0)] := placesOf_mk (Tryz.prog.fieldsOf 14) (.agg #[(.string ⟨#[]⟩), (.int .u64 0)]) (fun _ => by kernel_rfl) (by kernel_rfl) (by kernel_rfl) (fun _ => by kernel_rfl)
instance : IsOne Tryz.prog 15 := ⟨fun _ => by kernel_rfl, fun _ => by kernel_rfl⟩
instance : ElOf Tryz.prog 15 1 8 := elOf_mk (by kernel_rfl) (by decide)
instance : ZeroOf Tryz.prog 15 [(.pointer none)] := ⟨(.pointer none), fun _ => by kernel_rfl, by kernel_rfl⟩
instance : IsOne Tryz.prog 16 := ⟨fun _ => by kernel_rfl, fun _ => by kernel_rfl⟩
instance : ElOf Tryz.prog 16 1 8 := elOf_mk (by kernel_rfl) (by decide)
instance : ZeroOf Tryz.prog 16 [(.pointer none)] := ⟨(.pointer none), fun _ => by kernel_rfl, by kernel_rfl⟩
instance : IsOne Tryz.prog 17 := ⟨fun _ => by kernel_rfl, fun _ => by kernel_rfl⟩
instance : ElOf Tryz.prog 17 1 8 := elOf_mk (by kernel_rfl) (by decide)
instance : ZeroOf Tryz.prog 17 [(.pointer none)] := ⟨(.pointer none), fun _ => by kernel_rfl, by kernel_rfl⟩
instance : IsAgg Tryz.prog 18 1 := ⟨fun _ => by kernel_rfl, fun _ => by kernel_rfl⟩
instance : FldAt Tryz.prog 18 0 0 := ⟨fun _ _ _ => by kernel_rfl⟩
instance : ElOf Tryz.prog 18 1 8 := elOf_mk (by kernel_rfl) (by decide)
instance : ZeroOf Tryz.prog 18 [(.pointer none)] := ⟨(.agg #[(.pointer none)]), fun _ => by kernel_rfl, by kernel_rfl⟩
instance : PlacesOf Tryz.prog 18 [(0, 1)] [(.pointer none)] := placesOf_mk (Tryz.prog.fieldsOf 18) (.agg #[(.pointer none)]) (fun _ => by kernel_rfl) (by kernel_rfl) (by kernel_rfl) (fun _ => by kernel_rfl)
instance : IsAgg Tryz.prog 19 1 := ⟨fun _ => by kernel_rfl, fun _ => by kernel_rfl⟩
instance : FldAt Tryz.prog 19 0 0 := ⟨fun _ _ _ => by kernel_rfl⟩
instance : ElOf Tryz.prog 19 1 8 := elOf_mk (by kernel_rfl) (by decide)
instance : ZeroOf Tryz.prog 19 [(.pointer none)] := ⟨(.agg #[(.pointer none)]), fun _ => by kernel_rfl, by kernel_rfl⟩
instance : PlacesOf Tryz.prog 19 [(0, 1)] [(.pointer none)] := placesOf_mk (Tryz.prog.fieldsOf 19) (.agg #[(.pointer none)]) (fun _ => by kernel_rfl) (by kernel_rfl) (by kernel_rfl) (fun _ => by kernel_rfl)
instance : IsOne Tryz.prog 20 := ⟨fun _ => by kernel_rfl, fun _ => by kernel_rfl⟩
instance : ElOf Tryz.prog 20 1 16 := elOf_mk (by kernel_rfl) (by decide)
instance : ZeroOf Tryz.prog 20 [.nilIface] := ⟨.nilIface, fun _ => by kernel_rfl, by kernel_rfl⟩
instance : IsOne Tryz.prog 21 := ⟨fun _ => by kernel_rfl, fun _ => by kernel_rfl⟩
instance : IntT Tryz.prog 21 .i32 := ⟨by kernel_rfl⟩
instance : ElOf Tryz.prog 21 1 4 := elOf_mk (by kernel_rfl) (by decide)
instance : ZeroOf Tryz.prog 21 [(.int .i32 0)] := ⟨(.int .i32 0), fun _ => by kernel_rfl, by kernel_rfl⟩
instance : IsOne Tryz.prog 22 := ⟨fun _ => by kernel_rfl, fun _ => by kernel_rfl⟩
instance : NotInt Tryz.prog 22 := ⟨.inr ⟨89, by kernel_rfl⟩⟩
instance : SlOf Tryz.prog 22 89 2 := ⟨by kernel_rfl, fun _ => by kernel_rfl⟩
instance : ElOf Tryz.prog 22 1 24 := elOf_mk (by kernel_rfl) (by decide)
instance : ZeroOf Tryz.prog 22 [(.slice none 0 0)] := ⟨(.slice none 0 0), fun _ => by kernel_rfl, by kernel_rfl⟩
instance : IsOne Tryz.prog 23 := ⟨fun _ => by kernel_rfl, fun _ => by kernel_rfl⟩
instance : NotInt Tryz.prog 23 := ⟨.inr ⟨28, by kernel_rfl⟩⟩
instance : SlOf Tryz.prog 23 28 1 := ⟨by kernel_rfl, fun _ => by kernel_rfl⟩
instance : ElOf Tryz.prog 23 1 24 := elOf_mk (by kernel_rfl) (by decide)
instance : ZeroOf Tryz.prog 23 [(.slice none 0 0)] := ⟨(.slice none 0 0), fun _ => by kernel_rfl, by kernel_rfl⟩
instance : IsOne Tryz.prog 24 := ⟨fun _ => by kernel_rfl, fun _ => by kernel_rfl⟩
instance : NotInt Tryz.prog 24 := ⟨.inr ⟨69, by kernel_rfl⟩⟩
instance : SlOf Tryz.prog 24 69 4 := ⟨by kernel_rfl, fun _ => by kernel_rfl⟩
instance : ElOf Tryz.prog 24 1 24 := elOf_mk (by kernel_rfl) (by decide)
instance : ZeroOf Tryz.prog 24 [(.slice none 0 0)] := ⟨(.slice none 0 0), fun _ => by kernel_rfl, by kernel_rfl⟩
instance : IsOne Tryz.prog 25 := ⟨fun _ => by kernel_rfl, fun _ => by kernel_rfl⟩
instance : NotInt Tryz.prog 25 := ⟨.inr ⟨54, by kernel_rfl⟩⟩
instance : SlOf Tryz.prog 25 54 4 := ⟨by kernel_rfl, fun _ => by kernel_rfl⟩
instance : ElOf Tryz.prog 25 1 24 := elOf_mk (by kernel_rfl) (by decide)
instance : ZeroOf Tryz.prog 25 [(.slice none 0 0)] := ⟨(.slice none 0 0), fun _ => by kernel_rfl, by kernel_rfl⟩
instance : IsOne Tryz.prog 26 := ⟨fun _ => by kernel_rfl, fun _ => by kernel_rfl⟩
instance : NotInt Tryz.prog 26 := ⟨.inr ⟨94, by kernel_rfl⟩⟩
instance : SlOf Tryz.prog 26 94 4 := ⟨by kernel_rfl, fun _ => by kernel_rfl⟩
instance : ElOf Tryz.prog 26 1 24 := elOf_mk (by kernel_rfl) (by decide)
instance : ZeroOf Tryz.prog 26 [(.slice none 0 0)] := ⟨(.slice none 0 0), fun _ => by kernel_rfl, by kernel_rfl⟩
instance : IsOne Tryz.prog 27 := ⟨fun _ => by kernel_rfl, fun _ => by kernel_rfl⟩
instance : NotInt Tryz.prog 27 := ⟨.inr ⟨3, by kernel_rfl⟩⟩
instance : SlOf Tryz.prog 27 3 1 := ⟨by kernel_rfl, fun _ => by kernel_rfl⟩
instance : ElOf Tryz.prog 27 1 24 := elOf_mk (by kernel_rfl) (by decide)
instance : ZeroOf Tryz.prog 27 [(.slice none 0 0)] := ⟨(.slice none 0 0), fun _ => by kernel_rfl, by kernel_rfl⟩
instance : IsOne Tryz.prog 28 := ⟨fun _ => by kernel_rfl, fun _ => by kernel_rfl⟩
instance : NotInt Tryz.prog 28 := ⟨.inr ⟨9, by kernel_rfl⟩⟩
instance : SlOf Tryz.prog 28 9 1 := ⟨by kernel_rfl, fun _ => by kernel_rfl⟩
instance : ElOf Tryz.prog 28 1 24 := elOf_mk (by kernel_rfl) (by decide)
instance : ZeroOf Tryz.prog 28 [(.slice none 0 0)] := ⟨(.slice none 0 0), fun _ => by kernel_rfl, by kernel_rfl⟩
instance : IsAgg Tryz.prog 29 7 := ⟨fun _ => by kernel_rfl, fun _ => by kernel_rfl⟩
instance : FldAt Tryz.prog 29 0 0 := ⟨fun _ _ _ => by kernel_rfl⟩
instance : FldAt Tryz.prog 29 1 1 := ⟨fun _ _ _ => by kernel_rfl⟩
instance : FldAt Tryz.prog 29 2 2 := ⟨fun _ _ _ => by kernel_rfl⟩
instance : FldAt Tryz.prog 29 3 3 := ⟨fun _ _ _ => by kernel_rfl⟩
instance : FldAt Tryz.prog 29 4 4 := ⟨fun _ _ _ => by kernel_rfl⟩
instance : FldAt Tryz.prog 29 5 5 := ⟨fun _ _ _ => by kernel_rfl⟩
instance : FldAt Tryz.prog 29 6 6 := ⟨fun _ _ _ => by kernel_rfl⟩
instance : ElOf Tryz.prog 29 7 168 := elOf_mk (by kernel_rfl) (by decide)
instance : ZeroOf Tryz.prog 29 [(.slice none 0 0), (.slice none 0 0), (.slice none 0 0), (.slice none 0 0), (.slice none 0 0), (.slice none 0 0), (.slice none 0 0)] := ⟨(.agg #[(.slice none 0 0), (.slice none 0 0), (.slice none 0 0), (.slice none 0 0), (.slice none 0 0), (.slice none 0 0), (.slice none 0 0)]), fun _ => by kernel_rfl, by kernel_rfl⟩
instance : PlacesOf Tryz.prog 29 [(0, 1), (1, 1), (2, 1), (3, 1), (4, 1), (5, 1), (6, 1)] [(.slice none 0 0), (.slice none 0 0), (.slice none 0 0), (.slice none 0 0), (.slice none 0 0), (.slice none 0 0), (.slice none 0 0)] := placesOf_mk (Tryz.prog.fieldsOf 29) (.agg #[(.slice none 0 0), (.slice none 0 0), (.slice none 0 0), (.slice none 0 0), (.slice none 0 0), (.slice none 0 0), (.slice none 0 0)]) (fun _ => by kernel_rfl) (by kernel_rfl) (by kernel_rfl) (fun _ => by kernel_rfl)
instance : IsAgg Tryz.prog 30 7 := ⟨fun _ => by kernel_rfl, fun _ => by kernel_rfl⟩
instance : FldAt Tryz.prog 30 0 0 := ⟨fun _ _ _ => by kernel_rfl⟩
instance : FldAt Tryz.prog 30 1 1 := ⟨fun _ _ _ => by kernel_rfl⟩
instance : FldAt Tryz.prog 30 2 2 := ⟨fun _ _ _ => by kernel_rfl⟩
instance : FldAt Tryz.prog 30 3 3 := ⟨fun _ _ _ => by kernel_rfl⟩
instance : FldAt Tryz.prog 30 4 4 := ⟨fun _ _ _ => by kernel_rfl⟩
instance : FldAt Tryz.prog 30 5 5 := ⟨fun _ _ _ => by kernel_rfl⟩
instance : FldAt Tryz.prog 30 6 6 := ⟨fun _ _ _ => by kernel_rfl⟩
instance : ElOf Tryz.prog 30 7 168 := elOf_mk (by kernel_rfl) (by decide)
instance : ZeroOf Tryz.prog 30 [(.slice none 0 0), (.slice none 0 0), (.slice none 0 0), (.slice none 0 0), (.slice none 0 0), (.slice none 0 0), (.slice none 0 0)] := ⟨(.agg #[(.slice none 0 0), (.slice none 0 0), (.slice none 0 0), (.slice none 0 0), (.slice none 0 0), (.slice none 0 0), (.slice none 0 0)]), fun _ => by kernel_rfl, by kernel_rfl⟩
instance : PlacesOf Tryz.prog 30 [(0, 1), (1, 1), (2, 1), (3, 1), (4, 1), (5, 1), (6, 1)] [(.slice none 0 0), (.slice none 0 0), (.slice none 0 0), (.slice none 0 0), (.slice none 0 0), (.slice none 0 0), (.slice none 0 0)] := placesOf_mk (Tryz.prog.fieldsOf 30) (.agg #[(.slice none 0 0), (.slice none 0 0), (.slice none 0 0), (.slice none 0 0), (.slice none 0 0), (.slice none 0 0), (.slice none 0 0)]) (fun _ => by kernel_rfl) (by kernel_rfl) (by kernel_rfl) (fun _ => by kernel_rfl)
instance : IsOne Tryz.prog 31 := ⟨fun _ => by kernel_rfl, fun _ => by kernel_rfl⟩
instance : ElOf Tryz.prog 31 1 8 := elOf_mk (by kernel_rfl) (by decide)
instance : ZeroOf Tryz.prog 31 [.nilFunc] := ⟨.nilFunc, fun _ => by kernel_rfl, by kernel_rfl⟩
instance : IsOne Tryz.prog 32 := ⟨fun _ => by kernel_rfl, fun _ => by kernel_rfl⟩
instance : ElOf Tryz.prog 32 1 8 := elOf_mk (by kernel_rfl) (by decide)
instance : ZeroOf Tryz.prog 32 [.nilFunc] := ⟨.nilFunc, fun _ => by kernel_rfl, by kernel_rfl⟩
instance : IsOne Tryz.prog 33 := ⟨fun _ => by kernel_rfl, fun _ => by kernel_rfl⟩
instance : NotInt Tryz.prog 33 := ⟨.inr ⟨35, by kernel_rfl⟩⟩
instance : SlOf Tryz.prog 33 35 7 := ⟨by kernel_rfl, fun _ => by kernel_rfl⟩
instance : ElOf Tryz.prog 33 1 24 := elOf_mk (by kernel_rfl) (by decide)
instance : ZeroOf Tryz.prog 33 [(.slice none 0 0)] := ⟨(.slice none 0 0), fun _ => by kernel_rfl, by kernel_rfl⟩
instance : IsAgg Tryz.prog 34 7 := ⟨fun _ => by kernel_rfl, fun _ => by kernel_rfl⟩
instance : FldAt Tryz.prog 34 0 0 := ⟨fun _ _ _ => by kernel_rfl⟩
instance : FldAt Tryz.prog 34 1 1 := ⟨fun _ _ _ => by kernel_rfl⟩
instance : FldAt Tryz.prog 34 2 2 := ⟨fun _ _ _ => by kernel_rfl⟩
instance : FldAt Tryz.prog 34 3 3 := ⟨fun _ _ _ => by kernel_rfl⟩
instance : FldAt Tryz.prog 34 4 4 := ⟨fun _ _ _ => by kernel_rfl⟩
instance : FldAt Tryz.prog 34 5 5 := ⟨fun _ _ _ => by kernel_rfl⟩
instance : FldAt Tryz.prog 34 6 6 := ⟨fun _ _ _ => by kernel_rfl⟩
instance : ElOf Tryz.prog 34 7 104 := elOf_mk (by kernel_rfl) (by decide)
instance : ZeroOf Tryz.prog 34 [(.int .i64 0), (.string ⟨#[]⟩), (.string ⟨#[]⟩), (.string ⟨#[]⟩), (.string ⟨#[]⟩), (.bool false), (.slice none 0 0)] := ⟨(.agg #[(.int .i64 0), (.string ⟨#[]⟩), (.string ⟨#[]⟩), (.string ⟨#[]⟩), (.string ⟨#[]⟩), (.bool false), (.slice none 0 0)]), fun _ => by kernel_rfl, by kernel_rfl⟩
instance : PlacesOf Tryz.prog 34 [(0, 1), (1, 1), (2, 1), (3, 1), (4, 1), (5, 1), (6, 1)] [(.int .i64 0), (.string ⟨#[]⟩), (.string ⟨#[]⟩), (.string ⟨#[]⟩), (.string ⟨#[]⟩), (.bool false), (.slice none 0 0)] := placesOf_mk (Tryz.prog.fieldsOf 34) (.agg #[(.int .i64 0), (.string ⟨#[]⟩), (.string ⟨#[]⟩), (.string ⟨#[]⟩), (.string ⟨#[]⟩), (.bool false), (.slice none 0 0)]) (fun _ => by kernel_rfl) (by kernel_rfl) (by kernel_rfl) (fun _ => by kernel_rfl)
instance : IsAgg Tryz.prog 35 7 := ⟨fun _ => by kernel_rfl, fun _ => by kernel_rfl⟩
instance : FldAt Tryz.prog 35 0 0 := ⟨fun _ _ _ => by kernel_rfl⟩
instance : FldAt Tryz.prog 35 1 1 := ⟨fun _ _ _ => by kernel_rfl⟩
instance : FldAt Tryz.prog 35 2 2 := ⟨fun _ _ _ => by kernel_rfl⟩
instance : FldAt Tryz.prog 35 3 3 := ⟨fun _ _ _ => by kernel_rfl⟩
instance : FldAt Tryz.prog 35 4 4 := ⟨fun _ _ _ => by kernel_rfl⟩
instance : FldAt Tryz.prog 35 5 5 := ⟨fun _ _ _ => by kernel_rfl⟩
instance : FldAt Tryz.prog 35 6 6 := ⟨fun _ _ _ => by kernel_rfl⟩
instance : ElOf Tryz.prog 35 7 104 := elOf_mk (by kernel_rfl) (by decide)
instance : ZeroOf Tryz.prog 35 [(.int .i64 0), (.string ⟨#[]⟩), (.string ⟨#[]⟩), (.string ⟨#[]⟩), (.string ⟨#[]⟩), (.bool false), (.slice none 0 0)] := ⟨(.agg #[(.int .i64 0), (.string ⟨#[]⟩), (.string ⟨#[]⟩), (.string ⟨#[]⟩), (.string ⟨#[]⟩), (.bool false), (.slice none 0 0)]), fun _ => by kernel_rfl, by kernel_rfl⟩
instance : PlacesOf Tryz.prog 35 [(0, 1), (1, 1), (2, 1), (3, 1), (4, 1), (5, 1), (6, 1)] [(.int .i64 0), (.string ⟨#[]⟩), (.string ⟨#[]⟩), (.string ⟨#[]⟩), (.string ⟨#[]⟩), (.bool false), (.slice none 0 0)] := placesOf_mk (Tryz.prog.fieldsOf 35) (.agg #[(.int .i64 0), (.string ⟨#[]⟩), (.string ⟨#[]⟩), (.string ⟨#[]⟩), (.string ⟨#[]⟩), (.bool false), (.slice none 0 0)]) (fun _ => by kernel_rfl) (by kernel_rfl) (by kernel_rfl) (fun _ => by kernel_rfl)
instance : IsOne Tryz.prog 36 := ⟨fun _ => by kernel_rfl, fun _ => by kernel_rfl⟩
instance : NotInt Tryz.prog 36 := ⟨.inr ⟨38, by kernel_rfl⟩⟩
instance : SlOf Tryz.prog 36 38 13 := ⟨by kernel_rfl, fun _ => by kernel_rfl⟩
instance : ElOf Tryz.prog 36 1 24 := elOf_mk (by kernel_rfl) (by decide)
instance : ZeroOf Tryz.prog 36 [(.slice none 0 0)] := ⟨(.slice none 0 0), fun _ => by kernel_rfl, by kernel_rfl⟩
instance : IsAgg Tryz.prog 37 13 := ⟨fun _ => by kernel_rfl, fun _ => by kernel_rfl⟩
instance : FldAt Tryz.prog 37 0 0 := ⟨fun _ _ _ => by kernel_rfl⟩
instance : FldAt Tryz.prog 37 1 1 := ⟨fun _ _ _ => by kernel_rfl⟩
instance : FldAt Tryz.prog 37 2 8 := ⟨fun _ _ _ => by kernel_rfl⟩
instance : FldAt Tryz.prog 37 3 9 := ⟨fun _ _ _ => by kernel_rfl⟩
instance : FldAt Tryz.prog 37 4 10 := ⟨fun _ _ _ => by kernel_rfl⟩
instance : FldAt Tryz.prog 37 5 11 := ⟨fun _ _ _ => by kernel_rfl⟩
instance : FldAt Tryz.prog 37 6 12 := ⟨fun _ _ _ => by kernel_rfl⟩
instance : ElOf Tryz.prog 37 13 184 := elOf_mk (by kernel_rfl) (by decide)
instance : ZeroOf Tryz.prog 37 [(.int .i64 0), (.int .i64 0), (.string ⟨#[]⟩), (.string ⟨#[]⟩), (.string ⟨#[]⟩), (.string ⟨#[]⟩), (.bool false), (.slice none 0 0), (.string ⟨#[]⟩), (.string ⟨#[]⟩), (.int .i64 0), (.int .i64 0), (.slice none 0 0)] := ⟨(.agg #[(.int .i64 0), (.int .i64 0), (.string ⟨#[]⟩), (.string ⟨#[]⟩), (.string ⟨#[]⟩), (.string ⟨#[]⟩), (.bool false), (.slice none 0 0), (.string ⟨#[]⟩), (.string ⟨#[]⟩), (.int .i64 0), (.int .i64 0), (.slice none 0 0)]), fun _ => by kernel_rfl, by kernel_rfl⟩
instance : PlacesOf Tryz.prog 37 [(0, 1), (1, 7), (8, 1), (9, 1), (10, 1), (11, 1), (12, 1)] [(.int .i64 0), (.int .i64 0), (.string ⟨#[]⟩), (.string ⟨#[]⟩), (.string ⟨#[]⟩), (.string ⟨#[]⟩), (.bool false), (.slice none 0 0), (.string ⟨#[]⟩), (.string ⟨#[]⟩), (.int .i64 0), (.int .i64 0), (.slice none 0 0)] := placesOf_mk (Tryz.prog.fieldsOf 37) (.agg #[(.int .i64 0), (.int .i64 0), (.string ⟨#[]⟩), (.string ⟨#[]⟩), (.string ⟨#[]⟩), (.string ⟨#[]⟩), (.bool false), (.slice none 0 0), (.string ⟨#[]⟩), (.string ⟨#[]⟩), (.int .i64 0), (.int .i64 0), (.slice none 0 0)]) (fun _ => by kernel_rfl) (by kernel_rfl) (by kernel_rfl) (fun _ => by kernel_rfl)
instance : IsAgg Tryz.prog 38 13 := ⟨fun _ => by kernel_rfl, fun _ => by kernel_rfl⟩
instance : FldAt Tryz.prog 38 0 0 := ⟨fun _ _ _ => by kernel_rfl⟩
instance : FldAt Tryz.prog 38 1 1 := ⟨fun _ _ _ => by kernel_rfl⟩
instance : FldAt Tryz.prog 38 2 8 := ⟨fun _ _ _ => by kernel_rfl⟩
instance : FldAt Tryz.prog 38 3 9 := ⟨fun _ _ _ => by kernel_rfl⟩
instance : FldAt Tryz.prog 38 4 10 := ⟨fun _ _ _ => by kernel_rfl⟩
instance : FldAt Tryz.prog 38 5 11 := ⟨fun _ _ _ => by kernel_rfl⟩
instance : FldAt Tryz.prog 38 6 12 := ⟨fun _ _ _ => by kernel_rfl⟩
instance : ElOf Tryz.prog 38 13 184 := elOf_mk (by kernel_rfl) (by decide)
instance : ZeroOf Tryz.prog 38 [(.int .i64 0), (.int .i64 0), (.string ⟨#[]⟩), (.string ⟨#[]⟩), (.string ⟨#[]⟩), (.string ⟨#[]⟩), (.bool false), (.slice none 0 0), (.string ⟨#[]⟩), (.string ⟨#[]⟩), (.int .i64 0), (.int .i64 0), (.slice none 0 0)] := ⟨(.agg #[(.int .i64 0), (.int .i64 0), (.string ⟨#[]⟩), (.string ⟨#[]⟩), (.string ⟨#[]⟩), (.string ⟨#[]⟩), (.bool false), (.slice none 0 0), (.string ⟨#[]⟩), (.string ⟨#[]⟩), (.int .i64 0), (.int .i64 0), (.slice none 0 0)]), fun _ => by kernel_rfl, by kernel_rfl⟩
instance : PlacesOf Tryz.prog 38 [(0, 1), (1, 7), (8, 1), (9, 1), (10, 1), (11, 1), (12, 1)] [(.int .i64 0), (.int .i64 0), (.string ⟨#[]⟩), (.string ⟨#[]⟩), (.string ⟨#[]⟩), (.string ⟨#[]⟩), (.bool false), (.slice none 0 0), (.string ⟨#[]⟩), (.string ⟨#[]⟩), (.int .i64 0), (.int .i64 0), (.slice none 0 0)] := placesOf_mk (Tryz.prog.fieldsOf 38) (.agg #[(.int .i64 0), (.int .i64 0), (.string ⟨#[]⟩), (.string ⟨#[]⟩), (.string ⟨#[]⟩), (.string ⟨#[]⟩), (.bool false), (.slice none 0 0), (.string ⟨#[]⟩), (.string ⟨#[]⟩), (.int .i64 0), (.int .i64 0), (.slice none 0 0)]) (fun _ => by kernel_rfl) (by kernel_rfl) (by kernel_rfl) (fun _ => by kernel_rfl)
instance : IsOne Tryz.prog 39 := ⟨fun _ => by kernel_rfl, fun _ => by kernel_rfl⟩
instance : NotInt Tryz.prog 39 := ⟨.inr ⟨71, by kernel_rfl⟩⟩
instance : SlOf Tryz.prog 39 71 3 := ⟨by kernel_rfl, fun _ => by kernel_rfl⟩
instance : ElOf Tryz.prog 39 1 24 := elOf_mk (by kernel_rfl) (by decide)
instance : ZeroOf Tryz.prog 39 [(.slice none 0 0)] := ⟨(.slice none 0 0), fun _ => by kernel_rfl, by kernel_rfl⟩
instance : IsOne Tryz.prog 40 := ⟨fun _ => by kernel_rfl, fun _ => by kernel_rfl⟩
instance : IntT Tryz.prog 40 .i64 := ⟨by kernel_rfl⟩
instance : ElOf Tryz.prog 40 1 8 := elOf_mk (by kernel_rfl) (by decide)
instance : ZeroOf Tryz.prog 40 [(.int .i64 0)] := ⟨(.int .i64 0), fun _ => by kernel_rfl, by kernel_rfl⟩
instance : IsOne Tryz.prog 42 := ⟨fun _ => by kernel_rfl, fun _ => by kernel_rfl⟩
instance : ElOf Tryz.prog 42 1 8 := elOf_mk (by kernel_rfl) (by decide)
instance : ZeroOf Tryz.prog 42 [.nilFunc] := ⟨.nilFunc, fun _ => by kernel_rfl, by kernel_rfl⟩
instance : IsOne Tryz.prog 43 := ⟨fun _ => by kernel_rfl, fun _ => by kernel_rfl⟩
instance : NotInt Tryz.prog 43 := ⟨.inr ⟨45, by kernel_rfl⟩⟩
instance : SlOf Tryz.prog 43 45 11 := ⟨by kernel_rfl, fun _ => by kernel_rfl⟩
instance : ElOf Tryz.prog 43 1 24 := elOf_mk (by kernel_rfl) (by decide)
instance : ZeroOf Tryz.prog 43 [(.slice none 0 0)] := ⟨(.slice none 0 0), fun _ => by kernel_rfl, by kernel_rfl⟩
instance : IsAgg Tryz.prog 44 11 := ⟨fun _ => by kernel_rfl, fun _ => by kernel_rfl⟩
instance : FldAt Tryz.prog 44 0 0 := ⟨fun _ _ _ => by kernel_rfl⟩
instance : FldAt Tryz.prog 44 1 1 := ⟨fun _ _ _ => by kernel_rfl⟩
instance : FldAt Tryz.prog 44 2 2 := ⟨fun _ _ _ => by kernel_rfl⟩
instance : FldAt Tryz.prog 44 3 3 := ⟨fun _ _ _ => by kernel_rfl⟩
instance : FldAt Tryz.prog 44 4 4 := ⟨fun _ _ _ => by kernel_rfl⟩
instance : FldAt Tryz.prog 44 5 5 := ⟨fun _ _ _ => by kernel_rfl⟩
instance : FldAt Tryz.prog 44 6 6 := ⟨fun _ _ _ => by kernel_rfl⟩
instance : FldAt Tryz.prog 44 7 7 := ⟨fun _ _ _ => by kernel_rfl⟩
instance : FldAt Tryz.prog 44 8 8 := ⟨fun _ _ _ => by kernel_rfl⟩
instance : FldAt Tryz.prog 44 9 9 := ⟨fun _ _ _ => by kernel_rfl⟩
instance : FldAt Tryz.prog 44 10 10 := ⟨fun _ _ _ => by kernel_rfl⟩
instance : ElOf Tryz.prog 44 11 160 := elOf_mk (by kernel_rfl) (by decide)
instance : ZeroOf Tryz.prog 44 [(.int .i64 0), (.string ⟨#[]⟩), (.string ⟨#[]⟩), (.string ⟨#[]⟩), (.string ⟨#[]⟩), (.string ⟨#[]⟩), (.bool false), (.int .i64 0), (.int .i64 0), (.slice none 0 0), (.slice none 0 0)] := ⟨(.agg #[(.int .i64 0), (.string ⟨#[]⟩), (.string ⟨#[]⟩), (.string ⟨#[]⟩), (.string ⟨#[]⟩), (.string ⟨#[]⟩), (.bool false), (.int .i64 0), (.int .i64 0), (.slice none 0 0), (.slice none 0 0)]), fun _ => by kernel_rfl, by kernel_rfl⟩
instance : PlacesOf Tryz.prog 44 [(0, 1), (1, 1), (2, 1), (3, 1), (4, 1), (5, 1), (6, 1), (7, 1), (8, 1), (9, 1), (10, 1)] [(.int .i64 0), (.string ⟨#[]⟩), (.string ⟨#[]⟩), (.string ⟨#[]⟩), (.string ⟨#[]⟩), (.string ⟨#[]⟩), (.bool false), (.int .i64 0), (.int .i64 0), (.slice none 0 0), (.slice none 0 0)] := placesOf_mk (Tryz.prog.fieldsOf 44) (.agg #[(.int .i64 0), (.string ⟨#[]⟩), (.string ⟨#[]⟩), (.string ⟨#[]⟩), (.string ⟨#[]⟩), (.string ⟨#[]⟩), (.bool false), (.int .i64 0), (.int .i64 0), (.slice none 0 0), (.slice none 0 0)]) (fun _ => by kernel_rfl) (by kernel_rfl) (by kernel_rfl) (fun _ => by kernel_rfl)
instance : IsAgg Tryz.prog 45 11 := ⟨fun _ => by kernel_rfl, fun _ => by kernel_rfl⟩
instance : FldAt Tryz.prog 45 0 0 := ⟨fun _ _ _ => by kernel_rfl⟩
instance : FldAt Tryz.prog 45 1 1 := ⟨fun _ _ _ => by kernel_rfl⟩
instance : FldAt Tryz.prog 45 2 2 := ⟨fun _ _ _ => by kernel_rfl⟩
instance : FldAt Tryz.prog 45 3 3 := ⟨fun _ _ _ => by kernel_rfl⟩
instance : FldAt Tryz.prog 45 4 4 := ⟨fun _ _ _ => by kernel_rfl⟩
instance : FldAt Tryz.prog 45 5 5 := ⟨fun _ _ _ => by kernel_rfl⟩
instance : FldAt Tryz.prog 45 6 6 := ⟨fun _ _ _ => by kernel_rfl⟩
instance : FldAt Tryz.prog 45 7 7 := ⟨fun _ _ _ => by kernel_rfl⟩
instance : FldAt Tryz.prog 45 8 8 := ⟨fun _ _ _ => by kernel_rfl⟩
instance : FldAt Tryz.prog 45 9 9 := ⟨fun _ _ _ => by kernel_rfl⟩
instance : FldAt Tryz.prog 45 10 10 := ⟨fun _ _ _ => by kernel_rfl⟩
instance : ElOf Tryz.prog 45 11 160 := elOf_mk (by kernel_rfl) (by decide)
instance : ZeroOf Tryz.prog 45 [(.int .i64 0), (.string ⟨#[]⟩), (.string ⟨#[]⟩), (.string ⟨#[]⟩), (.string ⟨#[]⟩), (.string ⟨#[]⟩), (.bool false), (.int .i64 0), (.int .i64 0), (.slice none 0 0), (.slice none 0 0)] := ⟨(.agg #[(.int .i64 0), (.string ⟨#[]⟩), (.string ⟨#[]⟩), (.string ⟨#[]⟩), (.string ⟨#[]⟩), (.string ⟨#[]⟩), (.bool false), (.int .i64 0), (.int .i64 0), (.slice none 0 0), (.slice none 0 0)]), fun _ => by kernel_rfl, by kernel_rfl⟩
instance : PlacesOf Tryz.prog 45 [(0, 1), (1, 1), (2, 1), (3, 1), (4, 1), (5, 1), (6, 1), (7, 1), (8, 1), (9, 1), (10, 1)] [(.int .i64 0), (.string ⟨#[]⟩), (.string ⟨#[]⟩), (.string ⟨#[]⟩), (.string ⟨#[]⟩), (.string ⟨#[]⟩), (.bool false), (.int .i64 0), (.int .i64 0), (.slice none 0 0), (.slice none 0 0)] := placesOf_mk (Tryz.prog.fieldsOf 45) (.agg #[(.int .i64 0), (.string ⟨#[]⟩), (.string ⟨#[]⟩), (.string ⟨#[]⟩), (.string ⟨#[]⟩), (.string ⟨#[]⟩), (.bool false), (.int .i64 0), (.int .i64 0), (.slice none 0 0), (.slice none 0 0)]) (fun _ => by kernel_rfl) (by kernel_rfl) (by kernel_rfl) (fun _ => by kernel_rfl)
instance : IsOne Tryz.prog 46 := ⟨fun _ => by kernel_rfl, fun _ => by kernel_rfl⟩
instance : NotInt Tryz.prog 46 := ⟨.inr ⟨50, by kernel_rfl⟩⟩
instance : SlOf Tryz.prog 46 50 3 := ⟨by kernel_rfl, fun _ => by kernel_rfl⟩
instance : ElOf Tryz.prog 46 1 24 := elOf_mk (by kernel_rfl) (by decide)
instance : ZeroOf Tryz.prog 46 [(.slice none 0 0)] := ⟨(.slice none 0 0), fun _ => by kernel_rfl, by kernel_rfl⟩
instance : IsAgg Tryz.prog 47 26 := ⟨fun _ => by kernel_rfl, fun _ => by kernel_rfl⟩
instance : FldAt Tryz.prog 47 0 0 := ⟨fun _ _ _ => by kernel_rfl⟩
instance : FldAt Tryz.prog 47 1 13 := ⟨fun _ _ _ => by kernel_rfl⟩
instance : FldAt Tryz.prog 47 2 24 := ⟨fun _ _ _ => by kernel_rfl⟩
instance : FldAt Tryz.prog 47 3 25 := ⟨fun _ _ _ => by kernel_rfl⟩
instance : ElOf Tryz.prog 47 26 376 := elOf_mk (by kernel_rfl) (by decide)
instance : ZeroOf Tryz.prog 47 [(.int .i64 0), (.int .i64 0), (.string ⟨#[]⟩), (.string ⟨#[]⟩), (.string ⟨#[]⟩), (.string ⟨#[]⟩), (.bool false), (.slice none 0 0), (.string ⟨#[]⟩), (.string ⟨#[]⟩), (.int .i64 0), (.int .i64 0), (.slice none 0 0), (.int .i64 0), (.string ⟨#[]⟩), (.string ⟨#[]⟩), (.string ⟨#[]⟩), (.string ⟨#[]⟩), (.string ⟨#[]⟩), (.bool false), (.int .i64 0), (.int .i64 0), (.slice none 0 0), (.slice none 0 0), (.slice none 0 0), (.int .i64 0)] := ⟨(.agg #[(.int .i64 0), (.int .i64 0), (.string ⟨#[]⟩), (.string ⟨#[]⟩), (.string ⟨#[]⟩), (.string ⟨#[]⟩), (.bool false), (.slice none 0 0), (.string ⟨#[]⟩), (.string ⟨#[]⟩), (.int .i64 0), (.int .i64 0), (.slice none 0 0), (.int .i64 0), (.string ⟨#[]⟩), (.string ⟨#[]⟩), (.string ⟨#[]⟩), (.string ⟨#[]⟩), (.string ⟨#[]⟩), (.bool false), (.int .i64 0), (.int .i64 0), (.slice none 0 0), (.slice none 0 0), (.slice none 0 0), (.int .i64 0)]), fun _ => by kernel_rfl, by kernel_rfl⟩
instance : PlacesOf Tryz.prog 47 [(0, 13), (13, 11), (24, 1), (25, 1)] [(.int .i64 0), (.int .i64 0), (.string ⟨#[]⟩), (.string ⟨#[]⟩), (.string ⟨#[]⟩), (.string ⟨#[]⟩), (.bool false), (.slice none 0 0), (.string ⟨#[]⟩), (.string ⟨#[]⟩), (.int .i64 0), (.int .i64 0), (.slice none 0 0), (.int .i64 0), (.string ⟨#[]⟩), (.string ⟨#[]⟩), (.string ⟨#[]⟩), (.string ⟨#[]⟩), (.string ⟨#[]⟩), (.bool false), (.int .i64 0), (.int .i64 0), (.slice none 0 0), (.slice none 0 0), (.slice none 0 0), (.int .i64 0)] := placesOf_mk (Tryz.prog.fieldsOf 47) (.agg #[(.int .i64 0), (.int .i64 0), (.string ⟨#[]⟩), (.string ⟨#[]⟩), (.string ⟨#[]⟩), (.string ⟨#[]⟩), (.bool false), (.slice none 0 0), (.string ⟨#[]⟩), (.string ⟨#[]⟩), (.int .i64 0), (.int .i64 0), (.slice none 0 0), (.int .i64 0), (.string ⟨#[]⟩), (.string ⟨#[]⟩), (.string ⟨#[]⟩), (.string ⟨#[]⟩), (.string ⟨#[]⟩), (.bool false), (.int .i64 0), (.int .i64 0), (.slice none 0 0), (.slice none 0 0), (.slice none 0 0), (.int .i64 0)]) (fun _ => by kernel_rfl) (by kernel_rfl) (by kernel_rfl) (fun _ => by kernel_rfl)
instance : IsAgg Tryz.prog 48 26 := ⟨fun _ => by kernel_rfl, fun _ => by kernel_rfl⟩
instance : FldAt Tryz.prog 48 0 0 := ⟨fun _ _ _ => by kernel_rfl⟩
instance : FldAt Tryz.prog 48 1 13 := ⟨fun _ _ _ => by kernel_rfl⟩
instance : FldAt Tryz.prog 48 2 24 := ⟨fun _ _ _ => by kernel_rfl⟩
instance : FldAt Tryz.prog 48 3 25 := ⟨fun _ _ _ => by kernel_rfl⟩
instance : ElOf Tryz.prog 48 26 376 := elOf_mk (by kernel_rfl) (by decide)
instance : ZeroOf Tryz.prog 48 [(.int .i64 0), (.int .i64 0), (.string ⟨#[]⟩), (.string ⟨#[]⟩), (.string ⟨#[]⟩), (.string ⟨#[]⟩), (.bool false), (.slice none 0 0), (.string ⟨#[]⟩), (.string ⟨#[]⟩), (.int .i64 0), (.int .i64 0), (.slice none 0 0), (.int .i64 0), (.string ⟨#[]⟩), (.string ⟨#[]⟩), (.string ⟨#[]⟩), (.string ⟨#[]⟩), (.string ⟨#[]⟩), (.bool false), (.int .i64 0), (.int .i64 0), (.slice none 0 0), (.slice none 0 0), (.slice none 0 0), (.int .i64 0)] := ⟨(.agg #[(.int .i64 0), (.int .i64 0), (.string ⟨#[]⟩), (.string ⟨#[]⟩), (.string ⟨#[]⟩), (.string ⟨#[]⟩), (.bool false), (.slice none 0 0), (.string ⟨#[]⟩), (.string ⟨#[]⟩), (.int .i64 0), (.int .i64 0), (.slice none 0 0), (.int .i64 0), (.string ⟨#[]⟩), (.string ⟨#[]⟩), (.string ⟨#[]⟩), (.string ⟨#[]⟩), (.string ⟨#[]⟩), (.bool false), (.int .i64 0), (.int .i64 0), (.slice none 0 0), (.slice none 0 0), (.slice none 0 0), (.int .i64 0)]), fun _ => by kernel_rfl, by kernel_rfl⟩
instance : PlacesOf Tryz.prog 48 [(0, 13), (13, 11), (24, 1), (25, 1)] [(.int .i64 0), (.int .i64 0), (.string ⟨#[]⟩), (.string ⟨#[]⟩), (.string ⟨#[]⟩), (.string ⟨#[]⟩), (.bool false), (.slice none 0 0), (.string ⟨#[]⟩), (.string ⟨#[]⟩), (.int .i64 0), (.int .i64 0), (.slice none 0 0), (.int .i64 0), (.string ⟨#[]⟩), (.string ⟨#[]⟩), (.string ⟨#[]⟩), (.string ⟨#[]⟩), (.string ⟨#[]⟩), (.bool false), (.int .i64 0), (.int .i64 0), (.slice none 0 0), (.slice none 0 0), (.slice none 0 0), (.int .i64 0)] := placesOf_mk (Tryz.prog.fieldsOf 48) (.agg #[(.int .i64 0), (.int .i64 0), (.string ⟨#[]⟩), (.string ⟨#[]⟩), (.string ⟨#[]⟩), (.string ⟨#[]⟩), (.bool false), (.slice none 0 0), (.string ⟨#[]⟩), (.string ⟨#[]⟩), (.int .i64 0), (.int .i64 0), (.slice none 0 0), (.int .i64 0), (.string ⟨#[]⟩), (.string ⟨#[]⟩), (.string ⟨#[]⟩), (.string ⟨#[]⟩), (.string ⟨#[]⟩), (.bool false), (.int .i64 0), (.int .i64 0), (.slice none 0 0), (.slice none 0 0), (.slice none 0 0), (.int .i64 0)]) (fun _ => by kernel_rfl) (by kernel_rfl) (by kernel_rfl) (fun _ => by kernel_rfl)
instance : IsAgg Tryz.prog 49 3 := ⟨fun _ => by kernel_rfl, fun _ => by kernel_rfl⟩
instance : FldAt Tryz.prog 49 0 0 := ⟨fun _ _ _ => by kernel_rfl⟩
instance : FldAt Tryz.prog 49 1 1 := ⟨fun _ _ _ => by kernel_rfl⟩
instance : FldAt Tryz.prog 49 2 2 := ⟨fun _ _ _ => by kernel_rfl⟩
instance : ElOf Tryz.prog 49 3 32 := elOf_mk (by kernel_rfl) (by decide)
instance : ZeroOf Tryz.prog 49 [(.int .i64 0), (.bool false), (.string ⟨#[]⟩)] := ⟨(.agg #[(.int .i64 0), (.bool false), (.string ⟨#[]⟩)]), fun _ => by kernel_rfl, by kernel_rfl⟩
instance : PlacesOf Tryz.prog 49 [(0, 1), (1, 1), (2, 1)] [(.int .i64 0), (.bool false), (.string ⟨#[]⟩)] := placesOf_mk (Tryz.prog.fieldsOf 49) (.agg #[(.int .i64 0), (.bool false), (.string ⟨#[]⟩)]) (fun _ => by kernel_rfl) (by kernel_rfl) (by kernel_rfl) (fun _ => by kernel_rfl)
instance : IsAgg Tryz.prog 50 3 := ⟨fun _ => by kernel_rfl, fun _ => by kernel_rfl⟩
instance : FldAt Tryz.prog 50 0 0 := ⟨fun _ _ _ => by kernel_rfl⟩
instance : FldAt Tryz.prog 50 1 1 := ⟨fun _ _ _ => by kernel_rfl⟩
instance : FldAt Tryz.prog 50 2 2 := ⟨fun _ _ _ => by kernel_rfl⟩
set_option maxRecDepth 100000 in
instance : FlatEq Tryz.prog 50 [.int .i64, .bool, .str] := ⟨by kernel_rfl, .cons (by kernel_rfl) (of_decide_eq_true (by kernel_rfl)) (fun _ => by kernel_rfl) (by kernel_rfl) (.cons (by kernel_rfl) (of_decide_eq_true (by kernel_rfl)) (fun _ => by kernel_rfl) (by kernel_rfl) (.cons (by kernel_rfl) (of_decide_eq_true (by kernel_rfl)) (fun _ => by kernel_rfl) (by kernel_rfl) (.nil))), by kernel_rfl, by kernel_rfl⟩
instance : ElOf Tryz.prog 50 3 32 := elOf_mk (by kernel_rfl) (by decide)
instance : ZeroOf Tryz.prog 50 [(.int .i64 0), (.bool false), (.string ⟨#[]⟩)] := ⟨(.agg #[(.int .i64 0), (.bool false), (.string ⟨#[]⟩)]), fun _ => by kernel_rfl, by kernel_rfl⟩
instance : PlacesOf Tryz.prog 50 [(0, 1), (1, 1), (2, 1)] [(.int .i64 0), (.bool false), (.string ⟨#[]⟩)] := placesOf_mk (Tryz.prog.fieldsOf 50) (.agg #[(.int .i64 0), (.bool false), (.string ⟨#[]⟩)]) (fun _ => by kernel_rfl) (by kernel_rfl) (by kernel_rfl) (fun _ => by kernel_rfl)
instance : IsOne Tryz.prog 51 := ⟨fun _ => by kernel_rfl, fun _ => by kernel_rfl⟩
instance : NotInt Tryz.prog 51 := ⟨.inr ⟨57, by kernel_rfl⟩⟩
instance : SlOf Tryz.prog 51 57 2 := ⟨by kernel_rfl, fun _ => by kernel_rfl⟩
instance : ElOf Tryz.prog 51 1 24 := elOf_mk (by kernel_rfl) (by decide)
instance : ZeroOf Tryz.prog 51 [(.slice none 0 0)] := ⟨(.slice none 0 0), fun _ => by kernel_rfl, by kernel_rfl⟩
instance : IsOne Tryz.prog 52 := ⟨fun _ => by kernel_rfl, fun _ => by kernel_rfl⟩
instance : NotInt Tryz.prog 52 := ⟨.inr ⟨125, by kernel_rfl⟩⟩
instance : SlOf Tryz.prog 52 125 2 := ⟨by kernel_rfl, fun _ => by kernel_rfl⟩
instance : ElOf Tryz.prog 52 1 24 := elOf_mk (by kernel_rfl) (by decide)
instance : ZeroOf Tryz.prog 52 [(.slice none 0 0)] := ⟨(.slice none 0 0), fun _ => by kernel_rfl, by kernel_rfl⟩
instance : IsAgg Tryz.prog 53 4 := ⟨fun _ => by kernel_rfl, fun _ => by kernel_rfl⟩
instance : FldAt Tryz.prog 53 0 0 := ⟨fun _ _ _ => by kernel_rfl⟩
instance : FldAt Tryz.prog 53 1 1 := ⟨fun _ _ _ => by kernel_rfl⟩
instance : FldAt Tryz.prog 53 2 2 := ⟨fun _ _ _ => by kernel_rfl⟩
instance : FldAt Tryz.prog 53 3 3 := ⟨fun _ _ _ => by kernel_rfl⟩
instance : ElOf Tryz.prog 53 4 56 := elOf_mk (by kernel_rfl) (by decide)
instance : ZeroOf Tryz.prog 53 [(.string ⟨#[]⟩), (.int .i64 0), (.int .i64 0), (.slice none 0 0)] := ⟨(.agg #[(.string ⟨#[]⟩), (.int .i64 0), (.int .i64 0), (.slice none 0 0)]), fun _ => by kernel_rfl, by kernel_rfl⟩
instance : PlacesOf Tryz.prog 53 [(0, 1), (1, 1), (2, 1), (3, 1)] [(.string ⟨#[]⟩), (.int .i64 0), (.int .i64 0), (.slice none 0 0)] := placesOf_mk (Tryz.prog.fieldsOf 53) (.agg #[(.string ⟨#[]⟩), (.int .i64 0), (.int .i64 0), (.slice none 0 0)]) (fun _ => by kernel_rfl) (by kernel_rfl) (by kernel_rfl) (fun _ => by kernel_rfl)
instance : IsAgg Tryz.prog 54 4 := ⟨fun _ => by kernel_rfl, fun _ => by kernel_rfl⟩
instance : FldAt Tryz.prog 54 0 0 := ⟨fun _ _ _ => by kernel_rfl⟩
instance : FldAt Tryz.prog 54 1 1 := ⟨fun _ _ _ => by kernel_rfl⟩
instance : FldAt Tryz.prog 54 2 2 := ⟨fun _ _ _ => by kernel_rfl⟩
instance : FldAt Tryz.prog 54 3 3 := ⟨fun _ _ _ => by kernel_rfl⟩
instance : ElOf Tryz.prog 54 4 56 := elOf_mk (by kernel_rfl) (by decide)
instance : ZeroOf Tryz.prog 54 [(.string ⟨#[]⟩), (.int .i64 0), (.int .i64 0), (.slice none 0 0)] := ⟨(.agg #[(.string ⟨#[]⟩), (.int .i64 0), (.int .i64 0), (.slice none 0 0)]), fun _ => by kernel_rfl, by kernel_rfl⟩
instance : PlacesOf Tryz.prog 54 [(0, 1), (1, 1), (2, 1), (3, 1)] [(.string ⟨#[]⟩), (.int .i64 0), (.int .i64 0), (.slice none 0 0)] := placesOf_mk (Tryz.prog.fieldsOf 54) (.agg #[(.string ⟨#[]⟩), (.int .i64 0), (.int .i64 0), (.slice none 0 0)]) (fun _ => by kernel_rfl) (by kernel_rfl) (by kernel_rfl) (fun _ => by kernel_rfl)
instance : IsOne Tryz.prog 55 := ⟨fun _ => by kernel_rfl, fun _ => by kernel_rfl⟩
instance : ElOf Tryz.prog 55 1 8 := elOf_mk (by kernel_rfl) (by decide)
instance : ZeroOf Tryz.prog 55 [.nilFunc] := ⟨.nilFunc, fun _ => by kernel_rfl, by kernel_rfl⟩
instance : IsAgg Tryz.prog 56 2 := ⟨fun _ => by kernel_rfl, fun _ => by kernel_rfl⟩
instance : FldAt Tryz.prog 56 0 0 := ⟨fun _ _ _ => by kernel_rfl⟩
instance : FldAt Tryz.prog 56 1 1 := ⟨fun _ _ _ => by kernel_rfl⟩
instance : ElOf Tryz.prog 56 2 16 := elOf_mk (by kernel_rfl) (by decide)
instance : ZeroOf Tryz.prog 56 [(.int .i64 0), (.int .i64 0)] := ⟨(.agg #[(.int .i64 0), (.int .i64 0)]), fun _ => by kernel_rfl, by kernel_rfl⟩
instance : PlacesOf Tryz.prog 56 [(0, 1), (1, 1)] [(.int .i64 0), (.int .i64 0)] := placesOf_mk (Tryz.prog.fieldsOf 56) (.agg #[(.int .i64 0), (.int .i64 0)]) (fun _ => by kernel_rfl) (by kernel_rfl) (by kernel_rfl) (fun _ => by kernel_rfl)
instance : IsAgg Tryz.prog 57 2 := ⟨fun _ => by kernel_rfl, fun _ => by kernel_rfl⟩
instance : FldAt Tryz.prog 57 0 0 := ⟨fun _ _ _ => by kernel_rfl⟩
instance : FldAt Tryz.prog 57 1 1 := ⟨fun _ _ _ => by kernel_rfl⟩
set_option maxRecDepth 100000 in
instance : FlatEq Tryz.prog 57 [.int .i64, .int .i64] := ⟨by kernel_rfl, .cons (by kernel_rfl) (of_decide_eq_true (by kernel_rfl)) (fun _ => by kernel_rfl) (by kernel_rfl) (.cons (by kernel_rfl) (of_decide_eq_true (by kernel_rfl)) (fun _ => by kernel_rfl) (by kernel_rfl) (.nil)), by kernel_rfl, by kernel_rfl⟩
instance : ElOf Tryz.prog 57 2 16 := elOf_mk (by kernel_rfl) (by decide)
instance : ZeroOf Tryz.prog 57 [(.int .i64 0), (.int .i64 0)] := ⟨(.agg #[(.int .i64 0), (.int .i64 0)]), fun _ => by kernel_rfl, by kernel_rfl⟩
instance : PlacesOf Tryz.prog 57 [(0, 1), (1, 1)] [(.int .i64 0), (.int .i64 0)] := placesOf_mk (Tryz.prog.fieldsOf 57) (.agg #[(.int .i64 0), (.int .i64 0)]) (fun _ => by kernel_rfl) (by kernel_rfl) (by kernel_rfl) (fun _ => by kernel_rfl)
instance : IsOne Tryz.prog 58 := ⟨fun _ => by kernel_rfl, fun _ => by kernel_rfl⟩
instance : ElOf Tryz.prog 58 1 8 := elOf_mk (by kernel_rfl) (by decide)
instance : ZeroOf Tryz.prog 58 [.nilFunc] := ⟨.nilFunc, fun _ => by kernel_rfl, by kernel_rfl⟩
instance : IsOne Tryz.prog 59 := ⟨fun _ => by kernel_rfl, fun _ => by kernel_rfl⟩
instance : ElOf Tryz.prog 59 1 8 := elOf_mk (by kernel_rfl) (by decide)
instance : ZeroOf Tryz.prog 59 [.nilFunc] := ⟨.nilFunc, fun _ => by kernel_rfl, by kernel_rfl⟩
instance : IsOne Tryz.prog 60 := ⟨fun _ => by kernel_rfl, fun _ => by kernel_rfl⟩
instance : ElOf Tryz.prog 60 1 8 := elOf_mk (by kernel_rfl) (by decide)
instance : ZeroOf Tryz.prog 60 [.nilFunc] := ⟨.nilFunc, fun _ => by kernel_rfl, by kernel_rfl⟩
instance : IsOne Tryz.prog 61 := ⟨fun _ => by kernel_rfl, fun _ => by kernel_rfl⟩
instance : ElOf Tryz.prog 61 1 8 := elOf_mk (by kernel_rfl) (by decide)
instance : ZeroOf Tryz.prog 61 [.nilFunc] := ⟨.nilFunc, fun _ => by kernel_rfl, by kernel_rfl⟩
instance : IsOne Tryz.prog 62 := ⟨fun _ => by kernel_rfl, fun _ => by kernel_rfl⟩
instance : ElOf Tryz.prog 62 1 8 := elOf_mk (by kernel_rfl) (by decide)
instance : ZeroOf Tryz.prog 62 [.nilFunc] := ⟨.nilFunc, fun _ => by kernel_rfl, by kernel_rfl⟩
instance : IsOne Tryz.prog 63 := ⟨fun _ => by kernel_rfl, fun _ => by kernel_rfl⟩
instance : ElOf Tryz.prog 63 1 8 := elOf_mk (by kernel_rfl) (by decide)
instance : ZeroOf Tryz.prog 63 [.nilFunc] := ⟨.nilFunc, fun _ => by kernel_rfl, by kernel_rfl⟩
instance : IsOne Tryz.prog 64 := ⟨fun _ => by kernel_rfl, fun _ => by kernel_rfl⟩
instance : ElOf Tryz.prog 64 1 8 := elOf_mk (by kernel_rfl) (by decide)
instance : ZeroOf Tryz.prog 64 [.nilFunc] := ⟨.nilFunc, fun _ => by kernel_rfl, by kernel_rfl⟩
instance : IsOne Tryz.prog 65 := ⟨fun _ => by kernel_rfl, fun _ => by kernel_rfl⟩
instance : ElOf Tryz.prog 65 1 8 := elOf_mk (by kernel_rfl) (by decide)
instance : ZeroOf Tryz.prog 65 [.nilFunc] := ⟨.nilFunc, fun _ => by kernel_rfl, by kernel_rfl⟩
instance : IsOne Tryz.prog 66 := ⟨fun _ => by kernel_rfl, fun _ => by kernel_rfl⟩
instance : ElOf Tryz.prog 66 1 8 := elOf_mk (by kernel_rfl) (by decide)
instance : ZeroOf Tryz.prog 66 [.nilFunc] := ⟨.nilFunc, fun _ => by kernel_rfl, by kernel_rfl⟩
instance : IsOne Tryz.prog 67 := ⟨fun _ => by kernel_rfl, fun _ => by kernel_rfl⟩
instance : ElOf Tryz.prog 67 1 8 := elOf_mk (by kernel_rfl) (by decide)
instance : ZeroOf Tryz.prog 67 [.nilFunc] := ⟨.nilFunc, fun _ => by kernel_rfl, by kernel_rfl⟩
instance : IsAgg Tryz.prog 68 4 := ⟨fun _ => by kernel_rfl, fun _ => by kernel_rfl⟩
instance : FldAt Tryz.prog 68 0 0 := ⟨fun _ _ _ => by kernel_rfl⟩
instance : FldAt Tryz.prog 68 1 1 := ⟨fun _ _ _ => by kernel_rfl⟩
instance : FldAt Tryz.prog 68 2 2 := ⟨fun _ _ _ => by kernel_rfl⟩
instance : FldAt Tryz.prog 68 3 3 := ⟨fun _ _ _ => by kernel_rfl⟩
instance : ElOf Tryz.prog 68 4 56 := elOf_mk (by kernel_rfl) (by decide)
instance : ZeroOf Tryz.prog 68 [(.string ⟨#[]⟩), (.int .i64 0), (.int .i64 0), (.slice none 0 0)] := ⟨(.agg #[(.string ⟨#[]⟩), (.int .i64 0), (.int .i64 0), (.slice none 0 0)]), fun _ => by kernel_rfl, by kernel_rfl⟩
instance : PlacesOf Tryz.prog 68 [(0, 1), (1, 1), (2, 1), (3, 1)] [(.string ⟨#[]⟩), (.int .i64 0), (.int .i64 0), (.slice none 0 0)] := placesOf_mk (Tryz.prog.fieldsOf 68) (.agg #[(.string ⟨#[]⟩), (.int .i64 0), (.int .i64 0), (.slice none 0 0)]) (fun _ => by kernel_rfl) (by kernel_rfl) (by kernel_rfl) (fun _ => by kernel_rfl)
instance : IsAgg Tryz.prog 69 4 := ⟨fun _ => by kernel_rfl, fun _ => by kernel_rfl⟩
instance : FldAt Tryz.prog 69 0 0 := ⟨fun _ _ _ => by kernel_rfl⟩
instance : FldAt Tryz.prog 69 1 1 := ⟨fun _ _ _ => by kernel_rfl⟩
instance : FldAt Tryz.prog 69 2 2 := ⟨fun _ _ _ => by kernel_rfl⟩
instance : FldAt Tryz.prog 69 3 3 := ⟨fun _ _ _ => by kernel_rfl⟩
instance : ElOf Tryz.prog 69 4 56 := elOf_mk (by kernel_rfl) (by decide)
instance : ZeroOf Tryz.prog 69 [(.string ⟨#[]⟩), (.int .i64 0), (.int .i64 0), (.slice none 0 0)] := ⟨(.agg #[(.string ⟨#[]⟩), (.int .i64 0), (.int .i64 0), (.slice none 0 0)]), fun _ => by kernel_rfl, by kernel_rfl⟩
instance : PlacesOf Tryz.prog 69 [(0, 1), (1, 1), (2, 1), (3, 1)] [(.string ⟨#[]⟩), (.int .i64 0), (.int .i64 0), (.slice none 0 0)] := placesOf_mk (Tryz.prog.fieldsOf 69) (.agg #[(.string ⟨#[]⟩), (.int .i64 0), (.int .i64 0), (.slice none 0 0)]) (fun _ => by kernel_rfl) (by kernel_rfl) (by kernel_rfl) (fun _ => by kernel_rfl)
instance : IsAgg Tryz.prog 70 3 := ⟨fun _ => by kernel_rfl, fun _ => by kernel_rfl⟩
instance : FldAt Tryz.prog 70 0 0 := ⟨fun _ _ _ => by kernel_rfl⟩
instance : FldAt Tryz.prog 70 1 1 := ⟨fun _ _ _ => by kernel_rfl⟩
instance : FldAt Tryz.prog 70 2 2 := ⟨fun _ _ _ => by kernel_rfl⟩
instance : ElOf Tryz.prog 70 3 40 := elOf_mk (by kernel_rfl) (by decide)
instance : ZeroOf Tryz.prog 70 [(.int .i64 0), (.int .i64 0), (.slice none 0 0)] := ⟨(.agg #[(.int .i64 0), (.int .i64 0), (.slice none 0 0)]), fun _ => by kernel_rfl, by kernel_rfl⟩
instance : PlacesOf Tryz.prog 70 [(0, 1), (1, 1), (2, 1)] [(.int .i64 0), (.int .i64 0), (.slice none 0 0)] := placesOf_mk (Tryz.prog.fieldsOf 70) (.agg #[(.int .i64 0), (.int .i64 0), (.slice none 0 0)]) (fun _ => by kernel_rfl) (by kernel_rfl) (by kernel_rfl) (fun _ => by kernel_rfl)
instance : IsAgg Tryz.prog 71 3 := ⟨fun _ => by kernel_rfl, fun _ => by kernel_rfl⟩
instance : FldAt Tryz.prog 71 0 0 := ⟨fun _ _ _ => by kernel_rfl⟩
instance : FldAt Tryz.prog 71 1 1 := ⟨fun _ _ _ => by kernel_rfl⟩
instance : FldAt Tryz.prog 71 2 2 := ⟨fun _ _ _ => by kernel_rfl⟩
instance : ElOf Tryz.prog 71 3 40 := elOf_mk (by kernel_rfl) (by decide)
instance : ZeroOf Tryz.prog 71 [(.int .i64 0), (.int .i64 0), (.slice none 0 0)] := ⟨(.agg #[(.int .i64 0), (.int .i64 0), (.slice none 0 0)]), fun _ => by kernel_rfl, by kernel_rfl⟩
instance : PlacesOf Tryz.prog 71 [(0, 1), (1, 1), (2, 1)] [(.int .i64 0), (.int .i64 0), (.slice none 0 0)] := placesOf_mk (Tryz.prog.fieldsOf 71) (.agg #[(.int .i64 0), (.int .i64 0), (.slice none 0 0)]) (fun _ => by kernel_rfl) (by kernel_rfl) (by kernel_rfl) (fun _ => by kernel_rfl)
instance : IsOne Tryz.prog 72 := ⟨fun _ => by kernel_rfl, fun _ => by kernel_rfl⟩
instance : ElOf Tryz.prog 72 1 8 := elOf_mk (by kernel_rfl) (by decide)
instance : ZeroOf Tryz.prog 72 [.nilFunc] := ⟨.nilFunc, fun _ => by kernel_rfl, by kernel_rfl⟩
instance : IsOne Tryz.prog 73 := ⟨fun _ => by kernel_rfl, fun _ => by kernel_rfl⟩
instance : ElOf Tryz.prog 73 1 8 := elOf_mk (by kernel_rfl) (by decide)
instance : ZeroOf Tryz.prog 73 [.nilFunc] := ⟨.nilFunc, fun _ => by kernel_rfl, by kernel_rfl⟩
instance : IsOne Tryz.prog 74 := ⟨fun _ => by kernel_rfl, fun _ => by kernel_rfl⟩
instance : ElOf Tryz.prog 74 1 8 := elOf_mk (by kernel_rfl) (by decide)
instance : ZeroOf Tryz.prog 74 [.nilFunc] := ⟨.nilFunc, fun _ => by kernel_rfl, by kernel_rfl⟩
instance : IsOne Tryz.prog 75 := ⟨fun _ => by kernel_rfl, fun _ => by kernel_rfl⟩
instance : ElOf Tryz.prog 75 1 8 := elOf_mk (by kernel_rfl) (by decide)
instance : ZeroOf Tryz.prog 75 [.nilFunc] := ⟨.nilFunc, fun _ => by kernel_rfl, by kernel_rfl⟩
instance : IsOne Tryz.prog 76 := ⟨fun _ => by kernel_rfl, fun _ => by kernel_rfl⟩
instance : ElOf Tryz.prog 76 1 8 := elOf_mk (by kernel_rfl) (by decide)
instance : ZeroOf Tryz.prog 76 [.nilFunc] := ⟨.nilFunc, fun _ => by kernel_rfl, by kernel_rfl⟩
instance : IsOne Tryz.prog 77 := ⟨fun _ => by kernel_rfl, fun _ => by kernel_rfl⟩
instance : ElOf Tryz.prog 77 1 8 := elOf_mk (by kernel_rfl) (by decide)
instance : ZeroOf Tryz.prog 77 [.nilFunc] := ⟨.nilFunc, fun _ => by kernel_rfl, by kernel_rfl⟩
instance : IsOne Tryz.prog 78 := ⟨fun _ => by kernel_rfl, fun _ => by kernel_rfl⟩
instance : ElOf Tryz.prog 78 1 8 := elOf_mk (by kernel_rfl) (by decide)
instance : ZeroOf Tryz.prog 78 [.nilFunc] := ⟨.nilFunc, fun _ => by kernel_rfl, by kernel_rfl⟩
instance : IsOne Tryz.prog 79 := ⟨fun _ => by kernel_rfl, fun _ => by kernel_rfl⟩
instance : ElOf Tryz.prog 79 1 8 := elOf_mk (by kernel_rfl) (by decide)
instance : ZeroOf Tryz.prog 79 [.nilFunc] := ⟨.nilFunc, fun _ => by kernel_rfl, by kernel_rfl⟩
instance : IsOne Tryz.prog 80 := ⟨fun _ => by kernel_rfl, fun _ => by kernel_rfl⟩
instance : ElOf Tryz.prog 80 1 8 := elOf_mk (by kernel_rfl) (by decide)
instance : ZeroOf Tryz.prog 80 [.nilFunc] := ⟨.nilFunc, fun _ => by kernel_rfl, by kernel_rfl⟩
instance : IsOne Tryz.prog 81 := ⟨fun _ => by kernel_rfl, fun _ => by kernel_rfl⟩
instance : ElOf Tryz.prog 81 1 8 := elOf_mk (by kernel_rfl) (by decide)
instance : ZeroOf Tryz.prog 81 [.nilFunc] := ⟨.nilFunc, fun _ => by kernel_rfl, by kernel_rfl⟩
instance : IsOne Tryz.prog 82 := ⟨fun _ => by kernel_rfl, fun _ => by kernel_rfl⟩
instance : ElOf Tryz.prog 82 1 8 := elOf_mk (by kernel_rfl) (by decide)
instance : ZeroOf Tryz.prog 82 [.nilFunc] := ⟨.nilFunc, fun _ => by kernel_rfl, by kernel_rfl⟩
instance : IsOne Tryz.prog 83 := ⟨fun _ => by kernel_rfl, fun _ => by kernel_rfl⟩
instance : ElOf Tryz.prog 83 1 8 := elOf_mk (by kernel_rfl) (by decide)
instance : ZeroOf Tryz.prog 83 [.nilFunc] := ⟨.nilFunc, fun _ => by kernel_rfl, by kernel_rfl⟩
instance : IsAgg Tryz.prog 84 2 := ⟨fun _ => by kernel_rfl, fun _ => by kernel_rfl⟩
instance : FldAt Tryz.prog 84 0 0 := ⟨fun _ _ _ => by kernel_rfl⟩
instance : FldAt Tryz.prog 84 1 1 := ⟨fun _ _ _ => by kernel_rfl⟩
instance : ElOf Tryz.prog 84 2 16 := elOf_mk (by kernel_rfl) (by decide)
instance : ZeroOf Tryz.prog 84 [(.int .i64 0), (.int .i64 0)] := ⟨(.agg #[(.int .i64 0), (.int .i64 0)]), fun _ => by kernel_rfl, by kernel_rfl⟩
instance : PlacesOf Tryz.prog 84 [(0, 1), (1, 1)] [(.int .i64 0), (.int .i64 0)] := placesOf_mk (Tryz.prog.fieldsOf 84) (.agg #[(.int .i64 0), (.int .i64 0)]) (fun _ => by kernel_rfl) (by kernel_rfl) (by kernel_rfl) (fun _ => by kernel_rfl)
instance : IsAgg Tryz.prog 85 2 := ⟨fun _ => by kernel_rfl, fun _ => by kernel_rfl⟩
instance : FldAt Tryz.prog 85 0 0 := ⟨fun _ _ _ => by kernel_rfl⟩
instance : FldAt Tryz.prog 85 1 1 := ⟨fun _ _ _ => by kernel_rfl⟩
set_option maxRecDepth 100000 in
instance : FlatEq Tryz.prog 85 [.int .i64, .int .i64] := ⟨by kernel_rfl, .cons (by kernel_rfl) (of_decide_eq_true (by kernel_rfl)) (fun _ => by kernel_rfl) (by kernel_rfl) (.cons (by kernel_rfl) (of_decide_eq_true (by kernel_rfl)) (fun _ => by kernel_rfl) (by kernel_rfl) (.nil)), by kernel_rfl, by kernel_rfl⟩
instance : ElOf Tryz.prog 85 2 16 := elOf_mk (by kernel_rfl) (by decide)
instance : ZeroOf Tryz.prog 85 [(.int .i64 0), (.int .i64 0)] := ⟨(.agg #[(.int .i64 0), (.int .i64 0)]), fun _ => by kernel_rfl, by kernel_rfl⟩
instance : PlacesOf Tryz.prog 85 [(0, 1), (1, 1)] [(.int .i64 0), (.int .i64 0)] := placesOf_mk (Tryz.prog.fieldsOf 85) (.agg #[(.int .i64 0), (.int .i64 0)]) (fun _ => by kernel_rfl) (by kernel_rfl) (by kernel_rfl) (fun _ => by kernel_rfl)
instance : IsOne Tryz.prog 87 := ⟨fun _ => by kernel_rfl, fun _ => by kernel_rfl⟩
instance : ElOf Tryz.prog 87 1 8 := elOf_mk (by kernel_rfl) (by decide)
instance : ZeroOf Tryz.prog 87 [.nilFunc] := ⟨.nilFunc, fun _ => by kernel_rfl, by kernel_rfl⟩
instance : IsAgg Tryz.prog 88 2 := ⟨fun _ => by kernel_rfl, fun _ => by kernel_rfl⟩
instance : FldAt Tryz.prog 88 0 0 := ⟨fun _ _ _ => by kernel_rfl⟩
instance : FldAt Tryz.prog 88 1 1 := ⟨fun _ _ _ => by kernel_rfl⟩
instance : ElOf Tryz.prog 88 2 24 := elOf_mk (by kernel_rfl) (by decide)
instance : ZeroOf Tryz.prog 88 [(.string ⟨#[]⟩), (.bool false)] := ⟨(.agg #[(.string ⟨#[]⟩), (.bool false)]), fun _ => by kernel_rfl, by kernel_rfl⟩
instance : PlacesOf Tryz.prog 88 [(0, 1), (1, 1)] [(.string ⟨#[]⟩), (.bool false)] := placesOf_mk (Tryz.prog.fieldsOf 88) (.agg #[(.string ⟨#[]⟩), (.bool false)]) (fun _ => by kernel_rfl) (by kernel_rfl) (by kernel_rfl) (fun _ => by kernel_rfl)
instance : IsAgg Tryz.prog 89 2 := ⟨fun _ => by kernel_rfl, fun _ => by kernel_rfl⟩
instance : FldAt Tryz.prog 89 0 0 := ⟨fun _ _ _ => by kernel_rfl⟩
instance : FldAt Tryz.prog 89 1 1 := ⟨fun _ _ _ => by kernel_rfl⟩
set_option maxRecDepth 100000 in
instance : FlatEq Tryz.prog 89 [.str, .bool] := ⟨by kernel_rfl, .cons (by kernel_rfl) (of_decide_eq_true (by kernel_rfl)) (fun _ => by kernel_rfl) (by kernel_rfl) (.cons (by kernel_rfl) (of_decide_eq_true (by kernel_rfl)) (fun _ => by kernel_rfl) (by kernel_rfl) (.nil)), by kernel_rfl, by kernel_rfl⟩
instance : ElOf Tryz.prog 89 2 24 := elOf_mk (by kernel_rfl) (by decide)
instance : ZeroOf Tryz.prog 89 [(.string ⟨#[]⟩), (.bool false)] := ⟨(.agg #[(.string ⟨#[]⟩), (.bool false)]), fun _ => by kernel_rfl, by kernel_rfl⟩
instance : PlacesOf Tryz.prog 89 [(0, 1), (1, 1)] [(.string ⟨#[]⟩), (.bool false)] := placesOf_mk (Tryz.prog.fieldsOf 89) (.agg #[(.string ⟨#[]⟩), (.bool false)]) (fun _ => by kernel_rfl) (by kernel_rfl) (by kernel_rfl) (fun _ => by kernel_rfl)
instance : IsOne Tryz.prog 91 := ⟨fun _ => by kernel_rfl, fun _ => by kernel_rfl⟩
instance : ElOf Tryz.prog 91 1 8 := elOf_mk (by kernel_rfl) (by decide)
instance : ZeroOf Tryz.prog 91 [.nilFunc] := ⟨.nilFunc, fun _ => by kernel_rfl, by kernel_rfl⟩
instance : IsOne Tryz.prog 92 := ⟨fun _ => by kernel_rfl, fun _ => by kernel_rfl⟩
instance : ElOf Tryz.prog 92 1 8 := elOf_mk (by kernel_rfl) (by decide)
instance : ZeroOf Tryz.prog 92 [.nilFunc] := ⟨.nilFunc, fun _ => by kernel_rfl, by kernel_rfl⟩
instance : IsAgg Tryz.prog 93 4 := ⟨fun _ => by kernel_rfl, fun _ => by kernel_rfl⟩
instance : FldAt Tryz.prog 93 0 0 := ⟨fun _ _ _ => by kernel_rfl⟩
instance : FldAt Tryz.prog 93 1 1 := ⟨fun _ _ _ => by kernel_rfl⟩
instance : FldAt Tryz.prog 93 2 2 := ⟨fun _ _ _ => by kernel_rfl⟩
instance : FldAt Tryz.prog 93 3 3 := ⟨fun _ _ _ => by kernel_rfl⟩
instance : ElOf Tryz.prog 93 4 40 := elOf_mk (by kernel_rfl) (by decide)
instance : ZeroOf Tryz.prog 93 [(.string ⟨#[]⟩), (.int .i64 0), (.int .i64 0), (.int .i64 0)] := ⟨(.agg #[(.string ⟨#[]⟩), (.int .i64 0), (.int .i64 0), (.int .i64 0)]), fun _ => by kernel_rfl, by kernel_rfl⟩
instance : PlacesOf Tryz.prog 93 [(0, 1), (1, 1), (2, 1), (3, 1)] [(.string ⟨#[]⟩), (.int .i64 0), (.int .i64 0), (.int .i64 0)] := placesOf_mk (Tryz.prog.fieldsOf 93) (.agg #[(.string ⟨#[]⟩), (.int .i64 0), (.int .i64 0), (.int .i64 0)]) (fun _ => by kernel_rfl) (by kernel_rfl) (by kernel_rfl) (fun _ => by kernel_rfl)
instance : IsAgg Tryz.prog 94 4 := ⟨fun _ => by kernel_rfl, fun _ => by kernel_rfl⟩
instance : FldAt Tryz.prog 94 0 0 := ⟨fun _ _ _ => by kernel_rfl⟩
instance : FldAt Tryz.prog 94 1 1 := ⟨fun _ _ _ => by kernel_rfl⟩
instance : FldAt Tryz.prog 94 2 2 := ⟨fun _ _ _ => by kernel_rfl⟩
instance : FldAt Tryz.prog 94 3 3 := ⟨fun _ _ _ => by kernel_rfl⟩
set_option maxRecDepth 100000 in
instance : FlatEq Tryz.prog 94 [.str, .int .i64, .int .i64, .int .i64] := ⟨by kernel_rfl, .cons (by kernel_rfl) (of_decide_eq_true (by kernel_rfl)) (fun _ => by kernel_rfl) (by kernel_rfl) (.cons (by kernel_rfl) (of_decide_eq_true (by kernel_rfl)) (fun _ => by kernel_rfl) (by kernel_rfl) (.cons (by kernel_rfl) (of_decide_eq_true (by kernel_rfl)) (fun _ => by kernel_rfl) (by kernel_rfl) (.cons (by kernel_rfl) (of_decide_eq_true (by kernel_rfl)) (fun _ => by kernel_rfl) (by kernel_rfl) (.nil)))), by kernel_rfl, by kernel_rfl⟩
instance : ElOf Tryz.prog 94 4 40 := elOf_mk (by kernel_rfl) (by decide)
instance : ZeroOf Tryz.prog 94 [(.string ⟨#[]⟩), (.int .i64 0), (.int .i64 0), (.int .i64 0)] := ⟨(.agg #[(.string ⟨#[]⟩), (.int .i64 0), (.int .i64 0), (.int .i64 0)]), fun _ => by kernel_rfl, by kernel_rfl⟩
instance : PlacesOf Tryz.prog 94 [(0, 1), (1, 1), (2, 1), (3, 1)] [(.string ⟨#[]⟩), (.int .i64 0), (.int .i64 0), (.int .i64 0)] := placesOf_mk (Tryz.prog.fieldsOf 94) (.agg #[(.string ⟨#[]⟩), (.int .i64 0), (.int .i64 0), (.int .i64 0)]) (fun _ => by kernel_rfl) (by kernel_rfl) (by kernel_rfl) (fun _ => by kernel_rfl)
instance : IsOne Tryz.prog 95 := ⟨fun _ => by kernel_rfl, fun _ => by kernel_rfl⟩
instance : ElOf Tryz.prog 95 1 8 := elOf_mk (by kernel_rfl) (by decide)
instance : ZeroOf Tryz.prog 95 [.nilFunc] := ⟨.nilFunc, fun _ => by kernel_rfl, by kernel_rfl⟩
instance : IsOne Tryz.prog 96 := ⟨fun _ => by kernel_rfl, fun _ => by kernel_rfl⟩
instance : ElOf Tryz.prog 96 1 8 := elOf_mk (by kernel_rfl) (by decide)
instance : ZeroOf Tryz.prog 96 [.nilFunc] := ⟨.nilFunc, fun _ => by kernel_rfl, by kernel_rfl⟩
instance : IsOne Tryz.prog 97 := ⟨fun _ => by kernel_rfl, fun _ => by kernel_rfl⟩
instance : ElOf Tryz.prog 97 1 8 := elOf_mk (by kernel_rfl) (by decide)
instance : ZeroOf Tryz.prog 97 [.nilFunc] := ⟨.nilFunc, fun _ => by kernel_rfl, by kernel_rfl⟩
instance : IsOne Tryz.prog 98 := ⟨fun _ => by kernel_rfl, fun _ => by kernel_rfl⟩
instance : ElOf Tryz.prog 98 1 8 := elOf_mk (by kernel_rfl) (by decide)
instance : ZeroOf Tryz.prog 98 [.nilFunc] := ⟨.nilFunc, fun _ => by kernel_rfl, by kernel_rfl⟩
instance : IsOne Tryz.prog 99 := ⟨fun _ => by kernel_rfl, fun _ => by kernel_rfl⟩
instance : ElOf Tryz.prog 99 1 8 := elOf_mk (by kernel_rfl) (by decide)
instance : ZeroOf Tryz.prog 99 [.nilFunc] := ⟨.nilFunc, fun _ => by kernel_rfl, by kernel_rfl⟩
instance : IsOne Tryz.prog 100 := ⟨fun _ => by kernel_rfl, fun _ => by kernel_rfl⟩
instance : ElOf Tryz.prog 100 1 8 := elOf_mk (by kernel_rfl) (by decide)
instance : ZeroOf Tryz.prog 100 [.nilFunc] := ⟨.nilFunc, fun _ => by kernel_rfl, by kernel_rfl⟩
instance : IsOne Tryz.prog 101 := ⟨fun _ => by kernel_rfl, fun _ => by kernel_rfl⟩
instance : ElOf Tryz.prog 101 1 8 := elOf_mk (by kernel_rfl) (by decide)
instance : ZeroOf Tryz.prog 101 [.nilFunc] := ⟨.nilFunc, fun _ => by kernel_rfl, by kernel_rfl⟩
instance : IsOne Tryz.prog 102 := ⟨fun _ => by kernel_rfl, fun _ => by kernel_rfl⟩
instance : ElOf Tryz.prog 102 1 8 := elOf_mk (by kernel_rfl) (by decide)
instance : ZeroOf Tryz.prog 102 [.nilFunc] := ⟨.nilFunc, fun _ => by kernel_rfl, by kernel_rfl⟩
instance : IsOne Tryz.prog 103 := ⟨fun _ => by kernel_rfl, fun _ => by kernel_rfl⟩
instance : ElOf Tryz.prog 103 1 8 := elOf_mk (by kernel_rfl) (by decide)
instance : ZeroOf Tryz.prog 103 [.nilFunc] := ⟨.nilFunc, fun _ => by kernel_rfl, by kernel_rfl⟩
instance : IsOne Tryz.prog 104 := ⟨fun _ => by kernel_rfl, fun _ => by kernel_rfl⟩
instance : ElOf Tryz.prog 104 1 8 := elOf_mk (by kernel_rfl) (by decide)
instance : ZeroOf Tryz.prog 104 [.nilFunc] := ⟨.nilFunc, fun _ => by kernel_rfl, by kernel_rfl⟩
instance : IsOne Tryz.prog 105 := ⟨fun _ => by kernel_rfl, fun _ => by kernel_rfl⟩
instance : ElOf Tryz.prog 105 1 8 := elOf_mk (by kernel_rfl) (by decide)
instance : ZeroOf Tryz.prog 105 [.nilFunc] := ⟨.nilFunc, fun _ => by kernel_rfl, by kernel_rfl⟩
instance : IsOne Tryz.prog 106 := ⟨fun _ => by kernel_rfl, fun _ => by kernel_rfl⟩
instance : IntT Tryz.prog 106 .u64 := ⟨by kernel_rfl⟩
instance : ElOf Tryz.prog 106 1 8 := elOf_mk (by kernel_rfl) (by decide)
instance : ZeroOf Tryz.prog 106 [(.int .u64 0)] := ⟨(.int .u64 0), fun _ => by kernel_rfl, by kernel_rfl⟩
instance : IsOne Tryz.prog 107 := ⟨fun _ => by kernel_rfl, fun _ => by kernel_rfl⟩
instance : ElOf Tryz.prog 107 1 8 := elOf_mk (by kernel_rfl) (by decide)
instance : ZeroOf Tryz.prog 107 [.nilFunc] := ⟨.nilFunc, fun _ => by kernel_rfl, by kernel_rfl⟩
instance : IsOne Tryz.prog 108 := ⟨fun _ => by kernel_rfl, fun _ => by kernel_rfl⟩
instance : ElOf Tryz.prog 108 1 8 := elOf_mk (by kernel_rfl) (by decide)
instance : ZeroOf Tryz.prog 108 [.nilFunc] := ⟨.nilFunc, fun _ => by kernel_rfl, by kernel_rfl⟩
instance : IsOne Tryz.prog 109 := ⟨fun _ => by kernel_rfl, fun _ => by kernel_rfl⟩
instance : ElOf Tryz.prog 109 1 8 := elOf_mk (by kernel_rfl) (by decide)
instance : ZeroOf Tryz.prog 109 [.nilFunc] := ⟨.nilFunc, fun _ => by kernel_rfl, by kernel_rfl⟩
instance : IsOne Tryz.prog 110 := ⟨fun _ => by kernel_rfl, fun _ => by kernel_rfl⟩
instance : ElOf Tryz.prog 110 1 8 := elOf_mk (by kernel_rfl) (by decide)
instance : ZeroOf Tryz.prog 110 [.nilFunc] := ⟨.nilFunc, fun _ => by kernel_rfl, by kernel_rfl⟩
instance : IsOne Tryz.prog 111 := ⟨fun _ => by kernel_rfl, fun _ => by kernel_rfl⟩
instance : ElOf Tryz.prog 111 1 8 := elOf_mk (by kernel_rfl) (by decide)
instance : ZeroOf Tryz.prog 111 [.nilFunc] := ⟨.nilFunc, fun _ => by kernel_rfl, by kernel_rfl⟩
instance : IsAgg Tryz.prog 112 9 := ⟨fun _ => by kernel_rfl, fun _ => by kernel_rfl⟩
instance : FldAt Tryz.prog 112 0 0 := ⟨fun _ _ _ => by kernel_rfl⟩
instance : FldAt Tryz.prog 112 1 7 := ⟨fun _ _ _ => by kernel_rfl⟩
instance : FldAt Tryz.prog 112 2 8 := ⟨fun _ _ _ => by kernel_rfl⟩
instance : ElOf Tryz.prog 112 9 200 := elOf_mk (by kernel_rfl) (by decide)
instance : ZeroOf Tryz.prog 112 [(.slice none 0 0), (.slice none 0 0), (.slice none 0 0), (.slice none 0 0), (.slice none 0 0), (.slice none 0 0), (.slice none 0 0), (.slice none 0 0), (.bool false)] := ⟨(.agg #[(.slice none 0 0), (.slice none 0 0), (.slice none 0 0), (.slice none 0 0), (.slice none 0 0), (.slice none 0 0), (.slice none 0 0), (.slice none 0 0), (.bool false)]), fun _ => by kernel_rfl, by kernel_rfl⟩
instance : PlacesOf Tryz.prog 112 [(0, 7), (7, 1), (8, 1)] [(.slice none 0 0), (.slice none 0 0), (.slice none 0 0), (.slice none 0 0), (.slice none 0 0), (.slice none 0 0), (.slice none 0 0), (.slice none 0 0), (.bool false)] := placesOf_mk (Tryz.prog.fieldsOf 112) (.agg #[(.slice none 0 0), (.slice none 0 0), (.slice none 0 0), (.slice none 0 0), (.slice none 0 0), (.slice none 0 0), (.slice none 0 0), (.slice none 0 0), (.bool false)]) (fun _ => by kernel_rfl) (by kernel_rfl) (by kernel_rfl) (fun _ => by kernel_rfl)
instance : IsAgg Tryz.prog 113 9 := ⟨fun _ => by kernel_rfl, fun _ => by kernel_rfl⟩
instance : FldAt Tryz.prog 113 0 0 := ⟨fun _ _ _ => by kernel_rfl⟩
instance : FldAt Tryz.prog 113 1 7 := ⟨fun _ _ _ => by kernel_rfl⟩
instance : FldAt Tryz.prog 113 2 8 := ⟨fun _ _ _ => by kernel_rfl⟩
instance : ElOf Tryz.prog 113 9 200 := elOf_mk (by kernel_rfl) (by decide)
instance : ZeroOf Tryz.prog 113 [(.slice none 0 0), (.slice none 0 0), (.slice none 0 0), (.slice none 0 0), (.slice none 0 0), (.slice none 0 0), (.slice none 0 0), (.slice none 0 0), (.bool false)] := ⟨(.agg #[(.slice none 0 0), (.slice none 0 0), (.slice none 0 0), (.slice none 0 0), (.slice none 0 0), (.slice none 0 0), (.slice none 0 0), (.slice none 0 0), (.bool false)]), fun _ => by kernel_rfl, by kernel_rfl⟩
instance : PlacesOf Tryz.prog 113 [(0, 7), (7, 1), (8, 1)] [(.slice none 0 0), (.slice none 0 0), (.slice none 0 0), (.slice none 0 0), (.slice none 0 0), (.slice none 0 0), (.slice none 0 0), (.slice none 0 0), (.bool false)] := placesOf_mk (Tryz.prog.fieldsOf 113) (.agg #[(.slice none 0 0), (.slice none 0 0), (.slice none 0 0), (.slice none 0 0), (.slice none 0 0), (.slice none 0 0), (.slice none 0 0), (.slice none 0 0), (.bool false)]) (fun _ => by kernel_rfl) (by kernel_rfl) (by kernel_rfl) (fun _ => by kernel_rfl)
instance : IsOne Tryz.prog 115 := ⟨fun _ => by kernel_rfl, fun _ => by kernel_rfl⟩
instance : ElOf Tryz.prog 115 1 8 := elOf_mk (by kernel_rfl) (by decide)
instance : ZeroOf Tryz.prog 115 [.nilFunc] := ⟨.nilFunc, fun _ => by kernel_rfl, by kernel_rfl⟩
instance : IsAgg Tryz.prog 116 2 := ⟨fun _ => by kernel_rfl, fun _ => by kernel_rfl⟩
instance : FldAt Tryz.prog 116 0 0 := ⟨fun _ _ _ => by kernel_rfl⟩
instance : FldAt Tryz.prog 116 1 1 := ⟨fun _ _ _ => by kernel_rfl⟩
instance : ElOf Tryz.prog 116 2 16 := elOf_mk (by kernel_rfl) (by decide)
instance : ZeroOf Tryz.prog 116 [(.int .i64 0), (.int .i64 0)] := ⟨(.agg #[(.int .i64 0), (.int .i64 0)]), fun _ => by kernel_rfl, by kernel_rfl⟩
instance : PlacesOf Tryz.prog 116 [(0, 1), (1, 1)] [(.int .i64 0), (.int .i64 0)] := placesOf_mk (Tryz.prog.fieldsOf 116) (.agg #[(.int .i64 0), (.int .i64 0)]) (fun _ => by kernel_rfl) (by kernel_rfl) (by kernel_rfl) (fun _ => by kernel_rfl)
instance : IsAgg Tryz.prog 117 2 := ⟨fun _ => by kernel_rfl, fun _ => by kernel_rfl⟩
instance : FldAt Tryz.prog 117 0 0 := ⟨fun _ _ _ => by kernel_rfl⟩
instance : FldAt Tryz.prog 117 1 1 := ⟨fun _ _ _ => by kernel_rfl⟩
set_option maxRecDepth 100000 in
instance : FlatEq Tryz.prog 117 [.int .i64, .int .i64] := ⟨by kernel_rfl, .cons (by kernel_rfl) (of_decide_eq_true (by kernel_rfl)) (fun _ => by kernel_rfl) (by kernel_rfl) (.cons (by kernel_rfl) (of_decide_eq_true (by kernel_rfl)) (fun _ => by kernel_rfl) (by kernel_rfl) (.nil)), by kernel_rfl, by kernel_rfl⟩
instance : ElOf Tryz.prog 117 2 16 := elOf_mk (by kernel_rfl) (by decide)
instance : ZeroOf Tryz.prog 117 [(.int .i64 0), (.int .i64 0)] := ⟨(.agg #[(.int .i64 0), (.int .i64 0)]), fun _ => by kernel_rfl, by kernel_rfl⟩
instance : PlacesOf Tryz.prog 117 [(0, 1), (1, 1)] [(.int .i64 0), (.int .i64 0)] := placesOf_mk (Tryz.prog.fieldsOf 117) (.agg #[(.int .i64 0), (.int .i64 0)]) (fun _ => by kernel_rfl) (by kernel_rfl) (by kernel_rfl) (fun _ => by kernel_rfl)
instance : IsOne Tryz.prog 118 := ⟨fun _ => by kernel_rfl, fun _ => by kernel_rfl⟩
instance : ElOf Tryz.prog 118 1 8 := elOf_mk (by kernel_rfl) (by decide)
instance : ZeroOf Tryz.prog 118 [.nilFunc] := ⟨.nilFunc, fun _ => by kernel_rfl, by kernel_rfl⟩
instance : IsOne Tryz.prog 119 := ⟨fun _ => by kernel_rfl, fun _ => by kernel_rfl⟩
instance : ElOf Tryz.prog 119 1 8 := elOf_mk (by kernel_rfl) (by decide)
instance : ZeroOf Tryz.prog 119 [.nilFunc] := ⟨.nilFunc, fun _ => by kernel_rfl, by kernel_rfl⟩
instance : IsOne Tryz.prog 120 := ⟨fun _ => by kernel_rfl, fun _ => by kernel_rfl⟩
instance : ElOf Tryz.prog 120 1 8 := elOf_mk (by kernel_rfl) (by decide)
instance : ZeroOf Tryz.prog 120 [.nilFunc] := ⟨.nilFunc, fun _ => by kernel_rfl, by kernel_rfl⟩
instance : IsOne Tryz.prog 121 := ⟨fun _ => by kernel_rfl, fun _ => by kernel_rfl⟩
instance : ElOf Tryz.prog 121 1 8 := elOf_mk (by kernel_rfl) (by decide)
instance : ZeroOf Tryz.prog 121 [.nilFunc] := ⟨.nilFunc, fun _ => by kernel_rfl, by kernel_rfl⟩
instance : IsOne Tryz.prog 122 := ⟨fun _ => by kernel_rfl, fun _ => by kernel_rfl⟩
instance : NotInt Tryz.prog 122 := ⟨.inr ⟨121, by kernel_rfl⟩⟩
instance : SlOf Tryz.prog 122 121 1 := ⟨by kernel_rfl, fun _ => by kernel_rfl⟩
instance : ElOf Tryz.prog 122 1 24 := elOf_mk (by kernel_rfl) (by decide)
instance : ZeroOf Tryz.prog 122 [(.slice none 0 0)] := ⟨(.slice none 0 0), fun _ => by kernel_rfl, by kernel_rfl⟩
instance : IsAgg Tryz.prog 124 2 := ⟨fun _ => by kernel_rfl, fun _ => by kernel_rfl⟩
instance : FldAt Tryz.prog 124 0 0 := ⟨fun _ _ _ => by kernel_rfl⟩
instance : FldAt Tryz.prog 124 1 1 := ⟨fun _ _ _ => by kernel_rfl⟩
instance : ElOf Tryz.prog 124 2 32 := elOf_mk (by kernel_rfl) (by decide)
instance : ZeroOf Tryz.prog 124 [(.string ⟨#[]⟩), (.string ⟨#[]⟩)] := ⟨(.agg #[(.string ⟨#[]⟩), (.string ⟨#[]⟩)]), fun _ => by kernel_rfl, by kernel_rfl⟩
instance : PlacesOf Tryz.prog 124 [(0, 1), (1, 1)] [(.string ⟨#[]⟩), (.string ⟨#[]⟩)] := placesOf_mk (Tryz.prog.fieldsOf 124) (.agg #[(.string ⟨#[]⟩), (.string ⟨#[]⟩)]) (fun _ => by kernel_rfl) (by kernel_rfl) (by kernel_rfl) (fun _ => by kernel_rfl)
instance : IsAgg Tryz.prog 125 2 := ⟨fun _ => by kernel_rfl, fun _ => by kernel_rfl⟩
instance : FldAt Tryz.prog 125 0 0 := ⟨fun _ _ _ => by kernel_rfl⟩
instance : FldAt Tryz.prog 125 1 1 := ⟨fun _ _ _ => by kernel_rfl⟩
set_option maxRecDepth 100000 in
instance : FlatEq Tryz.prog 125 [.str, .str] := ⟨by kernel_rfl, .cons (by kernel_rfl) (of_decide_eq_true (by kernel_rfl)) (fun _ => by kernel_rfl) (by kernel_rfl) (.cons (by kernel_rfl) (of_decide_eq_true (by kernel_rfl)) (fun _ => by kernel_rfl) (by kernel_rfl) (.nil)), by kernel_rfl, by kernel_rfl⟩
instance : ElOf Tryz.prog 125 2 32 := elOf_mk (by kernel_rfl) (by decide)
instance : ZeroOf Tryz.prog 125 [(.string ⟨#[]⟩), (.string ⟨#[]⟩)] := ⟨(.agg #[(.string ⟨#[]⟩), (.string ⟨#[]⟩)]), fun _ => by kernel_rfl, by kernel_rfl⟩
instance : PlacesOf Tryz.prog 125 [(0, 1), (1, 1)] [(.string ⟨#[]⟩), (.string ⟨#[]⟩)] := placesOf_mk (Tryz.prog.fieldsOf 125) (.agg #[(.string ⟨#[]⟩), (.string ⟨#[]⟩)]) (fun _ => by kernel_rfl) (by kernel_rfl) (by kernel_rfl) (fun _ => by kernel_rfl)
instance : IsOne Tryz.prog 126 := ⟨fun _ => by kernel_rfl, fun _ => by kernel_rfl⟩
instance : ElOf Tryz.prog 126 1 8 := elOf_mk (by kernel_rfl) (by decide)
instance : ZeroOf Tryz.prog 126 [.nilFunc] := ⟨.nilFunc, fun _ => by kernel_rfl, by kernel_rfl⟩
instance : IsOne Tryz.prog 127 := ⟨fun _ => by kernel_rfl, fun _ => by kernel_rfl⟩
instance : ElOf Tryz.prog 127 1 8 := elOf_mk (by kernel_rfl) (by decide)
instance : ZeroOf Tryz.prog 127 [.nilFunc] := ⟨.nilFunc, fun _ => by kernel_rfl, by kernel_rfl⟩
instance : IsOne Tryz.prog 128 := ⟨fun _ => by kernel_rfl, fun _ => by kernel_rfl⟩
instance : ElOf Tryz.prog 128 1 8 := elOf_mk (by kernel_rfl) (by decide)
instance : ZeroOf Tryz.prog 128 [.nilFunc] := ⟨.nilFunc, fun _ => by kernel_rfl, by kernel_rfl⟩
instance : IsOne Tryz.prog 129 := ⟨fun _ => by kernel_rfl, fun _ => by kernel_rfl⟩
instance : ElOf Tryz.prog 129 1 8 := elOf_mk (by kernel_rfl) (by decide)
instance : ZeroOf Tryz.prog 129 [.nilFunc] := ⟨.nilFunc, fun _ => by kernel_rfl, by kernel_rfl⟩
instance : IsOne Tryz.prog 130 := ⟨fun _ => by kernel_rfl, fun _ => by kernel_rfl⟩
instance : ElOf Tryz.prog 130 1 8 := elOf_mk (by kernel_rfl) (by decide)
instance : ZeroOf Tryz.prog 130 [.nilFunc] := ⟨.nilFunc, fun _ => by kernel_rfl, by kernel_rfl⟩
instance : IsOne Tryz.prog 131 := ⟨fun _ => by kernel_rfl, fun _ => by kernel_rfl⟩
instance : ElOf Tryz.prog 131 1 8 := elOf_mk (by kernel_rfl) (by decide)
instance : ZeroOf Tryz.prog 131 [.nilFunc] := ⟨.nilFunc, fun _ => by kernel_rfl, by kernel_rfl⟩
instance : IsOne Tryz.prog 132 := ⟨fun _ => by kernel_rfl, fun _ => by kernel_rfl⟩
instance : ElOf Tryz.prog 132 1 8 := elOf_mk (by kernel_rfl) (by decide)
instance : ZeroOf Tryz.prog 132 [.nilFunc] := ⟨.nilFunc, fun _ => by kernel_rfl, by kernel_rfl⟩
instance : IsOne Tryz.prog 133 := ⟨fun _ => by kernel_rfl, fun _ => by kernel_rfl⟩
instance : ElOf Tryz.prog 133 1 8 := elOf_mk (by kernel_rfl) (by decide)
instance : ZeroOf Tryz.prog 133 [.nilFunc] := ⟨.nilFunc, fun _ => by kernel_rfl, by kernel_rfl⟩
instance : IsOne Tryz.prog 134 := ⟨fun _ => by kernel_rfl, fun _ => by kernel_rfl⟩
instance : ElOf Tryz.prog 134 1 8 := elOf_mk (by kernel_rfl) (by decide)
instance : ZeroOf Tryz.prog 134 [.nilFunc] := ⟨.nilFunc, fun _ => by kernel_rfl, by kernel_rfl⟩
instance : IsOne Tryz.prog 135 := ⟨fun _ => by kernel_rfl, fun _ => by kernel_rfl⟩
instance : ElOf Tryz.prog 135 1 8 := elOf_mk (by kernel_rfl) (by decide)
instance : ZeroOf Tryz.prog 135 [.nilFunc] := ⟨.nilFunc, fun _ => by kernel_rfl, by kernel_rfl⟩
instance : IsOne Tryz.prog 136 := ⟨fun _ => by kernel_rfl, fun _ => by kernel_rfl⟩
instance : ElOf Tryz.prog 136 1 8 := elOf_mk (by kernel_rfl) (by decide)
instance : ZeroOf Tryz.prog 136 [(.pointer none)] := ⟨(.pointer none), fun _ => by kernel_rfl, by kernel_rfl⟩
instance : IsOne Tryz.prog 137 := ⟨fun _ => by kernel_rfl, fun _ => by kernel_rfl⟩
instance : ElOf Tryz.prog 137 1 8 := elOf_mk (by kernel_rfl) (by decide)
instance : ZeroOf Tryz.prog 137 [(.map none)] := ⟨(.map none), fun _ => by kernel_rfl, by kernel_rfl⟩
instance : IsAgg Tryz.prog 138 11 := ⟨fun _ => by kernel_rfl, fun _ => by kernel_rfl⟩
instance : FldAt Tryz.prog 138 0 0 := ⟨fun _ _ _ => by kernel_rfl⟩
instance : FldAt Tryz.prog 138 1 7 := ⟨fun _ _ _ => by kernel_rfl⟩
instance : FldAt Tryz.prog 138 2 8 := ⟨fun _ _ _ => by kernel_rfl⟩
instance : FldAt Tryz.prog 138 3 9 := ⟨fun _ _ _ => by kernel_rfl⟩
instance : FldAt Tryz.prog 138 4 10 := ⟨fun _ _ _ => by kernel_rfl⟩
instance : ElOf Tryz.prog 138 11 216 := elOf_mk (by kernel_rfl) (by decide)
instance : ZeroOf Tryz.prog 138 [(.slice none 0 0), (.slice none 0 0), (.slice none 0 0), (.slice none 0 0), (.slice none 0 0), (.slice none 0 0), (.slice none 0 0), (.slice none 0 0), (.int .i64 0), (.int .i64 0), (.map none)] := ⟨(.agg #[(.slice none 0 0), (.slice none 0 0), (.slice none 0 0), (.slice none 0 0), (.slice none 0 0), (.slice none 0 0), (.slice none 0 0), (.slice none 0 0), (.int .i64 0), (.int .i64 0), (.map none)]), fun _ => by kernel_rfl, by kernel_rfl⟩
instance : PlacesOf Tryz.prog 138 [(0, 7), (7, 1), (8, 1), (9, 1), (10, 1)] [(.slice none 0 0), (.slice none 0 0), (.slice none 0 0), (.slice none 0 0), (.slice none 0 0), (.slice none 0 0), (.slice none 0 0), (.slice none 0 0), (.int .i64 0), (.int .i64 0), (.map none)] := placesOf_mk (Tryz.prog.fieldsOf 138) (.agg #[(.slice none 0 0), (.slice none 0 0), (.slice none 0 0), (.slice none 0 0), (.slice none 0 0), (.slice none 0 0), (.slice none 0 0), (.slice none 0 0), (.int .i64 0), (.int .i64 0), (.map none)]) (fun _ => by kernel_rfl) (by kernel_rfl) (by kernel_rfl) (fun _ => by kernel_rfl)
instance : IsAgg Tryz.prog 139 11 := ⟨fun _ => by kernel_rfl, fun _ => by kernel_rfl⟩
instance : FldAt Tryz.prog 139 0 0 := ⟨fun _ _ _ => by kernel_rfl⟩
instance : FldAt Tryz.prog 139 1 7 := ⟨fun _ _ _ => by kernel_rfl⟩
instance : FldAt Tryz.prog 139 2 8 := ⟨fun _ _ _ => by kernel_rfl⟩
instance : FldAt Tryz.prog 139 3 9 := ⟨fun _ _ _ => by kernel_rfl⟩
instance : FldAt Tryz.prog 139 4 10 := ⟨fun _ _ _ => by kernel_rfl⟩
instance : ElOf Tryz.prog 139 11 216 := elOf_mk (by kernel_rfl) (by decide)
instance : ZeroOf Tryz.prog 139 [(.slice none 0 0), (.slice none 0 0), (.slice none 0 0), (.slice none 0 0), (.slice none 0 0), (.slice none 0 0), (.slice none 0 0), (.slice none 0 0), (.int .i64 0), (.int .i64 0), (.map none)] := ⟨(.agg #[(.slice none 0 0), (.slice none 0 0), (.slice none 0 0), (.slice none 0 0), (.slice none 0 0), (.slice none 0 0), (.slice none 0 0), (.slice none 0 0), (.int .i64 0), (.int .i64 0), (.map none)]), fun _ => by kernel_rfl, by kernel_rfl⟩
instance : PlacesOf Tryz.prog 139 [(0, 7), (7, 1), (8, 1), (9, 1), (10, 1)] [(.slice none 0 0), (.slice none 0 0), (.slice none 0 0), (.slice none 0 0), (.slice none 0 0), (.slice none 0 0), (.slice none 0 0), (.slice none 0 0), (.int .i64 0), (.int .i64 0), (.map none)] := placesOf_mk (Tryz.prog.fieldsOf 139) (.agg #[(.slice none 0 0), (.slice none 0 0), (.slice none 0 0), (.slice none 0 0), (.slice none 0 0), (.slice none 0 0), (.slice none 0 0), (.slice none 0 0), (.int .i64 0), (.int .i64 0), (.map none)]) (fun _ => by kernel_rfl) (by kernel_rfl) (by kernel_rfl) (fun _ => by kernel_rfl)
instance : IsOne Tryz.prog 140 := ⟨fun _ => by kernel_rfl, fun _ => by kernel_rfl⟩
instance : ElOf Tryz.prog 140 1 8 := elOf_mk (by kernel_rfl) (by decide)
instance : ZeroOf Tryz.prog 140 [(.map none)] := ⟨(.map none), fun _ => by kernel_rfl, by kernel_rfl⟩
instance : IsOne Tryz.prog 141 := ⟨fun _ => by kernel_rfl, fun _ => by kernel_rfl⟩
instance : ElOf Tryz.prog 141 1 8 := elOf_mk (by kernel_rfl) (by decide)
instance : ZeroOf Tryz.prog 141 [(.map none)] := ⟨(.map none), fun _ => by kernel_rfl, by kernel_rfl⟩
instance : IsOne Tryz.prog 142 := ⟨fun _ => by kernel_rfl, fun _ => by kernel_rfl⟩
instance : ElOf Tryz.prog 142 1 8 := elOf_mk (by kernel_rfl) (by decide)
instance : ZeroOf Tryz.prog 142 [.nilFunc] := ⟨.nilFunc, fun _ => by kernel_rfl, by kernel_rfl⟩
instance : IsOne Tryz.prog 143 := ⟨fun _ => by kernel_rfl, fun _ => by kernel_rfl⟩
instance : ElOf Tryz.prog 143 1 8 := elOf_mk (by kernel_rfl) (by decide)
instance : ZeroOf Tryz.prog 143 [(.pointer none)] := ⟨(.pointer none), fun _ => by kernel_rfl, by kernel_rfl⟩
instance : IsAgg Tryz.prog 144 3 := ⟨fun _ => by kernel_rfl, fun _ => by kernel_rfl⟩
instance : ElOf Tryz.prog 144 3 24 := elOf_mk (by kernel_rfl) (by decide)
instance : ZeroOf Tryz.prog 144 [(.int .i64 0), (.int .i64 0), (.int .i64 0)] := ⟨(.agg #[(.int .i64 0), (.int .i64 0), (.int .i64 0)]), fun _ => by kernel_rfl, by kernel_rfl⟩
instance : IsAgg Tryz.prog 145 4 := ⟨fun _ => by kernel_rfl, fun _ => by kernel_rfl⟩
instance : FldAt Tryz.prog 145 0 0 := ⟨fun _ _ _ => by kernel_rfl⟩
instance : FldAt Tryz.prog 145 1 1 := ⟨fun _ _ _ => by kernel_rfl⟩
instance : ElOf Tryz.prog 145 4 32 := elOf_mk (by kernel_rfl) (by decide)
instance : ZeroOf Tryz.prog 145 [(.int .i64 0), (.int .i64 0), (.int .i64 0), (.int .i64 0)] := ⟨(.agg #[(.int .i64 0), (.int .i64 0), (.int .i64 0), (.int .i64 0)]), fun _ => by kernel_rfl, by kernel_rfl⟩
instance : PlacesOf Tryz.prog 145 [(0, 1), (1, 3)] [(.int .i64 0), (.int .i64 0), (.int .i64 0), (.int .i64 0)] := placesOf_mk (Tryz.prog.fieldsOf 145) (.agg #[(.int .i64 0), (.int .i64 0), (.int .i64 0), (.int .i64 0)]) (fun _ => by kernel_rfl) (by kernel_rfl) (by kernel_rfl) (fun _ => by kernel_rfl)
instance : IsAgg Tryz.prog 146 4 := ⟨fun _ => by kernel_rfl, fun _ => by kernel_rfl⟩
instance : FldAt Tryz.prog 146 0 0 := ⟨fun _ _ _ => by kernel_rfl⟩
instance : FldAt Tryz.prog 146 1 1 := ⟨fun _ _ _ => by kernel_rfl⟩
instance : ElOf Tryz.prog 146 4 32 := elOf_mk (by kernel_rfl) (by decide)
instance : ZeroOf Tryz.prog 146 [(.int .i64 0), (.int .i64 0), (.int .i64 0), (.int .i64 0)] := ⟨(.agg #[(.int .i64 0), (.int .i64 0), (.int .i64 0), (.int .i64 0)]), fun _ => by kernel_rfl, by kernel_rfl⟩
instance : PlacesOf Tryz.prog 146 [(0, 1), (1, 3)] [(.int .i64 0), (.int .i64 0), (.int .i64 0), (.int .i64 0)] := placesOf_mk (Tryz.prog.fieldsOf 146) (.agg #[(.int .i64 0), (.int .i64 0), (.int .i64 0), (.int .i64 0)]) (fun _ => by kernel_rfl) (by kernel_rfl) (by kernel_rfl) (fun _ => by kernel_rfl)
instance : IsOne Tryz.prog 147 := ⟨fun _ => by kernel_rfl, fun _ => by kernel_rfl⟩
instance : ElOf Tryz.prog 147 1 8 := elOf_mk (by kernel_rfl) (by decide)
instance : ZeroOf Tryz.prog 147 [.nilFunc] := ⟨.nilFunc, fun _ => by kernel_rfl, by kernel_rfl⟩
instance : IsOne Tryz.prog 148 := ⟨fun _ => by kernel_rfl, fun _ => by kernel_rfl⟩
instance : ElOf Tryz.prog 148 1 8 := elOf_mk (by kernel_rfl) (by decide)
instance : ZeroOf Tryz.prog 148 [.nilFunc] := ⟨.nilFunc, fun _ => by kernel_rfl, by kernel_rfl⟩
instance : IsOne Tryz.prog 149 := ⟨fun _ => by kernel_rfl, fun _ => by kernel_rfl⟩
instance : ElOf Tryz.prog 149 1 8 := elOf_mk (by kernel_rfl) (by decide)
instance : ZeroOf Tryz.prog 149 [.nilFunc] := ⟨.nilFunc, fun _ => by kernel_rfl, by kernel_rfl⟩
instance : IsOne Tryz.prog 150 := ⟨fun _ => by kernel_rfl, fun _ => by kernel_rfl⟩
instance : ElOf Tryz.prog 150 1 8 := elOf_mk (by kernel_rfl) (by decide)
instance : ZeroOf Tryz.prog 150 [.nilFunc] := ⟨.nilFunc, fun _ => by kernel_rfl, by kernel_rfl⟩
instance : IsOne Tryz.prog 151 := ⟨fun _ => by kernel_rfl, fun _ => by kernel_rfl⟩
instance : ElOf Tryz.prog 151 1 8 := elOf_mk (by kernel_rfl) (by decide)
instance : ZeroOf Tryz.prog 151 [.nilFunc] := ⟨.nilFunc, fun _ => by kernel_rfl, by kernel_rfl⟩
instance : IsOne Tryz.prog 152 := ⟨fun _ => by kernel_rfl, fun _ => by kernel_rfl⟩
instance : ElOf Tryz.prog 152 1 8 := elOf_mk (by kernel_rfl) (by decide)
instance : ZeroOf Tryz.prog 152 [.nilFunc] := ⟨.nilFunc, fun _ => by kernel_rfl, by kernel_rfl⟩
instance : IsOne Tryz.prog 153 := ⟨fun _ => by kernel_rfl, fun _ => by kernel_rfl⟩
instance : ElOf Tryz.prog 153 1 8 := elOf_mk (by kernel_rfl) (by decide)
instance : ZeroOf Tryz.prog 153 [.nilFunc] := ⟨.nilFunc, fun _ => by kernel_rfl, by kernel_rfl⟩
instance : IsOne Tryz.prog 154 := ⟨fun _ => by kernel_rfl, fun _ => by kernel_rfl⟩
instance : ElOf Tryz.prog 154 1 8 := elOf_mk (by kernel_rfl) (by decide)
instance : ZeroOf Tryz.prog 154 [.nilFunc] := ⟨.nilFunc, fun _ => by kernel_rfl, by kernel_rfl⟩
instance : IsOne Tryz.prog 155 := ⟨fun _ => by kernel_rfl, fun _ => by kernel_rfl⟩
instance : ElOf Tryz.prog 155 1 8 := elOf_mk (by kernel_rfl) (by decide)
instance : ZeroOf Tryz.prog 155 [.nilFunc] := ⟨.nilFunc, fun _ => by kernel_rfl, by kernel_rfl⟩
instance : IsOne Tryz.prog 156 := ⟨fun _ => by kernel_rfl, fun _ => by kernel_rfl⟩
instance : ElOf Tryz.prog 156 1 8 := elOf_mk (by kernel_rfl) (by decide)
instance : ZeroOf Tryz.prog 156 [.nilFunc] := ⟨.nilFunc, fun _ => by kernel_rfl, by kernel_rfl⟩
instance : IsOne Tryz.prog 157 := ⟨fun _ => by kernel_rfl, fun _ => by kernel_rfl⟩
instance : ElOf Tryz.prog 157 1 8 := elOf_mk (by kernel_rfl) (by decide)
instance : ZeroOf Tryz.prog 157 [.nilFunc] := ⟨.nilFunc, fun _ => by kernel_rfl, by kernel_rfl⟩
instance : IsOne Tryz.prog 158 := ⟨fun _ => by kernel_rfl, fun _ => by kernel_rfl⟩
instance : NotInt Tryz.prog 158 := ⟨.inr ⟨57, by kernel_rfl⟩⟩
instance : SlOf Tryz.prog 158 57 2 := ⟨by kernel_rfl, fun _ => by kernel_rfl⟩
instance : ElOf Tryz.prog 158 1 24 := elOf_mk (by kernel_rfl) (by decide)
instance : ZeroOf Tryz.prog 158 [(.slice none 0 0)] := ⟨(.slice none 0 0), fun _ => by kernel_rfl, by kernel_rfl⟩
instance : IsOne Tryz.prog 159 := ⟨fun _ => by kernel_rfl, fun _ => by kernel_rfl⟩
instance : ElOf Tryz.prog 159 1 8 := elOf_mk (by kernel_rfl) (by decide)
instance : ZeroOf Tryz.prog 159 [.nilFunc] := ⟨.nilFunc, fun _ => by kernel_rfl, by kernel_rfl⟩
instance : IsOne Tryz.prog 160 := ⟨fun _ => by kernel_rfl, fun _ => by kernel_rfl⟩
instance : NotInt Tryz.prog 160 := ⟨.inr ⟨159, by kernel_rfl⟩⟩
instance : SlOf Tryz.prog 160 159 1 := ⟨by kernel_rfl, fun _ => by kernel_rfl⟩
instance : ElOf Tryz.prog 160 1 24 := elOf_mk (by kernel_rfl) (by decide)
instance : ZeroOf Tryz.prog 160 [(.slice none 0 0)] := ⟨(.slice none 0 0), fun _ => by kernel_rfl, by kernel_rfl⟩
instance : IsOne Tryz.prog 162 := ⟨fun _ => by kernel_rfl, fun _ => by kernel_rfl⟩
instance : ElOf Tryz.prog 162 1 8 := elOf_mk (by kernel_rfl) (by decide)
instance : ZeroOf Tryz.prog 162 [.nilFunc] := ⟨.nilFunc, fun _ => by kernel_rfl, by kernel_rfl⟩
instance : IsOne Tryz.prog 163 := ⟨fun _ => by kernel_rfl, fun _ => by kernel_rfl⟩
instance : ElOf Tryz.prog 163 1 8 := elOf_mk (by kernel_rfl) (by decide)
instance : ZeroOf Tryz.prog 163 [.nilFunc] := ⟨.nilFunc, fun _ => by kernel_rfl, by kernel_rfl⟩
instance : IsOne Tryz.prog 164 := ⟨fun _ => by kernel_rfl, fun _ => by kernel_rfl⟩
instance : IntT Tryz.prog 164 .i64 := ⟨by kernel_rfl⟩
instance : ElOf Tryz.prog 164 1 8 := elOf_mk (by kernel_rfl) (by decide)
instance : ZeroOf Tryz.prog 164 [(.int .i64 0)] := ⟨(.int .i64 0), fun _ => by kernel_rfl, by kernel_rfl⟩
instance : IsOne Tryz.prog 166 := ⟨fun _ => by kernel_rfl, fun _ => by kernel_rfl⟩
instance : ElOf Tryz.prog 166 1 8 := elOf_mk (by kernel_rfl) (by decide)
instance : ZeroOf Tryz.prog 166 [.nilFunc] := ⟨.nilFunc, fun _ => by kernel_rfl, by kernel_rfl⟩
instance : IsOne Tryz.prog 167 := ⟨fun _ => by kernel_rfl, fun _ => by kernel_rfl⟩
instance : ElOf Tryz.prog 167 1 8 := elOf_mk (by kernel_rfl) (by decide)
instance : ZeroOf Tryz.prog 167 [.nilFunc] := ⟨.nilFunc, fun _ => by kernel_rfl, by kernel_rfl⟩
instance : IsOne Tryz.prog 168 := ⟨fun _ => by kernel_rfl, fun _ => by kernel_rfl⟩
instance : ElOf Tryz.prog 168 1 8 := elOf_mk (by kernel_rfl) (by decide)
instance : ZeroOf Tryz.prog 168 [.nilFunc] := ⟨.nilFunc, fun _ => by kernel_rfl, by kernel_rfl⟩
instance : IsOne Tryz.prog 169 := ⟨fun _ => by kernel_rfl, fun _ => by kernel_rfl⟩
instance : ElOf Tryz.prog 169 1 8 := elOf_mk (by kernel_rfl) (by decide)
instance : ZeroOf Tryz.prog 169 [.nilFunc] := ⟨.nilFunc, fun _ => by kernel_rfl, by kernel_rfl⟩
instance : IsOne Tryz.prog 170 := ⟨fun _ => by kernel_rfl, fun _ => by kernel_rfl⟩
instance : ElOf Tryz.prog 170 1 8 := elOf_mk (by kernel_rfl) (by decide)
instance : ZeroOf Tryz.prog 170 [.nilFunc] := ⟨.nilFunc, fun _ => by kernel_rfl, by kernel_rfl⟩
instance : IsOne Tryz.prog 171 := ⟨fun _ => by kernel_rfl, fun _ => by kernel_rfl⟩
instance : IntT Tryz.prog 171 .u32 := ⟨by kernel_rfl⟩
instance : ElOf Tryz.prog 171 1 4 := elOf_mk (by kernel_rfl) (by decide)
instance : ZeroOf Tryz.prog 171 [(.int .u32 0)] := ⟨(.int .u32 0), fun _ => by kernel_rfl, by kernel_rfl⟩
instance : IsOne Tryz.prog 172 := ⟨fun _ => by kernel_rfl, fun _ => by kernel_rfl⟩
instance : ElOf Tryz.prog 172 1 8 := elOf_mk (by kernel_rfl) (by decide)
instance : ZeroOf Tryz.prog 172 [.nilFunc] := ⟨.nilFunc, fun _ => by kernel_rfl, by kernel_rfl⟩
instance : IsOne Tryz.prog 173 := ⟨fun _ => by kernel_rfl, fun _ => by kernel_rfl⟩
instance : IntT Tryz.prog 173 .u64 := ⟨by kernel_rfl⟩
instance : ElOf Tryz.prog 173 1 8 := elOf_mk (by kernel_rfl) (by decide)
instance : ZeroOf Tryz.prog 173 [(.int .u64 0)] := ⟨(.int .u64 0), fun _ => by kernel_rfl, by kernel_rfl⟩
instance : IsOne Tryz.prog 174 := ⟨fun _ => by kernel_rfl, fun _ => by kernel_rfl⟩
instance : ElOf Tryz.prog 174 1 8 := elOf_mk (by kernel_rfl) (by decide)
instance : ZeroOf Tryz.prog 174 [.nilFunc] := ⟨.nilFunc, fun _ => by kernel_rfl, by kernel_rfl⟩
instance : IsOne Tryz.prog 175 := ⟨fun _ => by kernel_rfl, fun _ => by kernel_rfl⟩
instance : NotInt Tryz.prog 175 := ⟨.inr ⟨51, by kernel_rfl⟩⟩
instance : SlOf Tryz.prog 175 51 1 := ⟨by kernel_rfl, fun _ => by kernel_rfl⟩
instance : ElOf Tryz.prog 175 1 24 := elOf_mk (by kernel_rfl) (by decide)
instance : ZeroOf Tryz.prog 175 [(.slice none 0 0)] := ⟨(.slice none 0 0), fun _ => by kernel_rfl, by kernel_rfl⟩
instance : IsOne Tryz.prog 176 := ⟨fun _ => by kernel_rfl, fun _ => by kernel_rfl⟩
instance : ElOf Tryz.prog 176 1 8 := elOf_mk (by kernel_rfl) (by decide)
instance : ZeroOf Tryz.prog 176 [(.pointer none)] := ⟨(.pointer none), fun _ => by kernel_rfl, by kernel_rfl⟩
instance : IsOne Tryz.prog 177 := ⟨fun _ => by kernel_rfl, fun _ => by kernel_rfl⟩
instance : ElOf Tryz.prog 177 1 8 := elOf_mk (by kernel_rfl) (by decide)
instance : ZeroOf Tryz.prog 177 [.nilFunc] := ⟨.nilFunc, fun _ => by kernel_rfl, by kernel_rfl⟩
instance : IsAgg Tryz.prog 178 3 := ⟨fun _ => by kernel_rfl, fun _ => by kernel_rfl⟩
instance : FldAt Tryz.prog 178 0 0 := ⟨fun _ _ _ => by kernel_rfl⟩
instance : FldAt Tryz.prog 178 1 1 := ⟨fun _ _ _ => by kernel_rfl⟩
instance : FldAt Tryz.prog 178 2 2 := ⟨fun _ _ _ => by kernel_rfl⟩
instance : ElOf Tryz.prog 178 3 48 := elOf_mk (by kernel_rfl) (by decide)
instance : ZeroOf Tryz.prog 178 [(.bool false), (.string ⟨#[]⟩), (.slice none 0 0)] := ⟨(.agg #[(.bool false), (.string ⟨#[]⟩), (.slice none 0 0)]), fun _ => by kernel_rfl, by kernel_rfl⟩
instance : PlacesOf Tryz.prog 178 [(0, 1), (1, 1), (2, 1)] [(.bool false), (.string ⟨#[]⟩), (.slice none 0 0)] := placesOf_mk (Tryz.prog.fieldsOf 178) (.agg #[(.bool false), (.string ⟨#[]⟩), (.slice none 0 0)]) (fun _ => by kernel_rfl) (by kernel_rfl) (by kernel_rfl) (fun _ => by kernel_rfl)
instance : IsAgg Tryz.prog 179 3 := ⟨fun _ => by kernel_rfl, fun _ => by kernel_rfl⟩
instance : FldAt Tryz.prog 179 0 0 := ⟨fun _ _ _ => by kernel_rfl⟩
instance : FldAt Tryz.prog 179 1 1 := ⟨fun _ _ _ => by kernel_rfl⟩
instance : FldAt Tryz.prog 179 2 2 := ⟨fun _ _ _ => by kernel_rfl⟩
instance : ElOf Tryz.prog 179 3 48 := elOf_mk (by kernel_rfl) (by decide)
instance : ZeroOf Tryz.prog 179 [(.bool false), (.string ⟨#[]⟩), (.slice none 0 0)] := ⟨(.agg #[(.bool false), (.string ⟨#[]⟩), (.slice none 0 0)]), fun _ => by kernel_rfl, by kernel_rfl⟩
instance : PlacesOf Tryz.prog 179 [(0, 1), (1, 1), (2, 1)] [(.bool false), (.string ⟨#[]⟩), (.slice none 0 0)] := placesOf_mk (Tryz.prog.fieldsOf 179) (.agg #[(.bool false), (.string ⟨#[]⟩), (.slice none 0 0)]) (fun _ => by kernel_rfl) (by kernel_rfl) (by kernel_rfl) (fun _ => by kernel_rfl)
instance : IsOne Tryz.prog 181 := ⟨fun _ => by kernel_rfl, fun _ => by kernel_rfl⟩
instance : ElOf Tryz.prog 181 1 8 := elOf_mk (by kernel_rfl) (by decide)
instance : ZeroOf Tryz.prog 181 [.nilFunc] := ⟨.nilFunc, fun _ => by kernel_rfl, by kernel_rfl⟩
instance : IsOne Tryz.prog 182 := ⟨fun _ => by kernel_rfl, fun _ => by kernel_rfl⟩
instance : ElOf Tryz.prog 182 1 8 := elOf_mk (by kernel_rfl) (by decide)
instance : ZeroOf Tryz.prog 182 [.nilFunc] := ⟨.nilFunc, fun _ => by kernel_rfl, by kernel_rfl⟩
instance : IsOne Tryz.prog 183 := ⟨fun _ => by kernel_rfl, fun _ => by kernel_rfl⟩
instance : ElOf Tryz.prog 183 1 8 := elOf_mk (by kernel_rfl) (by decide)
instance : ZeroOf Tryz.prog 183 [.nilFunc] := ⟨.nilFunc, fun _ => by kernel_rfl, by kernel_rfl⟩
instance : IsAgg Tryz.prog 184 4 := ⟨fun _ => by kernel_rfl, fun _ => by kernel_rfl⟩
instance : ElOf Tryz.prog 184 4 32 := elOf_mk (by kernel_rfl) (by decide)
instance : ZeroOf Tryz.prog 184 [.nilFunc, .nilFunc, .nilFunc, .nilFunc] := ⟨(.agg #[.nilFunc, .nilFunc, .nilFunc, .nilFunc]), fun _ => by kernel_rfl, by kernel_rfl⟩
instance : IsOne Tryz.prog 185 := ⟨fun _ => by kernel_rfl, fun _ => by kernel_rfl⟩
instance : ElOf Tryz.prog 185 1 8 := elOf_mk (by kernel_rfl) (by decide)
instance : ZeroOf Tryz.prog 185 [.nilFunc] := ⟨.nilFunc, fun _ => by kernel_rfl, by kernel_rfl⟩
instance : IsOne Tryz.prog 186 := ⟨fun _ => by kernel_rfl, fun _ => by kernel_rfl⟩
instance : ElOf Tryz.prog 186 1 8 := elOf_mk (by kernel_rfl) (by decide)
instance : ZeroOf Tryz.prog 186 [.nilFunc] := ⟨.nilFunc, fun _ => by kernel_rfl, by kernel_rfl⟩
instance : IsOne Tryz.prog 187 := ⟨fun _ => by kernel_rfl, fun _ => by kernel_rfl⟩
instance : ElOf Tryz.prog 187 1 8 := elOf_mk (by kernel_rfl) (by decide)
instance : ZeroOf Tryz.prog 187 [.nilFunc] := ⟨.nilFunc, fun _ => by kernel_rfl, by kernel_rfl⟩
instance : IsOne Tryz.prog 188 := ⟨fun _ => by kernel_rfl, fun _ => by kernel_rfl⟩
instance : ElOf Tryz.prog 188 1 8 := elOf_mk (by kernel_rfl) (by decide)
instance : ZeroOf Tryz.prog 188 [.nilFunc] := ⟨.nilFunc, fun _ => by kernel_rfl, by kernel_rfl⟩
instance : IsOne Tryz.prog 189 := ⟨fun _ => by kernel_rfl, fun _ => by kernel_rfl⟩
instance : ElOf Tryz.prog 189 1 8 := elOf_mk (by kernel_rfl) (by decide)
instance : ZeroOf Tryz.prog 189 [.nilFunc] := ⟨.nilFunc, fun _ => by kernel_rfl, by kernel_rfl⟩
instance : IsOne Tryz.prog 190 := ⟨fun _ => by kernel_rfl, fun _ => by kernel_rfl⟩
instance : ElOf Tryz.prog 190 1 8 := elOf_mk (by kernel_rfl) (by decide)
instance : ZeroOf Tryz.prog 190 [.nilFunc] := ⟨.nilFunc, fun _ => by kernel_rfl, by kernel_rfl⟩
instance : IsOne Tryz.prog 191 := ⟨fun _ => by kernel_rfl, fun _ => by kernel_rfl⟩
instance : ElOf Tryz.prog 191 1 8 := elOf_mk (by kernel_rfl) (by decide)
instance : ZeroOf Tryz.prog 191 [.nilFunc] := ⟨.nilFunc, fun _ => by kernel_rfl, by kernel_rfl⟩
instance : IsOne Tryz.prog 192 := ⟨fun _ => by kernel_rfl, fun _ => by kernel_rfl⟩
instance : ElOf Tryz.prog 192 1 8 := elOf_mk (by kernel_rfl) (by decide)
instance : ZeroOf Tryz.prog 192 [.nilFunc] := ⟨.nilFunc, fun _ => by kernel_rfl, by kernel_rfl⟩
instance : IsOne Tryz.prog 193 := ⟨fun _ => by kernel_rfl, fun _ => by kernel_rfl⟩
instance : ElOf Tryz.prog 193 1 8 := elOf_mk (by kernel_rfl) (by decide)
instance : ZeroOf Tryz.prog 193 [.nilFunc] := ⟨.nilFunc, fun _ => by kernel_rfl, by kernel_rfl⟩
instance : IsOne Tryz.prog 194 := ⟨fun _ => by kernel_rfl, fun _ => by kernel_rfl⟩
instance : NotInt Tryz.prog 194 := ⟨.inr ⟨4, by kernel_rfl⟩⟩
instance : SlOf Tryz.prog 194 4 1 := ⟨by kernel_rfl, fun _ => by kernel_rfl⟩
instance : ElOf Tryz.prog 194 1 24 := elOf_mk (by kernel_rfl) (by decide)
instance : ZeroOf Tryz.prog 194 [(.slice none 0 0)] := ⟨(.slice none 0 0), fun _ => by kernel_rfl, by kernel_rfl⟩
instance : IsOne Tryz.prog 195 := ⟨fun _ => by kernel_rfl, fun _ => by kernel_rfl⟩
instance : ElOf Tryz.prog 195 1 8 := elOf_mk (by kernel_rfl) (by decide)
instance : ZeroOf Tryz.prog 195 [.nilFunc] := ⟨.nilFunc, fun _ => by kernel_rfl, by kernel_rfl⟩
instance : IsOne Tryz.prog 196 := ⟨fun _ => by kernel_rfl, fun _ => by kernel_rfl⟩
instance : ElOf Tryz.prog 196 1 8 := elOf_mk (by kernel_rfl) (by decide)
instance : ZeroOf Tryz.prog 196 [.nilFunc] := ⟨.nilFunc, fun _ => by kernel_rfl, by kernel_rfl⟩
instance : IsOne Tryz.prog 197 := ⟨fun _ => by kernel_rfl, fun _ => by kernel_rfl⟩
instance : ElOf Tryz.prog 197 1 8 := elOf_mk (by kernel_rfl) (by decide)
instance : ZeroOf Tryz.prog 197 [.nilFunc] := ⟨.nilFunc, fun _ => by kernel_rfl, by kernel_rfl⟩
instance : IsOne Tryz.prog 198 := ⟨fun _ => by kernel_rfl, fun _ => by kernel_rfl⟩
instance : ElOf Tryz.prog 198 1 8 := elOf_mk (by kernel_rfl) (by decide)
instance : ZeroOf Tryz.prog 198 [.nilFunc] := ⟨.nilFunc, fun _ => by kernel_rfl, by kernel_rfl⟩
instance : IsOne Tryz.prog 199 := ⟨fun _ => by kernel_rfl, fun _ => by kernel_rfl⟩
instance : ElOf Tryz.prog 199 1 8 := elOf_mk (by kernel_rfl) (by decide)
instance : ZeroOf Tryz.prog 199 [.nilFunc] := ⟨.nilFunc, fun _ => by kernel_rfl, by kernel_rfl⟩
instance : IsOne Tryz.prog 200 := ⟨fun _ => by kernel_rfl, fun _ => by kernel_rfl⟩
instance : ElOf Tryz.prog 200 1 8 := elOf_mk (by kernel_rfl) (by decide)
instance : ZeroOf Tryz.prog 200 [.nilFunc] := ⟨.nilFunc, fun _ => by kernel_rfl, by kernel_rfl⟩
instance : IsOne Tryz.prog 202 := ⟨fun _ => by kernel_rfl, fun _ => by kernel_rfl⟩
instance : ElOf Tryz.prog 202 1 8 := elOf_mk (by kernel_rfl) (by decide)
instance : ZeroOf Tryz.prog 202 [.nilFunc] := ⟨.nilFunc, fun _ => by kernel_rfl, by kernel_rfl⟩
instance : IsOne Tryz.prog 203 := ⟨fun _ => by kernel_rfl, fun _ => by kernel_rfl⟩
instance : ElOf Tryz.prog 203 1 8 := elOf_mk (by kernel_rfl) (by decide)
instance : ZeroOf Tryz.prog 203 [.nilFunc] := ⟨.nilFunc, fun _ => by kernel_rfl, by kernel_rfl⟩
instance : IsOne Tryz.prog 204 := ⟨fun _ => by kernel_rfl, fun _ => by kernel_rfl⟩
instance : ElOf Tryz.prog 204 1 8 := elOf_mk (by kernel_rfl) (by decide)
instance : ZeroOf Tryz.prog 204 [.nilFunc] := ⟨.nilFunc, fun _ => by kernel_rfl, by kernel_rfl⟩
instance : IsOne Tryz.prog 205 := ⟨fun _ => by kernel_rfl, fun _ => by kernel_rfl⟩
instance : ElOf Tryz.prog 205 1 8 := elOf_mk (by kernel_rfl) (by decide)
instance : ZeroOf Tryz.prog 205 [.nilFunc] := ⟨.nilFunc, fun _ => by kernel_rfl, by kernel_rfl⟩
instance : IsOne Tryz.prog 206 := ⟨fun _ => by kernel_rfl, fun _ => by kernel_rfl⟩
instance : ElOf Tryz.prog 206 1 8 := elOf_mk (by kernel_rfl) (by decide)
instance : ZeroOf Tryz.prog 206 [.nilFunc] := ⟨.nilFunc, fun _ => by kernel_rfl, by kernel_rfl⟩
instance : IsOne Tryz.prog 207 := ⟨fun _ => by kernel_rfl, fun _ => by kernel_rfl⟩
instance : ElOf Tryz.prog 207 1 8 := elOf_mk (by kernel_rfl) (by decide)
instance : ZeroOf Tryz.prog 207 [.nilFunc] := ⟨.nilFunc, fun _ => by kernel_rfl, by kernel_rfl⟩
instance : IsAgg Tryz.prog 209 5 := ⟨fun _ => by kernel_rfl, fun _ => by kernel_rfl⟩
instance : FldAt Tryz.prog 209 0 0 := ⟨fun _ _ _ => by kernel_rfl⟩
instance : FldAt Tryz.prog 209 1 1 := ⟨fun _ _ _ => by kernel_rfl⟩
instance : ElOf Tryz.prog 209 5 40 := elOf_mk (by kernel_rfl) (by decide)
instance : ZeroOf Tryz.prog 209 [(.pointer none), (.int .i64 0), (.int .i64 0), (.int .i64 0), (.int .i64 0)] := ⟨(.agg #[(.pointer none), (.int .i64 0), (.int .i64 0), (.int .i64 0), (.int .i64 0)]), fun _ => by kernel_rfl, by kernel_rfl⟩
instance : PlacesOf Tryz.prog 209 [(0, 1), (1, 4)] [(.pointer none), (.int .i64 0), (.int .i64 0), (.int .i64 0), (.int .i64 0)] := placesOf_mk (Tryz.prog.fieldsOf 209) (.agg #[(.pointer none), (.int .i64 0), (.int .i64 0), (.int .i64 0), (.int .i64 0)]) (fun _ => by kernel_rfl) (by kernel_rfl) (by kernel_rfl) (fun _ => by kernel_rfl)
instance : IsAgg Tryz.prog 210 5 := ⟨fun _ => by kernel_rfl, fun _ => by kernel_rfl⟩
instance : FldAt Tryz.prog 210 0 0 := ⟨fun _ _ _ => by kernel_rfl⟩
instance : FldAt Tryz.prog 210 1 1 := ⟨fun _ _ _ => by kernel_rfl⟩
instance : ElOf Tryz.prog 210 5 40 := elOf_mk (by kernel_rfl) (by decide)
instance : ZeroOf Tryz.prog 210 [(.pointer none), (.int .i64 0), (.int .i64 0), (.int .i64 0), (.int .i64 0)] := ⟨(.agg #[(.pointer none), (.int .i64 0), (.int .i64 0), (.int .i64 0), (.int .i64 0)]), fun _ => by kernel_rfl, by kernel_rfl⟩
instance : PlacesOf Tryz.prog 210 [(0, 1), (1, 4)] [(.pointer none), (.int .i64 0), (.int .i64 0), (.int .i64 0), (.int .i64 0)] := placesOf_mk (Tryz.prog.fieldsOf 210) (.agg #[(.pointer none), (.int .i64 0), (.int .i64 0), (.int .i64 0), (.int .i64 0)]) (fun _ => by kernel_rfl) (by kernel_rfl) (by kernel_rfl) (fun _ => by kernel_rfl)
instance : IsOne Tryz.prog 212 := ⟨fun _ => by kernel_rfl, fun _ => by kernel_rfl⟩
instance : ElOf Tryz.prog 212 1 8 := elOf_mk (by kernel_rfl) (by decide)
instance : ZeroOf Tryz.prog 212 [.nilFunc] := ⟨.nilFunc, fun _ => by kernel_rfl, by kernel_rfl⟩
instance : IsOne Tryz.prog 213 := ⟨fun _ => by kernel_rfl, fun _ => by kernel_rfl⟩
instance : ElOf Tryz.prog 213 1 8 := elOf_mk (by kernel_rfl) (by decide)
instance : ZeroOf Tryz.prog 213 [.nilFunc] := ⟨.nilFunc, fun _ => by kernel_rfl, by kernel_rfl⟩
instance : IsOne Tryz.prog 214 := ⟨fun _ => by kernel_rfl, fun _ => by kernel_rfl⟩
instance : ElOf Tryz.prog 214 1 8 := elOf_mk (by kernel_rfl) (by decide)
instance : ZeroOf Tryz.prog 214 [.nilFunc] := ⟨.nilFunc, fun _ => by kernel_rfl, by kernel_rfl⟩
instance : IsOne Tryz.prog 215 := ⟨fun _ => by kernel_rfl, fun _ => by kernel_rfl⟩
instance : ElOf Tryz.prog 215 1 8 := elOf_mk (by kernel_rfl) (by decide)
instance : ZeroOf Tryz.prog 215 [.nilFunc] := ⟨.nilFunc, fun _ => by kernel_rfl, by kernel_rfl⟩
instance : IsOne Tryz.prog 216 := ⟨fun _ => by kernel_rfl, fun _ => by kernel_rfl⟩
instance : ElOf Tryz.prog 216 1 8 := elOf_mk (by kernel_rfl) (by decide)
instance : ZeroOf Tryz.prog 216 [.nilFunc] := ⟨.nilFunc, fun _ => by kernel_rfl, by kernel_rfl⟩
instance : IsOne Tryz.prog 217 := ⟨fun _ => by kernel_rfl, fun _ => by kernel_rfl⟩
instance : ElOf Tryz.prog 217 1 8 := elOf_mk (by kernel_rfl) (by decide)
instance : ZeroOf Tryz.prog 217 [.nilFunc] := ⟨.nilFunc, fun _ => by kernel_rfl, by kernel_rfl⟩
instance : IsOne Tryz.prog 218 := ⟨fun _ => by kernel_rfl, fun _ => by kernel_rfl⟩
instance : ElOf Tryz.prog 218 1 8 := elOf_mk (by kernel_rfl) (by decide)
instance : ZeroOf Tryz.prog 218 [.nilFunc] := ⟨.nilFunc, fun _ => by kernel_rfl, by kernel_rfl⟩
instance : IsOne Tryz.prog 219 := ⟨fun _ => by kernel_rfl, fun _ => by kernel_rfl⟩
instance : ElOf Tryz.prog 219 1 8 := elOf_mk (by kernel_rfl) (by decide)
instance : ZeroOf Tryz.prog 219 [.nilFunc] := ⟨.nilFunc, fun _ => by kernel_rfl, by kernel_rfl⟩
instance : IsOne Tryz.prog 220 := ⟨fun _ => by kernel_rfl, fun _ => by kernel_rfl⟩
instance : ElOf Tryz.prog 220 1 8 := elOf_mk (by kernel_rfl) (by decide)
instance : ZeroOf Tryz.prog 220 [.nilFunc] := ⟨.nilFunc, fun _ => by kernel_rfl, by kernel_rfl⟩
instance : IsOne Tryz.prog 221 := ⟨fun _ => by kernel_rfl, fun _ => by kernel_rfl⟩
instance : ElOf Tryz.prog 221 1 8 := elOf_mk (by kernel_rfl) (by decide)
instance : ZeroOf Tryz.prog 221 [.nilFunc] := ⟨.nilFunc, fun _ => by kernel_rfl, by kernel_rfl⟩
instance : IsOne Tryz.prog 222 := ⟨fun _ => by kernel_rfl, fun _ => by kernel_rfl⟩
instance : ElOf Tryz.prog 222 1 8 := elOf_mk (by kernel_rfl) (by decide)
instance : ZeroOf Tryz.prog 222 [.nilFunc] := ⟨.nilFunc, fun _ => by kernel_rfl, by kernel_rfl⟩
instance : IsOne Tryz.prog 223 := ⟨fun _ => by kernel_rfl, fun _ => by kernel_rfl⟩
instance : ElOf Tryz.prog 223 1 8 := elOf_mk (by kernel_rfl) (by decide)
instance : ZeroOf Tryz.prog 223 [.nilFunc] := ⟨.nilFunc, fun _ => by kernel_rfl, by kernel_rfl⟩
instance : IsOne Tryz.prog 225 := ⟨fun _ => by kernel_rfl, fun _ => by kernel_rfl⟩
instance : ElOf Tryz.prog 225 1 8 := elOf_mk (by kernel_rfl) (by decide)
instance : ZeroOf Tryz.prog 225 [.nilFunc] := ⟨.nilFunc, fun _ => by kernel_rfl, by kernel_rfl⟩
instance : IsOne Tryz.prog 226 := ⟨fun _ => by kernel_rfl, fun _ => by kernel_rfl⟩
instance : ElOf Tryz.prog 226 1 8 := elOf_mk (by kernel_rfl) (by decide)
instance : ZeroOf Tryz.prog 226 [.nilFunc] := ⟨.nilFunc, fun _ => by kernel_rfl, by kernel_rfl⟩
instance : IsAgg Tryz.prog 227 20 := ⟨fun _ => by kernel_rfl, fun _ => by kernel_rfl⟩
instance : FldAt Tryz.prog 227 0 0 := ⟨fun _ _ _ => by kernel_rfl⟩
instance : FldAt Tryz.prog 227 1 7 := ⟨fun _ _ _ => by kernel_rfl⟩
instance : FldAt Tryz.prog 227 2 18 := ⟨fun _ _ _ => by kernel_rfl⟩
instance : FldAt Tryz.prog 227 3 19 := ⟨fun _ _ _ => by kernel_rfl⟩
instance : ElOf Tryz.prog 227 20 344 := elOf_mk (by kernel_rfl) (by decide)
instance : ZeroOf Tryz.prog 227 [(.slice none 0 0), (.slice none 0 0), (.slice none 0 0), (.slice none 0 0), (.slice none 0 0), (.slice none 0 0), (.slice none 0 0), (.int .i64 0), (.string ⟨#[]⟩), (.string ⟨#[]⟩), (.string ⟨#[]⟩), (.string ⟨#[]⟩), (.string ⟨#[]⟩), (.bool false), (.int .i64 0), (.int .i64 0), (.slice none 0 0), (.slice none 0 0), (.int .i64 0), (.int .i64 0)] := ⟨(.agg #[(.slice none 0 0), (.slice none 0 0), (.slice none 0 0), (.slice none 0 0), (.slice none 0 0), (.slice none 0 0), (.slice none 0 0), (.int .i64 0), (.string ⟨#[]⟩), (.string ⟨#[]⟩), (.string ⟨#[]⟩), (.string ⟨#[]⟩), (.string ⟨#[]⟩), (.bool false), (.int .i64 0), (.int .i64 0), (.slice none 0 0), (.slice none 0 0), (.int .i64 0), (.int .i64 0)]), fun _ => by kernel_rfl, by kernel_rfl⟩
instance : PlacesOf Tryz.prog 227 [(0, 7), (7, 11), (18, 1), (19, 1)] [(.slice none 0 0), (.slice none 0 0), (.slice none 0 0), (.slice none 0 0), (.slice none 0 0), (.slice none 0 0), (.slice none 0 0), (.int .i64 0), (.string ⟨#[]⟩), (.string ⟨#[]⟩), (.string ⟨#[]⟩), (.string ⟨#[]⟩), (.string ⟨#[]⟩), (.bool false), (.int .i64 0), (.int .i64 0), (.slice none 0 0), (.slice none 0 0), (.int .i64 0), (.int .i64 0)] := placesOf_mk (Tryz.prog.fieldsOf 227) (.agg #[(.slice none 0 0), (.slice none 0 0), (.slice none 0 0), (.slice none 0 0), (.slice none 0 0), (.slice none 0 0), (.slice none 0 0), (.int .i64 0), (.string ⟨#[]⟩), (.string ⟨#[]⟩), (.string ⟨#[]⟩), (.string ⟨#[]⟩), (.string ⟨#[]⟩), (.bool false), (.int .i64 0), (.int .i64 0), (.slice none 0 0), (.slice none 0 0), (.int .i64 0), (.int .i64 0)]) (fun _ => by kernel_rfl) (by kernel_rfl) (by kernel_rfl) (fun _ => by kernel_rfl)
instance : IsAgg Tryz.prog 228 20 := ⟨fun _ => by kernel_rfl, fun _ => by kernel_rfl⟩
instance : FldAt Tryz.prog 228 0 0 := ⟨fun _ _ _ => by kernel_rfl⟩
instance : FldAt Tryz.prog 228 1 7 := ⟨fun _ _ _ => by kernel_rfl⟩
instance : FldAt Tryz.prog 228 2 18 := ⟨fun _ _ _ => by kernel_rfl⟩
instance : FldAt Tryz.prog 228 3 19 := ⟨fun _ _ _ => by kernel_rfl⟩
instance : ElOf Tryz.prog 228 20 344 := elOf_mk (by kernel_rfl) (by decide)
instance : ZeroOf Tryz.prog 228 [(.slice none 0 0), (.slice none 0 0), (.slice none 0 0), (.slice none 0 0), (.slice none 0 0), (.slice none 0 0), (.slice none 0 0), (.int .i64 0), (.string ⟨#[]⟩), (.string ⟨#[]⟩), (.string ⟨#[]⟩), (.string ⟨#[]⟩), (.string ⟨#[]⟩), (.bool false), (.int .i64 0), (.int .i64 0), (.slice none 0 0), (.slice none 0 0), (.int .i64 0), (.int .i64 0)] := ⟨(.agg #[(.slice none 0 0), (.slice none 0 0), (.slice none 0 0), (.slice none 0 0), (.slice none 0 0), (.slice none 0 0), (.slice none 0 0), (.int .i64 0), (.string ⟨#[]⟩), (.string ⟨#[]⟩), (.string ⟨#[]⟩), (.string ⟨#[]⟩), (.string ⟨#[]⟩), (.bool false), (.int .i64 0), (.int .i64 0), (.slice none 0 0), (.slice none 0 0), (.int .i64 0), (.int .i64 0)]), fun _ => by kernel_rfl, by kernel_rfl⟩
instance : PlacesOf Tryz.prog 228 [(0, 7), (7, 11), (18, 1), (19, 1)] [(.slice none 0 0), (.slice none 0 0), (.slice none 0 0), (.slice none 0 0), (.slice none 0 0), (.slice none 0 0), (.slice none 0 0), (.int .i64 0), (.string ⟨#[]⟩), (.string ⟨#[]⟩), (.string ⟨#[]⟩), (.string ⟨#[]⟩), (.string ⟨#[]⟩), (.bool false), (.int .i64 0), (.int .i64 0), (.slice none 0 0), (.slice none 0 0), (.int .i64 0), (.int .i64 0)] := placesOf_mk (Tryz.prog.fieldsOf 228) (.agg #[(.slice none 0 0), (.slice none 0 0), (.slice none 0 0), (.slice none 0 0), (.slice none 0 0), (.slice none 0 0), (.slice none 0 0), (.int .i64 0), (.string ⟨#[]⟩), (.string ⟨#[]⟩), (.string ⟨#[]⟩), (.string ⟨#[]⟩), (.string ⟨#[]⟩), (.bool false), (.int .i64 0), (.int .i64 0), (.slice none 0 0), (.slice none 0 0), (.int .i64 0), (.int .i64 0)]) (fun _ => by kernel_rfl) (by kernel_rfl) (by kernel_rfl) (fun _ => by kernel_rfl)
instance : IsOne Tryz.prog 229 := ⟨fun _ => by kernel_rfl, fun _ => by kernel_rfl⟩
instance : ElOf Tryz.prog 229 1 8 := elOf_mk (by kernel_rfl) (by decide)
instance : ZeroOf Tryz.prog 229 [.nilFunc] := ⟨.nilFunc, fun _ => by kernel_rfl, by kernel_rfl⟩
instance : IsOne Tryz.prog 230 := ⟨fun _ => by kernel_rfl, fun _ => by kernel_rfl⟩
instance : ElOf Tryz.prog 230 1 8 := elOf_mk (by kernel_rfl) (by decide)
instance : ZeroOf Tryz.prog 230 [.nilFunc] := ⟨.nilFunc, fun _ => by kernel_rfl, by kernel_rfl⟩
instance : IsOne Tryz.prog 231 := ⟨fun _ => by kernel_rfl, fun _ => by kernel_rfl⟩
instance : ElOf Tryz.prog 231 1 8 := elOf_mk (by kernel_rfl) (by decide)
instance : ZeroOf Tryz.prog 231 [.nilFunc] := ⟨.nilFunc, fun _ => by kernel_rfl, by kernel_rfl⟩
instance : IsOne Tryz.prog 232 := ⟨fun _ => by kernel_rfl, fun _ => by kernel_rfl⟩
instance : IntT Tryz.prog 232 .u64 := ⟨by kernel_rfl⟩
instance : ElOf Tryz.prog 232 1 8 := elOf_mk (by kernel_rfl) (by decide)
instance : ZeroOf Tryz.prog 232 [(.int .u64 0)] := ⟨(.int .u64 0), fun _ => by kernel_rfl, by kernel_rfl⟩
instance : IsOne Tryz.prog 233 := ⟨fun _ => by kernel_rfl, fun _ => by kernel_rfl⟩
instance : ElOf Tryz.prog 233 1 8 := elOf_mk (by kernel_rfl) (by decide)
instance : ZeroOf Tryz.prog 233 [.nilFunc] := ⟨.nilFunc, fun _ => by kernel_rfl, by kernel_rfl⟩
instance : IsOne Tryz.prog 234 := ⟨fun _ => by kernel_rfl, fun _ => by kernel_rfl⟩
instance : ElOf Tryz.prog 234 1 8 := elOf_mk (by kernel_rfl) (by decide)
instance : ZeroOf Tryz.prog 234 [.nilFunc] := ⟨.nilFunc, fun _ => by kernel_rfl, by kernel_rfl⟩
instance : IsOne Tryz.prog 235 := ⟨fun _ => by kernel_rfl, fun _ => by kernel_rfl⟩
instance : ElOf Tryz.prog 235 1 8 := elOf_mk (by kernel_rfl) (by decide)
instance : ZeroOf Tryz.prog 235 [.nilFunc] := ⟨.nilFunc, fun _ => by kernel_rfl, by kernel_rfl⟩
instance : IsOne Tryz.prog 236 := ⟨fun _ => by kernel_rfl, fun _ => by kernel_rfl⟩
instance : ElOf Tryz.prog 236 1 8 := elOf_mk (by kernel_rfl) (by decide)
instance : ZeroOf Tryz.prog 236 [(.pointer none)] := ⟨(.pointer none), fun _ => by kernel_rfl, by kernel_rfl⟩
instance : IsOne Tryz.prog 237 := ⟨fun _ => by kernel_rfl, fun _ => by kernel_rfl⟩
instance : ElOf Tryz.prog 237 1 8 := elOf_mk (by kernel_rfl) (by decide)
instance : ZeroOf Tryz.prog 237 [.nilFunc] := ⟨.nilFunc, fun _ => by kernel_rfl, by kernel_rfl⟩
instance : IsOne Tryz.prog 238 := ⟨fun _ => by kernel_rfl, fun _ => by kernel_rfl⟩
instance : ElOf Tryz.prog 238 1 8 := elOf_mk (by kernel_rfl) (by decide)
instance : ZeroOf Tryz.prog 238 [.nilFunc] := ⟨.nilFunc, fun _ => by kernel_rfl, by kernel_rfl⟩
instance : IsOne Tryz.prog 239 := ⟨fun _ => by kernel_rfl, fun _ => by kernel_rfl⟩
instance : ElOf Tryz.prog 239 1 8 := elOf_mk (by kernel_rfl) (by decide)
instance : ZeroOf Tryz.prog 239 [.nilFunc] := ⟨.nilFunc, fun _ => by kernel_rfl, by kernel_rfl⟩
instance : IsOne Tryz.prog 240 := ⟨fun _ => by kernel_rfl, fun _ => by kernel_rfl⟩
instance : ElOf Tryz.prog 240 1 8 := elOf_mk (by kernel_rfl) (by decide)
instance : ZeroOf Tryz.prog 240 [.nilFunc] := ⟨.nilFunc, fun _ => by kernel_rfl, by kernel_rfl⟩
instance : IsOne Tryz.prog 242 := ⟨fun _ => by kernel_rfl, fun _ => by kernel_rfl⟩
instance : ElOf Tryz.prog 242 1 8 := elOf_mk (by kernel_rfl) (by decide)
instance : ZeroOf Tryz.prog 242 [.nilFunc] := ⟨.nilFunc, fun _ => by kernel_rfl, by kernel_rfl⟩
instance : IsAgg Tryz.prog 243 2 := ⟨fun _ => by kernel_rfl, fun _ => by kernel_rfl⟩
instance : FldAt Tryz.prog 243 0 0 := ⟨fun _ _ _ => by kernel_rfl⟩
instance : FldAt Tryz.prog 243 1 1 := ⟨fun _ _ _ => by kernel_rfl⟩
instance : ElOf Tryz.prog 243 2 16 := elOf_mk (by kernel_rfl) (by decide)
instance : ZeroOf Tryz.prog 243 [(.int .i64 0), (.int .i64 0)] := ⟨(.agg #[(.int .i64 0), (.int .i64 0)]), fun _ => by kernel_rfl, by kernel_rfl⟩
instance : PlacesOf Tryz.prog 243 [(0, 1), (1, 1)] [(.int .i64 0), (.int .i64 0)] := placesOf_mk (Tryz.prog.fieldsOf 243) (.agg #[(.int .i64 0), (.int .i64 0)]) (fun _ => by kernel_rfl) (by kernel_rfl) (by kernel_rfl) (fun _ => by kernel_rfl)
instance : IsAgg Tryz.prog 244 2 := ⟨fun _ => by kernel_rfl, fun _ => by kernel_rfl⟩
instance : FldAt Tryz.prog 244 0 0 := ⟨fun _ _ _ => by kernel_rfl⟩
instance : FldAt Tryz.prog 244 1 1 := ⟨fun _ _ _ => by kernel_rfl⟩
set_option maxRecDepth 100000 in
instance : FlatEq Tryz.prog 244 [.int .i64, .int .i64] := ⟨by kernel_rfl, .cons (by kernel_rfl) (of_decide_eq_true (by kernel_rfl)) (fun _ => by kernel_rfl) (by kernel_rfl) (.cons (by kernel_rfl) (of_decide_eq_true (by kernel_rfl)) (fun _ => by kernel_rfl) (by kernel_rfl) (.nil)), by kernel_rfl, by kernel_rfl⟩
instance : ElOf Tryz.prog 244 2 16 := elOf_mk (by kernel_rfl) (by decide)
instance : ZeroOf Tryz.prog 244 [(.int .i64 0), (.int .i64 0)] := ⟨(.agg #[(.int .i64 0), (.int .i64 0)]), fun _ => by kernel_rfl, by kernel_rfl⟩
instance : PlacesOf Tryz.prog 244 [(0, 1), (1, 1)] [(.int .i64 0), (.int .i64 0)] := placesOf_mk (Tryz.prog.fieldsOf 244) (.agg #[(.int .i64 0), (.int .i64 0)]) (fun _ => by kernel_rfl) (by kernel_rfl) (by kernel_rfl) (fun _ => by kernel_rfl)
instance : IsAgg Tryz.prog 246 2 := ⟨fun _ => by kernel_rfl, fun _ => by kernel_rfl⟩
instance : FldAt Tryz.prog 246 0 0 := ⟨fun _ _ _ => by kernel_rfl⟩
instance : FldAt Tryz.prog 246 1 1 := ⟨fun _ _ _ => by kernel_rfl⟩
instance : ElOf Tryz.prog 246 2 24 := elOf_mk (by kernel_rfl) (by decide)
instance : ZeroOf Tryz.prog 246 [(.string ⟨#[]⟩), (.int .i64 0)] := ⟨(.agg #[(.string ⟨#[]⟩), (.int .i64 0)]), fun _ => by kernel_rfl, by kernel_rfl⟩
instance : PlacesOf Tryz.prog 246 [(0, 1), (1, 1)] [(.string ⟨#[]⟩), (.int .i64 0)] := placesOf_mk (Tryz.prog.fieldsOf 246) (.agg #[(.string ⟨#[]⟩), (.int .i64 0)]) (fun _ => by kernel_rfl) (by kernel_rfl) (by kernel_rfl) (fun _ => by kernel_rfl)
instance : IsAgg Tryz.prog 247 2 := ⟨fun _ => by kernel_rfl, fun _ => by kernel_rfl⟩
instance : FldAt Tryz.prog 247 0 0 := ⟨fun _ _ _ => by kernel_rfl⟩
instance : FldAt Tryz.prog 247 1 1 := ⟨fun _ _ _ => by kernel_rfl⟩
set_option maxRecDepth 100000 in
instance : FlatEq Tryz.prog 247 [.str, .int .i64] := ⟨by kernel_rfl, .cons (by kernel_rfl) (of_decide_eq_true (by kernel_rfl)) (fun _ => by kernel_rfl) (by kernel_rfl) (.cons (by kernel_rfl) (of_decide_eq_true (by kernel_rfl)) (fun _ => by kernel_rfl) (by kernel_rfl) (.nil)), by kernel_rfl, by kernel_rfl⟩
instance : ElOf Tryz.prog 247 2 24 := elOf_mk (by kernel_rfl) (by decide)
instance : ZeroOf Tryz.prog 247 [(.string ⟨#[]⟩), (.int .i64 0)] := ⟨(.agg #[(.string ⟨#[]⟩), (.int .i64 0)]), fun _ => by kernel_rfl, by kernel_rfl⟩
instance : PlacesOf Tryz.prog 247 [(0, 1), (1, 1)] [(.string ⟨#[]⟩), (.int .i64 0)] := placesOf_mk (Tryz.prog.fieldsOf 247) (.agg #[(.string ⟨#[]⟩), (.int .i64 0)]) (fun _ => by kernel_rfl) (by kernel_rfl) (by kernel_rfl) (fun _ => by kernel_rfl)
instance : IsOne Tryz.prog 248 := ⟨fun _ => by kernel_rfl, fun _ => by kernel_rfl⟩
instance : ElOf Tryz.prog 248 1 8 := elOf_mk (by kernel_rfl) (by decide)
instance : ZeroOf Tryz.prog 248 [.nilFunc] := ⟨.nilFunc, fun _ => by kernel_rfl, by kernel_rfl⟩
instance : IsOne Tryz.prog 249 := ⟨fun _ => by kernel_rfl, fun _ => by kernel_rfl⟩
instance : ElOf Tryz.prog 249 1 8 := elOf_mk (by kernel_rfl) (by decide)
instance : ZeroOf Tryz.prog 249 [(.pointer none)] := ⟨(.pointer none), fun _ => by kernel_rfl, by kernel_rfl⟩
instance : IsOne Tryz.prog 250 := ⟨fun _ => by kernel_rfl, fun _ => by kernel_rfl⟩
instance : ElOf Tryz.prog 250 1 8 := elOf_mk (by kernel_rfl) (by decide)
instance : ZeroOf Tryz.prog 250 [.nilFunc] := ⟨.nilFunc, fun _ => by kernel_rfl, by kernel_rfl⟩
instance : IsOne Tryz.prog 251 := ⟨fun _ => by kernel_rfl, fun _ => by kernel_rfl⟩
instance : ElOf Tryz.prog 251 1 8 := elOf_mk (by kernel_rfl) (by decide)
instance : ZeroOf Tryz.prog 251 [.nilFunc] := ⟨.nilFunc, fun _ => by kernel_rfl, by kernel_rfl⟩
instance : IsOne Tryz.prog 253 := ⟨fun _ => by kernel_rfl, fun _ => by kernel_rfl⟩
instance : ElOf Tryz.prog 253 1 8 := elOf_mk (by kernel_rfl) (by decide)
instance : ZeroOf Tryz.prog 253 [.nilFunc] := ⟨.nilFunc, fun _ => by kernel_rfl, by kernel_rfl⟩
instance : IsOne Tryz.prog 254 := ⟨fun _ => by kernel_rfl, fun _ => by kernel_rfl⟩
instance : ElOf Tryz.prog 254 1 8 := elOf_mk (by kernel_rfl) (by decide)
instance : ZeroOf Tryz.prog 254 [.nilFunc] := ⟨.nilFunc, fun _ => by kernel_rfl, by kernel_rfl⟩
instance : IsOne Tryz.prog 255 := ⟨fun _ => by kernel_rfl, fun _ => by kernel_rfl⟩
instance : ElOf Tryz.prog 255 1 8 := elOf_mk (by kernel_rfl) (by decide)
instance : ZeroOf Tryz.prog 255 [.nilFunc] := ⟨.nilFunc, fun _ => by kernel_rfl, by kernel_rfl⟩
instance : IsOne Tryz.prog 256 := ⟨fun _ => by kernel_rfl, fun _ => by kernel_rfl⟩
instance : ElOf Tryz.prog 256 1 8 := elOf_mk (by kernel_rfl) (by decide)
instance : ZeroOf Tryz.prog 256 [.nilFunc] := ⟨.nilFunc, fun _ => by kernel_rfl, by kernel_rfl⟩
instance : IsOne Tryz.prog 257 := ⟨fun _ => by kernel_rfl, fun _ => by kernel_rfl⟩
instance : ElOf Tryz.prog 257 1 8 := elOf_mk (by kernel_rfl) (by decide)
instance : ZeroOf Tryz.prog 257 [.nilFunc] := ⟨.nilFunc, fun _ => by kernel_rfl, by kernel_rfl⟩
instance : IsOne Tryz.prog 258 := ⟨fun _ => by kernel_rfl, fun _ => by kernel_rfl⟩
instance : ElOf Tryz.prog 258 1 8 := elOf_mk (by kernel_rfl) (by decide)
instance : ZeroOf Tryz.prog 258 [.nilFunc] := ⟨.nilFunc, fun _ => by kernel_rfl, by kernel_rfl⟩
instance : IsOne Tryz.prog 259 := ⟨fun _ => by kernel_rfl, fun _ => by kernel_rfl⟩
instance : ElOf Tryz.prog 259 1 8 := elOf_mk (by kernel_rfl) (by decide)
instance : ZeroOf Tryz.prog 259 [.nilFunc] := ⟨.nilFunc, fun _ => by kernel_rfl, by kernel_rfl⟩
instance : IsOne Tryz.prog 260 := ⟨fun _ => by kernel_rfl, fun _ => by kernel_rfl⟩
instance : ElOf Tryz.prog 260 1 8 := elOf_mk (by kernel_rfl) (by decide)
instance : ZeroOf Tryz.prog 260 [.nilFunc] := ⟨.nilFunc, fun _ => by kernel_rfl, by kernel_rfl⟩
instance : IsOne Tryz.prog 261 := ⟨fun _ => by kernel_rfl, fun _ => by kernel_rfl⟩
instance : ElOf Tryz.prog 261 1 8 := elOf_mk (by kernel_rfl) (by decide)
instance : ZeroOf Tryz.prog 261 [.nilFunc] := ⟨.nilFunc, fun _ => by kernel_rfl, by kernel_rfl⟩
instance : IsOne Tryz.prog 262 := ⟨fun _ => by kernel_rfl, fun _ => by kernel_rfl⟩
instance : ElOf Tryz.prog 262 1 8 := elOf_mk (by kernel_rfl) (by decide)
instance : ZeroOf Tryz.prog 262 [.nilFunc] := ⟨.nilFunc, fun _ => by kernel_rfl, by kernel_rfl⟩
instance : IsOne Tryz.prog 263 := ⟨fun _ => by kernel_rfl, fun _ => by kernel_rfl⟩
instance : ElOf Tryz.prog 263 1 8 := elOf_mk (by kernel_rfl) (by decide)
instance : ZeroOf Tryz.prog 263 [.nilFunc] := ⟨.nilFunc, fun _ => by kernel_rfl, by kernel_rfl⟩
instance : IsOne Tryz.prog 264 := ⟨fun _ => by kernel_rfl, fun _ => by kernel_rfl⟩
instance : ElOf Tryz.prog 264 1 8 := elOf_mk (by kernel_rfl) (by decide)
instance : ZeroOf Tryz.prog 264 [.nilFunc] := ⟨.nilFunc, fun _ => by kernel_rfl, by kernel_rfl⟩
instance : IsOne Tryz.prog 265 := ⟨fun _ => by kernel_rfl, fun _ => by kernel_rfl⟩
instance : ElOf Tryz.prog 265 1 8 := elOf_mk (by kernel_rfl) (by decide)
instance : ZeroOf Tryz.prog 265 [.nilFunc] := ⟨.nilFunc, fun _ => by kernel_rfl, by kernel_rfl⟩
instance : IsOne Tryz.prog 266 := ⟨fun _ => by kernel_rfl, fun _ => by kernel_rfl⟩
instance : ElOf Tryz.prog 266 1 8 := elOf_mk (by kernel_rfl) (by decide)
instance : ZeroOf Tryz.prog 266 [.nilFunc] := ⟨.nilFunc, fun _ => by kernel_rfl, by kernel_rfl⟩
instance : IsOne Tryz.prog 267 := ⟨fun _ => by kernel_rfl, fun _ => by kernel_rfl⟩
instance : ElOf Tryz.prog 267 1 8 := elOf_mk (by kernel_rfl) (by decide)
instance : ZeroOf Tryz.prog 267 [.nilFunc] := ⟨.nilFunc, fun _ => by kernel_rfl, by kernel_rfl⟩
instance : IsOne Tryz.prog 268 := ⟨fun _ => by kernel_rfl, fun _ => by kernel_rfl⟩
instance : ElOf Tryz.prog 268 1 8 := elOf_mk (by kernel_rfl) (by decide)
instance : ZeroOf Tryz.prog 268 [.nilFunc] := ⟨.nilFunc, fun _ => by kernel_rfl, by kernel_rfl⟩
instance : IsOne Tryz.prog 269 := ⟨fun _ => by kernel_rfl, fun _ => by kernel_rfl⟩
instance : ElOf Tryz.prog 269 1 8 := elOf_mk (by kernel_rfl) (by decide)
instance : ZeroOf Tryz.prog 269 [.nilFunc] := ⟨.nilFunc, fun _ => by kernel_rfl, by kernel_rfl⟩
instance : IsOne Tryz.prog 270 := ⟨fun _ => by kernel_rfl, fun _ => by kernel_rfl⟩
instance : ElOf Tryz.prog 270 1 8 := elOf_mk (by kernel_rfl) (by decide)
instance : ZeroOf Tryz.prog 270 [.nilFunc] := ⟨.nilFunc, fun _ => by kernel_rfl, by kernel_rfl⟩
instance : IsOne Tryz.prog 271 := ⟨fun _ => by kernel_rfl, fun _ => by kernel_rfl⟩
instance : ElOf Tryz.prog 271 1 8 := elOf_mk (by kernel_rfl) (by decide)
instance : ZeroOf Tryz.prog 271 [.nilFunc] := ⟨.nilFunc, fun _ => by kernel_rfl, by kernel_rfl⟩
instance : IsOne Tryz.prog 272 := ⟨fun _ => by kernel_rfl, fun _ => by kernel_rfl⟩
instance : ElOf Tryz.prog 272 1 8 := elOf_mk (by kernel_rfl) (by decide)
instance : ZeroOf Tryz.prog 272 [.nilFunc] := ⟨.nilFunc, fun _ => by kernel_rfl, by kernel_rfl⟩
instance : IsOne Tryz.prog 273 := ⟨fun _ => by kernel_rfl, fun _ => by kernel_rfl⟩
instance : ElOf Tryz.prog 273 1 8 := elOf_mk (by kernel_rfl) (by decide)
instance : ZeroOf Tryz.prog 273 [.nilFunc] := ⟨.nilFunc, fun _ => by kernel_rfl, by kernel_rfl⟩
instance : IsOne Tryz.prog 274 := ⟨fun _ => by kernel_rfl, fun _ => by kernel_rfl⟩
instance : NotInt Tryz.prog 274 := ⟨.inr ⟨356, by kernel_rfl⟩⟩
instance : SlOf Tryz.prog 274 356 2 := ⟨by kernel_rfl, fun _ => by kernel_rfl⟩
instance : ElOf Tryz.prog 274 1 24 := elOf_mk (by kernel_rfl) (by decide)
instance : ZeroOf Tryz.prog 274 [(.slice none 0 0)] := ⟨(.slice none 0 0), fun _ => by kernel_rfl, by kernel_rfl⟩
instance : IsOne Tryz.prog 275 := ⟨fun _ => by kernel_rfl, fun _ => by kernel_rfl⟩
instance : NotInt Tryz.prog 275 := ⟨.inr ⟨277, by kernel_rfl⟩⟩
instance : SlOf Tryz.prog 275 277 5 := ⟨by kernel_rfl, fun _ => by kernel_rfl⟩
instance : ElOf Tryz.prog 275 1 24 := elOf_mk (by kernel_rfl) (by decide)
instance : ZeroOf Tryz.prog 275 [(.slice none 0 0)] := ⟨(.slice none 0 0), fun _ => by kernel_rfl, by kernel_rfl⟩
instance : IsAgg Tryz.prog 276 5 := ⟨fun _ => by kernel_rfl, fun _ => by kernel_rfl⟩
instance : FldAt Tryz.prog 276 0 0 := ⟨fun _ _ _ => by kernel_rfl⟩
instance : FldAt Tryz.prog 276 1 1 := ⟨fun _ _ _ => by kernel_rfl⟩
instance : FldAt Tryz.prog 276 2 2 := ⟨fun _ _ _ => by kernel_rfl⟩
instance : FldAt Tryz.prog 276 3 3 := ⟨fun _ _ _ => by kernel_rfl⟩
instance : FldAt Tryz.prog 276 4 4 := ⟨fun _ _ _ => by kernel_rfl⟩
instance : ElOf Tryz.prog 276 5 72 := elOf_mk (by kernel_rfl) (by decide)
instance : ZeroOf Tryz.prog 276 [(.int .i64 0), (.int .i64 0), (.int .i64 0), (.slice none 0 0), (.slice none 0 0)] := ⟨(.agg #[(.int .i64 0), (.int .i64 0), (.int .i64 0), (.slice none 0 0), (.slice none 0 0)]), fun _ => by kernel_rfl, by kernel_rfl⟩
instance : PlacesOf Tryz.prog 276 [(0, 1), (1, 1), (2, 1), (3, 1), (4, 1)] [(.int .i64 0), (.int .i64 0), (.int .i64 0), (.slice none 0 0), (.slice none 0 0)] := placesOf_mk (Tryz.prog.fieldsOf 276) (.agg #[(.int .i64 0), (.int .i64 0), (.int .i64 0), (.slice none 0 0), (.slice none 0 0)]) (fun _ => by kernel_rfl) (by kernel_rfl) (by kernel_rfl) (fun _ => by kernel_rfl)
instance : IsAgg Tryz.prog 277 5 := ⟨fun _ => by kernel_rfl, fun _ => by kernel_rfl⟩
instance : FldAt Tryz.prog 277 0 0 := ⟨fun _ _ _ => by kernel_rfl⟩
instance : FldAt Tryz.prog 277 1 1 := ⟨fun _ _ _ => by kernel_rfl⟩
instance : FldAt Tryz.prog 277 2 2 := ⟨fun _ _ _ => by kernel_rfl⟩
instance : FldAt Tryz.prog 277 3 3 := ⟨fun _ _ _ => by kernel_rfl⟩
instance : FldAt Tryz.prog 277 4 4 := ⟨fun _ _ _ => by kernel_rfl⟩
instance : ElOf Tryz.prog 277 5 72 := elOf_mk (by kernel_rfl) (by decide)
instance : ZeroOf Tryz.prog 277 [(.int .i64 0), (.int .i64 0), (.int .i64 0), (.slice none 0 0), (.slice none 0 0)] := ⟨(.agg #[(.int .i64 0), (.int .i64 0), (.int .i64 0), (.slice none 0 0), (.slice none 0 0)]), fun _ => by kernel_rfl, by kernel_rfl⟩
instance : PlacesOf Tryz.prog 277 [(0, 1), (1, 1), (2, 1), (3, 1), (4, 1)] [(.int .i64 0), (.int .i64 0), (.int .i64 0), (.slice none 0 0), (.slice none 0 0)] := placesOf_mk (Tryz.prog.fieldsOf 277) (.agg #[(.int .i64 0), (.int .i64 0), (.int .i64 0), (.slice none 0 0), (.slice none 0 0)]) (fun _ => by kernel_rfl) (by kernel_rfl) (by kernel_rfl) (fun _ => by kernel_rfl)
instance : IsOne Tryz.prog 279 := ⟨fun _ => by kernel_rfl, fun _ => by kernel_rfl⟩
instance : ElOf Tryz.prog 279 1 8 := elOf_mk (by kernel_rfl) (by decide)
instance : ZeroOf Tryz.prog 279 [.nilFunc] := ⟨.nilFunc, fun _ => by kernel_rfl, by kernel_rfl⟩
instance : IsOne Tryz.prog 280 := ⟨fun _ => by kernel_rfl, fun _ => by kernel_rfl⟩
instance : ElOf Tryz.prog 280 1 8 := elOf_mk (by kernel_rfl) (by decide)
instance : ZeroOf Tryz.prog 280 [.nilFunc] := ⟨.nilFunc, fun _ => by kernel_rfl, by kernel_rfl⟩
instance : IsOne Tryz.prog 281 := ⟨fun _ => by kernel_rfl, fun _ => by kernel_rfl⟩
instance : ElOf Tryz.prog 281 1 8 := elOf_mk (by kernel_rfl) (by decide)
instance : ZeroOf Tryz.prog 281 [.nilFunc] := ⟨.nilFunc, fun _ => by kernel_rfl, by kernel_rfl⟩
instance : IsOne Tryz.prog 282 := ⟨fun _ => by kernel_rfl, fun _ => by kernel_rfl⟩
instance : ElOf Tryz.prog 282 1 8 := elOf_mk (by kernel_rfl) (by decide)
instance : ZeroOf Tryz.prog 282 [.nilFunc] := ⟨.nilFunc, fun _ => by kernel_rfl, by kernel_rfl⟩
instance : IsOne Tryz.prog 283 := ⟨fun _ => by kernel_rfl, fun _ => by kernel_rfl⟩
instance : ElOf Tryz.prog 283 1 8 := elOf_mk (by kernel_rfl) (by decide)
instance : ZeroOf Tryz.prog 283 [.nilFunc] := ⟨.nilFunc, fun _ => by kernel_rfl, by kernel_rfl⟩
instance : IsOne Tryz.prog 284 := ⟨fun _ => by kernel_rfl, fun _ => by kernel_rfl⟩
instance : NotInt Tryz.prog 284 := ⟨.inr ⟨226, by kernel_rfl⟩⟩
instance : SlOf Tryz.prog 284 226 1 := ⟨by kernel_rfl, fun _ => by kernel_rfl⟩
instance : ElOf Tryz.prog 284 1 24 := elOf_mk (by kernel_rfl) (by decide)
instance : ZeroOf Tryz.prog 284 [(.slice none 0 0)] := ⟨(.slice none 0 0), fun _ => by kernel_rfl, by kernel_rfl⟩
instance : IsOne Tryz.prog 285 := ⟨fun _ => by kernel_rfl, fun _ => by kernel_rfl⟩
instance : ElOf Tryz.prog 285 1 8 := elOf_mk (by kernel_rfl) (by decide)
instance : ZeroOf Tryz.prog 285 [(.pointer none)] := ⟨(.pointer none), fun _ => by kernel_rfl, by kernel_rfl⟩
instance : IsOne Tryz.prog 286 := ⟨fun _ => by kernel_rfl, fun _ => by kernel_rfl⟩
instance : ElOf Tryz.prog 286 1 8 := elOf_mk (by kernel_rfl) (by decide)
instance : ZeroOf Tryz.prog 286 [.nilFunc] := ⟨.nilFunc, fun _ => by kernel_rfl, by kernel_rfl⟩
instance : IsOne Tryz.prog 287 := ⟨fun _ => by kernel_rfl, fun _ => by kernel_rfl⟩
instance : ElOf Tryz.prog 287 1 8 := elOf_mk (by kernel_rfl) (by decide)
instance : ZeroOf Tryz.prog 287 [.nilFunc] := ⟨.nilFunc, fun _ => by kernel_rfl, by kernel_rfl⟩
instance : IsOne Tryz.prog 288 := ⟨fun _ => by kernel_rfl, fun _ => by kernel_rfl⟩
instance : ElOf Tryz.prog 288 1 8 := elOf_mk (by kernel_rfl) (by decide)
instance : ZeroOf Tryz.prog 288 [.nilFunc] := ⟨.nilFunc, fun _ => by kernel_rfl, by kernel_rfl⟩
instance : IsOne Tryz.prog 289 := ⟨fun _ => by kernel_rfl, fun _ => by kernel_rfl⟩
instance : ElOf Tryz.prog 289 1 8 := elOf_mk (by kernel_rfl) (by decide)
instance : ZeroOf Tryz.prog 289 [.nilFunc] := ⟨.nilFunc, fun _ => by kernel_rfl, by kernel_rfl⟩
instance : IsOne Tryz.prog 290 := ⟨fun _ => by kernel_rfl, fun _ => by kernel_rfl⟩
instance : NotInt Tryz.prog 290 := ⟨.inr ⟨5, by kernel_rfl⟩⟩
instance : SlOf Tryz.prog 290 5 1 := ⟨by kernel_rfl, fun _ => by kernel_rfl⟩
instance : ElOf Tryz.prog 290 1 24 := elOf_mk (by kernel_rfl) (by decide)
instance : ZeroOf Tryz.prog 290 [(.slice none 0 0)] := ⟨(.slice none 0 0), fun _ => by kernel_rfl, by kernel_rfl⟩
instance : IsOne Tryz.prog 292 := ⟨fun _ => by kernel_rfl, fun _ => by kernel_rfl⟩
instance : ElOf Tryz.prog 292 1 8 := elOf_mk (by kernel_rfl) (by decide)
instance : ZeroOf Tryz.prog 292 [.nilFunc] := ⟨.nilFunc, fun _ => by kernel_rfl, by kernel_rfl⟩
instance : IsOne Tryz.prog 293 := ⟨fun _ => by kernel_rfl, fun _ => by kernel_rfl⟩
instance : ElOf Tryz.prog 293 1 8 := elOf_mk (by kernel_rfl) (by decide)
instance : ZeroOf Tryz.prog 293 [(.pointer none)] := ⟨(.pointer none), fun _ => by kernel_rfl, by kernel_rfl⟩
instance : IsOne Tryz.prog 294 := ⟨fun _ => by kernel_rfl, fun _ => by kernel_rfl⟩
instance : ElOf Tryz.prog 294 1 8 := elOf_mk (by kernel_rfl) (by decide)
instance : ZeroOf Tryz.prog 294 [.nilFunc] := ⟨.nilFunc, fun _ => by kernel_rfl, by kernel_rfl⟩
instance : IsOne Tryz.prog 295 := ⟨fun _ => by kernel_rfl, fun _ => by kernel_rfl⟩
instance : ElOf Tryz.prog 295 1 8 := elOf_mk (by kernel_rfl) (by decide)
instance : ZeroOf Tryz.prog 295 [.nilFunc] := ⟨.nilFunc, fun _ => by kernel_rfl, by kernel_rfl⟩
instance : IsOne Tryz.prog 296 := ⟨fun _ => by kernel_rfl, fun _ => by kernel_rfl⟩
instance : ElOf Tryz.prog 296 1 8 := elOf_mk (by kernel_rfl) (by decide)
instance : ZeroOf Tryz.prog 296 [.nilFunc] := ⟨.nilFunc, fun _ => by kernel_rfl, by kernel_rfl⟩
instance : IsOne Tryz.prog 297 := ⟨fun _ => by kernel_rfl, fun _ => by kernel_rfl⟩
instance : ElOf Tryz.prog 297 1 8 := elOf_mk (by kernel_rfl) (by decide)
instance : ZeroOf Tryz.prog 297 [.nilFunc] := ⟨.nilFunc, fun _ => by kernel_rfl, by kernel_rfl⟩
instance : IsOne Tryz.prog 298 := ⟨fun _ => by kernel_rfl, fun _ => by kernel_rfl⟩
instance : ElOf Tryz.prog 298 1 8 := elOf_mk (by kernel_rfl) (by decide)
instance : ZeroOf Tryz.prog 298 [.nilFunc] := ⟨.nilFunc, fun _ => by kernel_rfl, by kernel_rfl⟩
instance : IsOne Tryz.prog 299 := ⟨fun _ => by kernel_rfl, fun _ => by kernel_rfl⟩
instance : ElOf Tryz.prog 299 1 8 := elOf_mk (by kernel_rfl) (by decide)
instance : ZeroOf Tryz.prog 299 [.nilFunc] := ⟨.nilFunc, fun _ => by kernel_rfl, by kernel_rfl⟩
instance : IsOne Tryz.prog 300 := ⟨fun _ => by kernel_rfl, fun _ => by kernel_rfl⟩
instance : ElOf Tryz.prog 300 1 8 := elOf_mk (by kernel_rfl) (by decide)
instance : ZeroOf Tryz.prog 300 [.nilFunc] := ⟨.nilFunc, fun _ => by kernel_rfl, by kernel_rfl⟩
instance : IsOne Tryz.prog 301 := ⟨fun _ => by kernel_rfl, fun _ => by kernel_rfl⟩
instance : ElOf Tryz.prog 301 1 8 := elOf_mk (by kernel_rfl) (by decide)
instance : ZeroOf Tryz.prog 301 [.nilFunc] := ⟨.nilFunc, fun _ => by kernel_rfl, by kernel_rfl⟩
instance : IsOne Tryz.prog 302 := ⟨fun _ => by kernel_rfl, fun _ => by kernel_rfl⟩
instance : ElOf Tryz.prog 302 1 8 := elOf_mk (by kernel_rfl) (by decide)
instance : ZeroOf Tryz.prog 302 [.nilFunc] := ⟨.nilFunc, fun _ => by kernel_rfl, by kernel_rfl⟩
instance : IsOne Tryz.prog 304 := ⟨fun _ => by kernel_rfl, fun _ => by kernel_rfl⟩
instance : ElOf Tryz.prog 304 1 8 := elOf_mk (by kernel_rfl) (by decide)
instance : ZeroOf Tryz.prog 304 [.nilFunc] := ⟨.nilFunc, fun _ => by kernel_rfl, by kernel_rfl⟩
instance : IsAgg Tryz.prog 305 4 := ⟨fun _ => by kernel_rfl, fun _ => by kernel_rfl⟩
instance : FldAt Tryz.prog 305 0 0 := ⟨fun _ _ _ => by kernel_rfl⟩
instance : FldAt Tryz.prog 305 1 1 := ⟨fun _ _ _ => by kernel_rfl⟩
instance : FldAt Tryz.prog 305 2 2 := ⟨fun _ _ _ => by kernel_rfl⟩
instance : FldAt Tryz.prog 305 3 3 := ⟨fun _ _ _ => by kernel_rfl⟩
instance : ElOf Tryz.prog 305 4 40 := elOf_mk (by kernel_rfl) (by decide)
instance : ZeroOf Tryz.prog 305 [(.string ⟨#[]⟩), (.int .i64 0), (.int .i64 0), (.int .i64 0)] := ⟨(.agg #[(.string ⟨#[]⟩), (.int .i64 0), (.int .i64 0), (.int .i64 0)]), fun _ => by kernel_rfl, by kernel_rfl⟩
instance : PlacesOf Tryz.prog 305 [(0, 1), (1, 1), (2, 1), (3, 1)] [(.string ⟨#[]⟩), (.int .i64 0), (.int .i64 0), (.int .i64 0)] := placesOf_mk (Tryz.prog.fieldsOf 305) (.agg #[(.string ⟨#[]⟩), (.int .i64 0), (.int .i64 0), (.int .i64 0)]) (fun _ => by kernel_rfl) (by kernel_rfl) (by kernel_rfl) (fun _ => by kernel_rfl)
instance : IsAgg Tryz.prog 306 4 := ⟨fun _ => by kernel_rfl, fun _ => by kernel_rfl⟩
instance : FldAt Tryz.prog 306 0 0 := ⟨fun _ _ _ => by kernel_rfl⟩
instance : FldAt Tryz.prog 306 1 1 := ⟨fun _ _ _ => by kernel_rfl⟩
instance : FldAt Tryz.prog 306 2 2 := ⟨fun _ _ _ => by kernel_rfl⟩
instance : FldAt Tryz.prog 306 3 3 := ⟨fun _ _ _ => by kernel_rfl⟩
set_option maxRecDepth 100000 in
instance : FlatEq Tryz.prog 306 [.str, .int .i64, .int .i64, .int .i64] := ⟨by kernel_rfl, .cons (by kernel_rfl) (of_decide_eq_true (by kernel_rfl)) (fun _ => by kernel_rfl) (by kernel_rfl) (.cons (by kernel_rfl) (of_decide_eq_true (by kernel_rfl)) (fun _ => by kernel_rfl) (by kernel_rfl) (.cons (by kernel_rfl) (of_decide_eq_true (by kernel_rfl)) (fun _ => by kernel_rfl) (by kernel_rfl) (.cons (by kernel_rfl) (of_decide_eq_true (by kernel_rfl)) (fun _ => by kernel_rfl) (by kernel_rfl) (.nil)))), by kernel_rfl, by kernel_rfl⟩
instance : ElOf Tryz.prog 306 4 40 := elOf_mk (by kernel_rfl) (by decide)
instance : ZeroOf Tryz.prog 306 [(.string ⟨#[]⟩), (.int .i64 0), (.int .i64 0), (.int .i64 0)] := ⟨(.agg #[(.string ⟨#[]⟩), (.int .i64 0), (.int .i64 0), (.int .i64 0)]), fun _ => by kernel_rfl, by kernel_rfl⟩
instance : PlacesOf Tryz.prog 306 [(0, 1), (1, 1), (2, 1), (3, 1)] [(.string ⟨#[]⟩), (.int .i64 0), (.int .i64 0), (.int .i64 0)] := placesOf_mk (Tryz.prog.fieldsOf 306) (.agg #[(.string ⟨#[]⟩), (.int .i64 0), (.int .i64 0), (.int .i64 0)]) (fun _ => by kernel_rfl) (by kernel_rfl) (by kernel_rfl) (fun _ => by kernel_rfl)
instance : IsOne Tryz.prog 308 := ⟨fun _ => by kernel_rfl, fun _ => by kernel_rfl⟩
instance : ElOf Tryz.prog 308 1 8 := elOf_mk (by kernel_rfl) (by decide)
instance : ZeroOf Tryz.prog 308 [.nilFunc] := ⟨.nilFunc, fun _ => by kernel_rfl, by kernel_rfl⟩
instance : IsOne Tryz.prog 309 := ⟨fun _ => by kernel_rfl, fun _ => by kernel_rfl⟩
instance : ElOf Tryz.prog 309 1 8 := elOf_mk (by kernel_rfl) (by decide)
instance : ZeroOf Tryz.prog 309 [.nilFunc] := ⟨.nilFunc, fun _ => by kernel_rfl, by kernel_rfl⟩
instance : IsOne Tryz.prog 310 := ⟨fun _ => by kernel_rfl, fun _ => by kernel_rfl⟩
instance : ElOf Tryz.prog 310 1 8 := elOf_mk (by kernel_rfl) (by decide)
instance : ZeroOf Tryz.prog 310 [.nilFunc] := ⟨.nilFunc, fun _ => by kernel_rfl, by kernel_rfl⟩
instance : IsOne Tryz.prog 311 := ⟨fun _ => by kernel_rfl, fun _ => by kernel_rfl⟩
instance : ElOf Tryz.prog 311 1 8 := elOf_mk (by kernel_rfl) (by decide)
instance : ZeroOf Tryz.prog 311 [.nilFunc] := ⟨.nilFunc, fun _ => by kernel_rfl, by kernel_rfl⟩
instance : IsOne Tryz.prog 312 := ⟨fun _ => by kernel_rfl, fun _ => by kernel_rfl⟩
instance : ElOf Tryz.prog 312 1 8 := elOf_mk (by kernel_rfl) (by decide)
instance : ZeroOf Tryz.prog 312 [.nilFunc] := ⟨.nilFunc, fun _ => by kernel_rfl, by kernel_rfl⟩
instance : IsOne Tryz.prog 313 := ⟨fun _ => by kernel_rfl, fun _ => by kernel_rfl⟩
instance : NotInt Tryz.prog 313 := ⟨.inr ⟨21, by kernel_rfl⟩⟩
instance : SlOf Tryz.prog 313 21 1 := ⟨by kernel_rfl, fun _ => by kernel_rfl⟩
instance : ElOf Tryz.prog 313 1 24 := elOf_mk (by kernel_rfl) (by decide)
instance : ZeroOf Tryz.prog 313 [(.slice none 0 0)] := ⟨(.slice none 0 0), fun _ => by kernel_rfl, by kernel_rfl⟩
instance : IsOne Tryz.prog 314 := ⟨fun _ => by kernel_rfl, fun _ => by kernel_rfl⟩
instance : ElOf Tryz.prog 314 1 8 := elOf_mk (by kernel_rfl) (by decide)
instance : ZeroOf Tryz.prog 314 [.nilFunc] := ⟨.nilFunc, fun _ => by kernel_rfl, by kernel_rfl⟩
instance : IsOne Tryz.prog 315 := ⟨fun _ => by kernel_rfl, fun _ => by kernel_rfl⟩
instance : ElOf Tryz.prog 315 1 8 := elOf_mk (by kernel_rfl) (by decide)
instance : ZeroOf Tryz.prog 315 [.nilFunc] := ⟨.nilFunc, fun _ => by kernel_rfl, by kernel_rfl⟩
instance : IsOne Tryz.prog 316 := ⟨fun _ => by kernel_rfl, fun _ => by kernel_rfl⟩
instance : ElOf Tryz.prog 316 1 8 := elOf_mk (by kernel_rfl) (by decide)
instance : ZeroOf Tryz.prog 316 [.nilFunc] := ⟨.nilFunc, fun _ => by kernel_rfl, by kernel_rfl⟩
instance : IsOne Tryz.prog 317 := ⟨fun _ => by kernel_rfl, fun _ => by kernel_rfl⟩
instance : ElOf Tryz.prog 317 1 8 := elOf_mk (by kernel_rfl) (by decide)
instance : ZeroOf Tryz.prog 317 [.nilFunc] := ⟨.nilFunc, fun _ => by kernel_rfl, by kernel_rfl⟩
instance : IsOne Tryz.prog 319 := ⟨fun _ => by kernel_rfl, fun _ => by kernel_rfl⟩
instance : ElOf Tryz.prog 319 1 8 := elOf_mk (by kernel_rfl) (by decide)
instance : ZeroOf Tryz.prog 319 [.nilFunc] := ⟨.nilFunc, fun _ => by kernel_rfl, by kernel_rfl⟩
instance : IsOne Tryz.prog 320 := ⟨fun _ => by kernel_rfl, fun _ => by kernel_rfl⟩
instance : ElOf Tryz.prog 320 1 8 := elOf_mk (by kernel_rfl) (by decide)
instance : ZeroOf Tryz.prog 320 [.nilFunc] := ⟨.nilFunc, fun _ => by kernel_rfl, by kernel_rfl⟩
instance : IsOne Tryz.prog 321 := ⟨fun _ => by kernel_rfl, fun _ => by kernel_rfl⟩
instance : ElOf Tryz.prog 321 1 8 := elOf_mk (by kernel_rfl) (by decide)
instance : ZeroOf Tryz.prog 321 [.nilFunc] := ⟨.nilFunc, fun _ => by kernel_rfl, by kernel_rfl⟩
instance : IsOne Tryz.prog 322 := ⟨fun _ => by kernel_rfl, fun _ => by kernel_rfl⟩
instance : ElOf Tryz.prog 322 1 8 := elOf_mk (by kernel_rfl) (by decide)
instance : ZeroOf Tryz.prog 322 [.nilFunc] := ⟨.nilFunc, fun _ => by kernel_rfl, by kernel_rfl⟩
instance : IsOne Tryz.prog 323 := ⟨fun _ => by kernel_rfl, fun _ => by kernel_rfl⟩
instance : ElOf Tryz.prog 323 1 8 := elOf_mk (by kernel_rfl) (by decide)
instance : ZeroOf Tryz.prog 323 [.nilFunc] := ⟨.nilFunc, fun _ => by kernel_rfl, by kernel_rfl⟩
instance : IsAgg Tryz.prog 324 3 := ⟨fun _ => by kernel_rfl, fun _ => by kernel_rfl⟩
instance : FldAt Tryz.prog 324 0 0 := ⟨fun _ _ _ => by kernel_rfl⟩
instance : FldAt Tryz.prog 324 1 1 := ⟨fun _ _ _ => by kernel_rfl⟩
instance : FldAt Tryz.prog 324 2 2 := ⟨fun _ _ _ => by kernel_rfl⟩
instance : ElOf Tryz.prog 324 3 24 := elOf_mk (by kernel_rfl) (by decide)
instance : ZeroOf Tryz.prog 324 [(.int .i32 0), (.int .i64 0), (.int .i64 0)] := ⟨(.agg #[(.int .i32 0), (.int .i64 0), (.int .i64 0)]), fun _ => by kernel_rfl, by kernel_rfl⟩
instance : PlacesOf Tryz.prog 324 [(0, 1), (1, 1), (2, 1)] [(.int .i32 0), (.int .i64 0), (.int .i64 0)] := placesOf_mk (Tryz.prog.fieldsOf 324) (.agg #[(.int .i32 0), (.int .i64 0), (.int .i64 0)]) (fun _ => by kernel_rfl) (by kernel_rfl) (by kernel_rfl) (fun _ => by kernel_rfl)
instance : IsAgg Tryz.prog 325 3 := ⟨fun _ => by kernel_rfl, fun _ => by kernel_rfl⟩
instance : FldAt Tryz.prog 325 0 0 := ⟨fun _ _ _ => by kernel_rfl⟩
instance : FldAt Tryz.prog 325 1 1 := ⟨fun _ _ _ => by kernel_rfl⟩
instance : FldAt Tryz.prog 325 2 2 := ⟨fun _ _ _ => by kernel_rfl⟩
set_option maxRecDepth 100000 in
instance : FlatEq Tryz.prog 325 [.int .i32, .int .i64, .int .i64] := ⟨by kernel_rfl, .cons (by kernel_rfl) (of_decide_eq_true (by kernel_rfl)) (fun _ => by kernel_rfl) (by kernel_rfl) (.cons (by kernel_rfl) (of_decide_eq_true (by kernel_rfl)) (fun _ => by kernel_rfl) (by kernel_rfl) (.cons (by kernel_rfl) (of_decide_eq_true (by kernel_rfl)) (fun _ => by kernel_rfl) (by kernel_rfl) (.nil))), by kernel_rfl, by kernel_rfl⟩
instance : ElOf Tryz.prog 325 3 24 := elOf_mk (by kernel_rfl) (by decide)
instance : ZeroOf Tryz.prog 325 [(.int .i32 0), (.int .i64 0), (.int .i64 0)] := ⟨(.agg #[(.int .i32 0), (.int .i64 0), (.int .i64 0)]), fun _ => by kernel_rfl, by kernel_rfl⟩
instance : PlacesOf Tryz.prog 325 [(0, 1), (1, 1), (2, 1)] [(.int .i32 0), (.int .i64 0), (.int .i64 0)] := placesOf_mk (Tryz.prog.fieldsOf 325) (.agg #[(.int .i32 0), (.int .i64 0), (.int .i64 0)]) (fun _ => by kernel_rfl) (by kernel_rfl) (by kernel_rfl) (fun _ => by kernel_rfl)
instance : IsOne Tryz.prog 326 := ⟨fun _ => by kernel_rfl, fun _ => by kernel_rfl⟩
instance : NotInt Tryz.prog 326 := ⟨.inr ⟨329, by kernel_rfl⟩⟩
instance : SlOf Tryz.prog 326 329 4 := ⟨by kernel_rfl, fun _ => by kernel_rfl⟩
instance : ElOf Tryz.prog 326 1 24 := elOf_mk (by kernel_rfl) (by decide)
instance : ZeroOf Tryz.prog 326 [(.slice none 0 0)] := ⟨(.slice none 0 0), fun _ => by kernel_rfl, by kernel_rfl⟩
instance : IsOne Tryz.prog 327 := ⟨fun _ => by kernel_rfl, fun _ => by kernel_rfl⟩
instance : ElOf Tryz.prog 327 1 8 := elOf_mk (by kernel_rfl) (by decide)
instance : ZeroOf Tryz.prog 327 [.nilFunc] := ⟨.nilFunc, fun _ => by kernel_rfl, by kernel_rfl⟩
instance : IsAgg Tryz.prog 328 4 := ⟨fun _ => by kernel_rfl, fun _ => by kernel_rfl⟩
instance : FldAt Tryz.prog 328 0 0 := ⟨fun _ _ _ => by kernel_rfl⟩
instance : FldAt Tryz.prog 328 1 1 := ⟨fun _ _ _ => by kernel_rfl⟩
instance : FldAt Tryz.prog 328 2 2 := ⟨fun _ _ _ => by kernel_rfl⟩
instance : FldAt Tryz.prog 328 3 3 := ⟨fun _ _ _ => by kernel_rfl⟩
instance : ElOf Tryz.prog 328 4 32 := elOf_mk (by kernel_rfl) (by decide)
instance : ZeroOf Tryz.prog 328 [(.int .i32 0), (.int .i64 0), (.int .i64 0), (.bool false)] := ⟨(.agg #[(.int .i32 0), (.int .i64 0), (.int .i64 0), (.bool false)]), fun _ => by kernel_rfl, by kernel_rfl⟩
instance : PlacesOf Tryz.prog 328 [(0, 1), (1, 1), (2, 1), (3, 1)] [(.int .i32 0), (.int .i64 0), (.int .i64 0), (.bool false)] := placesOf_mk (Tryz.prog.fieldsOf 328) (.agg #[(.int .i32 0), (.int .i64 0), (.int .i64 0), (.bool false)]) (fun _ => by kernel_rfl) (by kernel_rfl) (by kernel_rfl) (fun _ => by kernel_rfl)
instance : IsAgg Tryz.prog 329 4 := ⟨fun _ => by kernel_rfl, fun _ => by kernel_rfl⟩
instance : FldAt Tryz.prog 329 0 0 := ⟨fun _ _ _ => by kernel_rfl⟩
instance : FldAt Tryz.prog 329 1 1 := ⟨fun _ _ _ => by kernel_rfl⟩
instance : FldAt Tryz.prog 329 2 2 := ⟨fun _ _ _ => by kernel_rfl⟩
instance : FldAt Tryz.prog 329 3 3 := ⟨fun _ _ _ => by kernel_rfl⟩
set_option maxRecDepth 100000 in
instance : FlatEq Tryz.prog 329 [.int .i32, .int .i64, .int .i64, .bool] := ⟨by kernel_rfl, .cons (by kernel_rfl) (of_decide_eq_true (by kernel_rfl)) (fun _ => by kernel_rfl) (by kernel_rfl) (.cons (by kernel_rfl) (of_decide_eq_true (by kernel_rfl)) (fun _ => by kernel_rfl) (by kernel_rfl) (.cons (by kernel_rfl) (of_decide_eq_true (by kernel_rfl)) (fun _ => by kernel_rfl) (by kernel_rfl) (.cons (by kernel_rfl) (of_decide_eq_true (by kernel_rfl)) (fun _ => by kernel_rfl) (by kernel_rfl) (.nil)))), by kernel_rfl, by kernel_rfl⟩
instance : ElOf Tryz.prog 329 4 32 := elOf_mk (by kernel_rfl) (by decide)
instance : ZeroOf Tryz.prog 329 [(.int .i32 0), (.int .i64 0), (.int .i64 0), (.bool false)] := ⟨(.agg #[(.int .i32 0), (.int .i64 0), (.int .i64 0), (.bool false)]), fun _ => by kernel_rfl, by kernel_rfl⟩
instance : PlacesOf Tryz.prog 329 [(0, 1), (1, 1), (2, 1), (3, 1)] [(.int .i32 0), (.int .i64 0), (.int .i64 0), (.bool false)] := placesOf_mk (Tryz.prog.fieldsOf 329) (.agg #[(.int .i32 0), (.int .i64 0), (.int .i64 0), (.bool false)]) (fun _ => by kernel_rfl) (by kernel_rfl) (by kernel_rfl) (fun _ => by kernel_rfl)
instance : IsOne Tryz.prog 330 := ⟨fun _ => by kernel_rfl, fun _ => by kernel_rfl⟩
instance : ElOf Tryz.prog 330 1 8 := elOf_mk (by kernel_rfl) (by decide)
instance : ZeroOf Tryz.prog 330 [.nilFunc] := ⟨.nilFunc, fun _ => by kernel_rfl, by kernel_rfl⟩
instance : IsOne Tryz.prog 331 := ⟨fun _ => by kernel_rfl, fun _ => by kernel_rfl⟩
instance : ElOf Tryz.prog 331 1 8 := elOf_mk (by kernel_rfl) (by decide)
instance : ZeroOf Tryz.prog 331 [.nilFunc] := ⟨.nilFunc, fun _ => by kernel_rfl, by kernel_rfl⟩
instance : IsOne Tryz.prog 332 := ⟨fun _ => by kernel_rfl, fun _ => by kernel_rfl⟩
instance : ElOf Tryz.prog 332 1 8 := elOf_mk (by kernel_rfl) (by decide)
instance : ZeroOf Tryz.prog 332 [.nilFunc] := ⟨.nilFunc, fun _ => by kernel_rfl, by kernel_rfl⟩
instance : IsOne Tryz.prog 333 := ⟨fun _ => by kernel_rfl, fun _ => by kernel_rfl⟩
instance : ElOf Tryz.prog 333 1 8 := elOf_mk (by kernel_rfl) (by decide)
instance : ZeroOf Tryz.prog 333 [(.pointer none)] := ⟨(.pointer none), fun _ => by kernel_rfl, by kernel_rfl⟩
instance : IsOne Tryz.prog 334 := ⟨fun _ => by kernel_rfl, fun _ => by kernel_rfl⟩
instance : ElOf Tryz.prog 334 1 8 := elOf_mk (by kernel_rfl) (by decide)
instance : ZeroOf Tryz.prog 334 [.nilFunc] := ⟨.nilFunc, fun _ => by kernel_rfl, by kernel_rfl⟩
instance : IsOne Tryz.prog 335 := ⟨fun _ => by kernel_rfl, fun _ => by kernel_rfl⟩
instance : ElOf Tryz.prog 335 1 8 := elOf_mk (by kernel_rfl) (by decide)
instance : ZeroOf Tryz.prog 335 [.nilFunc] := ⟨.nilFunc, fun _ => by kernel_rfl, by kernel_rfl⟩
instance : IsOne Tryz.prog 336 := ⟨fun _ => by kernel_rfl, fun _ => by kernel_rfl⟩
instance : ElOf Tryz.prog 336 1 8 := elOf_mk (by kernel_rfl) (by decide)
instance : ZeroOf Tryz.prog 336 [.nilFunc] := ⟨.nilFunc, fun _ => by kernel_rfl, by kernel_rfl⟩
instance : IsOne Tryz.prog 337 := ⟨fun _ => by kernel_rfl, fun _ => by kernel_rfl⟩
instance : ElOf Tryz.prog 337 1 8 := elOf_mk (by kernel_rfl) (by decide)
instance : ZeroOf Tryz.prog 337 [.nilFunc] := ⟨.nilFunc, fun _ => by kernel_rfl, by kernel_rfl⟩
instance : IsOne Tryz.prog 338 := ⟨fun _ => by kernel_rfl, fun _ => by kernel_rfl⟩
instance : ElOf Tryz.prog 338 1 8 := elOf_mk (by kernel_rfl) (by decide)
instance : ZeroOf Tryz.prog 338 [(.pointer none)] := ⟨(.pointer none), fun _ => by kernel_rfl, by kernel_rfl⟩
instance : IsOne Tryz.prog 339 := ⟨fun _ => by kernel_rfl, fun _ => by kernel_rfl⟩
instance : ElOf Tryz.prog 339 1 8 := elOf_mk (by kernel_rfl) (by decide)
instance : ZeroOf Tryz.prog 339 [.nilFunc] := ⟨.nilFunc, fun _ => by kernel_rfl, by kernel_rfl⟩
instance : IsOne Tryz.prog 340 := ⟨fun _ => by kernel_rfl, fun _ => by kernel_rfl⟩
instance : ElOf Tryz.prog 340 1 8 := elOf_mk (by kernel_rfl) (by decide)
instance : ZeroOf Tryz.prog 340 [.nilFunc] := ⟨.nilFunc, fun _ => by kernel_rfl, by kernel_rfl⟩
instance : IsOne Tryz.prog 341 := ⟨fun _ => by kernel_rfl, fun _ => by kernel_rfl⟩
instance : NotInt Tryz.prog 341 := ⟨.inr ⟨274, by kernel_rfl⟩⟩
instance : SlOf Tryz.prog 341 274 1 := ⟨by kernel_rfl, fun _ => by kernel_rfl⟩
instance : ElOf Tryz.prog 341 1 24 := elOf_mk (by kernel_rfl) (by decide)
instance : ZeroOf Tryz.prog 341 [(.slice none 0 0)] := ⟨(.slice none 0 0), fun _ => by kernel_rfl, by kernel_rfl⟩
instance : IsOne Tryz.prog 342 := ⟨fun _ => by kernel_rfl, fun _ => by kernel_rfl⟩
instance : NotInt Tryz.prog 342 := ⟨.inr ⟨173, by kernel_rfl⟩⟩
instance : SlOf Tryz.prog 342 173 1 := ⟨by kernel_rfl, fun _ => by kernel_rfl⟩
instance : ElOf Tryz.prog 342 1 24 := elOf_mk (by kernel_rfl) (by decide)
instance : ZeroOf Tryz.prog 342 [(.slice none 0 0)] := ⟨(.slice none 0 0), fun _ => by kernel_rfl, by kernel_rfl⟩
instance : IsAgg Tryz.prog 343 5 := ⟨fun _ => by kernel_rfl, fun _ => by kernel_rfl⟩
instance : FldAt Tryz.prog 343 0 0 := ⟨fun _ _ _ => by kernel_rfl⟩
instance : FldAt Tryz.prog 343 1 1 := ⟨fun _ _ _ => by kernel_rfl⟩
instance : FldAt Tryz.prog 343 2 2 := ⟨fun _ _ _ => by kernel_rfl⟩
instance : FldAt Tryz.prog 343 3 3 := ⟨fun _ _ _ => by kernel_rfl⟩
instance : FldAt Tryz.prog 343 4 4 := ⟨fun _ _ _ => by kernel_rfl⟩
instance : ElOf Tryz.prog 343 5 72 := elOf_mk (by kernel_rfl) (by decide)
instance : ZeroOf Tryz.prog 343 [(.slice none 0 0), (.int .u64 0), (.int .u64 0), (.slice none 0 0), (.bool false)] := ⟨(.agg #[(.slice none 0 0), (.int .u64 0), (.int .u64 0), (.slice none 0 0), (.bool false)]), fun _ => by kernel_rfl, by kernel_rfl⟩
instance : PlacesOf Tryz.prog 343 [(0, 1), (1, 1), (2, 1), (3, 1), (4, 1)] [(.slice none 0 0), (.int .u64 0), (.int .u64 0), (.slice none 0 0), (.bool false)] := placesOf_mk (Tryz.prog.fieldsOf 343) (.agg #[(.slice none 0 0), (.int .u64 0), (.int .u64 0), (.slice none 0 0), (.bool false)]) (fun _ => by kernel_rfl) (by kernel_rfl) (by kernel_rfl) (fun _ => by kernel_rfl)
instance : IsAgg Tryz.prog 344 5 := ⟨fun _ => by kernel_rfl, fun _ => by kernel_rfl⟩
instance : FldAt Tryz.prog 344 0 0 := ⟨fun _ _ _ => by kernel_rfl⟩
instance : FldAt Tryz.prog 344 1 1 := ⟨fun _ _ _ => by kernel_rfl⟩
instance : FldAt Tryz.prog 344 2 2 := ⟨fun _ _ _ => by kernel_rfl⟩
instance : FldAt Tryz.prog 344 3 3 := ⟨fun _ _ _ => by kernel_rfl⟩
instance : FldAt Tryz.prog 344 4 4 := ⟨fun _ _ _ => by kernel_rfl⟩
instance : ElOf Tryz.prog 344 5 72 := elOf_mk (by kernel_rfl) (by decide)
instance : ZeroOf Tryz.prog 344 [(.slice none 0 0), (.int .u64 0), (.int .u64 0), (.slice none 0 0), (.bool false)] := ⟨(.agg #[(.slice none 0 0), (.int .u64 0), (.int .u64 0), (.slice none 0 0), (.bool false)]), fun _ => by kernel_rfl, by kernel_rfl⟩
instance : PlacesOf Tryz.prog 344 [(0, 1), (1, 1), (2, 1), (3, 1), (4, 1)] [(.slice none 0 0), (.int .u64 0), (.int .u64 0), (.slice none 0 0), (.bool false)] := placesOf_mk (Tryz.prog.fieldsOf 344) (.agg #[(.slice none 0 0), (.int .u64 0), (.int .u64 0), (.slice none 0 0), (.bool false)]) (fun _ => by kernel_rfl) (by kernel_rfl) (by kernel_rfl) (fun _ => by kernel_rfl)
instance : IsOne Tryz.prog 345 := ⟨fun _ => by kernel_rfl, fun _ => by kernel_rfl⟩
instance : ElOf Tryz.prog 345 1 8 := elOf_mk (by kernel_rfl) (by decide)
instance : ZeroOf Tryz.prog 345 [.nilFunc] := ⟨.nilFunc, fun _ => by kernel_rfl, by kernel_rfl⟩
instance : IsOne Tryz.prog 346 := ⟨fun _ => by kernel_rfl, fun _ => by kernel_rfl⟩
instance : ElOf Tryz.prog 346 1 8 := elOf_mk (by kernel_rfl) (by decide)
instance : ZeroOf Tryz.prog 346 [.nilFunc] := ⟨.nilFunc, fun _ => by kernel_rfl, by kernel_rfl⟩
instance : IsOne Tryz.prog 347 := ⟨fun _ => by kernel_rfl, fun _ => by kernel_rfl⟩
instance : ElOf Tryz.prog 347 1 8 := elOf_mk (by kernel_rfl) (by decide)
instance : ZeroOf Tryz.prog 347 [.nilFunc] := ⟨.nilFunc, fun _ => by kernel_rfl, by kernel_rfl⟩
instance : IsOne Tryz.prog 348 := ⟨fun _ => by kernel_rfl, fun _ => by kernel_rfl⟩
instance : ElOf Tryz.prog 348 1 8 := elOf_mk (by kernel_rfl) (by decide)
instance : ZeroOf Tryz.prog 348 [.nilFunc] := ⟨.nilFunc, fun _ => by kernel_rfl, by kernel_rfl⟩
instance : IsOne Tryz.prog 349 := ⟨fun _ => by kernel_rfl, fun _ => by kernel_rfl⟩
instance : ElOf Tryz.prog 349 1 8 := elOf_mk (by kernel_rfl) (by decide)
instance : ZeroOf Tryz.prog 349 [.nilFunc] := ⟨.nilFunc, fun _ => by kernel_rfl, by kernel_rfl⟩
instance : IsOne Tryz.prog 350 := ⟨fun _ => by kernel_rfl, fun _ => by kernel_rfl⟩
instance : ElOf Tryz.prog 350 1 8 := elOf_mk (by kernel_rfl) (by decide)
instance : ZeroOf Tryz.prog 350 [.nilFunc] := ⟨.nilFunc, fun _ => by kernel_rfl, by kernel_rfl⟩
instance : IsOne Tryz.prog 351 := ⟨fun _ => by kernel_rfl, fun _ => by kernel_rfl⟩
instance : ElOf Tryz.prog 351 1 8 := elOf_mk (by kernel_rfl) (by decide)
instance : ZeroOf Tryz.prog 351 [.nilFunc] := ⟨.nilFunc, fun _ => by kernel_rfl, by kernel_rfl⟩
instance : IsAgg Tryz.prog 352 3 := ⟨fun _ => by kernel_rfl, fun _ => by kernel_rfl⟩
instance : FldAt Tryz.prog 352 0 0 := ⟨fun _ _ _ => by kernel_rfl⟩
instance : FldAt Tryz.prog 352 1 1 := ⟨fun _ _ _ => by kernel_rfl⟩
instance : FldAt Tryz.prog 352 2 2 := ⟨fun _ _ _ => by kernel_rfl⟩
instance : ElOf Tryz.prog 352 3 24 := elOf_mk (by kernel_rfl) (by decide)
instance : ZeroOf Tryz.prog 352 [(.int .u64 0), (.int .u64 0), (.bool false)] := ⟨(.agg #[(.int .u64 0), (.int .u64 0), (.bool false)]), fun _ => by kernel_rfl, by kernel_rfl⟩
instance : PlacesOf Tryz.prog 352 [(0, 1), (1, 1), (2, 1)] [(.int .u64 0), (.int .u64 0), (.bool false)] := placesOf_mk (Tryz.prog.fieldsOf 352) (.agg #[(.int .u64 0), (.int .u64 0), (.bool false)]) (fun _ => by kernel_rfl) (by kernel_rfl) (by kernel_rfl) (fun _ => by kernel_rfl)
instance : IsAgg Tryz.prog 353 3 := ⟨fun _ => by kernel_rfl, fun _ => by kernel_rfl⟩
instance : FldAt Tryz.prog 353 0 0 := ⟨fun _ _ _ => by kernel_rfl⟩
instance : FldAt Tryz.prog 353 1 1 := ⟨fun _ _ _ => by kernel_rfl⟩
instance : FldAt Tryz.prog 353 2 2 := ⟨fun _ _ _ => by kernel_rfl⟩
set_option maxRecDepth 100000 in
instance : FlatEq Tryz.prog 353 [.int .u64, .int .u64, .bool] := ⟨by kernel_rfl, .cons (by kernel_rfl) (of_decide_eq_true (by kernel_rfl)) (fun _ => by kernel_rfl) (by kernel_rfl) (.cons (by kernel_rfl) (of_decide_eq_true (by kernel_rfl)) (fun _ => by kernel_rfl) (by kernel_rfl) (.cons (by kernel_rfl) (of_decide_eq_true (by kernel_rfl)) (fun _ => by kernel_rfl) (by kernel_rfl) (.nil))), by kernel_rfl, by kernel_rfl⟩
instance : ElOf Tryz.prog 353 3 24 := elOf_mk (by kernel_rfl) (by decide)
instance : ZeroOf Tryz.prog 353 [(.int .u64 0), (.int .u64 0), (.bool false)] := ⟨(.agg #[(.int .u64 0), (.int .u64 0), (.bool false)]), fun _ => by kernel_rfl, by kernel_rfl⟩
instance : PlacesOf Tryz.prog 353 [(0, 1), (1, 1), (2, 1)] [(.int .u64 0), (.int .u64 0), (.bool false)] := placesOf_mk (Tryz.prog.fieldsOf 353) (.agg #[(.int .u64 0), (.int .u64 0), (.bool false)]) (fun _ => by kernel_rfl) (by kernel_rfl) (by kernel_rfl) (fun _ => by kernel_rfl)
instance : IsOne Tryz.prog 354 := ⟨fun _ => by kernel_rfl, fun _ => by kernel_rfl⟩
instance : ElOf Tryz.prog 354 1 8 := elOf_mk (by kernel_rfl) (by decide)
instance : ZeroOf Tryz.prog 354 [.nilFunc] := ⟨.nilFunc, fun _ => by kernel_rfl, by kernel_rfl⟩
instance : IsAgg Tryz.prog 355 2 := ⟨fun _ => by kernel_rfl, fun _ => by kernel_rfl⟩
instance : FldAt Tryz.prog 355 0 0 := ⟨fun _ _ _ => by kernel_rfl⟩
instance : FldAt Tryz.prog 355 1 1 := ⟨fun _ _ _ => by kernel_rfl⟩
instance : ElOf Tryz.prog 355 2 8 := elOf_mk (by kernel_rfl) (by decide)
instance : ZeroOf Tryz.prog 355 [(.int .i32 0), (.int .i32 0)] := ⟨(.agg #[(.int .i32 0), (.int .i32 0)]), fun _ => by kernel_rfl, by kernel_rfl⟩
instance : PlacesOf Tryz.prog 355 [(0, 1), (1, 1)] [(.int .i32 0), (.int .i32 0)] := placesOf_mk (Tryz.prog.fieldsOf 355) (.agg #[(.int .i32 0), (.int .i32 0)]) (fun _ => by kernel_rfl) (by kernel_rfl) (by kernel_rfl) (fun _ => by kernel_rfl)
instance : IsAgg Tryz.prog 356 2 := ⟨fun _ => by kernel_rfl, fun _ => by kernel_rfl⟩
instance : FldAt Tryz.prog 356 0 0 := ⟨fun _ _ _ => by kernel_rfl⟩
instance : FldAt Tryz.prog 356 1 1 := ⟨fun _ _ _ => by kernel_rfl⟩
set_option maxRecDepth 100000 in
instance : FlatEq Tryz.prog 356 [.int .i32, .int .i32] := ⟨by kernel_rfl, .cons (by kernel_rfl) (of_decide_eq_true (by kernel_rfl)) (fun _ => by kernel_rfl) (by kernel_rfl) (.cons (by kernel_rfl) (of_decide_eq_true (by kernel_rfl)) (fun _ => by kernel_rfl) (by kernel_rfl) (.nil)), by kernel_rfl, by kernel_rfl⟩
instance : ElOf Tryz.prog 356 2 8 := elOf_mk (by kernel_rfl) (by decide)
instance : ZeroOf Tryz.prog 356 [(.int .i32 0), (.int .i32 0)] := ⟨(.agg #[(.int .i32 0), (.int .i32 0)]), fun _ => by kernel_rfl, by kernel_rfl⟩
instance : PlacesOf Tryz.prog 356 [(0, 1), (1, 1)] [(.int .i32 0), (.int .i32 0)] := placesOf_mk (Tryz.prog.fieldsOf 356) (.agg #[(.int .i32 0), (.int .i32 0)]) (fun _ => by kernel_rfl) (by kernel_rfl) (by kernel_rfl) (fun _ => by kernel_rfl)
instance : IsOne Tryz.prog 357 := ⟨fun _ => by kernel_rfl, fun _ => by kernel_rfl⟩
instance : ElOf Tryz.prog 357 1 8 := elOf_mk (by kernel_rfl) (by decide)
instance : ZeroOf Tryz.prog 357 [.nilFunc] := ⟨.nilFunc, fun _ => by kernel_rfl, by kernel_rfl⟩
instance : IsOne Tryz.prog 358 := ⟨fun _ => by kernel_rfl, fun _ => by kernel_rfl⟩
instance : ElOf Tryz.prog 358 1 8 := elOf_mk (by kernel_rfl) (by decide)
instance : ZeroOf Tryz.prog 358 [.nilFunc] := ⟨.nilFunc, fun _ => by kernel_rfl, by kernel_rfl⟩
instance : IsOne Tryz.prog 360 := ⟨fun _ => by kernel_rfl, fun _ => by kernel_rfl⟩
instance : ElOf Tryz.prog 360 1 8 := elOf_mk (by kernel_rfl) (by decide)
instance : ZeroOf Tryz.prog 360 [.nilFunc] := ⟨.nilFunc, fun _ => by kernel_rfl, by kernel_rfl⟩
instance : IsOne Tryz.prog 361 := ⟨fun _ => by kernel_rfl, fun _ => by kernel_rfl⟩
instance : ElOf Tryz.prog 361 1 8 := elOf_mk (by kernel_rfl) (by decide)
instance : ZeroOf Tryz.prog 361 [.nilFunc] := ⟨.nilFunc, fun _ => by kernel_rfl, by kernel_rfl⟩
instance : IsOne Tryz.prog 362 := ⟨fun _ => by kernel_rfl, fun _ => by kernel_rfl⟩
instance : ElOf Tryz.prog 362 1 8 := elOf_mk (by kernel_rfl) (by decide)
instance : ZeroOf Tryz.prog 362 [.nilFunc] := ⟨.nilFunc, fun _ => by kernel_rfl, by kernel_rfl⟩
instance : IsAgg Tryz.prog 363 256 := ⟨fun _ => by kernel_rfl, fun _ => by kernel_rfl⟩
instance : IsAgg Tryz.prog 364 2 := ⟨fun _ => by kernel_rfl, fun _ => by kernel_rfl⟩
instance : FldAt Tryz.prog 364 0 0 := ⟨fun _ _ _ => by kernel_rfl⟩
instance : FldAt Tryz.prog 364 1 1 := ⟨fun _ _ _ => by kernel_rfl⟩
instance : ElOf Tryz.prog 364 2 2 := elOf_mk (by kernel_rfl) (by decide)
instance : ZeroOf Tryz.prog 364 [(.int .u8 0), (.int .u8 0)] := ⟨(.agg #[(.int .u8 0), (.int .u8 0)]), fun _ => by kernel_rfl, by kernel_rfl⟩
instance : PlacesOf Tryz.prog 364 [(0, 1), (1, 1)] [(.int .u8 0), (.int .u8 0)] := placesOf_mk (Tryz.prog.fieldsOf 364) (.agg #[(.int .u8 0), (.int .u8 0)]) (fun _ => by kernel_rfl) (by kernel_rfl) (by kernel_rfl) (fun _ => by kernel_rfl)
instance : IsAgg Tryz.prog 365 2 := ⟨fun _ => by kernel_rfl, fun _ => by kernel_rfl⟩
instance : FldAt Tryz.prog 365 0 0 := ⟨fun _ _ _ => by kernel_rfl⟩
instance : FldAt Tryz.prog 365 1 1 := ⟨fun _ _ _ => by kernel_rfl⟩
instance : ElOf Tryz.prog 365 2 2 := elOf_mk (by kernel_rfl) (by decide)
instance : ZeroOf Tryz.prog 365 [(.int .u8 0), (.int .u8 0)] := ⟨(.agg #[(.int .u8 0), (.int .u8 0)]), fun _ => by kernel_rfl, by kernel_rfl⟩
instance : PlacesOf Tryz.prog 365 [(0, 1), (1, 1)] [(.int .u8 0), (.int .u8 0)] := placesOf_mk (Tryz.prog.fieldsOf 365) (.agg #[(.int .u8 0), (.int .u8 0)]) (fun _ => by kernel_rfl) (by kernel_rfl) (by kernel_rfl) (fun _ => by kernel_rfl)
instance : IsAgg Tryz.prog 366 32 := ⟨fun _ => by kernel_rfl, fun _ => by kernel_rfl⟩
instance : ElOf Tryz.prog 366 32 32 := elOf_mk (by kernel_rfl) (by decide)
instance : ZeroOf Tryz.prog 366 [(.int .u8 0), (.int .u8 0), (.int .u8 0), (.int .u8 0), (.int .u8 0), (.int .u8 0), (.int .u8 0), (.int .u8 0), (.int .u8 0), (.int .u8 0), (.int .u8 0), (.int .u8 0), (.int .u8 0), (.int .u8 0), (.int .u8 0), (.int .u8 0), (.int .u8 0), (.int .u8 0), (.int .u8 0), (.int .u8 0), (.int .u8 0), (.int .u8 0), (.int .u8 0), (.int .u8 0), (.int .u8 0), (.int .u8 0), (.int .u8 0), (.int .u8 0), (.int .u8 0), (.int .u8 0), (.int .u8 0), (.int .u8 0)] := ⟨(.agg #[(.int .u8 0), (.int .u8 0), (.int .u8 0), (.int .u8 0), (.int .u8 0), (.int .u8 0), (.int .u8 0), (.int .u8 0), (.int .u8 0), (.int .u8 0), (.int .u8 0), (.int .u8 0), (.int .u8 0), (.int .u8 0), (.int .u8 0), (.int .u8 0), (.int .u8 0), (.int .u8 0), (.int .u8 0), (.int .u8 0), (.int .u8 0), (.int .u8 0), (.int .u8 0), (.int .u8 0), (.int .u8 0), (.int .u8 0), (.int .u8 0), (.int .u8 0), (.int .u8 0), (.int .u8 0), (.int .u8 0), (.int .u8 0)]), fun _ => by kernel_rfl, by kernel_rfl⟩
instance : IsOne Tryz.prog 367 := ⟨fun _ => by kernel_rfl, fun _ => by kernel_rfl⟩
instance : ElOf Tryz.prog 367 1 8 := elOf_mk (by kernel_rfl) (by decide)
instance : ZeroOf Tryz.prog 367 [.nilFunc] := ⟨.nilFunc, fun _ => by kernel_rfl, by kernel_rfl⟩
instance : IsOne Tryz.prog 368 := ⟨fun _ => by kernel_rfl, fun _ => by kernel_rfl⟩
instance : ElOf Tryz.prog 368 1 8 := elOf_mk (by kernel_rfl) (by decide)
instance : ZeroOf Tryz.prog 368 [.nilFunc] := ⟨.nilFunc, fun _ => by kernel_rfl, by kernel_rfl⟩
instance : IsOne Tryz.prog 369 := ⟨fun _ => by kernel_rfl, fun _ => by kernel_rfl⟩
instance : ElOf Tryz.prog 369 1 8 := elOf_mk (by kernel_rfl) (by decide)
instance : ZeroOf Tryz.prog 369 [.nilFunc] := ⟨.nilFunc, fun _ => by kernel_rfl, by kernel_rfl⟩
instance : IsOne Tryz.prog 371 := ⟨fun _ => by kernel_rfl, fun _ => by kernel_rfl⟩
instance : ElOf Tryz.prog 371 1 8 := elOf_mk (by kernel_rfl) (by decide)
instance : ZeroOf Tryz.prog 371 [.nilFunc] := ⟨.nilFunc, fun _ => by kernel_rfl, by kernel_rfl⟩
instance : IsOne Tryz.prog 372 := ⟨fun _ => by kernel_rfl, fun _ => by kernel_rfl⟩
instance : ElOf Tryz.prog 372 1 8 := elOf_mk (by kernel_rfl) (by decide)
instance : ZeroOf Tryz.prog 372 [.nilFunc] := ⟨.nilFunc, fun _ => by kernel_rfl, by kernel_rfl⟩
instance : IsOne Tryz.prog 373 := ⟨fun _ => by kernel_rfl, fun _ => by kernel_rfl⟩
instance : ElOf Tryz.prog 373 1 8 := elOf_mk (by kernel_rfl) (by decide)
instance : ZeroOf Tryz.prog 373 [.nilFunc] := ⟨.nilFunc, fun _ => by kernel_rfl, by kernel_rfl⟩
instance : IsOne Tryz.prog 374 := ⟨fun _ => by kernel_rfl, fun _ => by kernel_rfl⟩
instance : ElOf Tryz.prog 374 1 8 := elOf_mk (by kernel_rfl) (by decide)
instance : ZeroOf Tryz.prog 374 [.nilFunc] := ⟨.nilFunc, fun _ => by kernel_rfl, by kernel_rfl⟩
instance : IsOne Tryz.prog 375 := ⟨fun _ => by kernel_rfl, fun _ => by kernel_rfl⟩
instance : ElOf Tryz.prog 375 1 8 := elOf_mk (by kernel_rfl) (by decide)
instance : ZeroOf Tryz.prog 375 [.nilFunc] := ⟨.nilFunc, fun _ => by kernel_rfl, by kernel_rfl⟩
instance : IsOne Tryz.prog 376 := ⟨fun _ => by kernel_rfl, fun _ => by kernel_rfl⟩
instance : ElOf Tryz.prog 376 1 8 := elOf_mk (by kernel_rfl) (by decide)
instance : ZeroOf Tryz.prog 376 [.nilFunc] := ⟨.nilFunc, fun _ => by kernel_rfl, by kernel_rfl⟩
instance : IsOne Tryz.prog 377 := ⟨fun _ => by kernel_rfl, fun _ => by kernel_rfl⟩
instance : ElOf Tryz.prog 377 1 8 := elOf_mk (by kernel_rfl) (by decide)
instance : ZeroOf Tryz.prog 377 [.nilFunc] := ⟨.nilFunc, fun _ => by kernel_rfl, by kernel_rfl⟩
instance : IsOne Tryz.prog 378 := ⟨fun _ => by kernel_rfl, fun _ => by kernel_rfl⟩
instance : ElOf Tryz.prog 378 1 8 := elOf_mk (by kernel_rfl) (by decide)
instance : ZeroOf Tryz.prog 378 [.nilFunc] := ⟨.nilFunc, fun _ => by kernel_rfl, by kernel_rfl⟩
instance : IsOne Tryz.prog 379 := ⟨fun _ => by kernel_rfl, fun _ => by kernel_rfl⟩
instance : ElOf Tryz.prog 379 1 8 := elOf_mk (by kernel_rfl) (by decide)
instance : ZeroOf Tryz.prog 379 [.nilFunc] := ⟨.nilFunc, fun _ => by kernel_rfl, by kernel_rfl⟩
instance : IsOne Tryz.prog 380 := ⟨fun _ => by kernel_rfl, fun _ => by kernel_rfl⟩
instance : ElOf Tryz.prog 380 1 8 := elOf_mk (by kernel_rfl) (by decide)
instance : ZeroOf Tryz.prog 380 [.nilFunc] := ⟨.nilFunc, fun _ => by kernel_rfl, by kernel_rfl⟩
instance : IsOne Tryz.prog 381 := ⟨fun _ => by kernel_rfl, fun _ => by kernel_rfl⟩
instance : ElOf Tryz.prog 381 1 8 := elOf_mk (by kernel_rfl) (by decide)
instance : ZeroOf Tryz.prog 381 [.nilFunc] := ⟨.nilFunc, fun _ => by kernel_rfl, by kernel_rfl⟩
instance : IsOne Tryz.prog 382 := ⟨fun _ => by kernel_rfl, fun _ => by kernel_rfl⟩
instance : ElOf Tryz.prog 382 1 8 := elOf_mk (by kernel_rfl) (by decide)
instance : ZeroOf Tryz.prog 382 [.nilFunc] := ⟨.nilFunc, fun _ => by kernel_rfl, by kernel_rfl⟩
instance : IsOne Tryz.prog 383 := ⟨fun _ => by kernel_rfl, fun _ => by kernel_rfl⟩
instance : ElOf Tryz.prog 383 1 8 := elOf_mk (by kernel_rfl) (by decide)
instance : ZeroOf Tryz.prog 383 [.nilFunc] := ⟨.nilFunc, fun _ => by kernel_rfl, by kernel_rfl⟩
instance : IsOne Tryz.prog 384 := ⟨fun _ => by kernel_rfl, fun _ => by kernel_rfl⟩
instance : ElOf Tryz.prog 384 1 8 := elOf_mk (by kernel_rfl) (by decide)
instance : ZeroOf Tryz.prog 384 [.nilFunc] := ⟨.nilFunc, fun _ => by kernel_rfl, by kernel_rfl⟩
instance : IsOne Tryz.prog 385 := ⟨fun _ => by kernel_rfl, fun _ => by kernel_rfl⟩
instance : ElOf Tryz.prog 385 1 8 := elOf_mk (by kernel_rfl) (by decide)
instance : ZeroOf Tryz.prog 385 [.nilFunc] := ⟨.nilFunc, fun _ => by kernel_rfl, by kernel_rfl⟩
instance : IsOne Tryz.prog 386 := ⟨fun _ => by kernel_rfl, fun _ => by kernel_rfl⟩
instance : ElOf Tryz.prog 386 1 8 := elOf_mk (by kernel_rfl) (by decide)
instance : ZeroOf Tryz.prog 386 [.nilFunc] := ⟨.nilFunc, fun _ => by kernel_rfl, by kernel_rfl⟩
instance : IsOne Tryz.prog 387 := ⟨fun _ => by kernel_rfl, fun _ => by kernel_rfl⟩
instance : ElOf Tryz.prog 387 1 8 := elOf_mk (by kernel_rfl) (by decide)
instance : ZeroOf Tryz.prog 387 [.nilFunc] := ⟨.nilFunc, fun _ => by kernel_rfl, by kernel_rfl⟩
instance : IsOne Tryz.prog 388 := ⟨fun _ => by kernel_rfl, fun _ => by kernel_rfl⟩
instance : ElOf Tryz.prog 388 1 8 := elOf_mk (by kernel_rfl) (by decide)
instance : ZeroOf Tryz.prog 388 [.nilFunc] := ⟨.nilFunc, fun _ => by kernel_rfl, by kernel_rfl⟩
instance : IsOne Tryz.prog 389 := ⟨fun _ => by kernel_rfl, fun _ => by kernel_rfl⟩
instance : ElOf Tryz.prog 389 1 8 := elOf_mk (by kernel_rfl) (by decide)
instance : ZeroOf Tryz.prog 389 [.nilFunc] := ⟨.nilFunc, fun _ => by kernel_rfl, by kernel_rfl⟩
instance : IsAgg Tryz.prog 390 4 := ⟨fun _ => by kernel_rfl, fun _ => by kernel_rfl⟩
instance : FldAt Tryz.prog 390 0 0 := ⟨fun _ _ _ => by kernel_rfl⟩
instance : FldAt Tryz.prog 390 1 1 := ⟨fun _ _ _ => by kernel_rfl⟩
instance : FldAt Tryz.prog 390 2 2 := ⟨fun _ _ _ => by kernel_rfl⟩
instance : FldAt Tryz.prog 390 3 3 := ⟨fun _ _ _ => by kernel_rfl⟩
instance : ElOf Tryz.prog 390 4 40 := elOf_mk (by kernel_rfl) (by decide)
instance : ZeroOf Tryz.prog 390 [(.pointer none), (.pointer none), (.pointer none), (.string ⟨#[]⟩)] := ⟨(.agg #[(.pointer none), (.pointer none), (.pointer none), (.string ⟨#[]⟩)]), fun _ => by kernel_rfl, by kernel_rfl⟩
instance : PlacesOf Tryz.prog 390 [(0, 1), (1, 1), (2, 1), (3, 1)] [(.pointer none), (.pointer none), (.pointer none), (.string ⟨#[]⟩)] := placesOf_mk (Tryz.prog.fieldsOf 390) (.agg #[(.pointer none), (.pointer none), (.pointer none), (.string ⟨#[]⟩)]) (fun _ => by kernel_rfl) (by kernel_rfl) (by kernel_rfl) (fun _ => by kernel_rfl)
instance : IsAgg Tryz.prog 391 4 := ⟨fun _ => by kernel_rfl, fun _ => by kernel_rfl⟩
instance : FldAt Tryz.prog 391 0 0 := ⟨fun _ _ _ => by kernel_rfl⟩
instance : FldAt Tryz.prog 391 1 1 := ⟨fun _ _ _ => by kernel_rfl⟩
instance : FldAt Tryz.prog 391 2 2 := ⟨fun _ _ _ => by kernel_rfl⟩
instance : FldAt Tryz.prog 391 3 3 := ⟨fun _ _ _ => by kernel_rfl⟩
instance : ElOf Tryz.prog 391 4 40 := elOf_mk (by kernel_rfl) (by decide)
instance : ZeroOf Tryz.prog 391 [(.pointer none), (.pointer none), (.pointer none), (.string ⟨#[]⟩)] := ⟨(.agg #[(.pointer none), (.pointer none), (.pointer none), (.string ⟨#[]⟩)]), fun _ => by kernel_rfl, by kernel_rfl⟩
instance : PlacesOf Tryz.prog 391 [(0, 1), (1, 1), (2, 1), (3, 1)] [(.pointer none), (.pointer none), (.pointer none), (.string ⟨#[]⟩)] := placesOf_mk (Tryz.prog.fieldsOf 391) (.agg #[(.pointer none), (.pointer none), (.pointer none), (.string ⟨#[]⟩)]) (fun _ => by kernel_rfl) (by kernel_rfl) (by kernel_rfl) (fun _ => by kernel_rfl)
instance : IsOne Tryz.prog 395 := ⟨fun _ => by kernel_rfl, fun _ => by kernel_rfl⟩
instance : ElOf Tryz.prog 395 1 8 := elOf_mk (by kernel_rfl) (by decide)
instance : ZeroOf Tryz.prog 395 [.nilFunc] := ⟨.nilFunc, fun _ => by kernel_rfl, by kernel_rfl⟩
instance : IsOne Tryz.prog 396 := ⟨fun _ => by kernel_rfl, fun _ => by kernel_rfl⟩
instance : IntT Tryz.prog 396 .u8 := ⟨by kernel_rfl⟩
instance : ElOf Tryz.prog 396 1 1 := elOf_mk (by kernel_rfl) (by decide)
instance : ZeroOf Tryz.prog 396 [(.int .u8 0)] := ⟨(.int .u8 0), fun _ => by kernel_rfl, by kernel_rfl⟩
instance : IsOne Tryz.prog 397 := ⟨fun _ => by kernel_rfl, fun _ => by kernel_rfl⟩
instance : IntT Tryz.prog 397 .u8 := ⟨by kernel_rfl⟩
instance : ElOf Tryz.prog 397 1 1 := elOf_mk (by kernel_rfl) (by decide)
instance : ZeroOf Tryz.prog 397 [(.int .u8 0)] := ⟨(.int .u8 0), fun _ => by kernel_rfl, by kernel_rfl⟩
instance : IsOne Tryz.prog 398 := ⟨fun _ => by kernel_rfl, fun _ => by kernel_rfl⟩
instance : ElOf Tryz.prog 398 1 8 := elOf_mk (by kernel_rfl) (by decide)
instance : ZeroOf Tryz.prog 398 [.nilFunc] := ⟨.nilFunc, fun _ => by kernel_rfl, by kernel_rfl⟩
instance : IsOne Tryz.prog 399 := ⟨fun _ => by kernel_rfl, fun _ => by kernel_rfl⟩
instance : ElOf Tryz.prog 399 1 8 := elOf_mk (by kernel_rfl) (by decide)
instance : ZeroOf Tryz.prog 399 [(.pointer none)] := ⟨(.pointer none), fun _ => by kernel_rfl, by kernel_rfl⟩
instance : IsOne Tryz.prog 400 := ⟨fun _ => by kernel_rfl, fun _ => by kernel_rfl⟩
instance : IntT Tryz.prog 400 .i32 := ⟨by kernel_rfl⟩
instance : ElOf Tryz.prog 400 1 4 := elOf_mk (by kernel_rfl) (by decide)
instance : ZeroOf Tryz.prog 400 [(.int .i32 0)] := ⟨(.int .i32 0), fun _ => by kernel_rfl, by kernel_rfl⟩
instance : IsOne Tryz.prog 401 := ⟨fun _ => by kernel_rfl, fun _ => by kernel_rfl⟩
instance : IntT Tryz.prog 401 .i32 := ⟨by kernel_rfl⟩
instance : ElOf Tryz.prog 401 1 4 := elOf_mk (by kernel_rfl) (by decide)
instance : ZeroOf Tryz.prog 401 [(.int .i32 0)] := ⟨(.int .i32 0), fun _ => by kernel_rfl, by kernel_rfl⟩
instance : IsAgg Tryz.prog 402 11 := ⟨fun _ => by kernel_rfl, fun _ => by kernel_rfl⟩
instance : FldAt Tryz.prog 402 0 0 := ⟨fun _ _ _ => by kernel_rfl⟩
instance : FldAt Tryz.prog 402 1 1 := ⟨fun _ _ _ => by kernel_rfl⟩
instance : FldAt Tryz.prog 402 2 2 := ⟨fun _ _ _ => by kernel_rfl⟩
instance : FldAt Tryz.prog 402 3 3 := ⟨fun _ _ _ => by kernel_rfl⟩
instance : FldAt Tryz.prog 402 4 4 := ⟨fun _ _ _ => by kernel_rfl⟩
instance : FldAt Tryz.prog 402 5 5 := ⟨fun _ _ _ => by kernel_rfl⟩
instance : FldAt Tryz.prog 402 6 6 := ⟨fun _ _ _ => by kernel_rfl⟩
instance : FldAt Tryz.prog 402 7 7 := ⟨fun _ _ _ => by kernel_rfl⟩
instance : FldAt Tryz.prog 402 8 8 := ⟨fun _ _ _ => by kernel_rfl⟩
instance : FldAt Tryz.prog 402 9 9 := ⟨fun _ _ _ => by kernel_rfl⟩
instance : FldAt Tryz.prog 402 10 10 := ⟨fun _ _ _ => by kernel_rfl⟩
instance : ElOf Tryz.prog 402 11 48 := elOf_mk (by kernel_rfl) (by decide)
instance : ZeroOf Tryz.prog 402 [(.int .u64 0), (.int .u64 0), (.int .u32 0), (.int .u8 0), (.int .u8 0), (.int .u8 0), (.int .u8 0), .nilFunc, (.pointer none), (.int .i32 0), (.int .i32 0)] := ⟨(.agg #[(.int .u64 0), (.int .u64 0), (.int .u32 0), (.int .u8 0), (.int .u8 0), (.int .u8 0), (.int .u8 0), .nilFunc, (.pointer none), (.int .i32 0), (.int .i32 0)]), fun _ => by kernel_rfl, by kernel_rfl⟩
instance : PlacesOf Tryz.prog 402 [(0, 1), (1, 1), (2, 1), (3, 1), (4, 1), (5, 1), (6, 1), (7, 1), (8, 1), (9, 1), (10, 1)] [(.int .u64 0), (.int .u64 0), (.int .u32 0), (.int .u8 0), (.int .u8 0), (.int .u8 0), (.int .u8 0), .nilFunc, (.pointer none), (.int .i32 0), (.int .i32 0)] := placesOf_mk (Tryz.prog.fieldsOf 402) (.agg #[(.int .u64 0), (.int .u64 0), (.int .u32 0), (.int .u8 0), (.int .u8 0), (.int .u8 0), (.int .u8 0), .nilFunc, (.pointer none), (.int .i32 0), (.int .i32 0)]) (fun _ => by kernel_rfl) (by kernel_rfl) (by kernel_rfl) (fun _ => by kernel_rfl)
instance : IsAgg Tryz.prog 403 11 := ⟨fun _ => by kernel_rfl, fun _ => by kernel_rfl⟩
instance : FldAt Tryz.prog 403 0 0 := ⟨fun _ _ _ => by kernel_rfl⟩
instance : FldAt Tryz.prog 403 1 1 := ⟨fun _ _ _ => by kernel_rfl⟩
instance : FldAt Tryz.prog 403 2 2 := ⟨fun _ _ _ => by kernel_rfl⟩
instance : FldAt Tryz.prog 403 3 3 := ⟨fun _ _ _ => by kernel_rfl⟩
instance : FldAt Tryz.prog 403 4 4 := ⟨fun _ _ _ => by kernel_rfl⟩
instance : FldAt Tryz.prog 403 5 5 := ⟨fun _ _ _ => by kernel_rfl⟩
instance : FldAt Tryz.prog 403 6 6 := ⟨fun _ _ _ => by kernel_rfl⟩
instance : FldAt Tryz.prog 403 7 7 := ⟨fun _ _ _ => by kernel_rfl⟩
instance : FldAt Tryz.prog 403 8 8 := ⟨fun _ _ _ => by kernel_rfl⟩
instance : FldAt Tryz.prog 403 9 9 := ⟨fun _ _ _ => by kernel_rfl⟩
instance : FldAt Tryz.prog 403 10 10 := ⟨fun _ _ _ => by kernel_rfl⟩
instance : ElOf Tryz.prog 403 11 48 := elOf_mk (by kernel_rfl) (by decide)
instance : ZeroOf Tryz.prog 403 [(.int .u64 0), (.int .u64 0), (.int .u32 0), (.int .u8 0), (.int .u8 0), (.int .u8 0), (.int .u8 0), .nilFunc, (.pointer none), (.int .i32 0), (.int .i32 0)] := ⟨(.agg #[(.int .u64 0), (.int .u64 0), (.int .u32 0), (.int .u8 0), (.int .u8 0), (.int .u8 0), (.int .u8 0), .nilFunc, (.pointer none), (.int .i32 0), (.int .i32 0)]), fun _ => by kernel_rfl, by kernel_rfl⟩
instance : PlacesOf Tryz.prog 403 [(0, 1), (1, 1), (2, 1), (3, 1), (4, 1), (5, 1), (6, 1), (7, 1), (8, 1), (9, 1), (10, 1)] [(.int .u64 0), (.int .u64 0), (.int .u32 0), (.int .u8 0), (.int .u8 0), (.int .u8 0), (.int .u8 0), .nilFunc, (.pointer none), (.int .i32 0), (.int .i32 0)] := placesOf_mk (Tryz.prog.fieldsOf 403) (.agg #[(.int .u64 0), (.int .u64 0), (.int .u32 0), (.int .u8 0), (.int .u8 0), (.int .u8 0), (.int .u8 0), .nilFunc, (.pointer none), (.int .i32 0), (.int .i32 0)]) (fun _ => by kernel_rfl) (by kernel_rfl) (by kernel_rfl) (fun _ => by kernel_rfl)
instance : IsOne Tryz.prog 404 := ⟨fun _ => by kernel_rfl, fun _ => by kernel_rfl⟩
instance : ElOf Tryz.prog 404 1 8 := elOf_mk (by kernel_rfl) (by decide)
instance : ZeroOf Tryz.prog 404 [(.pointer none)] := ⟨(.pointer none), fun _ => by kernel_rfl, by kernel_rfl⟩
instance : Mixed Tryz.prog := ⟨by kernel_rfl⟩
instance : Ent Tryz.prog 3 := ⟨enters_of Tryz.func3 (by kernel_rfl) rfl⟩
instance : Ent Tryz.prog 4 := ⟨enters_of Tryz.func4 (by kernel_rfl) rfl⟩
instance : Ent Tryz.prog 5 := ⟨enters_of Tryz.func5 (by kernel_rfl) rfl⟩
instance : Ent Tryz.prog 6 := ⟨enters_of Tryz.func6 (by kernel_rfl) rfl⟩
instance : Ent Tryz.prog 7 := ⟨enters_of Tryz.func7 (by kernel_rfl) rfl⟩
instance : Ent Tryz.prog 8 := ⟨enters_of Tryz.func8 (by kernel_rfl) rfl⟩
instance : Ent Tryz.prog 9 := ⟨enters_of Tryz.func9 (by kernel_rfl) rfl⟩
instance : Ent Tryz.prog 10 := ⟨enters_of Tryz.func10 (by kernel_rfl) rfl⟩
instance : Ent Tryz.prog 11 := ⟨enters_of Tryz.func11 (by kernel_rfl) rfl⟩
instance : Ent Tryz.prog 12 := ⟨enters_of Tryz.func12 (by kernel_rfl) rfl⟩
instance : Ent Tryz.prog 13 := ⟨enters_of Tryz.func13 (by kernel_rfl) rfl⟩
instance : Ent Tryz.prog 14 := ⟨enters_of Tryz.func14 (by kernel_rfl) rfl⟩
instance : Ent Tryz.prog 15 := ⟨enters_of Tryz.func15 (by kernel_rfl) rfl⟩
instance : Ent Tryz.prog 16 := ⟨enters_of Tryz.func16 (by kernel_rfl) rfl⟩
instance : Ent Tryz.prog 17 := ⟨enters_of Tryz.func17 (by kernel_rfl) rfl⟩
instance : Ent Tryz.prog 18 := ⟨enters_of Tryz.func18 (by kernel_rfl) rfl⟩
instance : Ent Tryz.prog 19 := ⟨enters_of Tryz.func19 (by kernel_rfl) rfl⟩
instance : Ent Tryz.prog 20 := ⟨enters_of Tryz.func20 (by kernel_rfl) rfl⟩
instance : Ent Tryz.prog 21 := ⟨enters_of Tryz.func21 (by kernel_rfl) rfl⟩
instance : Ent Tryz.prog 22 := ⟨enters_of Tryz.func22 (by kernel_rfl) rfl⟩
instance : Ent Tryz.prog 23 := ⟨enters_of Tryz.func23 (by kernel_rfl) rfl⟩
instance : Ent Tryz.prog 24 := ⟨enters_of Tryz.func24 (by kernel_rfl) rfl⟩
instance : Ent Tryz.prog 25 := ⟨enters_of Tryz.func25 (by kernel_rfl) rfl⟩
instance : Ent Tryz.prog 26 := ⟨enters_of Tryz.func26 (by kernel_rfl) rfl⟩
instance : Ent Tryz.prog 27 := ⟨enters_of Tryz.func27 (by kernel_rfl) rfl⟩
instance : Ent Tryz.prog 28 := ⟨enters_of Tryz.func28 (by kernel_rfl) rfl⟩
instance : Ent Tryz.prog 29 := ⟨enters_of Tryz.func29 (by kernel_rfl) rfl⟩
instance : Ent Tryz.prog 30 := ⟨enters_of Tryz.func30 (by kernel_rfl) rfl⟩
instance : Ent Tryz.prog 31 := ⟨enters_of Tryz.func31 (by kernel_rfl) rfl⟩
instance : Ent Tryz.prog 32 := ⟨enters_of Tryz.func32 (by kernel_rfl) rfl⟩
instance : Ent Tryz.prog 33 := ⟨enters_of Tryz.func33 (by kernel_rfl) rfl⟩
instance : Ent Tryz.prog 34 := ⟨enters_of Tryz.func34 (by kernel_rfl) rfl⟩
instance : Ent Tryz.prog 35 := ⟨enters_of Tryz.func35 (by kernel_rfl) rfl⟩
instance : Ent Tryz.prog 36 := ⟨enters_of Tryz.func36 (by kernel_rfl) rfl⟩
instance : Ent Tryz.prog 37 := ⟨enters_of Tryz.func37 (by kernel_rfl) rfl⟩
instance : Ent Tryz.prog 38 := ⟨enters_of Tryz.func38 (by kernel_rfl) rfl⟩
instance : Ent Tryz.prog 39 := ⟨enters_of Tryz.func39 (by kernel_rfl) rfl⟩
instance : Ent Tryz.prog 40 := ⟨enters_of Tryz.func40 (by kernel_rfl) rfl⟩
instance : Ent Tryz.prog 41 := ⟨enters_of Tryz.func41 (by kernel_rfl) rfl⟩
instance : Ent Tryz.prog 42 := ⟨enters_of Tryz.func42 (by kernel_rfl) rfl⟩
instance : Ent Tryz.prog 43 := ⟨enters_of Tryz.func43 (by kernel_rfl) rfl⟩
instance : Ent Tryz.prog 44 := ⟨enters_of Tryz.func44 (by kernel_rfl) rfl⟩
instance : Ent Tryz.prog 45 := ⟨enters_of Tryz.func45 (by kernel_rfl) rfl⟩
instance : Ent Tryz.prog 46 := ⟨enters_of Tryz.func46 (by kernel_rfl) rfl⟩
instance : Ent Tryz.prog 47 := ⟨enters_of Tryz.func47 (by kernel_rfl) rfl⟩
instance : Ent Tryz.prog 48 := ⟨enters_of Tryz.func48 (by kernel_rfl) rfl⟩
instance : Ent Tryz.prog 49 := ⟨enters_of Tryz.func49 (by kernel_rfl) rfl⟩
instance : Ent Tryz.prog 50 := ⟨enters_of Tryz.func50 (by kernel_rfl) rfl⟩
instance : Ent Tryz.prog 51 := ⟨enters_of Tryz.func51 (by kernel_rfl) rfl⟩
instance : Ent Tryz.prog 52 := ⟨enters_of Tryz.func52 (by kernel_rfl) rfl⟩
instance : Ent Tryz.prog 53 := ⟨enters_of Tryz.func53 (by kernel_rfl) rfl⟩
instance : Ent Tryz.prog 54 := ⟨enters_of Tryz.func54 (by kernel_rfl) rfl⟩
instance : Ent Tryz.prog 55 := ⟨enters_of Tryz.func55 (by kernel_rfl) rfl⟩
instance : Ent Tryz.prog 56 := ⟨enters_of Tryz.func56 (by kernel_rfl) rfl⟩
instance : Ent Tryz.prog 57 := ⟨enters_of Tryz.func57 (by kernel_rfl) rfl⟩
instance : Ent Tryz.prog 58 := ⟨enters_of Tryz.func58 (by kernel_rfl) rfl⟩
instance : Ent Tryz.prog 59 := ⟨enters_of Tryz.func59 (by kernel_rfl) rfl⟩
instance : Ent Tryz.prog 60 := ⟨enters_of Tryz.func60 (by kernel_rfl) rfl⟩
instance : Ent Tryz.prog 61 := ⟨enters_of Tryz.func61 (by kernel_rfl) rfl⟩
instance : Ent Tryz.prog 62 := ⟨enters_of Tryz.func62 (by kernel_rfl) rfl⟩
instance : Ent Tryz.prog 63 := ⟨enters_of Tryz.func63 (by kernel_rfl) rfl⟩
instance : Ent Tryz.prog 64 := ⟨enters_of Tryz.func64 (by kernel_rfl) rfl⟩
instance : Ent Tryz.prog 65 := ⟨enters_of Tryz.func65 (by kernel_rfl) rfl⟩
instance : Ent Tryz.prog 66 := ⟨enters_of Tryz.func66 (by kernel_rfl) rfl⟩
instance : Ent Tryz.prog 67 := ⟨enters_of Tryz.func67 (by kernel_rfl) rfl⟩
instance : Ent Tryz.prog 68 := ⟨enters_of Tryz.func68 (by kernel_rfl) rfl⟩
instance : Ent Tryz.prog 69 := ⟨enters_of Tryz.func69 (by kernel_rfl) rfl⟩
instance : Ent Tryz.prog 70 := ⟨enters_of Tryz.func70 (by kernel_rfl) rfl⟩
instance : Ent Tryz.prog 71 := ⟨enters_of Tryz.func71 (by kernel_rfl) rfl⟩
instance : Ent Tryz.prog 72 := ⟨enters_of Tryz.func72 (by kernel_rfl) rfl⟩
instance : Ent Tryz.prog 73 := ⟨enters_of Tryz.func73 (by kernel_rfl) rfl⟩
instance : Ent Tryz.prog 74 := ⟨enters_of Tryz.func74 (by kernel_rfl) rfl⟩
instance : Ent Tryz.prog 75 := ⟨enters_of Tryz.func75 (by kernel_rfl) rfl⟩
instance : Ent Tryz.prog 76 := ⟨enters_of Tryz.func76 (by kernel_rfl) rfl⟩
instance : Ent Tryz.prog 77 := ⟨enters_of Tryz.func77 (by kernel_rfl) rfl⟩
instance : Ent Tryz.prog 78 := ⟨enters_of Tryz.func78 (by kernel_rfl) rfl⟩
instance : Ent Tryz.prog 79 := ⟨enters_of Tryz.func79 (by kernel_rfl) rfl⟩
instance : Ent Tryz.prog 80 := ⟨enters_of Tryz.func80 (by kernel_rfl) rfl⟩
instance : Ent Tryz.prog 81 := ⟨enters_of Tryz.func81 (by kernel_rfl) rfl⟩
instance : Ent Tryz.prog 82 := ⟨enters_of Tryz.func82 (by kernel_rfl) rfl⟩
instance : Ent Tryz.prog 83 := ⟨enters_of Tryz.func83 (by kernel_rfl) rfl⟩
instance : Ent Tryz.prog 84 := ⟨enters_of Tryz.func84 (by kernel_rfl) rfl⟩
instance : Ent Tryz.prog 85 := ⟨enters_of Tryz.func85 (by kernel_rfl) rfl⟩
instance : Ent Tryz.prog 86 := ⟨enters_of Tryz.func86 (by kernel_rfl) rfl⟩
instance : Ent Tryz.prog 87 := ⟨enters_of Tryz.func87 (by kernel_rfl) rfl⟩
instance : Ent Tryz.prog 88 := ⟨enters_of Tryz.func88 (by kernel_rfl) rfl⟩
instance : Ent Tryz.prog 89 := ⟨enters_of Tryz.func89 (by kernel_rfl) rfl⟩
instance : Ent Tryz.prog 90 := ⟨enters_of Tryz.func90 (by kernel_rfl) rfl⟩
instance : Ent Tryz.prog 91 := ⟨enters_of Tryz.func91 (by kernel_rfl) rfl⟩
instance : Ent Tryz.prog 92 := ⟨enters_of Tryz.func92 (by kernel_rfl) rfl⟩
instance : Ent Tryz.prog 93 := ⟨enters_of Tryz.func93 (by kernel_rfl) rfl⟩
instance : Ent Tryz.prog 94 := ⟨enters_of Tryz.func94 (by kernel_rfl) rfl⟩
instance : Ent Tryz.prog 95 := ⟨enters_of Tryz.func95 (by kernel_rfl) rfl⟩
instance : Ent Tryz.prog 96 := ⟨enters_of Tryz.func96 (by kernel_rfl) rfl⟩
instance : Ent Tryz.prog 97 := ⟨enters_of Tryz.func97 (by kernel_rfl) rfl⟩
instance : Ent Tryz.prog 98 := ⟨enters_of Tryz.func98 (by kernel_rfl) rfl⟩
instance : Ent Tryz.prog 99 := ⟨enters_of Tryz.func99 (by kernel_rfl) rfl⟩
instance : Ent Tryz.prog 100 := ⟨enters_of Tryz.func100 (by kernel_rfl) rfl⟩
instance : Ent Tryz.prog 101 := ⟨enters_of Tryz.func101 (by kernel_rfl) rfl⟩
instance : Ent Tryz.prog 102 := ⟨enters_of Tryz.func102 (by kernel_rfl) rfl⟩
instance : Ent Tryz.prog 103 := ⟨enters_of Tryz.func103 (by kernel_rfl) rfl⟩
instance : Ent Tryz.prog 104 := ⟨enters_of Tryz.func104 (by kernel_rfl) rfl⟩
instance : Ent Tryz.prog 105 := ⟨enters_of Tryz.func105 (by kernel_rfl) rfl⟩
instance : Ent Tryz.prog 106 := ⟨enters_of Tryz.func106 (by kernel_rfl) rfl⟩
instance : Ent Tryz.prog 107 := ⟨enters_of Tryz.func107 (by kernel_rfl) rfl⟩
instance : Ent Tryz.prog 108 := ⟨enters_of Tryz.func108 (by kernel_rfl) rfl⟩
instance : Ent Tryz.prog 109 := ⟨enters_of Tryz.func109 (by kernel_rfl) rfl⟩
instance : Ent Tryz.prog 110 := ⟨enters_of Tryz.func110 (by kernel_rfl) rfl⟩
instance : Ent Tryz.prog 111 := ⟨enters_of Tryz.func111 (by kernel_rfl) rfl⟩
instance : Ent Tryz.prog 112 := ⟨enters_of Tryz.func112 (by kernel_rfl) rfl⟩
instance : Ent Tryz.prog 113 := ⟨enters_of Tryz.func113 (by kernel_rfl) rfl⟩
instance : Ent Tryz.prog 114 := ⟨enters_of Tryz.func114 (by kernel_rfl) rfl⟩
instance : Ent Tryz.prog 115 := ⟨enters_of Tryz.func115 (by kernel_rfl) rfl⟩
instance : Ent Tryz.prog 116 := ⟨enters_of Tryz.func116 (by kernel_rfl) rfl⟩
instance : Ent Tryz.prog 117 := ⟨enters_of Tryz.func117 (by kernel_rfl) rfl⟩
instance : Ent Tryz.prog 118 := ⟨enters_of Tryz.func118 (by kernel_rfl) rfl⟩
instance : Ent Tryz.prog 119 := ⟨enters_of Tryz.func119 (by kernel_rfl) rfl⟩
instance : Ent Tryz.prog 120 := ⟨enters_of Tryz.func120 (by kernel_rfl) rfl⟩
instance : Ent Tryz.prog 121 := ⟨enters_of Tryz.func121 (by kernel_rfl) rfl⟩
instance : Ent Tryz.prog 122 := ⟨enters_of Tryz.func122 (by kernel_rfl) rfl⟩
instance : Ent Tryz.prog 123 := ⟨enters_of Tryz.func123 (by kernel_rfl) rfl⟩
instance : Ent Tryz.prog 124 := ⟨enters_of Tryz.func124 (by kernel_rfl) rfl⟩
instance : Ent Tryz.prog 125 := ⟨enters_of Tryz.func125 (by kernel_rfl) rfl⟩
instance : Ent Tryz.prog 126 := ⟨enters_of Tryz.func126 (by kernel_rfl) rfl⟩
instance : Ent Tryz.prog 127 := ⟨enters_of Tryz.func127 (by kernel_rfl) rfl⟩
instance : Ent Tryz.prog 128 := ⟨enters_of Tryz.func128 (by kernel_rfl) rfl⟩
instance : Ent Tryz.prog 129 := ⟨enters_of Tryz.func129 (by kernel_rfl) rfl⟩
instance : Ent Tryz.prog 130 := ⟨enters_of Tryz.func130 (by kernel_rfl) rfl⟩
instance : Ent Tryz.prog 131 := ⟨enters_of Tryz.func131 (by kernel_rfl) rfl⟩
instance : Ent Tryz.prog 132 := ⟨enters_of Tryz.func132 (by kernel_rfl) rfl⟩
instance : Ent Tryz.prog 133 := ⟨enters_of Tryz.func133 (by kernel_rfl) rfl⟩
instance : Ent Tryz.prog 134 := ⟨enters_of Tryz.func134 (by kernel_rfl) rfl⟩
instance : Ent Tryz.prog 135 := ⟨enters_of Tryz.func135 (by kernel_rfl) rfl⟩
instance : Ent Tryz.prog 136 := ⟨enters_of Tryz.func136 (by kernel_rfl) rfl⟩
instance : Ent Tryz.prog 137 := ⟨enters_of Tryz.func137 (by kernel_rfl) rfl⟩
instance : Ent Tryz.prog 138 := ⟨enters_of Tryz.func138 (by kernel_rfl) rfl⟩
instance : Ent Tryz.prog 139 := ⟨enters_of Tryz.func139 (by kernel_rfl) rfl⟩
instance : Ent Tryz.prog 140 := ⟨enters_of Tryz.func140 (by kernel_rfl) rfl⟩
instance : Ent Tryz.prog 141 := ⟨enters_of Tryz.func141 (by kernel_rfl) rfl⟩
instance : Ent Tryz.prog 142 := ⟨enters_of Tryz.func142 (by kernel_rfl) rfl⟩
instance : Ent Tryz.prog 143 := ⟨enters_of Tryz.func143 (by kernel_rfl) rfl⟩
instance : Ent Tryz.prog 144 := ⟨enters_of Tryz.func144 (by kernel_rfl) rfl⟩
instance : Ent Tryz.prog 145 := ⟨enters_of Tryz.func145 (by kernel_rfl) rfl⟩
instance : Ent Tryz.prog 146 := ⟨enters_of Tryz.func146 (by kernel_rfl) rfl⟩
instance : Ent Tryz.prog 147 := ⟨enters_of Tryz.func147 (by kernel_rfl) rfl⟩
instance : Ent Tryz.prog 148 := ⟨enters_of Tryz.func148 (by kernel_rfl) rfl⟩
instance : Ent Tryz.prog 149 := ⟨enters_of Tryz.func149 (by kernel_rfl) rfl⟩
instance : Ent Tryz.prog 150 := ⟨enters_of Tryz.func150 (by kernel_rfl) rfl⟩
instance : Ent Tryz.prog 151 := ⟨enters_of Tryz.func151 (by kernel_rfl) rfl⟩
instance : Ent Tryz.prog 152 := ⟨enters_of Tryz.func152 (by kernel_rfl) rfl⟩
instance : Ent Tryz.prog 153 := ⟨enters_of Tryz.func153 (by kernel_rfl) rfl⟩
instance : Ent Tryz.prog 154 := ⟨enters_of Tryz.func154 (by kernel_rfl) rfl⟩
instance : Ent Tryz.prog 155 := ⟨enters_of Tryz.func155 (by kernel_rfl) rfl⟩
instance : Ent Tryz.prog 156 := ⟨enters_of Tryz.func156 (by kernel_rfl) rfl⟩
instance : Ent Tryz.prog 157 := ⟨enters_of Tryz.func157 (by kernel_rfl) rfl⟩
instance : Ent Tryz.prog 158 := ⟨enters_of Tryz.func158 (by kernel_rfl) rfl⟩
instance : Ent Tryz.prog 159 := ⟨enters_of Tryz.func159 (by kernel_rfl) rfl⟩
instance : Ent Tryz.prog 160 := ⟨enters_of Tryz.func160 (by kernel_rfl) rfl⟩
instance : Ent Tryz.prog 161 := ⟨enters_of Tryz.func161 (by kernel_rfl) rfl⟩
instance : Ent Tryz.prog 162 := ⟨enters_of Tryz.func162 (by kernel_rfl) rfl⟩
instance : Ent Tryz.prog 163 := ⟨enters_of Tryz.func163 (by kernel_rfl) rfl⟩
instance : Ent Tryz.prog 164 := ⟨enters_of Tryz.func164 (by kernel_rfl) rfl⟩
instance : Ent Tryz.prog 165 := ⟨enters_of Tryz.func165 (by kernel_rfl) rfl⟩
instance : Ent Tryz.prog 166 := ⟨enters_of Tryz.func166 (by kernel_rfl) rfl⟩
instance : Ent Tryz.prog 167 := ⟨enters_of Tryz.func167 (by kernel_rfl) rfl⟩
instance : Ent Tryz.prog 168 := ⟨enters_of Tryz.func168 (by kernel_rfl) rfl⟩
instance : Ent Tryz.prog 169 := ⟨enters_of Tryz.func169 (by kernel_rfl) rfl⟩
instance : Ent Tryz.prog 170 := ⟨enters_of Tryz.func170 (by kernel_rfl) rfl⟩
instance : Ent Tryz.prog 171 := ⟨enters_of Tryz.func171 (by kernel_rfl) rfl⟩
instance : Ent Tryz.prog 172 := ⟨enters_of Tryz.func172 (by kernel_rfl) rfl⟩
instance : Ent Tryz.prog 173 := ⟨enters_of Tryz.func173 (by kernel_rfl) rfl⟩
instance : Ent Tryz.prog 174 := ⟨enters_of Tryz.func174 (by kernel_rfl) rfl⟩
instance : Ent Tryz.prog 175 := ⟨enters_of Tryz.func175 (by kernel_rfl) rfl⟩
instance : Ent Tryz.prog 176 := ⟨enters_of Tryz.func176 (by kernel_rfl) rfl⟩
instance : Ent Tryz.prog 177 := ⟨enters_of Tryz.func177 (by kernel_rfl) rfl⟩
instance : Ent Tryz.prog 178 := ⟨enters_of Tryz.func178 (by kernel_rfl) rfl⟩
instance : Ent Tryz.prog 179 := ⟨enters_of Tryz.func179 (by kernel_rfl) rfl⟩
instance : Ent Tryz.prog 180 := ⟨enters_of Tryz.func180 (by kernel_rfl) rfl⟩
instance : Ent Tryz.prog 181 := ⟨enters_of Tryz.func181 (by kernel_rfl) rfl⟩
instance : Ent Tryz.prog 182 := ⟨enters_of Tryz.func182 (by kernel_rfl) rfl⟩
instance : Ent Tryz.prog 183 := ⟨enters_of Tryz.func183 (by kernel_rfl) rfl⟩
instance : Ent Tryz.prog 184 := ⟨enters_of Tryz.func184 (by kernel_rfl) rfl⟩
instance : Ent Tryz.prog 185 := ⟨enters_of Tryz.func185 (by kernel_rfl) rfl⟩
instance : Ent Tryz.prog 186 := ⟨enters_of Tryz.func186 (by kernel_rfl) rfl⟩
instance : Ent Tryz.prog 187 := ⟨enters_of Tryz.func187 (by kernel_rfl) rfl⟩
instance : Ent Tryz.prog 188 := ⟨enters_of Tryz.func188 (by kernel_rfl) rfl⟩
instance : Ent Tryz.prog 189 := ⟨enters_of Tryz.func189 (by kernel_rfl) rfl⟩
instance : Ent Tryz.prog 190 := ⟨enters_of Tryz.func190 (by kernel_rfl) rfl⟩
instance : Ent Tryz.prog 191 := ⟨enters_of Tryz.func191 (by kernel_rfl) rfl⟩
instance : Ent Tryz.prog 192 := ⟨enters_of Tryz.func192 (by kernel_rfl) rfl⟩
instance : Ent Tryz.prog 193 := ⟨enters_of Tryz.func193 (by kernel_rfl) rfl⟩
instance : Ent Tryz.prog 194 := ⟨enters_of Tryz.func194 (by kernel_rfl) rfl⟩
instance : Ent Tryz.prog 195 := ⟨enters_of Tryz.func195 (by kernel_rfl) rfl⟩
instance : Ent Tryz.prog 196 := ⟨enters_of Tryz.func196 (by kernel_rfl) rfl⟩
instance : Ent Tryz.prog 197 := ⟨enters_of Tryz.func197 (by kernel_rfl) rfl⟩
instance : Ent Tryz.prog 198 := ⟨enters_of Tryz.func198 (by kernel_rfl) rfl⟩
instance : Ent Tryz.prog 199 := ⟨enters_of Tryz.func199 (by kernel_rfl) rfl⟩
instance : Ent Tryz.prog 200 := ⟨enters_of Tryz.func200 (by kernel_rfl) rfl⟩
instance : Ent Tryz.prog 201 := ⟨enters_of Tryz.func201 (by kernel_rfl) rfl⟩
instance : Ent Tryz.prog 202 := ⟨enters_of Tryz.func202 (by kernel_rfl) rfl⟩
instance : Ent Tryz.prog 203 := ⟨enters_of Tryz.func203 (by kernel_rfl) rfl⟩
instance : Ent Tryz.prog 204 := ⟨enters_of Tryz.func204 (by kernel_rfl) rfl⟩
instance : Ent Tryz.prog 205 := ⟨enters_of Tryz.func205 (by kernel_rfl) rfl⟩
instance : Ent Tryz.prog 206 := ⟨enters_of Tryz.func206 (by kernel_rfl) rfl⟩
instance : Ent Tryz.prog 207 := ⟨enters_of Tryz.func207 (by kernel_rfl) rfl⟩
instance : Ent Tryz.prog 208 := ⟨enters_of Tryz.func208 (by kernel_rfl) rfl⟩
instance : Ent Tryz.prog 209 := ⟨enters_of Tryz.func209 (by kernel_rfl) rfl⟩
instance : Ent Tryz.prog 210 := ⟨enters_of Tryz.func210 (by kernel_rfl) rfl⟩
instance : Ent Tryz.prog 211 := ⟨enters_of Tryz.func211 (by kernel_rfl) rfl⟩
instance : Ent Tryz.prog 212 := ⟨enters_of Tryz.func212 (by kernel_rfl) rfl⟩
instance : Ent Tryz.prog 213 := ⟨enters_of Tryz.func213 (by kernel_rfl) rfl⟩
instance : Ent Tryz.prog 214 := ⟨enters_of Tryz.func214 (by kernel_rfl) rfl⟩
instance : Ent Tryz.prog 215 := ⟨enters_of Tryz.func215 (by kernel_rfl) rfl⟩
instance : Ent Tryz.prog 216 := ⟨enters_of Tryz.func216 (by kernel_rfl) rfl⟩
instance : Ent Tryz.prog 217 := ⟨enters_of Tryz.func217 (by kernel_rfl) rfl⟩
instance : Ent Tryz.prog 218 := ⟨enters_of Tryz.func218 (by kernel_rfl) rfl⟩
instance : Ent Tryz.prog 219 := ⟨enters_of Tryz.func219 (by kernel_rfl) rfl⟩
instance : Ent Tryz.prog 220 := ⟨enters_of Tryz.func220 (by kernel_rfl) rfl⟩
instance : Ent Tryz.prog 221 := ⟨enters_of Tryz.func221 (by kernel_rfl) rfl⟩
instance : Ent Tryz.prog 222 := ⟨enters_of Tryz.func222 (by kernel_rfl) rfl⟩
instance : Ent Tryz.prog 223 := ⟨enters_of Tryz.func223 (by kernel_rfl) rfl⟩
instance : Ent Tryz.prog 224 := ⟨enters_of Tryz.func224 (by kernel_rfl) rfl⟩
instance : Ent Tryz.prog 225 := ⟨enters_of Tryz.func225 (by kernel_rfl) rfl⟩
instance : Ent Tryz.prog 226 := ⟨enters_of Tryz.func226 (by kernel_rfl) rfl⟩
instance : Ent Tryz.prog 227 := ⟨enters_of Tryz.func227 (by kernel_rfl) rfl⟩
instance : Ent Tryz.prog 228 := ⟨enters_of Tryz.func228 (by kernel_rfl) rfl⟩
instance : Ent Tryz.prog 229 := ⟨enters_of Tryz.func229 (by kernel_rfl) rfl⟩
instance : Ent Tryz.prog 230 := ⟨enters_of Tryz.func230 (by kernel_rfl) rfl⟩
instance : Ent Tryz.prog 231 := ⟨enters_of Tryz.func231 (by kernel_rfl) rfl⟩
instance : Ent Tryz.prog 232 := ⟨enters_of Tryz.func232 (by kernel_rfl) rfl⟩
instance : Ent Tryz.prog 233 := ⟨enters_of Tryz.func233 (by kernel_rfl) rfl⟩
instance : Ent Tryz.prog 234 := ⟨enters_of Tryz.func234 (by kernel_rfl) rfl⟩
instance : Ent Tryz.prog 235 := ⟨enters_of Tryz.func235 (by kernel_rfl) rfl⟩
instance : Ent Tryz.prog 236 := ⟨enters_of Tryz.func236 (by kernel_rfl) rfl⟩
instance : Ent Tryz.prog 237 := ⟨enters_of Tryz.func237 (by kernel_rfl) rfl⟩
instance : Ent Tryz.prog 238 := ⟨enters_of Tryz.func238 (by kernel_rfl) rfl⟩
instance : Ent Tryz.prog 239 := ⟨enters_of Tryz.func239 (by kernel_rfl) rfl⟩
instance : Ent Tryz.prog 240 := ⟨enters_of Tryz.func240 (by kernel_rfl) rfl⟩
instance : Ent Tryz.prog 241 := ⟨enters_of Tryz.func241 (by kernel_rfl) rfl⟩
instance : Ent Tryz.prog 243 := ⟨enters_of Tryz.func243 (by kernel_rfl) rfl⟩
instance : Ent Tryz.prog 244 := ⟨enters_of Tryz.func244 (by kernel_rfl) rfl⟩
instance : Ent Tryz.prog 245 := ⟨enters_of Tryz.func245 (by kernel_rfl) rfl⟩
instance : Ent Tryz.prog 246 := ⟨enters_of Tryz.func246 (by kernel_rfl) rfl⟩
instance : Ent Tryz.prog 247 := ⟨enters_of Tryz.func247 (by kernel_rfl) rfl⟩
instance : Ent Tryz.prog 248 := ⟨enters_of Tryz.func248 (by kernel_rfl) rfl⟩
instance : Ent Tryz.prog 249 := ⟨enters_of Tryz.func249 (by kernel_rfl) rfl⟩
instance : Ent Tryz.prog 250 := ⟨enters_of Tryz.func250 (by kernel_rfl) rfl⟩
instance : Ent Tryz.prog 251 := ⟨enters_of Tryz.func251 (by kernel_rfl) rfl⟩
instance : Ent Tryz.prog 252 := ⟨enters_of Tryz.func252 (by kernel_rfl) rfl⟩
instance : Ent Tryz.prog 253 := ⟨enters_of Tryz.func253 (by kernel_rfl) rfl⟩
instance : Ent Tryz.prog 254 := ⟨enters_of Tryz.func254 (by kernel_rfl) rfl⟩
instance : Ent Tryz.prog 255 := ⟨enters_of Tryz.func255 (by kernel_rfl) rfl⟩
instance : Ent Tryz.prog 256 := ⟨enters_of Tryz.func256 (by kernel_rfl) rfl⟩
instance : Ent Tryz.prog 257 := ⟨enters_of Tryz.func257 (by kernel_rfl) rfl⟩
instance : Ent Tryz.prog 258 := ⟨enters_of Tryz.func258 (by kernel_rfl) rfl⟩
instance : Ent Tryz.prog 259 := ⟨enters_of Tryz.func259 (by kernel_rfl) rfl⟩
instance : Ent Tryz.prog 260 := ⟨enters_of Tryz.func260 (by kernel_rfl) rfl⟩
instance : Ent Tryz.prog 261 := ⟨enters_of Tryz.func261 (by kernel_rfl) rfl⟩
instance : Ent Tryz.prog 263 := ⟨enters_of Tryz.func263 (by kernel_rfl) rfl⟩
instance : Ent Tryz.prog 264 := ⟨enters_of Tryz.func264 (by kernel_rfl) rfl⟩
instance : Ent Tryz.prog 265 := ⟨enters_of Tryz.func265 (by kernel_rfl) rfl⟩
instance : Ent Tryz.prog 266 := ⟨enters_of Tryz.func266 (by kernel_rfl) rfl⟩
instance : Ent Tryz.prog 267 := ⟨enters_of Tryz.func267 (by kernel_rfl) rfl⟩
instance : Ent Tryz.prog 268 := ⟨enters_of Tryz.func268 (by kernel_rfl) rfl⟩
instance : Ent Tryz.prog 269 := ⟨enters_of Tryz.func269 (by kernel_rfl) rfl⟩
instance : Ent Tryz.prog 270 := ⟨enters_of Tryz.func270 (by kernel_rfl) rfl⟩
instance : Ent Tryz.prog 271 := ⟨enters_of Tryz.func271 (by kernel_rfl) rfl⟩
instance : Ent Tryz.prog 272 := ⟨enters_of Tryz.func272 (by kernel_rfl) rfl⟩
instance : Ent Tryz.prog 273 := ⟨enters_of Tryz.func273 (by kernel_rfl) rfl⟩
instance : Ent Tryz.prog 274 := ⟨enters_of Tryz.func274 (by kernel_rfl) rfl⟩
instance : Ent Tryz.prog 275 := ⟨enters_of Tryz.func275 (by kernel_rfl) rfl⟩
instance : Ent Tryz.prog 276 := ⟨enters_of Tryz.func276 (by kernel_rfl) rfl⟩
instance : Ent Tryz.prog 277 := ⟨enters_of Tryz.func277 (by kernel_rfl) rfl⟩
instance : Ent Tryz.prog 278 := ⟨enters_of Tryz.func278 (by kernel_rfl) rfl⟩
instance : Ent Tryz.prog 280 := ⟨enters_of Tryz.func280 (by kernel_rfl) rfl⟩
instance : Ent Tryz.prog 281 := ⟨enters_of Tryz.func281 (by kernel_rfl) rfl⟩
instance : Ent Tryz.prog 282 := ⟨enters_of Tryz.func282 (by kernel_rfl) rfl⟩
instance : Ent Tryz.prog 283 := ⟨enters_of Tryz.func283 (by kernel_rfl) rfl⟩
instance : Ent Tryz.prog 284 := ⟨enters_of Tryz.func284 (by kernel_rfl) rfl⟩
instance : Ent Tryz.prog 285 := ⟨enters_of Tryz.func285 (by kernel_rfl) rfl⟩
instance : Ent Tryz.prog 286 := ⟨enters_of Tryz.func286 (by kernel_rfl) rfl⟩
instance : Ent Tryz.prog 287 := ⟨enters_of Tryz.func287 (by kernel_rfl) rfl⟩
instance : Ent Tryz.prog 288 := ⟨enters_of Tryz.func288 (by kernel_rfl) rfl⟩
instance : Ent Tryz.prog 289 := ⟨enters_of Tryz.func289 (by kernel_rfl) rfl⟩
instance : Ent Tryz.prog 290 := ⟨enters_of Tryz.func290 (by kernel_rfl) rfl⟩
instance : Ent Tryz.prog 291 := ⟨enters_of Tryz.func291 (by kernel_rfl) rfl⟩
instance : Ent Tryz.prog 292 := ⟨enters_of Tryz.func292 (by kernel_rfl) rfl⟩
instance : Ent Tryz.prog 293 := ⟨enters_of Tryz.func293 (by kernel_rfl) rfl⟩
instance : Ent Tryz.prog 294 := ⟨enters_of Tryz.func294 (by kernel_rfl) rfl⟩
instance : Ent Tryz.prog 295 := ⟨enters_of Tryz.func295 (by kernel_rfl) rfl⟩
instance : Ent Tryz.prog 296 := ⟨enters_of Tryz.func296 (by kernel_rfl) rfl⟩
instance : Ent Tryz.prog 297 := ⟨enters_of Tryz.func297 (by kernel_rfl) rfl⟩
instance : Ent Tryz.prog 298 := ⟨enters_of Tryz.func298 (by kernel_rfl) rfl⟩
instance : Ent Tryz.prog 299 := ⟨enters_of Tryz.func299 (by kernel_rfl) rfl⟩
instance : Ent Tryz.prog 300 := ⟨enters_of Tryz.func300 (by kernel_rfl) rfl⟩
instance : Ent Tryz.prog 301 := ⟨enters_of Tryz.func301 (by kernel_rfl) rfl⟩
instance : Ent Tryz.prog 302 := ⟨enters_of Tryz.func302 (by kernel_rfl) rfl⟩
instance : Ent Tryz.prog 303 := ⟨enters_of Tryz.func303 (by kernel_rfl) rfl⟩
instance : Ent Tryz.prog 304 := ⟨enters_of Tryz.func304 (by kernel_rfl) rfl⟩
instance : Ent Tryz.prog 305 := ⟨enters_of Tryz.func305 (by kernel_rfl) rfl⟩
instance : Ent Tryz.prog 307 := ⟨enters_of Tryz.func307 (by kernel_rfl) rfl⟩
instance : Ent Tryz.prog 308 := ⟨enters_of Tryz.func308 (by kernel_rfl) rfl⟩
instance : Ent Tryz.prog 309 := ⟨enters_of Tryz.func309 (by kernel_rfl) rfl⟩
instance : Ent Tryz.prog 310 := ⟨enters_of Tryz.func310 (by kernel_rfl) rfl⟩
instance : Ent Tryz.prog 311 := ⟨enters_of Tryz.func311 (by kernel_rfl) rfl⟩
instance : Ent Tryz.prog 312 := ⟨enters_of Tryz.func312 (by kernel_rfl) rfl⟩
instance : Ent Tryz.prog 313 := ⟨enters_of Tryz.func313 (by kernel_rfl) rfl⟩
instance : Ent Tryz.prog 314 := ⟨enters_of Tryz.func314 (by kernel_rfl) rfl⟩
instance : Ent Tryz.prog 315 := ⟨enters_of Tryz.func315 (by kernel_rfl) rfl⟩
instance : Ent Tryz.prog 316 := ⟨enters_of Tryz.func316 (by kernel_rfl) rfl⟩
instance : Ent Tryz.prog 317 := ⟨enters_of Tryz.func317 (by kernel_rfl) rfl⟩
instance : Ent Tryz.prog 318 := ⟨enters_of Tryz.func318 (by kernel_rfl) rfl⟩
instance : Ent Tryz.prog 319 := ⟨enters_of Tryz.func319 (by kernel_rfl) rfl⟩
instance : Ent Tryz.prog 320 := ⟨enters_of Tryz.func320 (by kernel_rfl) rfl⟩
instance : Ent Tryz.prog 321 := ⟨enters_of Tryz.func321 (by kernel_rfl) rfl⟩
instance : Ent Tryz.prog 322 := ⟨enters_of Tryz.func322 (by kernel_rfl) rfl⟩
instance : Ent Tryz.prog 323 := ⟨enters_of Tryz.func323 (by kernel_rfl) rfl⟩
instance : Ent Tryz.prog 324 := ⟨enters_of Tryz.func324 (by kernel_rfl) rfl⟩
instance : Ent Tryz.prog 325 := ⟨enters_of Tryz.func325 (by kernel_rfl) rfl⟩
instance : Ent Tryz.prog 326 := ⟨enters_of Tryz.func326 (by kernel_rfl) rfl⟩
instance : Ent Tryz.prog 327 := ⟨enters_of Tryz.func327 (by kernel_rfl) rfl⟩
instance : Ent Tryz.prog 328 := ⟨enters_of Tryz.func328 (by kernel_rfl) rfl⟩
instance : Ent Tryz.prog 329 := ⟨enters_of Tryz.func329 (by kernel_rfl) rfl⟩
instance : Ent Tryz.prog 330 := ⟨enters_of Tryz.func330 (by kernel_rfl) rfl⟩
instance : Ent Tryz.prog 331 := ⟨enters_of Tryz.func331 (by kernel_rfl) rfl⟩
instance : Ent Tryz.prog 332 := ⟨enters_of Tryz.func332 (by kernel_rfl) rfl⟩
instance : Ent Tryz.prog 333 := ⟨enters_of Tryz.func333 (by kernel_rfl) rfl⟩
instance : Ent Tryz.prog 334 := ⟨enters_of Tryz.func334 (by kernel_rfl) rfl⟩
instance : Ent Tryz.prog 335 := ⟨enters_of Tryz.func335 (by kernel_rfl) rfl⟩
instance : Ent Tryz.prog 336 := ⟨enters_of Tryz.func336 (by kernel_rfl) rfl⟩
instance : Ent Tryz.prog 337 := ⟨enters_of Tryz.func337 (by kernel_rfl) rfl⟩
instance : Ent Tryz.prog 338 := ⟨enters_of Tryz.func338 (by kernel_rfl) rfl⟩
instance : Ent Tryz.prog 339 := ⟨enters_of Tryz.func339 (by kernel_rfl) rfl⟩
instance : Ent Tryz.prog 340 := ⟨enters_of Tryz.func340 (by kernel_rfl) rfl⟩
instance : Ent Tryz.prog 341 := ⟨enters_of Tryz.func341 (by kernel_rfl) rfl⟩
instance : Ent Tryz.prog 342 := ⟨enters_of Tryz.func342 (by kernel_rfl) rfl⟩
instance : Ent Tryz.prog 343 := ⟨enters_of Tryz.func343 (by kernel_rfl) rfl⟩
instance : Ent Tryz.prog 344 := ⟨enters_of Tryz.func344 (by kernel_rfl) rfl⟩
instance : Ent Tryz.prog 345 := ⟨enters_of Tryz.func345 (by kernel_rfl) rfl⟩
instance : Ent Tryz.prog 346 := ⟨enters_of Tryz.func346 (by kernel_rfl) rfl⟩
instance : Ent Tryz.prog 347 := ⟨enters_of Tryz.func347 (by kernel_rfl) rfl⟩
instance : Ent Tryz.prog 348 := ⟨enters_of Tryz.func348 (by kernel_rfl) rfl⟩
instance : Ent Tryz.prog 349 := ⟨enters_of Tryz.func349 (by kernel_rfl) rfl⟩
instance : Ent Tryz.prog 350 := ⟨enters_of Tryz.func350 (by kernel_rfl) rfl⟩
instance : Ent Tryz.prog 351 := ⟨enters_of Tryz.func351 (by kernel_rfl) rfl⟩
instance : Ent Tryz.prog 352 := ⟨enters_of Tryz.func352 (by kernel_rfl) rfl⟩
instance : Ent Tryz.prog 353 := ⟨enters_of Tryz.func353 (by kernel_rfl) rfl⟩
instance : Ent Tryz.prog 354 := ⟨enters_of Tryz.func354 (by kernel_rfl) rfl⟩
instance : Ent Tryz.prog 355 := ⟨enters_of Tryz.func355 (by kernel_rfl) rfl⟩
instance : Ent Tryz.prog 376 := ⟨enters_of Tryz.func376 (by kernel_rfl) rfl⟩
end Go.Proofs.YtbcadnjfegiakaaGreatDoor
namespace Go.Proofs.YtbcadnjfegiakaaGreatDoor

abbrev Sp := Int × Int
/-- the order of spans: by begin, then by end -/
def ltC (a b : Sp) : Prop := a.1 < b.1 ∨ (a.1 = b.1 ∧ a.2 < b.2)
instance (a b : Sp) : Decidable (ltC a b) := by unfold ltC; exact inferInstance
theorem ltC_sto : STO ltC where
  irr a := by unfold ltC; omega
  trans a b c := by unfold ltC; omega
  tri a b := by
    unfold ltC
    by_cases h : a.1 = b.1 ∧ a.2 = b.2
    · exact .inr (.inl (Prod.ext h.1 h.2))
    · omega
def conS (a b : Sp) : Bool := decide (a.1 ≤ b.1 ∧ b.2 ≤ a.2)
/-- of a list: contains no other one -/
def keepShort (l : List Sp) (s : Sp) : Bool := l.all fun t => !(conS s t) || decide (t = s)
/-- of a list: is in no other one -/
def keepLong (l : List Sp) (s : Sp) : Bool := l.all fun t => !(conS t s) || decide (t = s)
theorem keepShort_iff {l : List Sp} {s : Sp} : keepShort l s = true ↔ ∀ t ∈ l, s.1 ≤ t.1 → t.2 ≤ s.2 → t = s := by
  unfold keepShort conS
  rw [List.all_eq_true]
  refine forall_congr' fun t => forall_congr' fun ht => ?_
  by_cases h : t = s
  · simp [h]
  · simp [h]; omega
theorem keepLong_iff {l : List Sp} {s : Sp} : keepLong l s = true ↔ ∀ t ∈ l, t.1 ≤ s.1 → s.2 ≤ t.2 → t = s := by
  unfold keepLong conS
  rw [List.all_eq_true]
  refine forall_congr' fun t => forall_congr' fun ht => ?_
  by_cases h : t = s
  · simp [h]
  · simp [h]; omega
/-- two places of an ascending list -/
theorem asc_at {l : List Sp} (h : l.Pairwise ltC) {i j : Nat} {s t : Sp} (hs : l[i]? = some s) (ht : l[j]? = some t) (hij : i < j) : ltC s t := by
  obtain ⟨hi, rfl⟩ := List.getElem?_eq_some_iff.1 hs
  obtain ⟨hj, rfl⟩ := List.getElem?_eq_some_iff.1 ht
  exact List.pairwise_iff_getElem.1 h i j hi hj hij
theorem asc_le {l : List Sp} (h : l.Pairwise ltC) {i j : Nat} {s t : Sp} (hs : l[i]? = some s) (ht : l[j]? = some t) (hij : i ≤ j) : s = t ∨ ltC s t := by
  rcases Nat.lt_or_ge i j with h1 | h1
  · exact .inr (asc_at h hs ht h1)
  · have : i = j := by omega
    subst this; rw [hs] at ht; exact .inl (by injection ht)

/-! ### shortest: from the last one on -/
/-- the first one with its begin -/
def isFirst (l : List Sp) (j : Nat) (t : Sp) : Prop := l[j]? = some t ∧ (j = 0 ∨ ∀ u, l[j - 1]? = some u → u.1 ≠ t.1)
/-- of the first ones from place i on, least is the least end (−1: none) -/
def LeastOk (l : List Sp) (i : Nat) (least : Int) : Prop :=
  (least = -1 ∧ ∀ j t, i ≤ j → ¬ isFirst l j t) ∨ (0 < least ∧ (∃ j t, i ≤ j ∧ isFirst l j t ∧ t.2 = least) ∧ ∀ j t, i ≤ j → isFirst l j t → least ≤ t.2)
theorem first_of {l : List Sp} (h : l.Pairwise ltC) : ∀ (j : Nat) (t : Sp), l[j]? = some t → ∃ j' u, j' ≤ j ∧ isFirst l j' u ∧ u.1 = t.1 ∧ u.2 ≤ t.2
  | 0, t, ht => ⟨0, t, Nat.le_refl _, ⟨ht, .inl rfl⟩, rfl, Int.le_refl _⟩
  | j + 1, t, ht => by
    obtain ⟨v, hv⟩ : ∃ v, l[j]? = some v := ⟨_, List.getElem?_eq_getElem (by have := (List.getElem?_eq_some_iff.1 ht).1; omega)⟩
    by_cases e : v.1 = t.1
    · obtain ⟨j', u, h1, h2, h3, h4⟩ := first_of h j v hv
      have h5 := asc_at h hv ht (by omega)
      unfold ltC at h5
      exact ⟨j', u, by omega, h2, by omega, by omega⟩
    · refine ⟨j + 1, t, Nat.le_refl _, ⟨ht, .inr fun u hu => ?_⟩, rfl, Int.le_refl _⟩
      rw [Nat.add_sub_cancel, hv] at hu
      injection hu with hu
      rw [← hu]; exact e
theorem LeastOk.skip {l : List Sp} (h : l.Pairwise ltC) {i : Nat} {s t : Sp} {least : Int} (hs : l[i + 1]? = some s) (ht : l[i]? = some t) (e : t.1 = s.1) (hl : LeastOk l (i + 2) least) : keepShort l s = false ∧ LeastOk l (i + 1) least := by
  constructor
  · rw [Bool.eq_false_iff]
    intro hk
    have h1 := asc_at h ht hs (by omega)
    have := keepShort_iff.1 hk t (List.mem_of_getElem? ht) (by omega) (by unfold ltC at h1; omega)
    rw [this] at h1
    exact ltC_sto.irr s h1
  · have hn : ∀ j u, i + 1 ≤ j → isFirst l j u → i + 2 ≤ j := by
      intro j u hj hf
      by_cases hji : j = i + 1
      · subst hji
        exfalso
        rcases hf.2 with h0 | h0
        · omega
        · have hu : u = s := by have := hf.1; rw [hs] at this; injection this with this; exact this.symm
          subst hu
          exact h0 t ht e
      · omega
    rcases hl with ⟨h1, h2⟩ | ⟨h1, ⟨j, u, h2, h3, h4⟩, h5⟩
    · exact .inl ⟨h1, fun j u hj hf => h2 j u (hn j u hj hf) hf⟩
    · exact .inr ⟨h1, ⟨j, u, by omega, h3, h4⟩, fun j u hj hf => h5 j u (hn j u hj hf) hf⟩
theorem LeastOk.keep {l : List Sp} (h : l.Pairwise ltC) (hv : ∀ s ∈ l, 0 ≤ s.1 ∧ s.1 < s.2) {i : Nat} {s : Sp} {least : Int} (hf : isFirst l i s) (hl : LeastOk l (i + 1) least) (hk : least < 0 ∨ s.2 < least) : keepShort l s = true ∧ LeastOk l i s.2 := by
  have hs := hf.1
  constructor
  · refine keepShort_iff.2 fun t ht h1 h2 => ?_
    obtain ⟨j, hj, rfl⟩ := List.mem_iff_getElem.1 ht
    have hjs : l[j]? = some l[j] := List.getElem?_eq_getElem hj
    generalize l[j] = t at *
    rcases Nat.lt_trichotomy j i with h3 | h3 | h3
    · exfalso
      have h4 := asc_at h hjs hs h3
      unfold ltC at h4
      rcases hf.2 with h5 | h5
      · omega
      · obtain ⟨v, hvv⟩ : ∃ v, l[i - 1]? = some v := ⟨_, List.getElem?_eq_getElem (by have := (List.getElem?_eq_some_iff.1 hs).1; omega)⟩
        have h6 := asc_le h hjs hvv (by omega)
        have h7 := asc_at h hvv hs (by omega)
        have h8 := h5 v hvv
        unfold ltC at h6 h7
        rcases h6 with rfl | h6
        · omega
        · omega
    · subst h3
      rw [hs] at hjs; injection hjs with e; exact e.symm
    · exfalso
      have h4 := asc_at h hs hjs h3
      obtain ⟨j', u, k1, k2, k3, k4⟩ := first_of h j t hjs
      have hij : i + 1 ≤ j' := by
        by_cases hle : j' ≤ i
        · have h5 := asc_le h k2.1 hs hle
          unfold ltC at h4 h5
          rcases h5 with rfl | h5
          · omega
          · omega
        · omega
      rcases hl with ⟨l1, l2⟩ | ⟨l1, _, l3⟩
      · exact l2 j' u hij k2
      · have := l3 j' u hij k2
        omega
  · refine .inr ⟨by have := hv s (List.mem_of_getElem? hs); omega, ⟨i, s, Nat.le_refl _, hf, rfl⟩, fun j t hj ht => ?_⟩
    by_cases hji : j = i
    · subst hji
      have := ht.1; rw [hs] at this; injection this with this; rw [this]; exact Int.le_refl _
    · rcases hl with ⟨l1, l2⟩ | ⟨l1, _, l3⟩
      · exact absurd ht (l2 j t (by omega))
      · have := l3 j t (by omega) ht
        omega
theorem LeastOk.drop {l : List Sp} (h : l.Pairwise ltC) {i : Nat} {s : Sp} {least : Int} (hf : isFirst l i s) (hl : LeastOk l (i + 1) least) (hk : ¬ (least < 0 ∨ s.2 < least)) : keepShort l s = false ∧ LeastOk l i least := by
  rcases hl with ⟨l1, _⟩ | ⟨l1, ⟨j, t, l2, l3, l4⟩, l5⟩
  · omega
  · have h4 := asc_at h hf.1 l3.1 (by omega)
    constructor
    · rw [Bool.eq_false_iff]
      intro hkk
      have := keepShort_iff.1 hkk t (List.mem_of_getElem? l3.1) (by unfold ltC at h4; omega) (by omega)
      rw [this] at h4
      exact ltC_sto.irr s h4
    · refine .inr ⟨l1, ⟨j, t, by omega, l3, l4⟩, fun j' u hj hu => ?_⟩
      by_cases hji : j' = i
      · subst hji
        have := hu.1; rw [hf.1] at this; injection this with this; rw [← this]; omega
      · exact l5 j' u (by omega) hu

/-! ### longest: from the first one on -/
/-- the last one with its begin -/
def isLast (l : List Sp) (j : Nat) (t : Sp) : Prop := l[j]? = some t ∧ ∀ u, l[j + 1]? = some u → u.1 ≠ t.1
def MostOk (l : List Sp) (i : Nat) (most : Int) : Prop :=
  (most = -1 ∧ ∀ j t, j < i → ¬ isLast l j t) ∨ (0 < most ∧ (∃ j t, j < i ∧ isLast l j t ∧ t.2 = most) ∧ ∀ j t, j < i → isLast l j t → t.2 ≤ most)
theorem last_of {l : List Sp} (h : l.Pairwise ltC) : ∀ (n j : Nat) (t : Sp), l.length - j = n → l[j]? = some t → ∃ j' u, j ≤ j' ∧ isLast l j' u ∧ u.1 = t.1 ∧ t.2 ≤ u.2
  | 0, j, t, hn, ht => by have := (List.getElem?_eq_some_iff.1 ht).1; omega
  | n + 1, j, t, hn, ht => by
    cases hv : l[j + 1]? with
    | none => exact ⟨j, t, Nat.le_refl _, ⟨ht, fun u hu => by rw [hv] at hu; cases hu⟩, rfl, Int.le_refl _⟩
    | some v =>
      by_cases e : v.1 = t.1
      · obtain ⟨j', u, h1, h2, h3, h4⟩ := last_of h n (j + 1) v (by omega) hv
        have h5 := asc_at h ht hv (by omega)
        unfold ltC at h5
        exact ⟨j', u, by omega, h2, by omega, by omega⟩
      · exact ⟨j, t, Nat.le_refl _, ⟨ht, fun u hu => by rw [hv] at hu; injection hu with hu; rw [← hu]; exact e⟩, rfl, Int.le_refl _⟩
theorem MostOk.skip {l : List Sp} (h : l.Pairwise ltC) {i : Nat} {s t : Sp} {most : Int} (hs : l[i]? = some s) (ht : l[i + 1]? = some t) (e : t.1 = s.1) (hl : MostOk l i most) : keepLong l s = false ∧ MostOk l (i + 1) most := by
  constructor
  · rw [Bool.eq_false_iff]
    intro hk
    have h1 := asc_at h hs ht (by omega)
    have := keepLong_iff.1 hk t (List.mem_of_getElem? ht) (by omega) (by unfold ltC at h1; omega)
    rw [this] at h1
    exact ltC_sto.irr s h1
  · have hn : ∀ j u, j < i + 1 → isLast l j u → j < i := by
      intro j u hj hf
      by_cases hji : j = i
      · subst hji
        exfalso
        have hu : u = s := by have := hf.1; rw [hs] at this; injection this with this; exact this.symm
        subst hu
        exact hf.2 t ht e
      · omega
    rcases hl with ⟨h1, h2⟩ | ⟨h1, ⟨j, u, h2, h3, h4⟩, h5⟩
    · exact .inl ⟨h1, fun j u hj hf => h2 j u (hn j u hj hf) hf⟩
    · exact .inr ⟨h1, ⟨j, u, by omega, h3, h4⟩, fun j u hj hf => h5 j u (hn j u hj hf) hf⟩
theorem MostOk.keep {l : List Sp} (h : l.Pairwise ltC) (hv : ∀ s ∈ l, 0 ≤ s.1 ∧ s.1 < s.2) {i : Nat} {s : Sp} {most : Int} (hf : isLast l i s) (hl : MostOk l i most) (hk : most < s.2) : keepLong l s = true ∧ MostOk l (i + 1) s.2 := by
  have hs := hf.1
  constructor
  · refine keepLong_iff.2 fun t ht h1 h2 => ?_
    obtain ⟨j, hj, rfl⟩ := List.mem_iff_getElem.1 ht
    have hjs : l[j]? = some l[j] := List.getElem?_eq_getElem hj
    generalize l[j] = t at *
    rcases Nat.lt_trichotomy j i with h3 | h3 | h3
    · exfalso
      have h4 := asc_at h hjs hs h3
      obtain ⟨j', u, k1, k2, k3, k4⟩ := last_of h _ j t rfl hjs
      unfold ltC at h4
      have hij : j' < i := by
        by_cases hle : i ≤ j'
        · have h5 := asc_le h hs k2.1 hle
          unfold ltC at h5
          rcases h5 with rfl | h5
          · omega
          · omega
        · omega
      rcases hl with ⟨l1, l2⟩ | ⟨l1, _, l3⟩
      · exact l2 j' u hij k2
      · have := l3 j' u hij k2
        omega
    · subst h3
      rw [hs] at hjs; injection hjs with e; exact e.symm
    · exfalso
      have h4 := asc_at h hs hjs h3
      unfold ltC at h4
      obtain ⟨v, hvv⟩ : ∃ v, l[i + 1]? = some v := ⟨_, List.getElem?_eq_getElem (by omega)⟩
      have h6 := asc_at h hs hvv (by omega)
      have h7 := asc_le h hvv hjs (by omega)
      have h8 := hf.2 v hvv
      unfold ltC at h6 h7
      rcases h7 with rfl | h7
      · omega
      · omega
  · refine .inr ⟨by have := hv s (List.mem_of_getElem? hs); omega, ⟨i, s, by omega, hf, rfl⟩, fun j t hj ht => ?_⟩
    by_cases hji : j = i
    · subst hji
      have := ht.1; rw [hs] at this; injection this with this; rw [this]; exact Int.le_refl _
    · rcases hl with ⟨l1, l2⟩ | ⟨l1, _, l3⟩
      · exact absurd ht (l2 j t (by omega))
      · have := l3 j t (by omega) ht
        omega
theorem MostOk.drop {l : List Sp} (h : l.Pairwise ltC) (hv : ∀ s ∈ l, 0 ≤ s.1 ∧ s.1 < s.2) {i : Nat} {s : Sp} {most : Int} (hf : isLast l i s) (hl : MostOk l i most) (hk : ¬ most < s.2) : keepLong l s = false ∧ MostOk l (i + 1) most := by
  have hsv := hv s (List.mem_of_getElem? hf.1)
  rcases hl with ⟨l1, _⟩ | ⟨l1, ⟨j, t, l2, l3, l4⟩, l5⟩
  · omega
  · have h4 := asc_at h l3.1 hf.1 l2
    constructor
    · rw [Bool.eq_false_iff]
      intro hkk
      have := keepLong_iff.1 hkk t (List.mem_of_getElem? l3.1) (by unfold ltC at h4; omega) (by omega)
      rw [this] at h4
      exact ltC_sto.irr s h4
    · refine .inr ⟨l1, ⟨j, t, by omega, l3, l4⟩, fun j' u hj hu => ?_⟩
      by_cases hji : j' = i
      · subst hji
        have := hu.1; rw [hf.1] at this; injection this with this; rw [← this]; omega
      · exact l5 j' u (by omega) hu

end Go.Proofs.YtbcadnjfegiakaaGreatDoor
namespace Go.Proofs.YtbcadnjfegiakaaGreatDoor

/-- the order of lists of integers: by the first difference; a beginning comes first -/
def cmpL : List Int → List Int → Int
  | [], [] => 0
  | [], _ :: _ => -1
  | _ :: _, [] => 1
  | a :: l, b :: m => if a < b then -1 else if b < a then 1 else cmpL l m
def ltK (a b : List Int) : Prop := cmpL a b < 0
end Go.Proofs.YtbcadnjfegiakaaGreatDoor
namespace Go.Proofs.YtbcadnjfegiakaaGreatDoor

section
variable {α κ : Type} [DecidableEq κ] (key : α → κ) (lt : κ → κ → Prop) [DecidableRel lt]
def insB : List α → α → List α
  | [], s => [s]
  | x :: t, s => if lt (key x) (key s) then x :: insB t s else if key x = key s then x :: t else s :: x :: t
theorem insB_len (l : List α) (s : α) : (insB key lt l s).length ≤ l.length + 1 := by
  induction l with
  | nil => simp [insB]
  | cons x t ih =>
    rw [insB]
    split
    · simp only [List.length_cons]; omega
    · split <;> simp
theorem insB_sub (s : α) : ∀ (l : List α) (x : α), x ∈ insB key lt l s → x ∈ l ∨ x = s
  | [], x, h => by simp [insB] at h; exact .inr h
  | y :: t, x, h => by
    rw [insB] at h
    split at h
    · rcases List.mem_cons.1 h with rfl | h
      · exact .inl List.mem_cons_self
      · rcases insB_sub s t x h with h | h
        · exact .inl (List.mem_cons_of_mem _ h)
        · exact .inr h
    · split at h
      · exact .inl h
      · rcases List.mem_cons.1 h with rfl | h
        · exact .inr rfl
        · exact .inl h
theorem insB_key (s : α) : ∀ (l : List α) (k : κ), k ∈ (insB key lt l s).map key ↔ k ∈ l.map key ∨ k = key s
  | [], k => by simp [insB]
  | y :: t, k => by
    rw [insB]
    split
    · rw [List.map_cons, List.mem_cons, insB_key s t k, List.map_cons, List.mem_cons, or_assoc]
    · split
      · next h =>
        constructor
        · exact .inl
        · rintro (h1 | rfl)
          · exact h1
          · rw [← h]; exact List.mem_cons_self
      · rw [List.map_cons, List.mem_cons]
        constructor
        · rintro (h | h)
          · exact .inr h
          · exact .inl h
        · rintro (h | h)
          · exact .inr h
          · exact .inl h
theorem insB_sorted (hs : STO lt) (s : α) : ∀ l : List α, l.Pairwise (fun a b => lt (key a) (key b)) → (insB key lt l s).Pairwise (fun a b => lt (key a) (key b))
  | [], _ => by simp [insB]
  | y :: t, h => by
    have h' := List.pairwise_cons.1 h
    rw [insB]
    by_cases hy : lt (key y) (key s)
    · rw [if_pos hy, List.pairwise_cons]
      refine ⟨fun x hx => ?_, insB_sorted hs s t h'.2⟩
      rcases insB_sub key lt s t x hx with h1 | rfl
      · exact h'.1 x h1
      · exact hy
    · rw [if_neg hy]
      by_cases h2 : key y = key s
      · rw [if_pos h2]; exact h
      · rw [if_neg h2, List.pairwise_cons]
        have hsy : lt (key s) (key y) := by
          rcases hs.tri (key y) (key s) with h3 | h3 | h3
          · exact absurd h3 hy
          · exact absurd h3 h2
          · exact h3
        refine ⟨fun x hx => ?_, h⟩
        rcases List.mem_cons.1 hx with rfl | h3
        · exact hsy
        · exact hs.trans _ _ _ hsy (h'.1 x h3)
end
instance (a b : List Int) : Decidable (ltK a b) := by unfold ltK; exact inferInstance
/-! ### spans -/
abbrev insC (l : List Sp) (s : Sp) : List Sp := insB (fun s : Sp => s) ltC l s
theorem foldInsC (l : List Sp) : ∀ acc : List Sp, acc.Pairwise ltC → (l.foldl insC acc).Pairwise ltC ∧ ∀ x, x ∈ l.foldl insC acc ↔ x ∈ acc ∨ x ∈ l := by
  induction l with
  | nil => intro acc h; exact ⟨h, fun x => by simp⟩
  | cons s t ih =>
    intro acc h
    obtain ⟨h1, h2⟩ := ih (insC acc s) (insB_sorted _ _ ltC_sto s acc h)
    refine ⟨h1, fun x => ?_⟩
    have hk := insB_key (fun s : Sp => s) ltC s acc x
    simp only [List.map_id'] at hk
    rw [List.foldl_cons, h2 x, hk, List.mem_cons, or_assoc]
theorem refSpans_sorted (l : List Sp) : (l.foldl insC []).Pairwise ltC := (foldInsC l [] List.Pairwise.nil).1
theorem refSpans_mem (l : List Sp) (x : Sp) : x ∈ l.foldl insC [] ↔ x ∈ l := by
  rw [(foldInsC l [] List.Pairwise.nil).2 x]; simp
theorem foldInsC_len (l : List Sp) : ∀ acc : List Sp, (l.foldl insC acc).length ≤ acc.length + l.length := by
  induction l with
  | nil => intro acc; simp
  | cons s t ih =>
    intro acc
    have h1 := ih (insC acc s)
    have h2 : (insC acc s).length ≤ acc.length + 1 := insB_len (fun s : Sp => s) ltC acc s
    rw [List.foldl_cons, List.length_cons]; omega
end Go.Proofs.YtbcadnjfegiakaaGreatDoor
namespace Go.Proofs.YtbcadnjfegiakaaGreatDoor
open Go.RowKit

structure Mt where
  b : Int
  e : Int
  v : Value
  ls : List Int
def spm (m : Mt) : Sp := (m.b, m.e)
def keyM (m : Mt) : List Int := m.b :: m.e :: m.ls
def okS (s : Sp) : Prop := 0 ≤ s.1 ∧ s.1 < s.2
instance (s : Sp) : Decidable (okS s) := by unfold okS; exact inferInstance
def ascM (l : List Mt) : Prop := l.Pairwise fun a b => ltK (keyM a) (keyM b)
theorem ascM_adj {l : List Mt} (h : ascM l) {i : Nat} {a b : Mt} (ha : l[i]? = some a) (hb : l[i + 1]? = some b) : ltK (keyM a) (keyM b) := by
  obtain ⟨h1, rfl⟩ := List.getElem?_eq_some_iff.1 ha
  obtain ⟨h2, rfl⟩ := List.getElem?_eq_some_iff.1 hb
  exact List.pairwise_iff_getElem.1 h i (i + 1) h1 h2 (by omega)
instance (l : List Mt) : Decidable (ascM l) := by unfold ascM; exact inferInstance
def goodM (k : Int) (l : List Mt) : Prop := (0 ≤ k ∧ k ≤ 3) ∧ (∀ m ∈ l, okS (spm m)) ∧ ascM l
instance (k : Int) (l : List Mt) : Decidable (goodM k l) := by unfold goodM; exact inferInstance
def pickM (c : List Sp) (l : List Mt) : List Mt := l.filter fun m => decide (spm m ∈ c)
end Go.Proofs.YtbcadnjfegiakaaGreatDoor
namespace Go.Proofs.YtbcadnjfegiakaaGreatDoor
open Go.RowKit

def spansOf (l : List Sp) : List Sp := l.foldl insC []
theorem spansOf_sorted (l : List Sp) : (spansOf l).Pairwise ltC := refSpans_sorted l
theorem spansOf_mem (l : List Sp) (x : Sp) : x ∈ spansOf l ↔ x ∈ l := refSpans_mem l x
theorem spansOf_len (l : List Sp) : (spansOf l).length ≤ l.length := by
  have : (l.foldl insC []).length ≤ ([] : List Sp).length + l.length := foldInsC_len l []
  unfold spansOf
  simpa using this
theorem spansOf_eq {l m : List Sp} (hs : m.Pairwise ltC) (h : ∀ x, x ∈ m ↔ x ∈ l) : spansOf l = m :=
  sorted_ext ltC_sto _ _ (spansOf_sorted l) hs fun x => by rw [spansOf_mem, h]
def spM (l : List Mt) : List Sp := spansOf (l.map spm)
theorem spM_mem {l : List Mt} {s : Sp} : s ∈ spM l ↔ ∃ m ∈ l, spm m = s := by unfold spM; rw [spansOf_mem, List.mem_map]
theorem spM_sorted (l : List Mt) : (spM l).Pairwise ltC := spansOf_sorted _
theorem spM_len (l : List Mt) : (spM l).length ≤ l.length := by have := spansOf_len (l.map spm); rw [List.length_map] at this; exact this
theorem spM_ok {l : List Mt} (h : ∀ m ∈ l, okS (spm m)) : ∀ s ∈ spM l, 0 ≤ s.1 ∧ s.1 < s.2 := by
  intro s hs
  obtain ⟨m, hm, rfl⟩ := spM_mem.1 hs
  exact h m hm
end Go.Proofs.YtbcadnjfegiakaaGreatDoor
