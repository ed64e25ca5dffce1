/- Facts on the types and functions of the program, by program.
   Plain: spans in order, and what the strategies keep of them.
   Plain: matches, their order, and the matches of chosen spans.
   Plain: insertion into an ascending list from behind.
   Plain: matches and what a strategy keeps of them.
   Plain: what the laws about strategies say of lists. -/
import Derived.Test.YtpjdhokpfccahaaGreatDoorProg
import Derived.Test.YtpjdhokpfccahaaGreatDoorG2
namespace Go.Proofs.YtpjdhokpfccahaaGreatDoor

instance : IsOne Tryz.prog 1 := ⟨fun _ => by kernel_rfl, fun _ => by kernel_rfl⟩
instance : ElOf Tryz.prog 1 1 8 := elOf_mk (by kernel_rfl) (by decide)
instance : ZeroOf Tryz.prog 1 [.nilFunc] := ⟨.nilFunc, fun _ => by kernel_rfl, by kernel_rfl⟩
instance : IsOne Tryz.prog 2 := ⟨fun _ => by kernel_rfl, fun _ => by kernel_rfl⟩
instance : IntT Tryz.prog 2 .i64 := ⟨by kernel_rfl⟩
instance : ElOf Tryz.prog 2 1 8 := elOf_mk (by kernel_rfl) (by decide)
instance : ZeroOf Tryz.prog 2 [(.int .i64 0)] := ⟨(.int .i64 0), fun _ => by kernel_rfl, by kernel_rfl⟩
instance : IsOne Tryz.prog 3 := ⟨fun _ => by kernel_rfl, fun _ => by kernel_rfl⟩
instance : IntT Tryz.prog 3 .i64 := ⟨by kernel_rfl⟩
instance : ElOf Tryz.prog 3 1 8 := elOf_mk (by kernel_rfl) (by decide)
instance : ZeroOf Tryz.prog 3 [(.int .i64 0)] := ⟨(.int .i64 0), fun _ => by kernel_rfl, by kernel_rfl⟩
instance : IsOne Tryz.prog 4 := ⟨fun _ => by kernel_rfl, fun _ => by kernel_rfl⟩
instance : BoolT Tryz.prog 4 := ⟨by kernel_rfl⟩
instance : ElOf Tryz.prog 4 1 1 := elOf_mk (by kernel_rfl) (by decide)
instance : ZeroOf Tryz.prog 4 [(.bool false)] := ⟨(.bool false), fun _ => by kernel_rfl, by kernel_rfl⟩
instance : IsOne Tryz.prog 5 := ⟨fun _ => by kernel_rfl, fun _ => by kernel_rfl⟩
instance : IntT Tryz.prog 5 .u8 := ⟨by kernel_rfl⟩
instance : ElOf Tryz.prog 5 1 1 := elOf_mk (by kernel_rfl) (by decide)
instance : ZeroOf Tryz.prog 5 [(.int .u8 0)] := ⟨(.int .u8 0), fun _ => by kernel_rfl, by kernel_rfl⟩
instance : IsOne Tryz.prog 6 := ⟨fun _ => by kernel_rfl, fun _ => by kernel_rfl⟩
instance : IntT Tryz.prog 6 .u8 := ⟨by kernel_rfl⟩
instance : ElOf Tryz.prog 6 1 1 := elOf_mk (by kernel_rfl) (by decide)
instance : ZeroOf Tryz.prog 6 [(.int .u8 0)] := ⟨(.int .u8 0), fun _ => by kernel_rfl, by kernel_rfl⟩
instance : IsAgg Tryz.prog 7 4 := ⟨fun _ => by kernel_rfl, fun _ => by kernel_rfl⟩
instance : FldAt Tryz.prog 7 0 0 := ⟨fun _ _ _ => by kernel_rfl⟩
instance : FldAt Tryz.prog 7 1 1 := ⟨fun _ _ _ => by kernel_rfl⟩
instance : FldAt Tryz.prog 7 2 2 := ⟨fun _ _ _ => by kernel_rfl⟩
instance : FldAt Tryz.prog 7 3 3 := ⟨fun _ _ _ => by kernel_rfl⟩
instance : ElOf Tryz.prog 7 4 24 := elOf_mk (by kernel_rfl) (by decide)
instance : ZeroOf Tryz.prog 7 [(.int .i64 0), (.int .i64 0), (.bool false), (.int .u8 0)] := ⟨(.agg #[(.int .i64 0), (.int .i64 0), (.bool false), (.int .u8 0)]), fun _ => by kernel_rfl, by kernel_rfl⟩
instance : PlacesOf Tryz.prog 7 [(0, 1), (1, 1), (2, 1), (3, 1)] [(.int .i64 0), (.int .i64 0), (.bool false), (.int .u8 0)] := placesOf_mk (Tryz.prog.fieldsOf 7) (.agg #[(.int .i64 0), (.int .i64 0), (.bool false), (.int .u8 0)]) (fun _ => by kernel_rfl) (by kernel_rfl) (by kernel_rfl) (fun _ => by kernel_rfl)
instance : IsAgg Tryz.prog 8 4 := ⟨fun _ => by kernel_rfl, fun _ => by kernel_rfl⟩
instance : FldAt Tryz.prog 8 0 0 := ⟨fun _ _ _ => by kernel_rfl⟩
instance : FldAt Tryz.prog 8 1 1 := ⟨fun _ _ _ => by kernel_rfl⟩
instance : FldAt Tryz.prog 8 2 2 := ⟨fun _ _ _ => by kernel_rfl⟩
instance : FldAt Tryz.prog 8 3 3 := ⟨fun _ _ _ => by kernel_rfl⟩
instance : ElOf Tryz.prog 8 4 24 := elOf_mk (by kernel_rfl) (by decide)
instance : ZeroOf Tryz.prog 8 [(.int .i64 0), (.int .i64 0), (.bool false), (.int .u8 0)] := ⟨(.agg #[(.int .i64 0), (.int .i64 0), (.bool false), (.int .u8 0)]), fun _ => by kernel_rfl, by kernel_rfl⟩
instance : PlacesOf Tryz.prog 8 [(0, 1), (1, 1), (2, 1), (3, 1)] [(.int .i64 0), (.int .i64 0), (.bool false), (.int .u8 0)] := placesOf_mk (Tryz.prog.fieldsOf 8) (.agg #[(.int .i64 0), (.int .i64 0), (.bool false), (.int .u8 0)]) (fun _ => by kernel_rfl) (by kernel_rfl) (by kernel_rfl) (fun _ => by kernel_rfl)
instance : IsOne Tryz.prog 9 := ⟨fun _ => by kernel_rfl, fun _ => by kernel_rfl⟩
instance : NotInt Tryz.prog 9 := ⟨.inl (by kernel_rfl)⟩
instance : StrT Tryz.prog 9 := ⟨by kernel_rfl⟩
instance : ElOf Tryz.prog 9 1 16 := elOf_mk (by kernel_rfl) (by decide)
instance : ZeroOf Tryz.prog 9 [(.string ⟨#[]⟩)] := ⟨(.string ⟨#[]⟩), fun _ => by kernel_rfl, by kernel_rfl⟩
instance : IsOne Tryz.prog 10 := ⟨fun _ => by kernel_rfl, fun _ => by kernel_rfl⟩
instance : NotInt Tryz.prog 10 := ⟨.inl (by kernel_rfl)⟩
instance : StrT Tryz.prog 10 := ⟨by kernel_rfl⟩
instance : ElOf Tryz.prog 10 1 16 := elOf_mk (by kernel_rfl) (by decide)
instance : ZeroOf Tryz.prog 10 [(.string ⟨#[]⟩)] := ⟨(.string ⟨#[]⟩), fun _ => by kernel_rfl, by kernel_rfl⟩
instance : IsOne Tryz.prog 11 := ⟨fun _ => by kernel_rfl, fun _ => by kernel_rfl⟩
instance : NotInt Tryz.prog 11 := ⟨.inl (by kernel_rfl)⟩
instance : StrT Tryz.prog 11 := ⟨by kernel_rfl⟩
instance : ElOf Tryz.prog 11 1 16 := elOf_mk (by kernel_rfl) (by decide)
instance : ZeroOf Tryz.prog 11 [(.string ⟨#[]⟩)] := ⟨(.string ⟨#[]⟩), fun _ => by kernel_rfl, by kernel_rfl⟩
instance : IsOne Tryz.prog 12 := ⟨fun _ => by kernel_rfl, fun _ => by kernel_rfl⟩
instance : IntT Tryz.prog 12 .u64 := ⟨by kernel_rfl⟩
instance : ElOf Tryz.prog 12 1 8 := elOf_mk (by kernel_rfl) (by decide)
instance : ZeroOf Tryz.prog 12 [(.int .u64 0)] := ⟨(.int .u64 0), fun _ => by kernel_rfl, by kernel_rfl⟩
instance : IsAgg Tryz.prog 13 2 := ⟨fun _ => by kernel_rfl, fun _ => by kernel_rfl⟩
instance : FldAt Tryz.prog 13 0 0 := ⟨fun _ _ _ => by kernel_rfl⟩
instance : FldAt Tryz.prog 13 1 1 := ⟨fun _ _ _ => by kernel_rfl⟩
instance : ElOf Tryz.prog 13 2 24 := elOf_mk (by kernel_rfl) (by decide)
instance : ZeroOf Tryz.prog 13 [(.string ⟨#[]⟩), (.int .u64 0)] := ⟨(.agg #[(.string ⟨#[]⟩), (.int .u64 0)]), fun _ => by kernel_rfl, by kernel_rfl⟩
instance : PlacesOf Tryz.prog 13 [(0, 1), (1, 1)] [(.string ⟨#[]⟩), (.int .u64 0)] := placesOf_mk (Tryz.prog.fieldsOf 13) (.agg #[(.string ⟨#[]⟩), (.int .u64 0)]) (fun _ => by kernel_rfl) (by kernel_rfl) (by kernel_rfl) (fun _ => by kernel_rfl)
instance : IsAgg Tryz.prog 14 2 := ⟨fun _ => by kernel_rfl, fun _ => by kernel_rfl⟩
instance : FldAt Tryz.prog 14 0 0 := ⟨fun _ _ _ => by kernel_rfl⟩
instance : FldAt Tryz.prog 14 1 1 := ⟨fun _ _ _ => by kernel_rfl⟩
instance : ElOf Tryz.prog 14 2 24 := elOf_mk (by kernel_rfl) (by decide)
instance : ZeroOf Tryz.prog 14 [(.string ⟨#[]⟩), (.int .u64 0)] := ⟨(.agg #[(.string ⟨#[]⟩), (.int .u64 0)]), fun _ => by kernel_rfl, by kernel_rfl⟩
instance : PlacesOf Tryz.prog 14 [(0, 1), (1, 1)] [(.string ⟨#[]⟩), (.int .u64 0)] := placesOf_mk (Tryz.prog.fieldsOf 14) (.agg #[(.string ⟨#[]⟩), (.int .u64 0)]) (fun _ => by kernel_rfl) (by kernel_rfl) (by kernel_rfl) (fun _ => by kernel_rfl)
instance : IsOne Tryz.prog 15 := ⟨fun _ => by kernel_rfl, fun _ => by kernel_rfl⟩
instance : ElOf Tryz.prog 15 1 8 := elOf_mk (by kernel_rfl) (by decide)
instance : ZeroOf Tryz.prog 15 [(.pointer none)] := ⟨(.pointer none), fun _ => by kernel_rfl, by kernel_rfl⟩
instance : IsOne Tryz.prog 16 := ⟨fun _ => by kernel_rfl, fun _ => by kernel_rfl⟩
instance : ElOf Tryz.prog 16 1 8 := elOf_mk (by kernel_rfl) (by decide)
instance : ZeroOf Tryz.prog 16 [(.pointer none)] := ⟨(.pointer none), fun _ => by kernel_rfl, by kernel_rfl⟩
instance : IsOne Tryz.prog 17 := ⟨fun _ => by kernel_rfl, fun _ => by kernel_rfl⟩
instance : ElOf Tryz.prog 17 1 8 := elOf_mk (by kernel_rfl) (by decide)
instance : ZeroOf Tryz.prog 17 [(.pointer none)] := ⟨(.pointer none), fun _ => by kernel_rfl, by kernel_rfl⟩
instance : IsAgg Tryz.prog 18 1 := ⟨fun _ => by kernel_rfl, fun _ => by kernel_rfl⟩
instance : FldAt Tryz.prog 18 0 0 := ⟨fun _ _ _ => by kernel_rfl⟩
instance : ElOf Tryz.prog 18 1 8 := elOf_mk (by kernel_rfl) (by decide)
instance : ZeroOf Tryz.prog 18 [(.pointer none)] := ⟨(.agg #[(.pointer none)]), fun _ => by kernel_rfl, by kernel_rfl⟩
instance : PlacesOf Tryz.prog 18 [(0, 1)] [(.pointer none)] := placesOf_mk (Tryz.prog.fieldsOf 18) (.agg #[(.pointer none)]) (fun _ => by kernel_rfl) (by kernel_rfl) (by kernel_rfl) (fun _ => by kernel_rfl)
instance : IsAgg Tryz.prog 19 1 := ⟨fun _ => by kernel_rfl, fun _ => by kernel_rfl⟩
instance : FldAt Tryz.prog 19 0 0 := ⟨fun _ _ _ => by kernel_rfl⟩
instance : ElOf Tryz.prog 19 1 8 := elOf_mk (by kernel_rfl) (by decide)
instance : ZeroOf Tryz.prog 19 [(.pointer none)] := ⟨(.agg #[(.pointer none)]), fun _ => by kernel_rfl, by kernel_rfl⟩
instance : PlacesOf Tryz.prog 19 [(0, 1)] [(.pointer none)] := placesOf_mk (Tryz.prog.fieldsOf 19) (.agg #[(.pointer none)]) (fun _ => by kernel_rfl) (by kernel_rfl) (by kernel_rfl) (fun _ => by kernel_rfl)
instance : IsOne Tryz.prog 20 := ⟨fun _ => by kernel_rfl, fun _ => by kernel_rfl⟩
instance : ElOf Tryz.prog 20 1 16 := elOf_mk (by kernel_rfl) (by decide)
instance : ZeroOf Tryz.prog 20 [.nilIface] := ⟨.nilIface, fun _ => by kernel_rfl, by kernel_rfl⟩
instance : IsOne Tryz.prog 21 := ⟨fun _ => by kernel_rfl, fun _ => by kernel_rfl⟩
instance : IntT Tryz.prog 21 .i32 := ⟨by kernel_rfl⟩
instance : ElOf Tryz.prog 21 1 4 := elOf_mk (by kernel_rfl) (by decide)
instance : ZeroOf Tryz.prog 21 [(.int .i32 0)] := ⟨(.int .i32 0), fun _ => by kernel_rfl, by kernel_rfl⟩
instance : IsOne Tryz.prog 22 := ⟨fun _ => by kernel_rfl, fun _ => by kernel_rfl⟩
instance : NotInt Tryz.prog 22 := ⟨.inr ⟨44, by kernel_rfl⟩⟩
instance : SlOf Tryz.prog 22 44 2 := ⟨by kernel_rfl, fun _ => by kernel_rfl⟩
instance : ElOf Tryz.prog 22 1 24 := elOf_mk (by kernel_rfl) (by decide)
instance : ZeroOf Tryz.prog 22 [(.slice none 0 0)] := ⟨(.slice none 0 0), fun _ => by kernel_rfl, by kernel_rfl⟩
instance : IsOne Tryz.prog 23 := ⟨fun _ => by kernel_rfl, fun _ => by kernel_rfl⟩
instance : NotInt Tryz.prog 23 := ⟨.inr ⟨28, by kernel_rfl⟩⟩
instance : SlOf Tryz.prog 23 28 1 := ⟨by kernel_rfl, fun _ => by kernel_rfl⟩
instance : ElOf Tryz.prog 23 1 24 := elOf_mk (by kernel_rfl) (by decide)
instance : ZeroOf Tryz.prog 23 [(.slice none 0 0)] := ⟨(.slice none 0 0), fun _ => by kernel_rfl, by kernel_rfl⟩
instance : IsOne Tryz.prog 24 := ⟨fun _ => by kernel_rfl, fun _ => by kernel_rfl⟩
instance : NotInt Tryz.prog 24 := ⟨.inr ⟨86, by kernel_rfl⟩⟩
instance : SlOf Tryz.prog 24 86 4 := ⟨by kernel_rfl, fun _ => by kernel_rfl⟩
instance : ElOf Tryz.prog 24 1 24 := elOf_mk (by kernel_rfl) (by decide)
instance : ZeroOf Tryz.prog 24 [(.slice none 0 0)] := ⟨(.slice none 0 0), fun _ => by kernel_rfl, by kernel_rfl⟩
instance : IsOne Tryz.prog 25 := ⟨fun _ => by kernel_rfl, fun _ => by kernel_rfl⟩
instance : NotInt Tryz.prog 25 := ⟨.inr ⟨84, by kernel_rfl⟩⟩
instance : SlOf Tryz.prog 25 84 4 := ⟨by kernel_rfl, fun _ => by kernel_rfl⟩
instance : ElOf Tryz.prog 25 1 24 := elOf_mk (by kernel_rfl) (by decide)
instance : ZeroOf Tryz.prog 25 [(.slice none 0 0)] := ⟨(.slice none 0 0), fun _ => by kernel_rfl, by kernel_rfl⟩
instance : IsOne Tryz.prog 26 := ⟨fun _ => by kernel_rfl, fun _ => by kernel_rfl⟩
instance : NotInt Tryz.prog 26 := ⟨.inr ⟨89, by kernel_rfl⟩⟩
instance : SlOf Tryz.prog 26 89 4 := ⟨by kernel_rfl, fun _ => by kernel_rfl⟩
instance : ElOf Tryz.prog 26 1 24 := elOf_mk (by kernel_rfl) (by decide)
instance : ZeroOf Tryz.prog 26 [(.slice none 0 0)] := ⟨(.slice none 0 0), fun _ => by kernel_rfl, by kernel_rfl⟩
instance : IsOne Tryz.prog 27 := ⟨fun _ => by kernel_rfl, fun _ => by kernel_rfl⟩
instance : NotInt Tryz.prog 27 := ⟨.inr ⟨3, by kernel_rfl⟩⟩
instance : SlOf Tryz.prog 27 3 1 := ⟨by kernel_rfl, fun _ => by kernel_rfl⟩
instance : ElOf Tryz.prog 27 1 24 := elOf_mk (by kernel_rfl) (by decide)
instance : ZeroOf Tryz.prog 27 [(.slice none 0 0)] := ⟨(.slice none 0 0), fun _ => by kernel_rfl, by kernel_rfl⟩
instance : IsOne Tryz.prog 28 := ⟨fun _ => by kernel_rfl, fun _ => by kernel_rfl⟩
instance : NotInt Tryz.prog 28 := ⟨.inr ⟨9, by kernel_rfl⟩⟩
instance : SlOf Tryz.prog 28 9 1 := ⟨by kernel_rfl, fun _ => by kernel_rfl⟩
instance : ElOf Tryz.prog 28 1 24 := elOf_mk (by kernel_rfl) (by decide)
instance : ZeroOf Tryz.prog 28 [(.slice none 0 0)] := ⟨(.slice none 0 0), fun _ => by kernel_rfl, by kernel_rfl⟩
instance : IsAgg Tryz.prog 29 7 := ⟨fun _ => by kernel_rfl, fun _ => by kernel_rfl⟩
instance : FldAt Tryz.prog 29 0 0 := ⟨fun _ _ _ => by kernel_rfl⟩
instance : FldAt Tryz.prog 29 1 1 := ⟨fun _ _ _ => by kernel_rfl⟩
instance : FldAt Tryz.prog 29 2 2 := ⟨fun _ _ _ => by kernel_rfl⟩
instance : FldAt Tryz.prog 29 3 3 := ⟨fun _ _ _ => by kernel_rfl⟩
instance : FldAt Tryz.prog 29 4 4 := ⟨fun _ _ _ => by kernel_rfl⟩
instance : FldAt Tryz.prog 29 5 5 := ⟨fun _ _ _ => by kernel_rfl⟩
instance : FldAt Tryz.prog 29 6 6 := ⟨fun _ _ _ => by kernel_rfl⟩
instance : ElOf Tryz.prog 29 7 168 := elOf_mk (by kernel_rfl) (by decide)
instance : ZeroOf Tryz.prog 29 [(.slice none 0 0), (.slice none 0 0), (.slice none 0 0), (.slice none 0 0), (.slice none 0 0), (.slice none 0 0), (.slice none 0 0)] := ⟨(.agg #[(.slice none 0 0), (.slice none 0 0), (.slice none 0 0), (.slice none 0 0), (.slice none 0 0), (.slice none 0 0), (.slice none 0 0)]), fun _ => by kernel_rfl, by kernel_rfl⟩
instance : PlacesOf Tryz.prog 29 [(0, 1), (1, 1), (2, 1), (3, 1), (4, 1), (5, 1), (6, 1)] [(.slice none 0 0), (.slice none 0 0), (.slice none 0 0), (.slice none 0 0), (.slice none 0 0), (.slice none 0 0), (.slice none 0 0)] := placesOf_mk (Tryz.prog.fieldsOf 29) (.agg #[(.slice none 0 0), (.slice none 0 0), (.slice none 0 0), (.slice none 0 0), (.slice none 0 0), (.slice none 0 0), (.slice none 0 0)]) (fun _ => by kernel_rfl) (by kernel_rfl) (by kernel_rfl) (fun _ => by kernel_rfl)
instance : IsAgg Tryz.prog 30 7 := ⟨fun _ => by kernel_rfl, fun _ => by kernel_rfl⟩
instance : FldAt Tryz.prog 30 0 0 := ⟨fun _ _ _ => by kernel_rfl⟩
instance : FldAt Tryz.prog 30 1 1 := ⟨fun _ _ _ => by kernel_rfl⟩
instance : FldAt Tryz.prog 30 2 2 := ⟨fun _ _ _ => by kernel_rfl⟩
instance : FldAt Tryz.prog 30 3 3 := ⟨fun _ _ _ => by kernel_rfl⟩
instance : FldAt Tryz.prog 30 4 4 := ⟨fun _ _ _ => by kernel_rfl⟩
instance : FldAt Tryz.prog 30 5 5 := ⟨fun _ _ _ => by kernel_rfl⟩
instance : FldAt Tryz.prog 30 6 6 := ⟨fun _ _ _ => by kernel_rfl⟩
instance : ElOf Tryz.prog 30 7 168 := elOf_mk (by kernel_rfl) (by decide)
instance : ZeroOf Tryz.prog 30 [(.slice none 0 0), (.slice none 0 0), (.slice none 0 0), (.slice none 0 0), (.slice none 0 0), (.slice none 0 0), (.slice none 0 0)] := ⟨(.agg #[(.slice none 0 0), (.slice none 0 0), (.slice none 0 0), (.slice none 0 0), (.slice none 0 0), (.slice none 0 0), (.slice none 0 0)]), fun _ => by kernel_rfl, by kernel_rfl⟩
instance : PlacesOf Tryz.prog 30 [(0, 1), (1, 1), (2, 1), (3, 1), (4, 1), (5, 1), (6, 1)] [(.slice none 0 0), (.slice none 0 0), (.slice none 0 0), (.slice none 0 0), (.slice none 0 0), (.slice none 0 0), (.slice none 0 0)] := placesOf_mk (Tryz.prog.fieldsOf 30) (.agg #[(.slice none 0 0), (.slice none 0 0), (.slice none 0 0), (.slice none 0 0), (.slice none 0 0), (.slice none 0 0), (.slice none 0 0)]) (fun _ => by kernel_rfl) (by kernel_rfl) (by kernel_rfl) (fun _ => by kernel_rfl)
instance : IsOne Tryz.prog 31 := ⟨fun _ => by kernel_rfl, fun _ => by kernel_rfl⟩
instance : ElOf Tryz.prog 31 1 8 := elOf_mk (by kernel_rfl) (by decide)
instance : ZeroOf Tryz.prog 31 [.nilFunc] := ⟨.nilFunc, fun _ => by kernel_rfl, by kernel_rfl⟩
instance : IsOne Tryz.prog 32 := ⟨fun _ => by kernel_rfl, fun _ => by kernel_rfl⟩
instance : IntT Tryz.prog 32 .i64 := ⟨by kernel_rfl⟩
instance : ElOf Tryz.prog 32 1 8 := elOf_mk (by kernel_rfl) (by decide)
instance : ZeroOf Tryz.prog 32 [(.int .i64 0)] := ⟨(.int .i64 0), fun _ => by kernel_rfl, by kernel_rfl⟩
instance : IsOne Tryz.prog 33 := ⟨fun _ => by kernel_rfl, fun _ => by kernel_rfl⟩
instance : ElOf Tryz.prog 33 1 8 := elOf_mk (by kernel_rfl) (by decide)
instance : ZeroOf Tryz.prog 33 [.nilFunc] := ⟨.nilFunc, fun _ => by kernel_rfl, by kernel_rfl⟩
instance : IsOne Tryz.prog 34 := ⟨fun _ => by kernel_rfl, fun _ => by kernel_rfl⟩
instance : NotInt Tryz.prog 34 := ⟨.inr ⟨98, by kernel_rfl⟩⟩
instance : SlOf Tryz.prog 34 98 2 := ⟨by kernel_rfl, fun _ => by kernel_rfl⟩
instance : ElOf Tryz.prog 34 1 24 := elOf_mk (by kernel_rfl) (by decide)
instance : ZeroOf Tryz.prog 34 [(.slice none 0 0)] := ⟨(.slice none 0 0), fun _ => by kernel_rfl, by kernel_rfl⟩
instance : IsOne Tryz.prog 35 := ⟨fun _ => by kernel_rfl, fun _ => by kernel_rfl⟩
instance : NotInt Tryz.prog 35 := ⟨.inr ⟨37, by kernel_rfl⟩⟩
instance : SlOf Tryz.prog 35 37 5 := ⟨by kernel_rfl, fun _ => by kernel_rfl⟩
instance : ElOf Tryz.prog 35 1 24 := elOf_mk (by kernel_rfl) (by decide)
instance : ZeroOf Tryz.prog 35 [(.slice none 0 0)] := ⟨(.slice none 0 0), fun _ => by kernel_rfl, by kernel_rfl⟩
instance : IsAgg Tryz.prog 36 5 := ⟨fun _ => by kernel_rfl, fun _ => by kernel_rfl⟩
instance : FldAt Tryz.prog 36 0 0 := ⟨fun _ _ _ => by kernel_rfl⟩
instance : FldAt Tryz.prog 36 1 1 := ⟨fun _ _ _ => by kernel_rfl⟩
instance : FldAt Tryz.prog 36 2 2 := ⟨fun _ _ _ => by kernel_rfl⟩
instance : FldAt Tryz.prog 36 3 3 := ⟨fun _ _ _ => by kernel_rfl⟩
instance : FldAt Tryz.prog 36 4 4 := ⟨fun _ _ _ => by kernel_rfl⟩
instance : ElOf Tryz.prog 36 5 72 := elOf_mk (by kernel_rfl) (by decide)
instance : ZeroOf Tryz.prog 36 [(.int .i64 0), (.int .i64 0), (.int .i64 0), (.slice none 0 0), (.slice none 0 0)] := ⟨(.agg #[(.int .i64 0), (.int .i64 0), (.int .i64 0), (.slice none 0 0), (.slice none 0 0)]), fun _ => by kernel_rfl, by kernel_rfl⟩
instance : PlacesOf Tryz.prog 36 [(0, 1), (1, 1), (2, 1), (3, 1), (4, 1)] [(.int .i64 0), (.int .i64 0), (.int .i64 0), (.slice none 0 0), (.slice none 0 0)] := placesOf_mk (Tryz.prog.fieldsOf 36) (.agg #[(.int .i64 0), (.int .i64 0), (.int .i64 0), (.slice none 0 0), (.slice none 0 0)]) (fun _ => by kernel_rfl) (by kernel_rfl) (by kernel_rfl) (fun _ => by kernel_rfl)
instance : IsAgg Tryz.prog 37 5 := ⟨fun _ => by kernel_rfl, fun _ => by kernel_rfl⟩
instance : FldAt Tryz.prog 37 0 0 := ⟨fun _ _ _ => by kernel_rfl⟩
instance : FldAt Tryz.prog 37 1 1 := ⟨fun _ _ _ => by kernel_rfl⟩
instance : FldAt Tryz.prog 37 2 2 := ⟨fun _ _ _ => by kernel_rfl⟩
instance : FldAt Tryz.prog 37 3 3 := ⟨fun _ _ _ => by kernel_rfl⟩
instance : FldAt Tryz.prog 37 4 4 := ⟨fun _ _ _ => by kernel_rfl⟩
instance : ElOf Tryz.prog 37 5 72 := elOf_mk (by kernel_rfl) (by decide)
instance : ZeroOf Tryz.prog 37 [(.int .i64 0), (.int .i64 0), (.int .i64 0), (.slice none 0 0), (.slice none 0 0)] := ⟨(.agg #[(.int .i64 0), (.int .i64 0), (.int .i64 0), (.slice none 0 0), (.slice none 0 0)]), fun _ => by kernel_rfl, by kernel_rfl⟩
instance : PlacesOf Tryz.prog 37 [(0, 1), (1, 1), (2, 1), (3, 1), (4, 1)] [(.int .i64 0), (.int .i64 0), (.int .i64 0), (.slice none 0 0), (.slice none 0 0)] := placesOf_mk (Tryz.prog.fieldsOf 37) (.agg #[(.int .i64 0), (.int .i64 0), (.int .i64 0), (.slice none 0 0), (.slice none 0 0)]) (fun _ => by kernel_rfl) (by kernel_rfl) (by kernel_rfl) (fun _ => by kernel_rfl)
instance : IsOne Tryz.prog 39 := ⟨fun _ => by kernel_rfl, fun _ => by kernel_rfl⟩
instance : ElOf Tryz.prog 39 1 8 := elOf_mk (by kernel_rfl) (by decide)
instance : ZeroOf Tryz.prog 39 [.nilFunc] := ⟨.nilFunc, fun _ => by kernel_rfl, by kernel_rfl⟩
instance : IsOne Tryz.prog 40 := ⟨fun _ => by kernel_rfl, fun _ => by kernel_rfl⟩
instance : ElOf Tryz.prog 40 1 8 := elOf_mk (by kernel_rfl) (by decide)
instance : ZeroOf Tryz.prog 40 [.nilFunc] := ⟨.nilFunc, fun _ => by kernel_rfl, by kernel_rfl⟩
instance : IsOne Tryz.prog 42 := ⟨fun _ => by kernel_rfl, fun _ => by kernel_rfl⟩
instance : ElOf Tryz.prog 42 1 8 := elOf_mk (by kernel_rfl) (by decide)
instance : ZeroOf Tryz.prog 42 [.nilFunc] := ⟨.nilFunc, fun _ => by kernel_rfl, by kernel_rfl⟩
instance : IsAgg Tryz.prog 43 2 := ⟨fun _ => by kernel_rfl, fun _ => by kernel_rfl⟩
instance : FldAt Tryz.prog 43 0 0 := ⟨fun _ _ _ => by kernel_rfl⟩
instance : FldAt Tryz.prog 43 1 1 := ⟨fun _ _ _ => by kernel_rfl⟩
instance : ElOf Tryz.prog 43 2 24 := elOf_mk (by kernel_rfl) (by decide)
instance : ZeroOf Tryz.prog 43 [(.string ⟨#[]⟩), (.bool false)] := ⟨(.agg #[(.string ⟨#[]⟩), (.bool false)]), fun _ => by kernel_rfl, by kernel_rfl⟩
instance : PlacesOf Tryz.prog 43 [(0, 1), (1, 1)] [(.string ⟨#[]⟩), (.bool false)] := placesOf_mk (Tryz.prog.fieldsOf 43) (.agg #[(.string ⟨#[]⟩), (.bool false)]) (fun _ => by kernel_rfl) (by kernel_rfl) (by kernel_rfl) (fun _ => by kernel_rfl)
instance : IsAgg Tryz.prog 44 2 := ⟨fun _ => by kernel_rfl, fun _ => by kernel_rfl⟩
instance : FldAt Tryz.prog 44 0 0 := ⟨fun _ _ _ => by kernel_rfl⟩
instance : FldAt Tryz.prog 44 1 1 := ⟨fun _ _ _ => by kernel_rfl⟩
set_option maxRecDepth 100000 in
instance : FlatEq Tryz.prog 44 [.str, .bool] := ⟨by kernel_rfl, .cons (by kernel_rfl) (of_decide_eq_true (by kernel_rfl)) (fun _ => by kernel_rfl) (by kernel_rfl) (.cons (by kernel_rfl) (of_decide_eq_true (by kernel_rfl)) (fun _ => by kernel_rfl) (by kernel_rfl) (.nil)), by kernel_rfl, by kernel_rfl⟩
instance : ElOf Tryz.prog 44 2 24 := elOf_mk (by kernel_rfl) (by decide)
instance : ZeroOf Tryz.prog 44 [(.string ⟨#[]⟩), (.bool false)] := ⟨(.agg #[(.string ⟨#[]⟩), (.bool false)]), fun _ => by kernel_rfl, by kernel_rfl⟩
instance : PlacesOf Tryz.prog 44 [(0, 1), (1, 1)] [(.string ⟨#[]⟩), (.bool false)] := placesOf_mk (Tryz.prog.fieldsOf 44) (.agg #[(.string ⟨#[]⟩), (.bool false)]) (fun _ => by kernel_rfl) (by kernel_rfl) (by kernel_rfl) (fun _ => by kernel_rfl)
instance : IsOne Tryz.prog 46 := ⟨fun _ => by kernel_rfl, fun _ => by kernel_rfl⟩
instance : ElOf Tryz.prog 46 1 8 := elOf_mk (by kernel_rfl) (by decide)
instance : ZeroOf Tryz.prog 46 [.nilFunc] := ⟨.nilFunc, fun _ => by kernel_rfl, by kernel_rfl⟩
instance : IsOne Tryz.prog 47 := ⟨fun _ => by kernel_rfl, fun _ => by kernel_rfl⟩
instance : NotInt Tryz.prog 47 := ⟨.inr ⟨49, by kernel_rfl⟩⟩
instance : SlOf Tryz.prog 47 49 7 := ⟨by kernel_rfl, fun _ => by kernel_rfl⟩
instance : ElOf Tryz.prog 47 1 24 := elOf_mk (by kernel_rfl) (by decide)
instance : ZeroOf Tryz.prog 47 [(.slice none 0 0)] := ⟨(.slice none 0 0), fun _ => by kernel_rfl, by kernel_rfl⟩
instance : IsAgg Tryz.prog 48 7 := ⟨fun _ => by kernel_rfl, fun _ => by kernel_rfl⟩
instance : FldAt Tryz.prog 48 0 0 := ⟨fun _ _ _ => by kernel_rfl⟩
instance : FldAt Tryz.prog 48 1 1 := ⟨fun _ _ _ => by kernel_rfl⟩
instance : FldAt Tryz.prog 48 2 2 := ⟨fun _ _ _ => by kernel_rfl⟩
instance : FldAt Tryz.prog 48 3 3 := ⟨fun _ _ _ => by kernel_rfl⟩
instance : FldAt Tryz.prog 48 4 4 := ⟨fun _ _ _ => by kernel_rfl⟩
instance : FldAt Tryz.prog 48 5 5 := ⟨fun _ _ _ => by kernel_rfl⟩
instance : FldAt Tryz.prog 48 6 6 := ⟨fun _ _ _ => by kernel_rfl⟩
instance : ElOf Tryz.prog 48 7 104 := elOf_mk (by kernel_rfl) (by decide)
instance : ZeroOf Tryz.prog 48 [(.int .i64 0), (.string ⟨#[]⟩), (.string ⟨#[]⟩), (.string ⟨#[]⟩), (.string ⟨#[]⟩), (.bool false), (.slice none 0 0)] := ⟨(.agg #[(.int .i64 0), (.string ⟨#[]⟩), (.string ⟨#[]⟩), (.string ⟨#[]⟩), (.string ⟨#[]⟩), (.bool false), (.slice none 0 0)]), fun _ => by kernel_rfl, by kernel_rfl⟩
instance : PlacesOf Tryz.prog 48 [(0, 1), (1, 1), (2, 1), (3, 1), (4, 1), (5, 1), (6, 1)] [(.int .i64 0), (.string ⟨#[]⟩), (.string ⟨#[]⟩), (.string ⟨#[]⟩), (.string ⟨#[]⟩), (.bool false), (.slice none 0 0)] := placesOf_mk (Tryz.prog.fieldsOf 48) (.agg #[(.int .i64 0), (.string ⟨#[]⟩), (.string ⟨#[]⟩), (.string ⟨#[]⟩), (.string ⟨#[]⟩), (.bool false), (.slice none 0 0)]) (fun _ => by kernel_rfl) (by kernel_rfl) (by kernel_rfl) (fun _ => by kernel_rfl)
instance : IsAgg Tryz.prog 49 7 := ⟨fun _ => by kernel_rfl, fun _ => by kernel_rfl⟩
instance : FldAt Tryz.prog 49 0 0 := ⟨fun _ _ _ => by kernel_rfl⟩
instance : FldAt Tryz.prog 49 1 1 := ⟨fun _ _ _ => by kernel_rfl⟩
instance : FldAt Tryz.prog 49 2 2 := ⟨fun _ _ _ => by kernel_rfl⟩
instance : FldAt Tryz.prog 49 3 3 := ⟨fun _ _ _ => by kernel_rfl⟩
instance : FldAt Tryz.prog 49 4 4 := ⟨fun _ _ _ => by kernel_rfl⟩
instance : FldAt Tryz.prog 49 5 5 := ⟨fun _ _ _ => by kernel_rfl⟩
instance : FldAt Tryz.prog 49 6 6 := ⟨fun _ _ _ => by kernel_rfl⟩
instance : ElOf Tryz.prog 49 7 104 := elOf_mk (by kernel_rfl) (by decide)
instance : ZeroOf Tryz.prog 49 [(.int .i64 0), (.string ⟨#[]⟩), (.string ⟨#[]⟩), (.string ⟨#[]⟩), (.string ⟨#[]⟩), (.bool false), (.slice none 0 0)] := ⟨(.agg #[(.int .i64 0), (.string ⟨#[]⟩), (.string ⟨#[]⟩), (.string ⟨#[]⟩), (.string ⟨#[]⟩), (.bool false), (.slice none 0 0)]), fun _ => by kernel_rfl, by kernel_rfl⟩
instance : PlacesOf Tryz.prog 49 [(0, 1), (1, 1), (2, 1), (3, 1), (4, 1), (5, 1), (6, 1)] [(.int .i64 0), (.string ⟨#[]⟩), (.string ⟨#[]⟩), (.string ⟨#[]⟩), (.string ⟨#[]⟩), (.bool false), (.slice none 0 0)] := placesOf_mk (Tryz.prog.fieldsOf 49) (.agg #[(.int .i64 0), (.string ⟨#[]⟩), (.string ⟨#[]⟩), (.string ⟨#[]⟩), (.string ⟨#[]⟩), (.bool false), (.slice none 0 0)]) (fun _ => by kernel_rfl) (by kernel_rfl) (by kernel_rfl) (fun _ => by kernel_rfl)
instance : IsOne Tryz.prog 50 := ⟨fun _ => by kernel_rfl, fun _ => by kernel_rfl⟩
instance : ElOf Tryz.prog 50 1 8 := elOf_mk (by kernel_rfl) (by decide)
instance : ZeroOf Tryz.prog 50 [.nilFunc] := ⟨.nilFunc, fun _ => by kernel_rfl, by kernel_rfl⟩
instance : IsOne Tryz.prog 51 := ⟨fun _ => by kernel_rfl, fun _ => by kernel_rfl⟩
instance : ElOf Tryz.prog 51 1 8 := elOf_mk (by kernel_rfl) (by decide)
instance : ZeroOf Tryz.prog 51 [.nilFunc] := ⟨.nilFunc, fun _ => by kernel_rfl, by kernel_rfl⟩
instance : IsOne Tryz.prog 52 := ⟨fun _ => by kernel_rfl, fun _ => by kernel_rfl⟩
instance : ElOf Tryz.prog 52 1 8 := elOf_mk (by kernel_rfl) (by decide)
instance : ZeroOf Tryz.prog 52 [.nilFunc] := ⟨.nilFunc, fun _ => by kernel_rfl, by kernel_rfl⟩
instance : IsOne Tryz.prog 53 := ⟨fun _ => by kernel_rfl, fun _ => by kernel_rfl⟩
instance : ElOf Tryz.prog 53 1 8 := elOf_mk (by kernel_rfl) (by decide)
instance : ZeroOf Tryz.prog 53 [.nilFunc] := ⟨.nilFunc, fun _ => by kernel_rfl, by kernel_rfl⟩
instance : IsOne Tryz.prog 54 := ⟨fun _ => by kernel_rfl, fun _ => by kernel_rfl⟩
instance : ElOf Tryz.prog 54 1 8 := elOf_mk (by kernel_rfl) (by decide)
instance : ZeroOf Tryz.prog 54 [.nilFunc] := ⟨.nilFunc, fun _ => by kernel_rfl, by kernel_rfl⟩
instance : IsOne Tryz.prog 55 := ⟨fun _ => by kernel_rfl, fun _ => by kernel_rfl⟩
instance : ElOf Tryz.prog 55 1 8 := elOf_mk (by kernel_rfl) (by decide)
instance : ZeroOf Tryz.prog 55 [.nilFunc] := ⟨.nilFunc, fun _ => by kernel_rfl, by kernel_rfl⟩
instance : IsOne Tryz.prog 57 := ⟨fun _ => by kernel_rfl, fun _ => by kernel_rfl⟩
instance : ElOf Tryz.prog 57 1 8 := elOf_mk (by kernel_rfl) (by decide)
instance : ZeroOf Tryz.prog 57 [.nilFunc] := ⟨.nilFunc, fun _ => by kernel_rfl, by kernel_rfl⟩
instance : IsAgg Tryz.prog 58 4 := ⟨fun _ => by kernel_rfl, fun _ => by kernel_rfl⟩
instance : FldAt Tryz.prog 58 0 0 := ⟨fun _ _ _ => by kernel_rfl⟩
instance : FldAt Tryz.prog 58 1 1 := ⟨fun _ _ _ => by kernel_rfl⟩
instance : FldAt Tryz.prog 58 2 2 := ⟨fun _ _ _ => by kernel_rfl⟩
instance : FldAt Tryz.prog 58 3 3 := ⟨fun _ _ _ => by kernel_rfl⟩
instance : ElOf Tryz.prog 58 4 40 := elOf_mk (by kernel_rfl) (by decide)
instance : ZeroOf Tryz.prog 58 [(.string ⟨#[]⟩), (.int .i64 0), (.int .i64 0), (.int .i64 0)] := ⟨(.agg #[(.string ⟨#[]⟩), (.int .i64 0), (.int .i64 0), (.int .i64 0)]), fun _ => by kernel_rfl, by kernel_rfl⟩
instance : PlacesOf Tryz.prog 58 [(0, 1), (1, 1), (2, 1), (3, 1)] [(.string ⟨#[]⟩), (.int .i64 0), (.int .i64 0), (.int .i64 0)] := placesOf_mk (Tryz.prog.fieldsOf 58) (.agg #[(.string ⟨#[]⟩), (.int .i64 0), (.int .i64 0), (.int .i64 0)]) (fun _ => by kernel_rfl) (by kernel_rfl) (by kernel_rfl) (fun _ => by kernel_rfl)
instance : IsAgg Tryz.prog 59 4 := ⟨fun _ => by kernel_rfl, fun _ => by kernel_rfl⟩
instance : FldAt Tryz.prog 59 0 0 := ⟨fun _ _ _ => by kernel_rfl⟩
instance : FldAt Tryz.prog 59 1 1 := ⟨fun _ _ _ => by kernel_rfl⟩
instance : FldAt Tryz.prog 59 2 2 := ⟨fun _ _ _ => by kernel_rfl⟩
instance : FldAt Tryz.prog 59 3 3 := ⟨fun _ _ _ => by kernel_rfl⟩
set_option maxRecDepth 100000 in
instance : FlatEq Tryz.prog 59 [.str, .int .i64, .int .i64, .int .i64] := ⟨by kernel_rfl, .cons (by kernel_rfl) (of_decide_eq_true (by kernel_rfl)) (fun _ => by kernel_rfl) (by kernel_rfl) (.cons (by kernel_rfl) (of_decide_eq_true (by kernel_rfl)) (fun _ => by kernel_rfl) (by kernel_rfl) (.cons (by kernel_rfl) (of_decide_eq_true (by kernel_rfl)) (fun _ => by kernel_rfl) (by kernel_rfl) (.cons (by kernel_rfl) (of_decide_eq_true (by kernel_rfl)) (fun _ => by kernel_rfl) (by kernel_rfl) (.nil)))), by kernel_rfl, by kernel_rfl⟩
instance : ElOf Tryz.prog 59 4 40 := elOf_mk (by kernel_rfl) (by decide)
instance : ZeroOf Tryz.prog 59 [(.string ⟨#[]⟩), (.int .i64 0), (.int .i64 0), (.int .i64 0)] := ⟨(.agg #[(.string ⟨#[]⟩), (.int .i64 0), (.int .i64 0), (.int .i64 0)]), fun _ => by kernel_rfl, by kernel_rfl⟩
instance : PlacesOf Tryz.prog 59 [(0, 1), (1, 1), (2, 1), (3, 1)] [(.string ⟨#[]⟩), (.int .i64 0), (.int .i64 0), (.int .i64 0)] := placesOf_mk (Tryz.prog.fieldsOf 59) (.agg #[(.string ⟨#[]⟩), (.int .i64 0), (.int .i64 0), (.int .i64 0)]) (fun _ => by kernel_rfl) (by kernel_rfl) (by kernel_rfl) (fun _ => by kernel_rfl)
instance : IsOne Tryz.prog 61 := ⟨fun _ => by kernel_rfl, fun _ => by kernel_rfl⟩
instance : ElOf Tryz.prog 61 1 8 := elOf_mk (by kernel_rfl) (by decide)
instance : ZeroOf Tryz.prog 61 [.nilFunc] := ⟨.nilFunc, fun _ => by kernel_rfl, by kernel_rfl⟩
instance : IsOne Tryz.prog 62 := ⟨fun _ => by kernel_rfl, fun _ => by kernel_rfl⟩
instance : ElOf Tryz.prog 62 1 8 := elOf_mk (by kernel_rfl) (by decide)
instance : ZeroOf Tryz.prog 62 [.nilFunc] := ⟨.nilFunc, fun _ => by kernel_rfl, by kernel_rfl⟩
instance : IsOne Tryz.prog 63 := ⟨fun _ => by kernel_rfl, fun _ => by kernel_rfl⟩
instance : ElOf Tryz.prog 63 1 8 := elOf_mk (by kernel_rfl) (by decide)
instance : ZeroOf Tryz.prog 63 [.nilFunc] := ⟨.nilFunc, fun _ => by kernel_rfl, by kernel_rfl⟩
instance : IsOne Tryz.prog 64 := ⟨fun _ => by kernel_rfl, fun _ => by kernel_rfl⟩
instance : NotInt Tryz.prog 64 := ⟨.inr ⟨5, by kernel_rfl⟩⟩
instance : SlOf Tryz.prog 64 5 1 := ⟨by kernel_rfl, fun _ => by kernel_rfl⟩
instance : ElOf Tryz.prog 64 1 24 := elOf_mk (by kernel_rfl) (by decide)
instance : ZeroOf Tryz.prog 64 [(.slice none 0 0)] := ⟨(.slice none 0 0), fun _ => by kernel_rfl, by kernel_rfl⟩
instance : IsOne Tryz.prog 65 := ⟨fun _ => by kernel_rfl, fun _ => by kernel_rfl⟩
instance : ElOf Tryz.prog 65 1 8 := elOf_mk (by kernel_rfl) (by decide)
instance : ZeroOf Tryz.prog 65 [.nilFunc] := ⟨.nilFunc, fun _ => by kernel_rfl, by kernel_rfl⟩
instance : IsOne Tryz.prog 66 := ⟨fun _ => by kernel_rfl, fun _ => by kernel_rfl⟩
instance : ElOf Tryz.prog 66 1 8 := elOf_mk (by kernel_rfl) (by decide)
instance : ZeroOf Tryz.prog 66 [.nilFunc] := ⟨.nilFunc, fun _ => by kernel_rfl, by kernel_rfl⟩
instance : IsAgg Tryz.prog 67 3 := ⟨fun _ => by kernel_rfl, fun _ => by kernel_rfl⟩
instance : FldAt Tryz.prog 67 0 0 := ⟨fun _ _ _ => by kernel_rfl⟩
instance : FldAt Tryz.prog 67 1 1 := ⟨fun _ _ _ => by kernel_rfl⟩
instance : FldAt Tryz.prog 67 2 2 := ⟨fun _ _ _ => by kernel_rfl⟩
instance : ElOf Tryz.prog 67 3 24 := elOf_mk (by kernel_rfl) (by decide)
instance : ZeroOf Tryz.prog 67 [(.int .i32 0), (.int .i64 0), (.int .i64 0)] := ⟨(.agg #[(.int .i32 0), (.int .i64 0), (.int .i64 0)]), fun _ => by kernel_rfl, by kernel_rfl⟩
instance : PlacesOf Tryz.prog 67 [(0, 1), (1, 1), (2, 1)] [(.int .i32 0), (.int .i64 0), (.int .i64 0)] := placesOf_mk (Tryz.prog.fieldsOf 67) (.agg #[(.int .i32 0), (.int .i64 0), (.int .i64 0)]) (fun _ => by kernel_rfl) (by kernel_rfl) (by kernel_rfl) (fun _ => by kernel_rfl)
instance : IsAgg Tryz.prog 68 3 := ⟨fun _ => by kernel_rfl, fun _ => by kernel_rfl⟩
instance : FldAt Tryz.prog 68 0 0 := ⟨fun _ _ _ => by kernel_rfl⟩
instance : FldAt Tryz.prog 68 1 1 := ⟨fun _ _ _ => by kernel_rfl⟩
instance : FldAt Tryz.prog 68 2 2 := ⟨fun _ _ _ => by kernel_rfl⟩
set_option maxRecDepth 100000 in
instance : FlatEq Tryz.prog 68 [.int .i32, .int .i64, .int .i64] := ⟨by kernel_rfl, .cons (by kernel_rfl) (of_decide_eq_true (by kernel_rfl)) (fun _ => by kernel_rfl) (by kernel_rfl) (.cons (by kernel_rfl) (of_decide_eq_true (by kernel_rfl)) (fun _ => by kernel_rfl) (by kernel_rfl) (.cons (by kernel_rfl) (of_decide_eq_true (by kernel_rfl)) (fun _ => by kernel_rfl) (by kernel_rfl) (.nil))), by kernel_rfl, by kernel_rfl⟩
instance : ElOf Tryz.prog 68 3 24 := elOf_mk (by kernel_rfl) (by decide)
instance : ZeroOf Tryz.prog 68 [(.int .i32 0), (.int .i64 0), (.int .i64 0)] := ⟨(.agg #[(.int .i32 0), (.int .i64 0), (.int .i64 0)]), fun _ => by kernel_rfl, by kernel_rfl⟩
instance : PlacesOf Tryz.prog 68 [(0, 1), (1, 1), (2, 1)] [(.int .i32 0), (.int .i64 0), (.int .i64 0)] := placesOf_mk (Tryz.prog.fieldsOf 68) (.agg #[(.int .i32 0), (.int .i64 0), (.int .i64 0)]) (fun _ => by kernel_rfl) (by kernel_rfl) (by kernel_rfl) (fun _ => by kernel_rfl)
instance : IsOne Tryz.prog 69 := ⟨fun _ => by kernel_rfl, fun _ => by kernel_rfl⟩
instance : ElOf Tryz.prog 69 1 8 := elOf_mk (by kernel_rfl) (by decide)
instance : ZeroOf Tryz.prog 69 [.nilFunc] := ⟨.nilFunc, fun _ => by kernel_rfl, by kernel_rfl⟩
instance : IsOne Tryz.prog 71 := ⟨fun _ => by kernel_rfl, fun _ => by kernel_rfl⟩
instance : ElOf Tryz.prog 71 1 8 := elOf_mk (by kernel_rfl) (by decide)
instance : ZeroOf Tryz.prog 71 [.nilFunc] := ⟨.nilFunc, fun _ => by kernel_rfl, by kernel_rfl⟩
instance : IsOne Tryz.prog 72 := ⟨fun _ => by kernel_rfl, fun _ => by kernel_rfl⟩
instance : ElOf Tryz.prog 72 1 8 := elOf_mk (by kernel_rfl) (by decide)
instance : ZeroOf Tryz.prog 72 [.nilFunc] := ⟨.nilFunc, fun _ => by kernel_rfl, by kernel_rfl⟩
instance : IsOne Tryz.prog 73 := ⟨fun _ => by kernel_rfl, fun _ => by kernel_rfl⟩
instance : ElOf Tryz.prog 73 1 8 := elOf_mk (by kernel_rfl) (by decide)
instance : ZeroOf Tryz.prog 73 [.nilFunc] := ⟨.nilFunc, fun _ => by kernel_rfl, by kernel_rfl⟩
instance : IsOne Tryz.prog 74 := ⟨fun _ => by kernel_rfl, fun _ => by kernel_rfl⟩
instance : ElOf Tryz.prog 74 1 8 := elOf_mk (by kernel_rfl) (by decide)
instance : ZeroOf Tryz.prog 74 [.nilFunc] := ⟨.nilFunc, fun _ => by kernel_rfl, by kernel_rfl⟩
instance : IsOne Tryz.prog 75 := ⟨fun _ => by kernel_rfl, fun _ => by kernel_rfl⟩
instance : ElOf Tryz.prog 75 1 8 := elOf_mk (by kernel_rfl) (by decide)
instance : ZeroOf Tryz.prog 75 [.nilFunc] := ⟨.nilFunc, fun _ => by kernel_rfl, by kernel_rfl⟩
instance : IsAgg Tryz.prog 76 2 := ⟨fun _ => by kernel_rfl, fun _ => by kernel_rfl⟩
instance : FldAt Tryz.prog 76 0 0 := ⟨fun _ _ _ => by kernel_rfl⟩
instance : FldAt Tryz.prog 76 1 1 := ⟨fun _ _ _ => by kernel_rfl⟩
instance : ElOf Tryz.prog 76 2 16 := elOf_mk (by kernel_rfl) (by decide)
instance : ZeroOf Tryz.prog 76 [(.int .i64 0), (.int .i64 0)] := ⟨(.agg #[(.int .i64 0), (.int .i64 0)]), fun _ => by kernel_rfl, by kernel_rfl⟩
instance : PlacesOf Tryz.prog 76 [(0, 1), (1, 1)] [(.int .i64 0), (.int .i64 0)] := placesOf_mk (Tryz.prog.fieldsOf 76) (.agg #[(.int .i64 0), (.int .i64 0)]) (fun _ => by kernel_rfl) (by kernel_rfl) (by kernel_rfl) (fun _ => by kernel_rfl)
instance : IsAgg Tryz.prog 77 2 := ⟨fun _ => by kernel_rfl, fun _ => by kernel_rfl⟩
instance : FldAt Tryz.prog 77 0 0 := ⟨fun _ _ _ => by kernel_rfl⟩
instance : FldAt Tryz.prog 77 1 1 := ⟨fun _ _ _ => by kernel_rfl⟩
set_option maxRecDepth 100000 in
instance : FlatEq Tryz.prog 77 [.int .i64, .int .i64] := ⟨by kernel_rfl, .cons (by kernel_rfl) (of_decide_eq_true (by kernel_rfl)) (fun _ => by kernel_rfl) (by kernel_rfl) (.cons (by kernel_rfl) (of_decide_eq_true (by kernel_rfl)) (fun _ => by kernel_rfl) (by kernel_rfl) (.nil)), by kernel_rfl, by kernel_rfl⟩
instance : ElOf Tryz.prog 77 2 16 := elOf_mk (by kernel_rfl) (by decide)
instance : ZeroOf Tryz.prog 77 [(.int .i64 0), (.int .i64 0)] := ⟨(.agg #[(.int .i64 0), (.int .i64 0)]), fun _ => by kernel_rfl, by kernel_rfl⟩
instance : PlacesOf Tryz.prog 77 [(0, 1), (1, 1)] [(.int .i64 0), (.int .i64 0)] := placesOf_mk (Tryz.prog.fieldsOf 77) (.agg #[(.int .i64 0), (.int .i64 0)]) (fun _ => by kernel_rfl) (by kernel_rfl) (by kernel_rfl) (fun _ => by kernel_rfl)
instance : IsOne Tryz.prog 79 := ⟨fun _ => by kernel_rfl, fun _ => by kernel_rfl⟩
instance : ElOf Tryz.prog 79 1 8 := elOf_mk (by kernel_rfl) (by decide)
instance : ZeroOf Tryz.prog 79 [.nilFunc] := ⟨.nilFunc, fun _ => by kernel_rfl, by kernel_rfl⟩
instance : IsOne Tryz.prog 81 := ⟨fun _ => by kernel_rfl, fun _ => by kernel_rfl⟩
instance : ElOf Tryz.prog 81 1 8 := elOf_mk (by kernel_rfl) (by decide)
instance : ZeroOf Tryz.prog 81 [.nilFunc] := ⟨.nilFunc, fun _ => by kernel_rfl, by kernel_rfl⟩
instance : IsOne Tryz.prog 82 := ⟨fun _ => by kernel_rfl, fun _ => by kernel_rfl⟩
instance : NotInt Tryz.prog 82 := ⟨.inr ⟨125, by kernel_rfl⟩⟩
instance : SlOf Tryz.prog 82 125 2 := ⟨by kernel_rfl, fun _ => by kernel_rfl⟩
instance : ElOf Tryz.prog 82 1 24 := elOf_mk (by kernel_rfl) (by decide)
instance : ZeroOf Tryz.prog 82 [(.slice none 0 0)] := ⟨(.slice none 0 0), fun _ => by kernel_rfl, by kernel_rfl⟩
instance : IsAgg Tryz.prog 83 4 := ⟨fun _ => by kernel_rfl, fun _ => by kernel_rfl⟩
instance : FldAt Tryz.prog 83 0 0 := ⟨fun _ _ _ => by kernel_rfl⟩
instance : FldAt Tryz.prog 83 1 1 := ⟨fun _ _ _ => by kernel_rfl⟩
instance : FldAt Tryz.prog 83 2 2 := ⟨fun _ _ _ => by kernel_rfl⟩
instance : FldAt Tryz.prog 83 3 3 := ⟨fun _ _ _ => by kernel_rfl⟩
instance : ElOf Tryz.prog 83 4 56 := elOf_mk (by kernel_rfl) (by decide)
instance : ZeroOf Tryz.prog 83 [(.string ⟨#[]⟩), (.int .i64 0), (.int .i64 0), (.slice none 0 0)] := ⟨(.agg #[(.string ⟨#[]⟩), (.int .i64 0), (.int .i64 0), (.slice none 0 0)]), fun _ => by kernel_rfl, by kernel_rfl⟩
instance : PlacesOf Tryz.prog 83 [(0, 1), (1, 1), (2, 1), (3, 1)] [(.string ⟨#[]⟩), (.int .i64 0), (.int .i64 0), (.slice none 0 0)] := placesOf_mk (Tryz.prog.fieldsOf 83) (.agg #[(.string ⟨#[]⟩), (.int .i64 0), (.int .i64 0), (.slice none 0 0)]) (fun _ => by kernel_rfl) (by kernel_rfl) (by kernel_rfl) (fun _ => by kernel_rfl)
instance : IsAgg Tryz.prog 84 4 := ⟨fun _ => by kernel_rfl, fun _ => by kernel_rfl⟩
instance : FldAt Tryz.prog 84 0 0 := ⟨fun _ _ _ => by kernel_rfl⟩
instance : FldAt Tryz.prog 84 1 1 := ⟨fun _ _ _ => by kernel_rfl⟩
instance : FldAt Tryz.prog 84 2 2 := ⟨fun _ _ _ => by kernel_rfl⟩
instance : FldAt Tryz.prog 84 3 3 := ⟨fun _ _ _ => by kernel_rfl⟩
instance : ElOf Tryz.prog 84 4 56 := elOf_mk (by kernel_rfl) (by decide)
instance : ZeroOf Tryz.prog 84 [(.string ⟨#[]⟩), (.int .i64 0), (.int .i64 0), (.slice none 0 0)] := ⟨(.agg #[(.string ⟨#[]⟩), (.int .i64 0), (.int .i64 0), (.slice none 0 0)]), fun _ => by kernel_rfl, by kernel_rfl⟩
instance : PlacesOf Tryz.prog 84 [(0, 1), (1, 1), (2, 1), (3, 1)] [(.string ⟨#[]⟩), (.int .i64 0), (.int .i64 0), (.slice none 0 0)] := placesOf_mk (Tryz.prog.fieldsOf 84) (.agg #[(.string ⟨#[]⟩), (.int .i64 0), (.int .i64 0), (.slice none 0 0)]) (fun _ => by kernel_rfl) (by kernel_rfl) (by kernel_rfl) (fun _ => by kernel_rfl)
instance : IsAgg Tryz.prog 85 4 := ⟨fun _ => by kernel_rfl, fun _ => by kernel_rfl⟩
instance : FldAt Tryz.prog 85 0 0 := ⟨fun _ _ _ => by kernel_rfl⟩
instance : FldAt Tryz.prog 85 1 1 := ⟨fun _ _ _ => by kernel_rfl⟩
instance : FldAt Tryz.prog 85 2 2 := ⟨fun _ _ _ => by kernel_rfl⟩
instance : FldAt Tryz.prog 85 3 3 := ⟨fun _ _ _ => by kernel_rfl⟩
instance : ElOf Tryz.prog 85 4 56 := elOf_mk (by kernel_rfl) (by decide)
instance : ZeroOf Tryz.prog 85 [(.string ⟨#[]⟩), (.int .i64 0), (.int .i64 0), (.slice none 0 0)] := ⟨(.agg #[(.string ⟨#[]⟩), (.int .i64 0), (.int .i64 0), (.slice none 0 0)]), fun _ => by kernel_rfl, by kernel_rfl⟩
instance : PlacesOf Tryz.prog 85 [(0, 1), (1, 1), (2, 1), (3, 1)] [(.string ⟨#[]⟩), (.int .i64 0), (.int .i64 0), (.slice none 0 0)] := placesOf_mk (Tryz.prog.fieldsOf 85) (.agg #[(.string ⟨#[]⟩), (.int .i64 0), (.int .i64 0), (.slice none 0 0)]) (fun _ => by kernel_rfl) (by kernel_rfl) (by kernel_rfl) (fun _ => by kernel_rfl)
instance : IsAgg Tryz.prog 86 4 := ⟨fun _ => by kernel_rfl, fun _ => by kernel_rfl⟩
instance : FldAt Tryz.prog 86 0 0 := ⟨fun _ _ _ => by kernel_rfl⟩
instance : FldAt Tryz.prog 86 1 1 := ⟨fun _ _ _ => by kernel_rfl⟩
instance : FldAt Tryz.prog 86 2 2 := ⟨fun _ _ _ => by kernel_rfl⟩
instance : FldAt Tryz.prog 86 3 3 := ⟨fun _ _ _ => by kernel_rfl⟩
instance : ElOf Tryz.prog 86 4 56 := elOf_mk (by kernel_rfl) (by decide)
instance : ZeroOf Tryz.prog 86 [(.string ⟨#[]⟩), (.int .i64 0), (.int .i64 0), (.slice none 0 0)] := ⟨(.agg #[(.string ⟨#[]⟩), (.int .i64 0), (.int .i64 0), (.slice none 0 0)]), fun _ => by kernel_rfl, by kernel_rfl⟩
instance : PlacesOf Tryz.prog 86 [(0, 1), (1, 1), (2, 1), (3, 1)] [(.string ⟨#[]⟩), (.int .i64 0), (.int .i64 0), (.slice none 0 0)] := placesOf_mk (Tryz.prog.fieldsOf 86) (.agg #[(.string ⟨#[]⟩), (.int .i64 0), (.int .i64 0), (.slice none 0 0)]) (fun _ => by kernel_rfl) (by kernel_rfl) (by kernel_rfl) (fun _ => by kernel_rfl)
instance : IsOne Tryz.prog 87 := ⟨fun _ => by kernel_rfl, fun _ => by kernel_rfl⟩
instance : ElOf Tryz.prog 87 1 8 := elOf_mk (by kernel_rfl) (by decide)
instance : ZeroOf Tryz.prog 87 [.nilFunc] := ⟨.nilFunc, fun _ => by kernel_rfl, by kernel_rfl⟩
instance : IsAgg Tryz.prog 88 4 := ⟨fun _ => by kernel_rfl, fun _ => by kernel_rfl⟩
instance : FldAt Tryz.prog 88 0 0 := ⟨fun _ _ _ => by kernel_rfl⟩
instance : FldAt Tryz.prog 88 1 1 := ⟨fun _ _ _ => by kernel_rfl⟩
instance : FldAt Tryz.prog 88 2 2 := ⟨fun _ _ _ => by kernel_rfl⟩
instance : FldAt Tryz.prog 88 3 3 := ⟨fun _ _ _ => by kernel_rfl⟩
instance : ElOf Tryz.prog 88 4 40 := elOf_mk (by kernel_rfl) (by decide)
instance : ZeroOf Tryz.prog 88 [(.string ⟨#[]⟩), (.int .i64 0), (.int .i64 0), (.int .i64 0)] := ⟨(.agg #[(.string ⟨#[]⟩), (.int .i64 0), (.int .i64 0), (.int .i64 0)]), fun _ => by kernel_rfl, by kernel_rfl⟩
instance : PlacesOf Tryz.prog 88 [(0, 1), (1, 1), (2, 1), (3, 1)] [(.string ⟨#[]⟩), (.int .i64 0), (.int .i64 0), (.int .i64 0)] := placesOf_mk (Tryz.prog.fieldsOf 88) (.agg #[(.string ⟨#[]⟩), (.int .i64 0), (.int .i64 0), (.int .i64 0)]) (fun _ => by kernel_rfl) (by kernel_rfl) (by kernel_rfl) (fun _ => by kernel_rfl)
instance : IsAgg Tryz.prog 89 4 := ⟨fun _ => by kernel_rfl, fun _ => by kernel_rfl⟩
instance : FldAt Tryz.prog 89 0 0 := ⟨fun _ _ _ => by kernel_rfl⟩
instance : FldAt Tryz.prog 89 1 1 := ⟨fun _ _ _ => by kernel_rfl⟩
instance : FldAt Tryz.prog 89 2 2 := ⟨fun _ _ _ => by kernel_rfl⟩
instance : FldAt Tryz.prog 89 3 3 := ⟨fun _ _ _ => by kernel_rfl⟩
set_option maxRecDepth 100000 in
instance : FlatEq Tryz.prog 89 [.str, .int .i64, .int .i64, .int .i64] := ⟨by kernel_rfl, .cons (by kernel_rfl) (of_decide_eq_true (by kernel_rfl)) (fun _ => by kernel_rfl) (by kernel_rfl) (.cons (by kernel_rfl) (of_decide_eq_true (by kernel_rfl)) (fun _ => by kernel_rfl) (by kernel_rfl) (.cons (by kernel_rfl) (of_decide_eq_true (by kernel_rfl)) (fun _ => by kernel_rfl) (by kernel_rfl) (.cons (by kernel_rfl) (of_decide_eq_true (by kernel_rfl)) (fun _ => by kernel_rfl) (by kernel_rfl) (.nil)))), by kernel_rfl, by kernel_rfl⟩
instance : ElOf Tryz.prog 89 4 40 := elOf_mk (by kernel_rfl) (by decide)
instance : ZeroOf Tryz.prog 89 [(.string ⟨#[]⟩), (.int .i64 0), (.int .i64 0), (.int .i64 0)] := ⟨(.agg #[(.string ⟨#[]⟩), (.int .i64 0), (.int .i64 0), (.int .i64 0)]), fun _ => by kernel_rfl, by kernel_rfl⟩
instance : PlacesOf Tryz.prog 89 [(0, 1), (1, 1), (2, 1), (3, 1)] [(.string ⟨#[]⟩), (.int .i64 0), (.int .i64 0), (.int .i64 0)] := placesOf_mk (Tryz.prog.fieldsOf 89) (.agg #[(.string ⟨#[]⟩), (.int .i64 0), (.int .i64 0), (.int .i64 0)]) (fun _ => by kernel_rfl) (by kernel_rfl) (by kernel_rfl) (fun _ => by kernel_rfl)
instance : IsOne Tryz.prog 90 := ⟨fun _ => by kernel_rfl, fun _ => by kernel_rfl⟩
instance : ElOf Tryz.prog 90 1 8 := elOf_mk (by kernel_rfl) (by decide)
instance : ZeroOf Tryz.prog 90 [(.pointer none)] := ⟨(.pointer none), fun _ => by kernel_rfl, by kernel_rfl⟩
instance : IsOne Tryz.prog 91 := ⟨fun _ => by kernel_rfl, fun _ => by kernel_rfl⟩
instance : ElOf Tryz.prog 91 1 8 := elOf_mk (by kernel_rfl) (by decide)
instance : ZeroOf Tryz.prog 91 [.nilFunc] := ⟨.nilFunc, fun _ => by kernel_rfl, by kernel_rfl⟩
instance : IsOne Tryz.prog 92 := ⟨fun _ => by kernel_rfl, fun _ => by kernel_rfl⟩
instance : ElOf Tryz.prog 92 1 8 := elOf_mk (by kernel_rfl) (by decide)
instance : ZeroOf Tryz.prog 92 [.nilFunc] := ⟨.nilFunc, fun _ => by kernel_rfl, by kernel_rfl⟩
instance : IsOne Tryz.prog 93 := ⟨fun _ => by kernel_rfl, fun _ => by kernel_rfl⟩
instance : ElOf Tryz.prog 93 1 8 := elOf_mk (by kernel_rfl) (by decide)
instance : ZeroOf Tryz.prog 93 [(.pointer none)] := ⟨(.pointer none), fun _ => by kernel_rfl, by kernel_rfl⟩
instance : IsOne Tryz.prog 94 := ⟨fun _ => by kernel_rfl, fun _ => by kernel_rfl⟩
instance : ElOf Tryz.prog 94 1 8 := elOf_mk (by kernel_rfl) (by decide)
instance : ZeroOf Tryz.prog 94 [.nilFunc] := ⟨.nilFunc, fun _ => by kernel_rfl, by kernel_rfl⟩
instance : IsOne Tryz.prog 95 := ⟨fun _ => by kernel_rfl, fun _ => by kernel_rfl⟩
instance : ElOf Tryz.prog 95 1 8 := elOf_mk (by kernel_rfl) (by decide)
instance : ZeroOf Tryz.prog 95 [.nilFunc] := ⟨.nilFunc, fun _ => by kernel_rfl, by kernel_rfl⟩
instance : IsOne Tryz.prog 96 := ⟨fun _ => by kernel_rfl, fun _ => by kernel_rfl⟩
instance : ElOf Tryz.prog 96 1 8 := elOf_mk (by kernel_rfl) (by decide)
instance : ZeroOf Tryz.prog 96 [.nilFunc] := ⟨.nilFunc, fun _ => by kernel_rfl, by kernel_rfl⟩
instance : IsAgg Tryz.prog 97 2 := ⟨fun _ => by kernel_rfl, fun _ => by kernel_rfl⟩
instance : FldAt Tryz.prog 97 0 0 := ⟨fun _ _ _ => by kernel_rfl⟩
instance : FldAt Tryz.prog 97 1 1 := ⟨fun _ _ _ => by kernel_rfl⟩
instance : ElOf Tryz.prog 97 2 8 := elOf_mk (by kernel_rfl) (by decide)
instance : ZeroOf Tryz.prog 97 [(.int .i32 0), (.int .i32 0)] := ⟨(.agg #[(.int .i32 0), (.int .i32 0)]), fun _ => by kernel_rfl, by kernel_rfl⟩
instance : PlacesOf Tryz.prog 97 [(0, 1), (1, 1)] [(.int .i32 0), (.int .i32 0)] := placesOf_mk (Tryz.prog.fieldsOf 97) (.agg #[(.int .i32 0), (.int .i32 0)]) (fun _ => by kernel_rfl) (by kernel_rfl) (by kernel_rfl) (fun _ => by kernel_rfl)
instance : IsAgg Tryz.prog 98 2 := ⟨fun _ => by kernel_rfl, fun _ => by kernel_rfl⟩
instance : FldAt Tryz.prog 98 0 0 := ⟨fun _ _ _ => by kernel_rfl⟩
instance : FldAt Tryz.prog 98 1 1 := ⟨fun _ _ _ => by kernel_rfl⟩
set_option maxRecDepth 100000 in
instance : FlatEq Tryz.prog 98 [.int .i32, .int .i32] := ⟨by kernel_rfl, .cons (by kernel_rfl) (of_decide_eq_true (by kernel_rfl)) (fun _ => by kernel_rfl) (by kernel_rfl) (.cons (by kernel_rfl) (of_decide_eq_true (by kernel_rfl)) (fun _ => by kernel_rfl) (by kernel_rfl) (.nil)), by kernel_rfl, by kernel_rfl⟩
instance : ElOf Tryz.prog 98 2 8 := elOf_mk (by kernel_rfl) (by decide)
instance : ZeroOf Tryz.prog 98 [(.int .i32 0), (.int .i32 0)] := ⟨(.agg #[(.int .i32 0), (.int .i32 0)]), fun _ => by kernel_rfl, by kernel_rfl⟩
instance : PlacesOf Tryz.prog 98 [(0, 1), (1, 1)] [(.int .i32 0), (.int .i32 0)] := placesOf_mk (Tryz.prog.fieldsOf 98) (.agg #[(.int .i32 0), (.int .i32 0)]) (fun _ => by kernel_rfl) (by kernel_rfl) (by kernel_rfl) (fun _ => by kernel_rfl)
instance : IsOne Tryz.prog 99 := ⟨fun _ => by kernel_rfl, fun _ => by kernel_rfl⟩
instance : ElOf Tryz.prog 99 1 8 := elOf_mk (by kernel_rfl) (by decide)
instance : ZeroOf Tryz.prog 99 [.nilFunc] := ⟨.nilFunc, fun _ => by kernel_rfl, by kernel_rfl⟩
instance : IsOne Tryz.prog 101 := ⟨fun _ => by kernel_rfl, fun _ => by kernel_rfl⟩
instance : ElOf Tryz.prog 101 1 8 := elOf_mk (by kernel_rfl) (by decide)
instance : ZeroOf Tryz.prog 101 [.nilFunc] := ⟨.nilFunc, fun _ => by kernel_rfl, by kernel_rfl⟩
instance : IsOne Tryz.prog 102 := ⟨fun _ => by kernel_rfl, fun _ => by kernel_rfl⟩
instance : ElOf Tryz.prog 102 1 8 := elOf_mk (by kernel_rfl) (by decide)
instance : ZeroOf Tryz.prog 102 [.nilFunc] := ⟨.nilFunc, fun _ => by kernel_rfl, by kernel_rfl⟩
instance : IsOne Tryz.prog 103 := ⟨fun _ => by kernel_rfl, fun _ => by kernel_rfl⟩
instance : ElOf Tryz.prog 103 1 8 := elOf_mk (by kernel_rfl) (by decide)
instance : ZeroOf Tryz.prog 103 [.nilFunc] := ⟨.nilFunc, fun _ => by kernel_rfl, by kernel_rfl⟩
instance : IsOne Tryz.prog 104 := ⟨fun _ => by kernel_rfl, fun _ => by kernel_rfl⟩
instance : ElOf Tryz.prog 104 1 8 := elOf_mk (by kernel_rfl) (by decide)
instance : ZeroOf Tryz.prog 104 [.nilFunc] := ⟨.nilFunc, fun _ => by kernel_rfl, by kernel_rfl⟩
instance : IsOne Tryz.prog 105 := ⟨fun _ => by kernel_rfl, fun _ => by kernel_rfl⟩
instance : ElOf Tryz.prog 105 1 8 := elOf_mk (by kernel_rfl) (by decide)
instance : ZeroOf Tryz.prog 105 [.nilFunc] := ⟨.nilFunc, fun _ => by kernel_rfl, by kernel_rfl⟩
instance : IsOne Tryz.prog 106 := ⟨fun _ => by kernel_rfl, fun _ => by kernel_rfl⟩
instance : ElOf Tryz.prog 106 1 8 := elOf_mk (by kernel_rfl) (by decide)
instance : ZeroOf Tryz.prog 106 [.nilFunc] := ⟨.nilFunc, fun _ => by kernel_rfl, by kernel_rfl⟩
instance : IsOne Tryz.prog 107 := ⟨fun _ => by kernel_rfl, fun _ => by kernel_rfl⟩
instance : ElOf Tryz.prog 107 1 8 := elOf_mk (by kernel_rfl) (by decide)
instance : ZeroOf Tryz.prog 107 [.nilFunc] := ⟨.nilFunc, fun _ => by kernel_rfl, by kernel_rfl⟩
instance : IsOne Tryz.prog 108 := ⟨fun _ => by kernel_rfl, fun _ => by kernel_rfl⟩
instance : ElOf Tryz.prog 108 1 8 := elOf_mk (by kernel_rfl) (by decide)
instance : ZeroOf Tryz.prog 108 [.nilFunc] := ⟨.nilFunc, fun _ => by kernel_rfl, by kernel_rfl⟩
instance : IsOne Tryz.prog 109 := ⟨fun _ => by kernel_rfl, fun _ => by kernel_rfl⟩
instance : ElOf Tryz.prog 109 1 8 := elOf_mk (by kernel_rfl) (by decide)
instance : ZeroOf Tryz.prog 109 [.nilFunc] := ⟨.nilFunc, fun _ => by kernel_rfl, by kernel_rfl⟩
instance : IsOne Tryz.prog 110 := ⟨fun _ => by kernel_rfl, fun _ => by kernel_rfl⟩
instance : ElOf Tryz.prog 110 1 8 := elOf_mk (by kernel_rfl) (by decide)
instance : ZeroOf Tryz.prog 110 [.nilFunc] := ⟨.nilFunc, fun _ => by kernel_rfl, by kernel_rfl⟩
instance : IsOne Tryz.prog 111 := ⟨fun _ => by kernel_rfl, fun _ => by kernel_rfl⟩
instance : ElOf Tryz.prog 111 1 8 := elOf_mk (by kernel_rfl) (by decide)
instance : ZeroOf Tryz.prog 111 [.nilFunc] := ⟨.nilFunc, fun _ => by kernel_rfl, by kernel_rfl⟩
instance : IsAgg Tryz.prog 112 9 := ⟨fun _ => by kernel_rfl, fun _ => by kernel_rfl⟩
instance : FldAt Tryz.prog 112 0 0 := ⟨fun _ _ _ => by kernel_rfl⟩
instance : FldAt Tryz.prog 112 1 7 := ⟨fun _ _ _ => by kernel_rfl⟩
instance : FldAt Tryz.prog 112 2 8 := ⟨fun _ _ _ => by kernel_rfl⟩
instance : ElOf Tryz.prog 112 9 200 := elOf_mk (by kernel_rfl) (by decide)
instance : ZeroOf Tryz.prog 112 [(.slice none 0 0), (.slice none 0 0), (.slice none 0 0), (.slice none 0 0), (.slice none 0 0), (.slice none 0 0), (.slice none 0 0), (.slice none 0 0), (.bool false)] := ⟨(.agg #[(.slice none 0 0), (.slice none 0 0), (.slice none 0 0), (.slice none 0 0), (.slice none 0 0), (.slice none 0 0), (.slice none 0 0), (.slice none 0 0), (.bool false)]), fun _ => by kernel_rfl, by kernel_rfl⟩
instance : PlacesOf Tryz.prog 112 [(0, 7), (7, 1), (8, 1)] [(.slice none 0 0), (.slice none 0 0), (.slice none 0 0), (.slice none 0 0), (.slice none 0 0), (.slice none 0 0), (.slice none 0 0), (.slice none 0 0), (.bool false)] := placesOf_mk (Tryz.prog.fieldsOf 112) (.agg #[(.slice none 0 0), (.slice none 0 0), (.slice none 0 0), (.slice none 0 0), (.slice none 0 0), (.slice none 0 0), (.slice none 0 0), (.slice none 0 0), (.bool false)]) (fun _ => by kernel_rfl) (by kernel_rfl) (by kernel_rfl) (fun _ => by kernel_rfl)
instance : IsAgg Tryz.prog 113 9 := ⟨fun _ => by kernel_rfl, fun _ => by kernel_rfl⟩
instance : FldAt Tryz.prog 113 0 0 := ⟨fun _ _ _ => by kernel_rfl⟩
instance : FldAt Tryz.prog 113 1 7 := ⟨fun _ _ _ => by kernel_rfl⟩
instance : FldAt Tryz.prog 113 2 8 := ⟨fun _ _ _ => by kernel_rfl⟩
instance : ElOf Tryz.prog 113 9 200 := elOf_mk (by kernel_rfl) (by decide)
instance : ZeroOf Tryz.prog 113 [(.slice none 0 0), (.slice none 0 0), (.slice none 0 0), (.slice none 0 0), (.slice none 0 0), (.slice none 0 0), (.slice none 0 0), (.slice none 0 0), (.bool false)] := ⟨(.agg #[(.slice none 0 0), (.slice none 0 0), (.slice none 0 0), (.slice none 0 0), (.slice none 0 0), (.slice none 0 0), (.slice none 0 0), (.slice none 0 0), (.bool false)]), fun _ => by kernel_rfl, by kernel_rfl⟩
instance : PlacesOf Tryz.prog 113 [(0, 7), (7, 1), (8, 1)] [(.slice none 0 0), (.slice none 0 0), (.slice none 0 0), (.slice none 0 0), (.slice none 0 0), (.slice none 0 0), (.slice none 0 0), (.slice none 0 0), (.bool false)] := placesOf_mk (Tryz.prog.fieldsOf 113) (.agg #[(.slice none 0 0), (.slice none 0 0), (.slice none 0 0), (.slice none 0 0), (.slice none 0 0), (.slice none 0 0), (.slice none 0 0), (.slice none 0 0), (.bool false)]) (fun _ => by kernel_rfl) (by kernel_rfl) (by kernel_rfl) (fun _ => by kernel_rfl)
instance : IsOne Tryz.prog 115 := ⟨fun _ => by kernel_rfl, fun _ => by kernel_rfl⟩
instance : ElOf Tryz.prog 115 1 8 := elOf_mk (by kernel_rfl) (by decide)
instance : ZeroOf Tryz.prog 115 [.nilFunc] := ⟨.nilFunc, fun _ => by kernel_rfl, by kernel_rfl⟩
instance : IsAgg Tryz.prog 116 2 := ⟨fun _ => by kernel_rfl, fun _ => by kernel_rfl⟩
instance : FldAt Tryz.prog 116 0 0 := ⟨fun _ _ _ => by kernel_rfl⟩
instance : FldAt Tryz.prog 116 1 1 := ⟨fun _ _ _ => by kernel_rfl⟩
instance : ElOf Tryz.prog 116 2 16 := elOf_mk (by kernel_rfl) (by decide)
instance : ZeroOf Tryz.prog 116 [(.int .i64 0), (.int .i64 0)] := ⟨(.agg #[(.int .i64 0), (.int .i64 0)]), fun _ => by kernel_rfl, by kernel_rfl⟩
instance : PlacesOf Tryz.prog 116 [(0, 1), (1, 1)] [(.int .i64 0), (.int .i64 0)] := placesOf_mk (Tryz.prog.fieldsOf 116) (.agg #[(.int .i64 0), (.int .i64 0)]) (fun _ => by kernel_rfl) (by kernel_rfl) (by kernel_rfl) (fun _ => by kernel_rfl)
instance : IsAgg Tryz.prog 117 2 := ⟨fun _ => by kernel_rfl, fun _ => by kernel_rfl⟩
instance : FldAt Tryz.prog 117 0 0 := ⟨fun _ _ _ => by kernel_rfl⟩
instance : FldAt Tryz.prog 117 1 1 := ⟨fun _ _ _ => by kernel_rfl⟩
set_option maxRecDepth 100000 in
instance : FlatEq Tryz.prog 117 [.int .i64, .int .i64] := ⟨by kernel_rfl, .cons (by kernel_rfl) (of_decide_eq_true (by kernel_rfl)) (fun _ => by kernel_rfl) (by kernel_rfl) (.cons (by kernel_rfl) (of_decide_eq_true (by kernel_rfl)) (fun _ => by kernel_rfl) (by kernel_rfl) (.nil)), by kernel_rfl, by kernel_rfl⟩
instance : ElOf Tryz.prog 117 2 16 := elOf_mk (by kernel_rfl) (by decide)
instance : ZeroOf Tryz.prog 117 [(.int .i64 0), (.int .i64 0)] := ⟨(.agg #[(.int .i64 0), (.int .i64 0)]), fun _ => by kernel_rfl, by kernel_rfl⟩
instance : PlacesOf Tryz.prog 117 [(0, 1), (1, 1)] [(.int .i64 0), (.int .i64 0)] := placesOf_mk (Tryz.prog.fieldsOf 117) (.agg #[(.int .i64 0), (.int .i64 0)]) (fun _ => by kernel_rfl) (by kernel_rfl) (by kernel_rfl) (fun _ => by kernel_rfl)
instance : IsOne Tryz.prog 118 := ⟨fun _ => by kernel_rfl, fun _ => by kernel_rfl⟩
instance : ElOf Tryz.prog 118 1 8 := elOf_mk (by kernel_rfl) (by decide)
instance : ZeroOf Tryz.prog 118 [.nilFunc] := ⟨.nilFunc, fun _ => by kernel_rfl, by kernel_rfl⟩
instance : IsOne Tryz.prog 119 := ⟨fun _ => by kernel_rfl, fun _ => by kernel_rfl⟩
instance : ElOf Tryz.prog 119 1 8 := elOf_mk (by kernel_rfl) (by decide)
instance : ZeroOf Tryz.prog 119 [.nilFunc] := ⟨.nilFunc, fun _ => by kernel_rfl, by kernel_rfl⟩
instance : IsOne Tryz.prog 120 := ⟨fun _ => by kernel_rfl, fun _ => by kernel_rfl⟩
instance : ElOf Tryz.prog 120 1 8 := elOf_mk (by kernel_rfl) (by decide)
instance : ZeroOf Tryz.prog 120 [.nilFunc] := ⟨.nilFunc, fun _ => by kernel_rfl, by kernel_rfl⟩
instance : IsOne Tryz.prog 121 := ⟨fun _ => by kernel_rfl, fun _ => by kernel_rfl⟩
instance : ElOf Tryz.prog 121 1 8 := elOf_mk (by kernel_rfl) (by decide)
instance : ZeroOf Tryz.prog 121 [.nilFunc] := ⟨.nilFunc, fun _ => by kernel_rfl, by kernel_rfl⟩
instance : IsOne Tryz.prog 122 := ⟨fun _ => by kernel_rfl, fun _ => by kernel_rfl⟩
instance : NotInt Tryz.prog 122 := ⟨.inr ⟨121, by kernel_rfl⟩⟩
instance : SlOf Tryz.prog 122 121 1 := ⟨by kernel_rfl, fun _ => by kernel_rfl⟩
instance : ElOf Tryz.prog 122 1 24 := elOf_mk (by kernel_rfl) (by decide)
instance : ZeroOf Tryz.prog 122 [(.slice none 0 0)] := ⟨(.slice none 0 0), fun _ => by kernel_rfl, by kernel_rfl⟩
instance : IsAgg Tryz.prog 124 2 := ⟨fun _ => by kernel_rfl, fun _ => by kernel_rfl⟩
instance : FldAt Tryz.prog 124 0 0 := ⟨fun _ _ _ => by kernel_rfl⟩
instance : FldAt Tryz.prog 124 1 1 := ⟨fun _ _ _ => by kernel_rfl⟩
instance : ElOf Tryz.prog 124 2 32 := elOf_mk (by kernel_rfl) (by decide)
instance : ZeroOf Tryz.prog 124 [(.string ⟨#[]⟩), (.string ⟨#[]⟩)] := ⟨(.agg #[(.string ⟨#[]⟩), (.string ⟨#[]⟩)]), fun _ => by kernel_rfl, by kernel_rfl⟩
instance : PlacesOf Tryz.prog 124 [(0, 1), (1, 1)] [(.string ⟨#[]⟩), (.string ⟨#[]⟩)] := placesOf_mk (Tryz.prog.fieldsOf 124) (.agg #[(.string ⟨#[]⟩), (.string ⟨#[]⟩)]) (fun _ => by kernel_rfl) (by kernel_rfl) (by kernel_rfl) (fun _ => by kernel_rfl)
instance : IsAgg Tryz.prog 125 2 := ⟨fun _ => by kernel_rfl, fun _ => by kernel_rfl⟩
instance : FldAt Tryz.prog 125 0 0 := ⟨fun _ _ _ => by kernel_rfl⟩
instance : FldAt Tryz.prog 125 1 1 := ⟨fun _ _ _ => by kernel_rfl⟩
set_option maxRecDepth 100000 in
instance : FlatEq Tryz.prog 125 [.str, .str] := ⟨by kernel_rfl, .cons (by kernel_rfl) (of_decide_eq_true (by kernel_rfl)) (fun _ => by kernel_rfl) (by kernel_rfl) (.cons (by kernel_rfl) (of_decide_eq_true (by kernel_rfl)) (fun _ => by kernel_rfl) (by kernel_rfl) (.nil)), by kernel_rfl, by kernel_rfl⟩
instance : ElOf Tryz.prog 125 2 32 := elOf_mk (by kernel_rfl) (by decide)
instance : ZeroOf Tryz.prog 125 [(.string ⟨#[]⟩), (.string ⟨#[]⟩)] := ⟨(.agg #[(.string ⟨#[]⟩), (.string ⟨#[]⟩)]), fun _ => by kernel_rfl, by kernel_rfl⟩
instance : PlacesOf Tryz.prog 125 [(0, 1), (1, 1)] [(.string ⟨#[]⟩), (.string ⟨#[]⟩)] := placesOf_mk (Tryz.prog.fieldsOf 125) (.agg #[(.string ⟨#[]⟩), (.string ⟨#[]⟩)]) (fun _ => by kernel_rfl) (by kernel_rfl) (by kernel_rfl) (fun _ => by kernel_rfl)
instance : IsOne Tryz.prog 126 := ⟨fun _ => by kernel_rfl, fun _ => by kernel_rfl⟩
instance : ElOf Tryz.prog 126 1 8 := elOf_mk (by kernel_rfl) (by decide)
instance : ZeroOf Tryz.prog 126 [.nilFunc] := ⟨.nilFunc, fun _ => by kernel_rfl, by kernel_rfl⟩
instance : IsOne Tryz.prog 127 := ⟨fun _ => by kernel_rfl, fun _ => by kernel_rfl⟩
instance : ElOf Tryz.prog 127 1 8 := elOf_mk (by kernel_rfl) (by decide)
instance : ZeroOf Tryz.prog 127 [.nilFunc] := ⟨.nilFunc, fun _ => by kernel_rfl, by kernel_rfl⟩
instance : IsOne Tryz.prog 129 := ⟨fun _ => by kernel_rfl, fun _ => by kernel_rfl⟩
instance : ElOf Tryz.prog 129 1 8 := elOf_mk (by kernel_rfl) (by decide)
instance : ZeroOf Tryz.prog 129 [.nilFunc] := ⟨.nilFunc, fun _ => by kernel_rfl, by kernel_rfl⟩
instance : IsOne Tryz.prog 130 := ⟨fun _ => by kernel_rfl, fun _ => by kernel_rfl⟩
instance : ElOf Tryz.prog 130 1 8 := elOf_mk (by kernel_rfl) (by decide)
instance : ZeroOf Tryz.prog 130 [.nilFunc] := ⟨.nilFunc, fun _ => by kernel_rfl, by kernel_rfl⟩
instance : IsOne Tryz.prog 131 := ⟨fun _ => by kernel_rfl, fun _ => by kernel_rfl⟩
instance : ElOf Tryz.prog 131 1 8 := elOf_mk (by kernel_rfl) (by decide)
instance : ZeroOf Tryz.prog 131 [.nilFunc] := ⟨.nilFunc, fun _ => by kernel_rfl, by kernel_rfl⟩
instance : IsOne Tryz.prog 132 := ⟨fun _ => by kernel_rfl, fun _ => by kernel_rfl⟩
instance : ElOf Tryz.prog 132 1 8 := elOf_mk (by kernel_rfl) (by decide)
instance : ZeroOf Tryz.prog 132 [.nilFunc] := ⟨.nilFunc, fun _ => by kernel_rfl, by kernel_rfl⟩
instance : IsOne Tryz.prog 134 := ⟨fun _ => by kernel_rfl, fun _ => by kernel_rfl⟩
instance : ElOf Tryz.prog 134 1 8 := elOf_mk (by kernel_rfl) (by decide)
instance : ZeroOf Tryz.prog 134 [.nilFunc] := ⟨.nilFunc, fun _ => by kernel_rfl, by kernel_rfl⟩
instance : IsOne Tryz.prog 135 := ⟨fun _ => by kernel_rfl, fun _ => by kernel_rfl⟩
instance : ElOf Tryz.prog 135 1 8 := elOf_mk (by kernel_rfl) (by decide)
instance : ZeroOf Tryz.prog 135 [.nilFunc] := ⟨.nilFunc, fun _ => by kernel_rfl, by kernel_rfl⟩
instance : IsOne Tryz.prog 136 := ⟨fun _ => by kernel_rfl, fun _ => by kernel_rfl⟩
instance : ElOf Tryz.prog 136 1 8 := elOf_mk (by kernel_rfl) (by decide)
instance : ZeroOf Tryz.prog 136 [.nilFunc] := ⟨.nilFunc, fun _ => by kernel_rfl, by kernel_rfl⟩
instance : IsOne Tryz.prog 137 := ⟨fun _ => by kernel_rfl, fun _ => by kernel_rfl⟩
instance : ElOf Tryz.prog 137 1 8 := elOf_mk (by kernel_rfl) (by decide)
instance : ZeroOf Tryz.prog 137 [.nilFunc] := ⟨.nilFunc, fun _ => by kernel_rfl, by kernel_rfl⟩
instance : IsOne Tryz.prog 138 := ⟨fun _ => by kernel_rfl, fun _ => by kernel_rfl⟩
instance : ElOf Tryz.prog 138 1 8 := elOf_mk (by kernel_rfl) (by decide)
instance : ZeroOf Tryz.prog 138 [.nilFunc] := ⟨.nilFunc, fun _ => by kernel_rfl, by kernel_rfl⟩
instance : IsOne Tryz.prog 139 := ⟨fun _ => by kernel_rfl, fun _ => by kernel_rfl⟩
instance : ElOf Tryz.prog 139 1 8 := elOf_mk (by kernel_rfl) (by decide)
instance : ZeroOf Tryz.prog 139 [.nilFunc] := ⟨.nilFunc, fun _ => by kernel_rfl, by kernel_rfl⟩
instance : IsOne Tryz.prog 140 := ⟨fun _ => by kernel_rfl, fun _ => by kernel_rfl⟩
instance : ElOf Tryz.prog 140 1 8 := elOf_mk (by kernel_rfl) (by decide)
instance : ZeroOf Tryz.prog 140 [.nilFunc] := ⟨.nilFunc, fun _ => by kernel_rfl, by kernel_rfl⟩
instance : IsOne Tryz.prog 141 := ⟨fun _ => by kernel_rfl, fun _ => by kernel_rfl⟩
instance : ElOf Tryz.prog 141 1 8 := elOf_mk (by kernel_rfl) (by decide)
instance : ZeroOf Tryz.prog 141 [(.pointer none)] := ⟨(.pointer none), fun _ => by kernel_rfl, by kernel_rfl⟩
instance : IsAgg Tryz.prog 142 3 := ⟨fun _ => by kernel_rfl, fun _ => by kernel_rfl⟩
instance : FldAt Tryz.prog 142 0 0 := ⟨fun _ _ _ => by kernel_rfl⟩
instance : FldAt Tryz.prog 142 1 1 := ⟨fun _ _ _ => by kernel_rfl⟩
instance : FldAt Tryz.prog 142 2 2 := ⟨fun _ _ _ => by kernel_rfl⟩
instance : ElOf Tryz.prog 142 3 48 := elOf_mk (by kernel_rfl) (by decide)
instance : ZeroOf Tryz.prog 142 [(.bool false), (.string ⟨#[]⟩), (.slice none 0 0)] := ⟨(.agg #[(.bool false), (.string ⟨#[]⟩), (.slice none 0 0)]), fun _ => by kernel_rfl, by kernel_rfl⟩
instance : PlacesOf Tryz.prog 142 [(0, 1), (1, 1), (2, 1)] [(.bool false), (.string ⟨#[]⟩), (.slice none 0 0)] := placesOf_mk (Tryz.prog.fieldsOf 142) (.agg #[(.bool false), (.string ⟨#[]⟩), (.slice none 0 0)]) (fun _ => by kernel_rfl) (by kernel_rfl) (by kernel_rfl) (fun _ => by kernel_rfl)
instance : IsAgg Tryz.prog 143 3 := ⟨fun _ => by kernel_rfl, fun _ => by kernel_rfl⟩
instance : FldAt Tryz.prog 143 0 0 := ⟨fun _ _ _ => by kernel_rfl⟩
instance : FldAt Tryz.prog 143 1 1 := ⟨fun _ _ _ => by kernel_rfl⟩
instance : FldAt Tryz.prog 143 2 2 := ⟨fun _ _ _ => by kernel_rfl⟩
instance : ElOf Tryz.prog 143 3 48 := elOf_mk (by kernel_rfl) (by decide)
instance : ZeroOf Tryz.prog 143 [(.bool false), (.string ⟨#[]⟩), (.slice none 0 0)] := ⟨(.agg #[(.bool false), (.string ⟨#[]⟩), (.slice none 0 0)]), fun _ => by kernel_rfl, by kernel_rfl⟩
instance : PlacesOf Tryz.prog 143 [(0, 1), (1, 1), (2, 1)] [(.bool false), (.string ⟨#[]⟩), (.slice none 0 0)] := placesOf_mk (Tryz.prog.fieldsOf 143) (.agg #[(.bool false), (.string ⟨#[]⟩), (.slice none 0 0)]) (fun _ => by kernel_rfl) (by kernel_rfl) (by kernel_rfl) (fun _ => by kernel_rfl)
instance : IsOne Tryz.prog 145 := ⟨fun _ => by kernel_rfl, fun _ => by kernel_rfl⟩
instance : ElOf Tryz.prog 145 1 8 := elOf_mk (by kernel_rfl) (by decide)
instance : ZeroOf Tryz.prog 145 [.nilFunc] := ⟨.nilFunc, fun _ => by kernel_rfl, by kernel_rfl⟩
instance : IsOne Tryz.prog 146 := ⟨fun _ => by kernel_rfl, fun _ => by kernel_rfl⟩
instance : ElOf Tryz.prog 146 1 8 := elOf_mk (by kernel_rfl) (by decide)
instance : ZeroOf Tryz.prog 146 [.nilFunc] := ⟨.nilFunc, fun _ => by kernel_rfl, by kernel_rfl⟩
instance : IsOne Tryz.prog 147 := ⟨fun _ => by kernel_rfl, fun _ => by kernel_rfl⟩
instance : ElOf Tryz.prog 147 1 8 := elOf_mk (by kernel_rfl) (by decide)
instance : ZeroOf Tryz.prog 147 [.nilFunc] := ⟨.nilFunc, fun _ => by kernel_rfl, by kernel_rfl⟩
instance : IsAgg Tryz.prog 148 4 := ⟨fun _ => by kernel_rfl, fun _ => by kernel_rfl⟩
instance : ElOf Tryz.prog 148 4 32 := elOf_mk (by kernel_rfl) (by decide)
instance : ZeroOf Tryz.prog 148 [.nilFunc, .nilFunc, .nilFunc, .nilFunc] := ⟨(.agg #[.nilFunc, .nilFunc, .nilFunc, .nilFunc]), fun _ => by kernel_rfl, by kernel_rfl⟩
instance : IsOne Tryz.prog 149 := ⟨fun _ => by kernel_rfl, fun _ => by kernel_rfl⟩
instance : ElOf Tryz.prog 149 1 8 := elOf_mk (by kernel_rfl) (by decide)
instance : ZeroOf Tryz.prog 149 [.nilFunc] := ⟨.nilFunc, fun _ => by kernel_rfl, by kernel_rfl⟩
instance : IsOne Tryz.prog 150 := ⟨fun _ => by kernel_rfl, fun _ => by kernel_rfl⟩
instance : ElOf Tryz.prog 150 1 8 := elOf_mk (by kernel_rfl) (by decide)
instance : ZeroOf Tryz.prog 150 [.nilFunc] := ⟨.nilFunc, fun _ => by kernel_rfl, by kernel_rfl⟩
instance : IsOne Tryz.prog 151 := ⟨fun _ => by kernel_rfl, fun _ => by kernel_rfl⟩
instance : ElOf Tryz.prog 151 1 8 := elOf_mk (by kernel_rfl) (by decide)
instance : ZeroOf Tryz.prog 151 [.nilFunc] := ⟨.nilFunc, fun _ => by kernel_rfl, by kernel_rfl⟩
instance : IsOne Tryz.prog 152 := ⟨fun _ => by kernel_rfl, fun _ => by kernel_rfl⟩
instance : ElOf Tryz.prog 152 1 8 := elOf_mk (by kernel_rfl) (by decide)
instance : ZeroOf Tryz.prog 152 [.nilFunc] := ⟨.nilFunc, fun _ => by kernel_rfl, by kernel_rfl⟩
instance : IsOne Tryz.prog 153 := ⟨fun _ => by kernel_rfl, fun _ => by kernel_rfl⟩
instance : ElOf Tryz.prog 153 1 8 := elOf_mk (by kernel_rfl) (by decide)
instance : ZeroOf Tryz.prog 153 [.nilFunc] := ⟨.nilFunc, fun _ => by kernel_rfl, by kernel_rfl⟩
instance : IsOne Tryz.prog 154 := ⟨fun _ => by kernel_rfl, fun _ => by kernel_rfl⟩
instance : ElOf Tryz.prog 154 1 8 := elOf_mk (by kernel_rfl) (by decide)
instance : ZeroOf Tryz.prog 154 [.nilFunc] := ⟨.nilFunc, fun _ => by kernel_rfl, by kernel_rfl⟩
instance : IsOne Tryz.prog 155 := ⟨fun _ => by kernel_rfl, fun _ => by kernel_rfl⟩
instance : ElOf Tryz.prog 155 1 8 := elOf_mk (by kernel_rfl) (by decide)
instance : ZeroOf Tryz.prog 155 [.nilFunc] := ⟨.nilFunc, fun _ => by kernel_rfl, by kernel_rfl⟩
instance : IsOne Tryz.prog 156 := ⟨fun _ => by kernel_rfl, fun _ => by kernel_rfl⟩
instance : ElOf Tryz.prog 156 1 8 := elOf_mk (by kernel_rfl) (by decide)
instance : ZeroOf Tryz.prog 156 [.nilFunc] := ⟨.nilFunc, fun _ => by kernel_rfl, by kernel_rfl⟩
instance : IsOne Tryz.prog 157 := ⟨fun _ => by kernel_rfl, fun _ => by kernel_rfl⟩
instance : ElOf Tryz.prog 157 1 8 := elOf_mk (by kernel_rfl) (by decide)
instance : ZeroOf Tryz.prog 157 [.nilFunc] := ⟨.nilFunc, fun _ => by kernel_rfl, by kernel_rfl⟩
instance : IsOne Tryz.prog 158 := ⟨fun _ => by kernel_rfl, fun _ => by kernel_rfl⟩
instance : NotInt Tryz.prog 158 := ⟨.inr ⟨4, by kernel_rfl⟩⟩
instance : SlOf Tryz.prog 158 4 1 := ⟨by kernel_rfl, fun _ => by kernel_rfl⟩
instance : ElOf Tryz.prog 158 1 24 := elOf_mk (by kernel_rfl) (by decide)
instance : ZeroOf Tryz.prog 158 [(.slice none 0 0)] := ⟨(.slice none 0 0), fun _ => by kernel_rfl, by kernel_rfl⟩
instance : IsOne Tryz.prog 159 := ⟨fun _ => by kernel_rfl, fun _ => by kernel_rfl⟩
instance : ElOf Tryz.prog 159 1 8 := elOf_mk (by kernel_rfl) (by decide)
instance : ZeroOf Tryz.prog 159 [.nilFunc] := ⟨.nilFunc, fun _ => by kernel_rfl, by kernel_rfl⟩
instance : IsOne Tryz.prog 160 := ⟨fun _ => by kernel_rfl, fun _ => by kernel_rfl⟩
instance : ElOf Tryz.prog 160 1 8 := elOf_mk (by kernel_rfl) (by decide)
instance : ZeroOf Tryz.prog 160 [.nilFunc] := ⟨.nilFunc, fun _ => by kernel_rfl, by kernel_rfl⟩
instance : IsOne Tryz.prog 161 := ⟨fun _ => by kernel_rfl, fun _ => by kernel_rfl⟩
instance : ElOf Tryz.prog 161 1 8 := elOf_mk (by kernel_rfl) (by decide)
instance : ZeroOf Tryz.prog 161 [.nilFunc] := ⟨.nilFunc, fun _ => by kernel_rfl, by kernel_rfl⟩
instance : IsOne Tryz.prog 163 := ⟨fun _ => by kernel_rfl, fun _ => by kernel_rfl⟩
instance : ElOf Tryz.prog 163 1 8 := elOf_mk (by kernel_rfl) (by decide)
instance : ZeroOf Tryz.prog 163 [.nilFunc] := ⟨.nilFunc, fun _ => by kernel_rfl, by kernel_rfl⟩
instance : IsOne Tryz.prog 164 := ⟨fun _ => by kernel_rfl, fun _ => by kernel_rfl⟩
instance : ElOf Tryz.prog 164 1 8 := elOf_mk (by kernel_rfl) (by decide)
instance : ZeroOf Tryz.prog 164 [.nilFunc] := ⟨.nilFunc, fun _ => by kernel_rfl, by kernel_rfl⟩
instance : IsOne Tryz.prog 165 := ⟨fun _ => by kernel_rfl, fun _ => by kernel_rfl⟩
instance : ElOf Tryz.prog 165 1 8 := elOf_mk (by kernel_rfl) (by decide)
instance : ZeroOf Tryz.prog 165 [.nilFunc] := ⟨.nilFunc, fun _ => by kernel_rfl, by kernel_rfl⟩
instance : IsOne Tryz.prog 166 := ⟨fun _ => by kernel_rfl, fun _ => by kernel_rfl⟩
instance : ElOf Tryz.prog 166 1 8 := elOf_mk (by kernel_rfl) (by decide)
instance : ZeroOf Tryz.prog 166 [.nilFunc] := ⟨.nilFunc, fun _ => by kernel_rfl, by kernel_rfl⟩
instance : IsOne Tryz.prog 167 := ⟨fun _ => by kernel_rfl, fun _ => by kernel_rfl⟩
instance : ElOf Tryz.prog 167 1 8 := elOf_mk (by kernel_rfl) (by decide)
instance : ZeroOf Tryz.prog 167 [.nilFunc] := ⟨.nilFunc, fun _ => by kernel_rfl, by kernel_rfl⟩
instance : IsOne Tryz.prog 168 := ⟨fun _ => by kernel_rfl, fun _ => by kernel_rfl⟩
instance : NotInt Tryz.prog 168 := ⟨.inr ⟨21, by kernel_rfl⟩⟩
instance : SlOf Tryz.prog 168 21 1 := ⟨by kernel_rfl, fun _ => by kernel_rfl⟩
instance : ElOf Tryz.prog 168 1 24 := elOf_mk (by kernel_rfl) (by decide)
instance : ZeroOf Tryz.prog 168 [(.slice none 0 0)] := ⟨(.slice none 0 0), fun _ => by kernel_rfl, by kernel_rfl⟩
instance : IsOne Tryz.prog 169 := ⟨fun _ => by kernel_rfl, fun _ => by kernel_rfl⟩
instance : ElOf Tryz.prog 169 1 8 := elOf_mk (by kernel_rfl) (by decide)
instance : ZeroOf Tryz.prog 169 [.nilFunc] := ⟨.nilFunc, fun _ => by kernel_rfl, by kernel_rfl⟩
instance : IsOne Tryz.prog 170 := ⟨fun _ => by kernel_rfl, fun _ => by kernel_rfl⟩
instance : ElOf Tryz.prog 170 1 8 := elOf_mk (by kernel_rfl) (by decide)
instance : ZeroOf Tryz.prog 170 [.nilFunc] := ⟨.nilFunc, fun _ => by kernel_rfl, by kernel_rfl⟩
instance : IsOne Tryz.prog 171 := ⟨fun _ => by kernel_rfl, fun _ => by kernel_rfl⟩
instance : ElOf Tryz.prog 171 1 8 := elOf_mk (by kernel_rfl) (by decide)
instance : ZeroOf Tryz.prog 171 [.nilFunc] := ⟨.nilFunc, fun _ => by kernel_rfl, by kernel_rfl⟩
instance : IsOne Tryz.prog 173 := ⟨fun _ => by kernel_rfl, fun _ => by kernel_rfl⟩
instance : ElOf Tryz.prog 173 1 8 := elOf_mk (by kernel_rfl) (by decide)
instance : ZeroOf Tryz.prog 173 [.nilFunc] := ⟨.nilFunc, fun _ => by kernel_rfl, by kernel_rfl⟩
instance : IsAgg Tryz.prog 174 2 := ⟨fun _ => by kernel_rfl, fun _ => by kernel_rfl⟩
instance : FldAt Tryz.prog 174 0 0 := ⟨fun _ _ _ => by kernel_rfl⟩
instance : FldAt Tryz.prog 174 1 1 := ⟨fun _ _ _ => by kernel_rfl⟩
instance : ElOf Tryz.prog 174 2 16 := elOf_mk (by kernel_rfl) (by decide)
instance : ZeroOf Tryz.prog 174 [(.int .i64 0), (.int .i64 0)] := ⟨(.agg #[(.int .i64 0), (.int .i64 0)]), fun _ => by kernel_rfl, by kernel_rfl⟩
instance : PlacesOf Tryz.prog 174 [(0, 1), (1, 1)] [(.int .i64 0), (.int .i64 0)] := placesOf_mk (Tryz.prog.fieldsOf 174) (.agg #[(.int .i64 0), (.int .i64 0)]) (fun _ => by kernel_rfl) (by kernel_rfl) (by kernel_rfl) (fun _ => by kernel_rfl)
instance : IsAgg Tryz.prog 175 2 := ⟨fun _ => by kernel_rfl, fun _ => by kernel_rfl⟩
instance : FldAt Tryz.prog 175 0 0 := ⟨fun _ _ _ => by kernel_rfl⟩
instance : FldAt Tryz.prog 175 1 1 := ⟨fun _ _ _ => by kernel_rfl⟩
set_option maxRecDepth 100000 in
instance : FlatEq Tryz.prog 175 [.int .i64, .int .i64] := ⟨by kernel_rfl, .cons (by kernel_rfl) (of_decide_eq_true (by kernel_rfl)) (fun _ => by kernel_rfl) (by kernel_rfl) (.cons (by kernel_rfl) (of_decide_eq_true (by kernel_rfl)) (fun _ => by kernel_rfl) (by kernel_rfl) (.nil)), by kernel_rfl, by kernel_rfl⟩
instance : ElOf Tryz.prog 175 2 16 := elOf_mk (by kernel_rfl) (by decide)
instance : ZeroOf Tryz.prog 175 [(.int .i64 0), (.int .i64 0)] := ⟨(.agg #[(.int .i64 0), (.int .i64 0)]), fun _ => by kernel_rfl, by kernel_rfl⟩
instance : PlacesOf Tryz.prog 175 [(0, 1), (1, 1)] [(.int .i64 0), (.int .i64 0)] := placesOf_mk (Tryz.prog.fieldsOf 175) (.agg #[(.int .i64 0), (.int .i64 0)]) (fun _ => by kernel_rfl) (by kernel_rfl) (by kernel_rfl) (fun _ => by kernel_rfl)
instance : IsAgg Tryz.prog 177 2 := ⟨fun _ => by kernel_rfl, fun _ => by kernel_rfl⟩
instance : FldAt Tryz.prog 177 0 0 := ⟨fun _ _ _ => by kernel_rfl⟩
instance : FldAt Tryz.prog 177 1 1 := ⟨fun _ _ _ => by kernel_rfl⟩
instance : ElOf Tryz.prog 177 2 24 := elOf_mk (by kernel_rfl) (by decide)
instance : ZeroOf Tryz.prog 177 [(.string ⟨#[]⟩), (.int .i64 0)] := ⟨(.agg #[(.string ⟨#[]⟩), (.int .i64 0)]), fun _ => by kernel_rfl, by kernel_rfl⟩
instance : PlacesOf Tryz.prog 177 [(0, 1), (1, 1)] [(.string ⟨#[]⟩), (.int .i64 0)] := placesOf_mk (Tryz.prog.fieldsOf 177) (.agg #[(.string ⟨#[]⟩), (.int .i64 0)]) (fun _ => by kernel_rfl) (by kernel_rfl) (by kernel_rfl) (fun _ => by kernel_rfl)
instance : IsAgg Tryz.prog 178 2 := ⟨fun _ => by kernel_rfl, fun _ => by kernel_rfl⟩
instance : FldAt Tryz.prog 178 0 0 := ⟨fun _ _ _ => by kernel_rfl⟩
instance : FldAt Tryz.prog 178 1 1 := ⟨fun _ _ _ => by kernel_rfl⟩
set_option maxRecDepth 100000 in
instance : FlatEq Tryz.prog 178 [.str, .int .i64] := ⟨by kernel_rfl, .cons (by kernel_rfl) (of_decide_eq_true (by kernel_rfl)) (fun _ => by kernel_rfl) (by kernel_rfl) (.cons (by kernel_rfl) (of_decide_eq_true (by kernel_rfl)) (fun _ => by kernel_rfl) (by kernel_rfl) (.nil)), by kernel_rfl, by kernel_rfl⟩
instance : ElOf Tryz.prog 178 2 24 := elOf_mk (by kernel_rfl) (by decide)
instance : ZeroOf Tryz.prog 178 [(.string ⟨#[]⟩), (.int .i64 0)] := ⟨(.agg #[(.string ⟨#[]⟩), (.int .i64 0)]), fun _ => by kernel_rfl, by kernel_rfl⟩
instance : PlacesOf Tryz.prog 178 [(0, 1), (1, 1)] [(.string ⟨#[]⟩), (.int .i64 0)] := placesOf_mk (Tryz.prog.fieldsOf 178) (.agg #[(.string ⟨#[]⟩), (.int .i64 0)]) (fun _ => by kernel_rfl) (by kernel_rfl) (by kernel_rfl) (fun _ => by kernel_rfl)
instance : IsOne Tryz.prog 179 := ⟨fun _ => by kernel_rfl, fun _ => by kernel_rfl⟩
instance : ElOf Tryz.prog 179 1 8 := elOf_mk (by kernel_rfl) (by decide)
instance : ZeroOf Tryz.prog 179 [.nilFunc] := ⟨.nilFunc, fun _ => by kernel_rfl, by kernel_rfl⟩
instance : IsOne Tryz.prog 180 := ⟨fun _ => by kernel_rfl, fun _ => by kernel_rfl⟩
instance : ElOf Tryz.prog 180 1 8 := elOf_mk (by kernel_rfl) (by decide)
instance : ZeroOf Tryz.prog 180 [(.pointer none)] := ⟨(.pointer none), fun _ => by kernel_rfl, by kernel_rfl⟩
instance : IsOne Tryz.prog 181 := ⟨fun _ => by kernel_rfl, fun _ => by kernel_rfl⟩
instance : ElOf Tryz.prog 181 1 8 := elOf_mk (by kernel_rfl) (by decide)
instance : ZeroOf Tryz.prog 181 [.nilFunc] := ⟨.nilFunc, fun _ => by kernel_rfl, by kernel_rfl⟩
instance : IsOne Tryz.prog 182 := ⟨fun _ => by kernel_rfl, fun _ => by kernel_rfl⟩
instance : ElOf Tryz.prog 182 1 8 := elOf_mk (by kernel_rfl) (by decide)
instance : ZeroOf Tryz.prog 182 [.nilFunc] := ⟨.nilFunc, fun _ => by kernel_rfl, by kernel_rfl⟩
instance : IsOne Tryz.prog 183 := ⟨fun _ => by kernel_rfl, fun _ => by kernel_rfl⟩
instance : ElOf Tryz.prog 183 1 8 := elOf_mk (by kernel_rfl) (by decide)
instance : ZeroOf Tryz.prog 183 [.nilFunc] := ⟨.nilFunc, fun _ => by kernel_rfl, by kernel_rfl⟩
instance : IsOne Tryz.prog 184 := ⟨fun _ => by kernel_rfl, fun _ => by kernel_rfl⟩
instance : ElOf Tryz.prog 184 1 8 := elOf_mk (by kernel_rfl) (by decide)
instance : ZeroOf Tryz.prog 184 [.nilFunc] := ⟨.nilFunc, fun _ => by kernel_rfl, by kernel_rfl⟩
instance : IsOne Tryz.prog 185 := ⟨fun _ => by kernel_rfl, fun _ => by kernel_rfl⟩
instance : ElOf Tryz.prog 185 1 8 := elOf_mk (by kernel_rfl) (by decide)
instance : ZeroOf Tryz.prog 185 [.nilFunc] := ⟨.nilFunc, fun _ => by kernel_rfl, by kernel_rfl⟩
instance : IsOne Tryz.prog 186 := ⟨fun _ => by kernel_rfl, fun _ => by kernel_rfl⟩
instance : ElOf Tryz.prog 186 1 8 := elOf_mk (by kernel_rfl) (by decide)
instance : ZeroOf Tryz.prog 186 [.nilFunc] := ⟨.nilFunc, fun _ => by kernel_rfl, by kernel_rfl⟩
instance : IsOne Tryz.prog 187 := ⟨fun _ => by kernel_rfl, fun _ => by kernel_rfl⟩
instance : ElOf Tryz.prog 187 1 8 := elOf_mk (by kernel_rfl) (by decide)
instance : ZeroOf Tryz.prog 187 [.nilFunc] := ⟨.nilFunc, fun _ => by kernel_rfl, by kernel_rfl⟩
instance : IsOne Tryz.prog 189 := ⟨fun _ => by kernel_rfl, fun _ => by kernel_rfl⟩
instance : ElOf Tryz.prog 189 1 8 := elOf_mk (by kernel_rfl) (by decide)
instance : ZeroOf Tryz.prog 189 [.nilFunc] := ⟨.nilFunc, fun _ => by kernel_rfl, by kernel_rfl⟩
instance : IsOne Tryz.prog 191 := ⟨fun _ => by kernel_rfl, fun _ => by kernel_rfl⟩
instance : ElOf Tryz.prog 191 1 8 := elOf_mk (by kernel_rfl) (by decide)
instance : ZeroOf Tryz.prog 191 [.nilFunc] := ⟨.nilFunc, fun _ => by kernel_rfl, by kernel_rfl⟩
instance : IsAgg Tryz.prog 192 256 := ⟨fun _ => by kernel_rfl, fun _ => by kernel_rfl⟩
instance : IsOne Tryz.prog 193 := ⟨fun _ => by kernel_rfl, fun _ => by kernel_rfl⟩
instance : IntT Tryz.prog 193 .u64 := ⟨by kernel_rfl⟩
instance : ElOf Tryz.prog 193 1 8 := elOf_mk (by kernel_rfl) (by decide)
instance : ZeroOf Tryz.prog 193 [(.int .u64 0)] := ⟨(.int .u64 0), fun _ => by kernel_rfl, by kernel_rfl⟩
instance : IsAgg Tryz.prog 194 2 := ⟨fun _ => by kernel_rfl, fun _ => by kernel_rfl⟩
instance : FldAt Tryz.prog 194 0 0 := ⟨fun _ _ _ => by kernel_rfl⟩
instance : FldAt Tryz.prog 194 1 1 := ⟨fun _ _ _ => by kernel_rfl⟩
instance : ElOf Tryz.prog 194 2 2 := elOf_mk (by kernel_rfl) (by decide)
instance : ZeroOf Tryz.prog 194 [(.int .u8 0), (.int .u8 0)] := ⟨(.agg #[(.int .u8 0), (.int .u8 0)]), fun _ => by kernel_rfl, by kernel_rfl⟩
instance : PlacesOf Tryz.prog 194 [(0, 1), (1, 1)] [(.int .u8 0), (.int .u8 0)] := placesOf_mk (Tryz.prog.fieldsOf 194) (.agg #[(.int .u8 0), (.int .u8 0)]) (fun _ => by kernel_rfl) (by kernel_rfl) (by kernel_rfl) (fun _ => by kernel_rfl)
instance : IsAgg Tryz.prog 195 2 := ⟨fun _ => by kernel_rfl, fun _ => by kernel_rfl⟩
instance : FldAt Tryz.prog 195 0 0 := ⟨fun _ _ _ => by kernel_rfl⟩
instance : FldAt Tryz.prog 195 1 1 := ⟨fun _ _ _ => by kernel_rfl⟩
instance : ElOf Tryz.prog 195 2 2 := elOf_mk (by kernel_rfl) (by decide)
instance : ZeroOf Tryz.prog 195 [(.int .u8 0), (.int .u8 0)] := ⟨(.agg #[(.int .u8 0), (.int .u8 0)]), fun _ => by kernel_rfl, by kernel_rfl⟩
instance : PlacesOf Tryz.prog 195 [(0, 1), (1, 1)] [(.int .u8 0), (.int .u8 0)] := placesOf_mk (Tryz.prog.fieldsOf 195) (.agg #[(.int .u8 0), (.int .u8 0)]) (fun _ => by kernel_rfl) (by kernel_rfl) (by kernel_rfl) (fun _ => by kernel_rfl)
instance : IsAgg Tryz.prog 196 32 := ⟨fun _ => by kernel_rfl, fun _ => by kernel_rfl⟩
instance : ElOf Tryz.prog 196 32 32 := elOf_mk (by kernel_rfl) (by decide)
instance : ZeroOf Tryz.prog 196 [(.int .u8 0), (.int .u8 0), (.int .u8 0), (.int .u8 0), (.int .u8 0), (.int .u8 0), (.int .u8 0), (.int .u8 0), (.int .u8 0), (.int .u8 0), (.int .u8 0), (.int .u8 0), (.int .u8 0), (.int .u8 0), (.int .u8 0), (.int .u8 0), (.int .u8 0), (.int .u8 0), (.int .u8 0), (.int .u8 0), (.int .u8 0), (.int .u8 0), (.int .u8 0), (.int .u8 0), (.int .u8 0), (.int .u8 0), (.int .u8 0), (.int .u8 0), (.int .u8 0), (.int .u8 0), (.int .u8 0), (.int .u8 0)] := ⟨(.agg #[(.int .u8 0), (.int .u8 0), (.int .u8 0), (.int .u8 0), (.int .u8 0), (.int .u8 0), (.int .u8 0), (.int .u8 0), (.int .u8 0), (.int .u8 0), (.int .u8 0), (.int .u8 0), (.int .u8 0), (.int .u8 0), (.int .u8 0), (.int .u8 0), (.int .u8 0), (.int .u8 0), (.int .u8 0), (.int .u8 0), (.int .u8 0), (.int .u8 0), (.int .u8 0), (.int .u8 0), (.int .u8 0), (.int .u8 0), (.int .u8 0), (.int .u8 0), (.int .u8 0), (.int .u8 0), (.int .u8 0), (.int .u8 0)]), fun _ => by kernel_rfl, by kernel_rfl⟩
instance : IsOne Tryz.prog 197 := ⟨fun _ => by kernel_rfl, fun _ => by kernel_rfl⟩
instance : ElOf Tryz.prog 197 1 8 := elOf_mk (by kernel_rfl) (by decide)
instance : ZeroOf Tryz.prog 197 [(.pointer none)] := ⟨(.pointer none), fun _ => by kernel_rfl, by kernel_rfl⟩
instance : IsOne Tryz.prog 198 := ⟨fun _ => by kernel_rfl, fun _ => by kernel_rfl⟩
instance : ElOf Tryz.prog 198 1 8 := elOf_mk (by kernel_rfl) (by decide)
instance : ZeroOf Tryz.prog 198 [.nilFunc] := ⟨.nilFunc, fun _ => by kernel_rfl, by kernel_rfl⟩
instance : IsOne Tryz.prog 199 := ⟨fun _ => by kernel_rfl, fun _ => by kernel_rfl⟩
instance : IntT Tryz.prog 199 .u64 := ⟨by kernel_rfl⟩
instance : ElOf Tryz.prog 199 1 8 := elOf_mk (by kernel_rfl) (by decide)
instance : ZeroOf Tryz.prog 199 [(.int .u64 0)] := ⟨(.int .u64 0), fun _ => by kernel_rfl, by kernel_rfl⟩
instance : IsOne Tryz.prog 200 := ⟨fun _ => by kernel_rfl, fun _ => by kernel_rfl⟩
instance : ElOf Tryz.prog 200 1 8 := elOf_mk (by kernel_rfl) (by decide)
instance : ZeroOf Tryz.prog 200 [.nilFunc] := ⟨.nilFunc, fun _ => by kernel_rfl, by kernel_rfl⟩
instance : IsOne Tryz.prog 201 := ⟨fun _ => by kernel_rfl, fun _ => by kernel_rfl⟩
instance : NotInt Tryz.prog 201 := ⟨.inr ⟨34, by kernel_rfl⟩⟩
instance : SlOf Tryz.prog 201 34 1 := ⟨by kernel_rfl, fun _ => by kernel_rfl⟩
instance : ElOf Tryz.prog 201 1 24 := elOf_mk (by kernel_rfl) (by decide)
instance : ZeroOf Tryz.prog 201 [(.slice none 0 0)] := ⟨(.slice none 0 0), fun _ => by kernel_rfl, by kernel_rfl⟩
instance : IsOne Tryz.prog 202 := ⟨fun _ => by kernel_rfl, fun _ => by kernel_rfl⟩
instance : NotInt Tryz.prog 202 := ⟨.inr ⟨199, by kernel_rfl⟩⟩
instance : SlOf Tryz.prog 202 199 1 := ⟨by kernel_rfl, fun _ => by kernel_rfl⟩
instance : ElOf Tryz.prog 202 1 24 := elOf_mk (by kernel_rfl) (by decide)
instance : ZeroOf Tryz.prog 202 [(.slice none 0 0)] := ⟨(.slice none 0 0), fun _ => by kernel_rfl, by kernel_rfl⟩
instance : IsAgg Tryz.prog 203 5 := ⟨fun _ => by kernel_rfl, fun _ => by kernel_rfl⟩
instance : FldAt Tryz.prog 203 0 0 := ⟨fun _ _ _ => by kernel_rfl⟩
instance : FldAt Tryz.prog 203 1 1 := ⟨fun _ _ _ => by kernel_rfl⟩
instance : FldAt Tryz.prog 203 2 2 := ⟨fun _ _ _ => by kernel_rfl⟩
instance : FldAt Tryz.prog 203 3 3 := ⟨fun _ _ _ => by kernel_rfl⟩
instance : FldAt Tryz.prog 203 4 4 := ⟨fun _ _ _ => by kernel_rfl⟩
instance : ElOf Tryz.prog 203 5 72 := elOf_mk (by kernel_rfl) (by decide)
instance : ZeroOf Tryz.prog 203 [(.slice none 0 0), (.int .u64 0), (.int .u64 0), (.slice none 0 0), (.bool false)] := ⟨(.agg #[(.slice none 0 0), (.int .u64 0), (.int .u64 0), (.slice none 0 0), (.bool false)]), fun _ => by kernel_rfl, by kernel_rfl⟩
instance : PlacesOf Tryz.prog 203 [(0, 1), (1, 1), (2, 1), (3, 1), (4, 1)] [(.slice none 0 0), (.int .u64 0), (.int .u64 0), (.slice none 0 0), (.bool false)] := placesOf_mk (Tryz.prog.fieldsOf 203) (.agg #[(.slice none 0 0), (.int .u64 0), (.int .u64 0), (.slice none 0 0), (.bool false)]) (fun _ => by kernel_rfl) (by kernel_rfl) (by kernel_rfl) (fun _ => by kernel_rfl)
instance : IsAgg Tryz.prog 204 5 := ⟨fun _ => by kernel_rfl, fun _ => by kernel_rfl⟩
instance : FldAt Tryz.prog 204 0 0 := ⟨fun _ _ _ => by kernel_rfl⟩
instance : FldAt Tryz.prog 204 1 1 := ⟨fun _ _ _ => by kernel_rfl⟩
instance : FldAt Tryz.prog 204 2 2 := ⟨fun _ _ _ => by kernel_rfl⟩
instance : FldAt Tryz.prog 204 3 3 := ⟨fun _ _ _ => by kernel_rfl⟩
instance : FldAt Tryz.prog 204 4 4 := ⟨fun _ _ _ => by kernel_rfl⟩
instance : ElOf Tryz.prog 204 5 72 := elOf_mk (by kernel_rfl) (by decide)
instance : ZeroOf Tryz.prog 204 [(.slice none 0 0), (.int .u64 0), (.int .u64 0), (.slice none 0 0), (.bool false)] := ⟨(.agg #[(.slice none 0 0), (.int .u64 0), (.int .u64 0), (.slice none 0 0), (.bool false)]), fun _ => by kernel_rfl, by kernel_rfl⟩
instance : PlacesOf Tryz.prog 204 [(0, 1), (1, 1), (2, 1), (3, 1), (4, 1)] [(.slice none 0 0), (.int .u64 0), (.int .u64 0), (.slice none 0 0), (.bool false)] := placesOf_mk (Tryz.prog.fieldsOf 204) (.agg #[(.slice none 0 0), (.int .u64 0), (.int .u64 0), (.slice none 0 0), (.bool false)]) (fun _ => by kernel_rfl) (by kernel_rfl) (by kernel_rfl) (fun _ => by kernel_rfl)
instance : IsOne Tryz.prog 205 := ⟨fun _ => by kernel_rfl, fun _ => by kernel_rfl⟩
instance : ElOf Tryz.prog 205 1 8 := elOf_mk (by kernel_rfl) (by decide)
instance : ZeroOf Tryz.prog 205 [.nilFunc] := ⟨.nilFunc, fun _ => by kernel_rfl, by kernel_rfl⟩
instance : IsOne Tryz.prog 206 := ⟨fun _ => by kernel_rfl, fun _ => by kernel_rfl⟩
instance : ElOf Tryz.prog 206 1 8 := elOf_mk (by kernel_rfl) (by decide)
instance : ZeroOf Tryz.prog 206 [.nilFunc] := ⟨.nilFunc, fun _ => by kernel_rfl, by kernel_rfl⟩
instance : IsOne Tryz.prog 207 := ⟨fun _ => by kernel_rfl, fun _ => by kernel_rfl⟩
instance : ElOf Tryz.prog 207 1 8 := elOf_mk (by kernel_rfl) (by decide)
instance : ZeroOf Tryz.prog 207 [.nilFunc] := ⟨.nilFunc, fun _ => by kernel_rfl, by kernel_rfl⟩
instance : IsOne Tryz.prog 208 := ⟨fun _ => by kernel_rfl, fun _ => by kernel_rfl⟩
instance : ElOf Tryz.prog 208 1 8 := elOf_mk (by kernel_rfl) (by decide)
instance : ZeroOf Tryz.prog 208 [.nilFunc] := ⟨.nilFunc, fun _ => by kernel_rfl, by kernel_rfl⟩
instance : IsOne Tryz.prog 209 := ⟨fun _ => by kernel_rfl, fun _ => by kernel_rfl⟩
instance : ElOf Tryz.prog 209 1 8 := elOf_mk (by kernel_rfl) (by decide)
instance : ZeroOf Tryz.prog 209 [(.pointer none)] := ⟨(.pointer none), fun _ => by kernel_rfl, by kernel_rfl⟩
instance : IsOne Tryz.prog 210 := ⟨fun _ => by kernel_rfl, fun _ => by kernel_rfl⟩
instance : ElOf Tryz.prog 210 1 8 := elOf_mk (by kernel_rfl) (by decide)
instance : ZeroOf Tryz.prog 210 [.nilFunc] := ⟨.nilFunc, fun _ => by kernel_rfl, by kernel_rfl⟩
instance : IsOne Tryz.prog 211 := ⟨fun _ => by kernel_rfl, fun _ => by kernel_rfl⟩
instance : ElOf Tryz.prog 211 1 8 := elOf_mk (by kernel_rfl) (by decide)
instance : ZeroOf Tryz.prog 211 [.nilFunc] := ⟨.nilFunc, fun _ => by kernel_rfl, by kernel_rfl⟩
instance : IsOne Tryz.prog 212 := ⟨fun _ => by kernel_rfl, fun _ => by kernel_rfl⟩
instance : ElOf Tryz.prog 212 1 8 := elOf_mk (by kernel_rfl) (by decide)
instance : ZeroOf Tryz.prog 212 [.nilFunc] := ⟨.nilFunc, fun _ => by kernel_rfl, by kernel_rfl⟩
instance : IsOne Tryz.prog 213 := ⟨fun _ => by kernel_rfl, fun _ => by kernel_rfl⟩
instance : ElOf Tryz.prog 213 1 8 := elOf_mk (by kernel_rfl) (by decide)
instance : ZeroOf Tryz.prog 213 [.nilFunc] := ⟨.nilFunc, fun _ => by kernel_rfl, by kernel_rfl⟩
instance : IsOne Tryz.prog 214 := ⟨fun _ => by kernel_rfl, fun _ => by kernel_rfl⟩
instance : ElOf Tryz.prog 214 1 8 := elOf_mk (by kernel_rfl) (by decide)
instance : ZeroOf Tryz.prog 214 [.nilFunc] := ⟨.nilFunc, fun _ => by kernel_rfl, by kernel_rfl⟩
instance : IsOne Tryz.prog 215 := ⟨fun _ => by kernel_rfl, fun _ => by kernel_rfl⟩
instance : ElOf Tryz.prog 215 1 8 := elOf_mk (by kernel_rfl) (by decide)
instance : ZeroOf Tryz.prog 215 [.nilFunc] := ⟨.nilFunc, fun _ => by kernel_rfl, by kernel_rfl⟩
instance : IsAgg Tryz.prog 216 3 := ⟨fun _ => by kernel_rfl, fun _ => by kernel_rfl⟩
instance : FldAt Tryz.prog 216 0 0 := ⟨fun _ _ _ => by kernel_rfl⟩
instance : FldAt Tryz.prog 216 1 1 := ⟨fun _ _ _ => by kernel_rfl⟩
instance : FldAt Tryz.prog 216 2 2 := ⟨fun _ _ _ => by kernel_rfl⟩
instance : ElOf Tryz.prog 216 3 24 := elOf_mk (by kernel_rfl) (by decide)
instance : ZeroOf Tryz.prog 216 [(.int .u64 0), (.int .u64 0), (.bool false)] := ⟨(.agg #[(.int .u64 0), (.int .u64 0), (.bool false)]), fun _ => by kernel_rfl, by kernel_rfl⟩
instance : PlacesOf Tryz.prog 216 [(0, 1), (1, 1), (2, 1)] [(.int .u64 0), (.int .u64 0), (.bool false)] := placesOf_mk (Tryz.prog.fieldsOf 216) (.agg #[(.int .u64 0), (.int .u64 0), (.bool false)]) (fun _ => by kernel_rfl) (by kernel_rfl) (by kernel_rfl) (fun _ => by kernel_rfl)
instance : IsAgg Tryz.prog 217 3 := ⟨fun _ => by kernel_rfl, fun _ => by kernel_rfl⟩
instance : FldAt Tryz.prog 217 0 0 := ⟨fun _ _ _ => by kernel_rfl⟩
instance : FldAt Tryz.prog 217 1 1 := ⟨fun _ _ _ => by kernel_rfl⟩
instance : FldAt Tryz.prog 217 2 2 := ⟨fun _ _ _ => by kernel_rfl⟩
set_option maxRecDepth 100000 in
instance : FlatEq Tryz.prog 217 [.int .u64, .int .u64, .bool] := ⟨by kernel_rfl, .cons (by kernel_rfl) (of_decide_eq_true (by kernel_rfl)) (fun _ => by kernel_rfl) (by kernel_rfl) (.cons (by kernel_rfl) (of_decide_eq_true (by kernel_rfl)) (fun _ => by kernel_rfl) (by kernel_rfl) (.cons (by kernel_rfl) (of_decide_eq_true (by kernel_rfl)) (fun _ => by kernel_rfl) (by kernel_rfl) (.nil))), by kernel_rfl, by kernel_rfl⟩
instance : ElOf Tryz.prog 217 3 24 := elOf_mk (by kernel_rfl) (by decide)
instance : ZeroOf Tryz.prog 217 [(.int .u64 0), (.int .u64 0), (.bool false)] := ⟨(.agg #[(.int .u64 0), (.int .u64 0), (.bool false)]), fun _ => by kernel_rfl, by kernel_rfl⟩
instance : PlacesOf Tryz.prog 217 [(0, 1), (1, 1), (2, 1)] [(.int .u64 0), (.int .u64 0), (.bool false)] := placesOf_mk (Tryz.prog.fieldsOf 217) (.agg #[(.int .u64 0), (.int .u64 0), (.bool false)]) (fun _ => by kernel_rfl) (by kernel_rfl) (by kernel_rfl) (fun _ => by kernel_rfl)
instance : IsOne Tryz.prog 218 := ⟨fun _ => by kernel_rfl, fun _ => by kernel_rfl⟩
instance : ElOf Tryz.prog 218 1 8 := elOf_mk (by kernel_rfl) (by decide)
instance : ZeroOf Tryz.prog 218 [.nilFunc] := ⟨.nilFunc, fun _ => by kernel_rfl, by kernel_rfl⟩
instance : IsOne Tryz.prog 219 := ⟨fun _ => by kernel_rfl, fun _ => by kernel_rfl⟩
instance : IntT Tryz.prog 219 .u32 := ⟨by kernel_rfl⟩
instance : ElOf Tryz.prog 219 1 4 := elOf_mk (by kernel_rfl) (by decide)
instance : ZeroOf Tryz.prog 219 [(.int .u32 0)] := ⟨(.int .u32 0), fun _ => by kernel_rfl, by kernel_rfl⟩
instance : IsOne Tryz.prog 221 := ⟨fun _ => by kernel_rfl, fun _ => by kernel_rfl⟩
instance : ElOf Tryz.prog 221 1 8 := elOf_mk (by kernel_rfl) (by decide)
instance : ZeroOf Tryz.prog 221 [.nilFunc] := ⟨.nilFunc, fun _ => by kernel_rfl, by kernel_rfl⟩
instance : IsOne Tryz.prog 222 := ⟨fun _ => by kernel_rfl, fun _ => by kernel_rfl⟩
instance : ElOf Tryz.prog 222 1 8 := elOf_mk (by kernel_rfl) (by decide)
instance : ZeroOf Tryz.prog 222 [.nilFunc] := ⟨.nilFunc, fun _ => by kernel_rfl, by kernel_rfl⟩
instance : IsOne Tryz.prog 223 := ⟨fun _ => by kernel_rfl, fun _ => by kernel_rfl⟩
instance : ElOf Tryz.prog 223 1 8 := elOf_mk (by kernel_rfl) (by decide)
instance : ZeroOf Tryz.prog 223 [.nilFunc] := ⟨.nilFunc, fun _ => by kernel_rfl, by kernel_rfl⟩
instance : IsOne Tryz.prog 224 := ⟨fun _ => by kernel_rfl, fun _ => by kernel_rfl⟩
instance : NotInt Tryz.prog 224 := ⟨.inr ⟨227, by kernel_rfl⟩⟩
instance : SlOf Tryz.prog 224 227 4 := ⟨by kernel_rfl, fun _ => by kernel_rfl⟩
instance : ElOf Tryz.prog 224 1 24 := elOf_mk (by kernel_rfl) (by decide)
instance : ZeroOf Tryz.prog 224 [(.slice none 0 0)] := ⟨(.slice none 0 0), fun _ => by kernel_rfl, by kernel_rfl⟩
instance : IsOne Tryz.prog 225 := ⟨fun _ => by kernel_rfl, fun _ => by kernel_rfl⟩
instance : ElOf Tryz.prog 225 1 8 := elOf_mk (by kernel_rfl) (by decide)
instance : ZeroOf Tryz.prog 225 [.nilFunc] := ⟨.nilFunc, fun _ => by kernel_rfl, by kernel_rfl⟩
instance : IsAgg Tryz.prog 226 4 := ⟨fun _ => by kernel_rfl, fun _ => by kernel_rfl⟩
instance : FldAt Tryz.prog 226 0 0 := ⟨fun _ _ _ => by kernel_rfl⟩
instance : FldAt Tryz.prog 226 1 1 := ⟨fun _ _ _ => by kernel_rfl⟩
instance : FldAt Tryz.prog 226 2 2 := ⟨fun _ _ _ => by kernel_rfl⟩
instance : FldAt Tryz.prog 226 3 3 := ⟨fun _ _ _ => by kernel_rfl⟩
instance : ElOf Tryz.prog 226 4 32 := elOf_mk (by kernel_rfl) (by decide)
instance : ZeroOf Tryz.prog 226 [(.int .i32 0), (.int .i64 0), (.int .i64 0), (.bool false)] := ⟨(.agg #[(.int .i32 0), (.int .i64 0), (.int .i64 0), (.bool false)]), fun _ => by kernel_rfl, by kernel_rfl⟩
instance : PlacesOf Tryz.prog 226 [(0, 1), (1, 1), (2, 1), (3, 1)] [(.int .i32 0), (.int .i64 0), (.int .i64 0), (.bool false)] := placesOf_mk (Tryz.prog.fieldsOf 226) (.agg #[(.int .i32 0), (.int .i64 0), (.int .i64 0), (.bool false)]) (fun _ => by kernel_rfl) (by kernel_rfl) (by kernel_rfl) (fun _ => by kernel_rfl)
instance : IsAgg Tryz.prog 227 4 := ⟨fun _ => by kernel_rfl, fun _ => by kernel_rfl⟩
instance : FldAt Tryz.prog 227 0 0 := ⟨fun _ _ _ => by kernel_rfl⟩
instance : FldAt Tryz.prog 227 1 1 := ⟨fun _ _ _ => by kernel_rfl⟩
instance : FldAt Tryz.prog 227 2 2 := ⟨fun _ _ _ => by kernel_rfl⟩
instance : FldAt Tryz.prog 227 3 3 := ⟨fun _ _ _ => by kernel_rfl⟩
set_option maxRecDepth 100000 in
instance : FlatEq Tryz.prog 227 [.int .i32, .int .i64, .int .i64, .bool] := ⟨by kernel_rfl, .cons (by kernel_rfl) (of_decide_eq_true (by kernel_rfl)) (fun _ => by kernel_rfl) (by kernel_rfl) (.cons (by kernel_rfl) (of_decide_eq_true (by kernel_rfl)) (fun _ => by kernel_rfl) (by kernel_rfl) (.cons (by kernel_rfl) (of_decide_eq_true (by kernel_rfl)) (fun _ => by kernel_rfl) (by kernel_rfl) (.cons (by kernel_rfl) (of_decide_eq_true (by kernel_rfl)) (fun _ => by kernel_rfl) (by kernel_rfl) (.nil)))), by kernel_rfl, by kernel_rfl⟩
instance : ElOf Tryz.prog 227 4 32 := elOf_mk (by kernel_rfl) (by decide)
instance : ZeroOf Tryz.prog 227 [(.int .i32 0), (.int .i64 0), (.int .i64 0), (.bool false)] := ⟨(.agg #[(.int .i32 0), (.int .i64 0), (.int .i64 0), (.bool false)]), fun _ => by kernel_rfl, by kernel_rfl⟩
instance : PlacesOf Tryz.prog 227 [(0, 1), (1, 1), (2, 1), (3, 1)] [(.int .i32 0), (.int .i64 0), (.int .i64 0), (.bool false)] := placesOf_mk (Tryz.prog.fieldsOf 227) (.agg #[(.int .i32 0), (.int .i64 0), (.int .i64 0), (.bool false)]) (fun _ => by kernel_rfl) (by kernel_rfl) (by kernel_rfl) (fun _ => by kernel_rfl)
instance : IsOne Tryz.prog 228 := ⟨fun _ => by kernel_rfl, fun _ => by kernel_rfl⟩
instance : ElOf Tryz.prog 228 1 8 := elOf_mk (by kernel_rfl) (by decide)
instance : ZeroOf Tryz.prog 228 [.nilFunc] := ⟨.nilFunc, fun _ => by kernel_rfl, by kernel_rfl⟩
instance : IsOne Tryz.prog 229 := ⟨fun _ => by kernel_rfl, fun _ => by kernel_rfl⟩
instance : ElOf Tryz.prog 229 1 8 := elOf_mk (by kernel_rfl) (by decide)
instance : ZeroOf Tryz.prog 229 [.nilFunc] := ⟨.nilFunc, fun _ => by kernel_rfl, by kernel_rfl⟩
instance : IsOne Tryz.prog 230 := ⟨fun _ => by kernel_rfl, fun _ => by kernel_rfl⟩
instance : ElOf Tryz.prog 230 1 8 := elOf_mk (by kernel_rfl) (by decide)
instance : ZeroOf Tryz.prog 230 [.nilFunc] := ⟨.nilFunc, fun _ => by kernel_rfl, by kernel_rfl⟩
instance : IsOne Tryz.prog 231 := ⟨fun _ => by kernel_rfl, fun _ => by kernel_rfl⟩
instance : ElOf Tryz.prog 231 1 8 := elOf_mk (by kernel_rfl) (by decide)
instance : ZeroOf Tryz.prog 231 [.nilFunc] := ⟨.nilFunc, fun _ => by kernel_rfl, by kernel_rfl⟩
instance : IsOne Tryz.prog 232 := ⟨fun _ => by kernel_rfl, fun _ => by kernel_rfl⟩
instance : ElOf Tryz.prog 232 1 8 := elOf_mk (by kernel_rfl) (by decide)
instance : ZeroOf Tryz.prog 232 [.nilFunc] := ⟨.nilFunc, fun _ => by kernel_rfl, by kernel_rfl⟩
instance : IsOne Tryz.prog 233 := ⟨fun _ => by kernel_rfl, fun _ => by kernel_rfl⟩
instance : ElOf Tryz.prog 233 1 8 := elOf_mk (by kernel_rfl) (by decide)
instance : ZeroOf Tryz.prog 233 [.nilFunc] := ⟨.nilFunc, fun _ => by kernel_rfl, by kernel_rfl⟩
instance : IsOne Tryz.prog 234 := ⟨fun _ => by kernel_rfl, fun _ => by kernel_rfl⟩
instance : ElOf Tryz.prog 234 1 8 := elOf_mk (by kernel_rfl) (by decide)
instance : ZeroOf Tryz.prog 234 [.nilFunc] := ⟨.nilFunc, fun _ => by kernel_rfl, by kernel_rfl⟩
instance : IsOne Tryz.prog 235 := ⟨fun _ => by kernel_rfl, fun _ => by kernel_rfl⟩
instance : ElOf Tryz.prog 235 1 8 := elOf_mk (by kernel_rfl) (by decide)
instance : ZeroOf Tryz.prog 235 [.nilFunc] := ⟨.nilFunc, fun _ => by kernel_rfl, by kernel_rfl⟩
instance : IsOne Tryz.prog 236 := ⟨fun _ => by kernel_rfl, fun _ => by kernel_rfl⟩
instance : ElOf Tryz.prog 236 1 8 := elOf_mk (by kernel_rfl) (by decide)
instance : ZeroOf Tryz.prog 236 [.nilFunc] := ⟨.nilFunc, fun _ => by kernel_rfl, by kernel_rfl⟩
instance : IsOne Tryz.prog 237 := ⟨fun _ => by kernel_rfl, fun _ => by kernel_rfl⟩
instance : ElOf Tryz.prog 237 1 8 := elOf_mk (by kernel_rfl) (by decide)
instance : ZeroOf Tryz.prog 237 [.nilFunc] := ⟨.nilFunc, fun _ => by kernel_rfl, by kernel_rfl⟩
instance : IsOne Tryz.prog 238 := ⟨fun _ => by kernel_rfl, fun _ => by kernel_rfl⟩
instance : IntT Tryz.prog 238 .i64 := ⟨by kernel_rfl⟩
instance : ElOf Tryz.prog 238 1 8 := elOf_mk (by kernel_rfl) (by decide)
instance : ZeroOf Tryz.prog 238 [(.int .i64 0)] := ⟨(.int .i64 0), fun _ => by kernel_rfl, by kernel_rfl⟩
instance : IsOne Tryz.prog 240 := ⟨fun _ => by kernel_rfl, fun _ => by kernel_rfl⟩
instance : ElOf Tryz.prog 240 1 8 := elOf_mk (by kernel_rfl) (by decide)
instance : ZeroOf Tryz.prog 240 [.nilFunc] := ⟨.nilFunc, fun _ => by kernel_rfl, by kernel_rfl⟩
instance : IsOne Tryz.prog 241 := ⟨fun _ => by kernel_rfl, fun _ => by kernel_rfl⟩
instance : ElOf Tryz.prog 241 1 8 := elOf_mk (by kernel_rfl) (by decide)
instance : ZeroOf Tryz.prog 241 [.nilFunc] := ⟨.nilFunc, fun _ => by kernel_rfl, by kernel_rfl⟩
instance : IsOne Tryz.prog 242 := ⟨fun _ => by kernel_rfl, fun _ => by kernel_rfl⟩
instance : ElOf Tryz.prog 242 1 8 := elOf_mk (by kernel_rfl) (by decide)
instance : ZeroOf Tryz.prog 242 [.nilFunc] := ⟨.nilFunc, fun _ => by kernel_rfl, by kernel_rfl⟩
instance : IsOne Tryz.prog 243 := ⟨fun _ => by kernel_rfl, fun _ => by kernel_rfl⟩
instance : ElOf Tryz.prog 243 1 8 := elOf_mk (by kernel_rfl) (by decide)
instance : ZeroOf Tryz.prog 243 [.nilFunc] := ⟨.nilFunc, fun _ => by kernel_rfl, by kernel_rfl⟩
instance : IsOne Tryz.prog 244 := ⟨fun _ => by kernel_rfl, fun _ => by kernel_rfl⟩
instance : ElOf Tryz.prog 244 1 8 := elOf_mk (by kernel_rfl) (by decide)
instance : ZeroOf Tryz.prog 244 [.nilFunc] := ⟨.nilFunc, fun _ => by kernel_rfl, by kernel_rfl⟩
instance : IsOne Tryz.prog 245 := ⟨fun _ => by kernel_rfl, fun _ => by kernel_rfl⟩
instance : ElOf Tryz.prog 245 1 8 := elOf_mk (by kernel_rfl) (by decide)
instance : ZeroOf Tryz.prog 245 [.nilFunc] := ⟨.nilFunc, fun _ => by kernel_rfl, by kernel_rfl⟩
instance : IsOne Tryz.prog 246 := ⟨fun _ => by kernel_rfl, fun _ => by kernel_rfl⟩
instance : IntT Tryz.prog 246 .u64 := ⟨by kernel_rfl⟩
instance : ElOf Tryz.prog 246 1 8 := elOf_mk (by kernel_rfl) (by decide)
instance : ZeroOf Tryz.prog 246 [(.int .u64 0)] := ⟨(.int .u64 0), fun _ => by kernel_rfl, by kernel_rfl⟩
instance : IsOne Tryz.prog 247 := ⟨fun _ => by kernel_rfl, fun _ => by kernel_rfl⟩
instance : ElOf Tryz.prog 247 1 8 := elOf_mk (by kernel_rfl) (by decide)
instance : ZeroOf Tryz.prog 247 [.nilFunc] := ⟨.nilFunc, fun _ => by kernel_rfl, by kernel_rfl⟩
instance : IsOne Tryz.prog 248 := ⟨fun _ => by kernel_rfl, fun _ => by kernel_rfl⟩
instance : ElOf Tryz.prog 248 1 8 := elOf_mk (by kernel_rfl) (by decide)
instance : ZeroOf Tryz.prog 248 [.nilFunc] := ⟨.nilFunc, fun _ => by kernel_rfl, by kernel_rfl⟩
instance : IsOne Tryz.prog 249 := ⟨fun _ => by kernel_rfl, fun _ => by kernel_rfl⟩
instance : ElOf Tryz.prog 249 1 8 := elOf_mk (by kernel_rfl) (by decide)
instance : ZeroOf Tryz.prog 249 [.nilFunc] := ⟨.nilFunc, fun _ => by kernel_rfl, by kernel_rfl⟩
instance : IsOne Tryz.prog 250 := ⟨fun _ => by kernel_rfl, fun _ => by kernel_rfl⟩
instance : ElOf Tryz.prog 250 1 8 := elOf_mk (by kernel_rfl) (by decide)
instance : ZeroOf Tryz.prog 250 [.nilFunc] := ⟨.nilFunc, fun _ => by kernel_rfl, by kernel_rfl⟩
instance : IsOne Tryz.prog 251 := ⟨fun _ => by kernel_rfl, fun _ => by kernel_rfl⟩
instance : ElOf Tryz.prog 251 1 8 := elOf_mk (by kernel_rfl) (by decide)
instance : ZeroOf Tryz.prog 251 [(.pointer none)] := ⟨(.pointer none), fun _ => by kernel_rfl, by kernel_rfl⟩
instance : IsOne Tryz.prog 252 := ⟨fun _ => by kernel_rfl, fun _ => by kernel_rfl⟩
instance : ElOf Tryz.prog 252 1 8 := elOf_mk (by kernel_rfl) (by decide)
instance : ZeroOf Tryz.prog 252 [.nilFunc] := ⟨.nilFunc, fun _ => by kernel_rfl, by kernel_rfl⟩
instance : IsAgg Tryz.prog 253 4 := ⟨fun _ => by kernel_rfl, fun _ => by kernel_rfl⟩
instance : FldAt Tryz.prog 253 0 0 := ⟨fun _ _ _ => by kernel_rfl⟩
instance : FldAt Tryz.prog 253 1 1 := ⟨fun _ _ _ => by kernel_rfl⟩
instance : FldAt Tryz.prog 253 2 2 := ⟨fun _ _ _ => by kernel_rfl⟩
instance : FldAt Tryz.prog 253 3 3 := ⟨fun _ _ _ => by kernel_rfl⟩
instance : ElOf Tryz.prog 253 4 40 := elOf_mk (by kernel_rfl) (by decide)
instance : ZeroOf Tryz.prog 253 [(.pointer none), (.pointer none), (.pointer none), (.string ⟨#[]⟩)] := ⟨(.agg #[(.pointer none), (.pointer none), (.pointer none), (.string ⟨#[]⟩)]), fun _ => by kernel_rfl, by kernel_rfl⟩
instance : PlacesOf Tryz.prog 253 [(0, 1), (1, 1), (2, 1), (3, 1)] [(.pointer none), (.pointer none), (.pointer none), (.string ⟨#[]⟩)] := placesOf_mk (Tryz.prog.fieldsOf 253) (.agg #[(.pointer none), (.pointer none), (.pointer none), (.string ⟨#[]⟩)]) (fun _ => by kernel_rfl) (by kernel_rfl) (by kernel_rfl) (fun _ => by kernel_rfl)
instance : IsAgg Tryz.prog 254 4 := ⟨fun _ => by kernel_rfl, fun _ => by kernel_rfl⟩
instance : FldAt Tryz.prog 254 0 0 := ⟨fun _ _ _ => by kernel_rfl⟩
instance : FldAt Tryz.prog 254 1 1 := ⟨fun _ _ _ => by kernel_rfl⟩
instance : FldAt Tryz.prog 254 2 2 := ⟨fun _ _ _ => by kernel_rfl⟩
instance : FldAt Tryz.prog 254 3 3 := ⟨fun _ _ _ => by kernel_rfl⟩
instance : ElOf Tryz.prog 254 4 40 := elOf_mk (by kernel_rfl) (by decide)
instance : ZeroOf Tryz.prog 254 [(.pointer none), (.pointer none), (.pointer none), (.string ⟨#[]⟩)] := ⟨(.agg #[(.pointer none), (.pointer none), (.pointer none), (.string ⟨#[]⟩)]), fun _ => by kernel_rfl, by kernel_rfl⟩
instance : PlacesOf Tryz.prog 254 [(0, 1), (1, 1), (2, 1), (3, 1)] [(.pointer none), (.pointer none), (.pointer none), (.string ⟨#[]⟩)] := placesOf_mk (Tryz.prog.fieldsOf 254) (.agg #[(.pointer none), (.pointer none), (.pointer none), (.string ⟨#[]⟩)]) (fun _ => by kernel_rfl) (by kernel_rfl) (by kernel_rfl) (fun _ => by kernel_rfl)
instance : IsOne Tryz.prog 258 := ⟨fun _ => by kernel_rfl, fun _ => by kernel_rfl⟩
instance : ElOf Tryz.prog 258 1 8 := elOf_mk (by kernel_rfl) (by decide)
instance : ZeroOf Tryz.prog 258 [.nilFunc] := ⟨.nilFunc, fun _ => by kernel_rfl, by kernel_rfl⟩
instance : IsOne Tryz.prog 259 := ⟨fun _ => by kernel_rfl, fun _ => by kernel_rfl⟩
instance : IntT Tryz.prog 259 .u8 := ⟨by kernel_rfl⟩
instance : ElOf Tryz.prog 259 1 1 := elOf_mk (by kernel_rfl) (by decide)
instance : ZeroOf Tryz.prog 259 [(.int .u8 0)] := ⟨(.int .u8 0), fun _ => by kernel_rfl, by kernel_rfl⟩
instance : IsOne Tryz.prog 260 := ⟨fun _ => by kernel_rfl, fun _ => by kernel_rfl⟩
instance : IntT Tryz.prog 260 .u8 := ⟨by kernel_rfl⟩
instance : ElOf Tryz.prog 260 1 1 := elOf_mk (by kernel_rfl) (by decide)
instance : ZeroOf Tryz.prog 260 [(.int .u8 0)] := ⟨(.int .u8 0), fun _ => by kernel_rfl, by kernel_rfl⟩
instance : IsOne Tryz.prog 261 := ⟨fun _ => by kernel_rfl, fun _ => by kernel_rfl⟩
instance : ElOf Tryz.prog 261 1 8 := elOf_mk (by kernel_rfl) (by decide)
instance : ZeroOf Tryz.prog 261 [.nilFunc] := ⟨.nilFunc, fun _ => by kernel_rfl, by kernel_rfl⟩
instance : IsOne Tryz.prog 262 := ⟨fun _ => by kernel_rfl, fun _ => by kernel_rfl⟩
instance : ElOf Tryz.prog 262 1 8 := elOf_mk (by kernel_rfl) (by decide)
instance : ZeroOf Tryz.prog 262 [(.pointer none)] := ⟨(.pointer none), fun _ => by kernel_rfl, by kernel_rfl⟩
instance : IsOne Tryz.prog 263 := ⟨fun _ => by kernel_rfl, fun _ => by kernel_rfl⟩
instance : IntT Tryz.prog 263 .i32 := ⟨by kernel_rfl⟩
instance : ElOf Tryz.prog 263 1 4 := elOf_mk (by kernel_rfl) (by decide)
instance : ZeroOf Tryz.prog 263 [(.int .i32 0)] := ⟨(.int .i32 0), fun _ => by kernel_rfl, by kernel_rfl⟩
instance : IsOne Tryz.prog 264 := ⟨fun _ => by kernel_rfl, fun _ => by kernel_rfl⟩
instance : IntT Tryz.prog 264 .i32 := ⟨by kernel_rfl⟩
instance : ElOf Tryz.prog 264 1 4 := elOf_mk (by kernel_rfl) (by decide)
instance : ZeroOf Tryz.prog 264 [(.int .i32 0)] := ⟨(.int .i32 0), fun _ => by kernel_rfl, by kernel_rfl⟩
instance : IsAgg Tryz.prog 265 11 := ⟨fun _ => by kernel_rfl, fun _ => by kernel_rfl⟩
instance : FldAt Tryz.prog 265 0 0 := ⟨fun _ _ _ => by kernel_rfl⟩
instance : FldAt Tryz.prog 265 1 1 := ⟨fun _ _ _ => by kernel_rfl⟩
instance : FldAt Tryz.prog 265 2 2 := ⟨fun _ _ _ => by kernel_rfl⟩
instance : FldAt Tryz.prog 265 3 3 := ⟨fun _ _ _ => by kernel_rfl⟩
instance : FldAt Tryz.prog 265 4 4 := ⟨fun _ _ _ => by kernel_rfl⟩
instance : FldAt Tryz.prog 265 5 5 := ⟨fun _ _ _ => by kernel_rfl⟩
instance : FldAt Tryz.prog 265 6 6 := ⟨fun _ _ _ => by kernel_rfl⟩
instance : FldAt Tryz.prog 265 7 7 := ⟨fun _ _ _ => by kernel_rfl⟩
instance : FldAt Tryz.prog 265 8 8 := ⟨fun _ _ _ => by kernel_rfl⟩
instance : FldAt Tryz.prog 265 9 9 := ⟨fun _ _ _ => by kernel_rfl⟩
instance : FldAt Tryz.prog 265 10 10 := ⟨fun _ _ _ => by kernel_rfl⟩
instance : ElOf Tryz.prog 265 11 48 := elOf_mk (by kernel_rfl) (by decide)
instance : ZeroOf Tryz.prog 265 [(.int .u64 0), (.int .u64 0), (.int .u32 0), (.int .u8 0), (.int .u8 0), (.int .u8 0), (.int .u8 0), .nilFunc, (.pointer none), (.int .i32 0), (.int .i32 0)] := ⟨(.agg #[(.int .u64 0), (.int .u64 0), (.int .u32 0), (.int .u8 0), (.int .u8 0), (.int .u8 0), (.int .u8 0), .nilFunc, (.pointer none), (.int .i32 0), (.int .i32 0)]), fun _ => by kernel_rfl, by kernel_rfl⟩
instance : PlacesOf Tryz.prog 265 [(0, 1), (1, 1), (2, 1), (3, 1), (4, 1), (5, 1), (6, 1), (7, 1), (8, 1), (9, 1), (10, 1)] [(.int .u64 0), (.int .u64 0), (.int .u32 0), (.int .u8 0), (.int .u8 0), (.int .u8 0), (.int .u8 0), .nilFunc, (.pointer none), (.int .i32 0), (.int .i32 0)] := placesOf_mk (Tryz.prog.fieldsOf 265) (.agg #[(.int .u64 0), (.int .u64 0), (.int .u32 0), (.int .u8 0), (.int .u8 0), (.int .u8 0), (.int .u8 0), .nilFunc, (.pointer none), (.int .i32 0), (.int .i32 0)]) (fun _ => by kernel_rfl) (by kernel_rfl) (by kernel_rfl) (fun _ => by kernel_rfl)
instance : IsAgg Tryz.prog 266 11 := ⟨fun _ => by kernel_rfl, fun _ => by kernel_rfl⟩
instance : FldAt Tryz.prog 266 0 0 := ⟨fun _ _ _ => by kernel_rfl⟩
instance : FldAt Tryz.prog 266 1 1 := ⟨fun _ _ _ => by kernel_rfl⟩
instance : FldAt Tryz.prog 266 2 2 := ⟨fun _ _ _ => by kernel_rfl⟩
instance : FldAt Tryz.prog 266 3 3 := ⟨fun _ _ _ => by kernel_rfl⟩
instance : FldAt Tryz.prog 266 4 4 := ⟨fun _ _ _ => by kernel_rfl⟩
instance : FldAt Tryz.prog 266 5 5 := ⟨fun _ _ _ => by kernel_rfl⟩
instance : FldAt Tryz.prog 266 6 6 := ⟨fun _ _ _ => by kernel_rfl⟩
instance : FldAt Tryz.prog 266 7 7 := ⟨fun _ _ _ => by kernel_rfl⟩
instance : FldAt Tryz.prog 266 8 8 := ⟨fun _ _ _ => by kernel_rfl⟩
instance : FldAt Tryz.prog 266 9 9 := ⟨fun _ _ _ => by kernel_rfl⟩
instance : FldAt Tryz.prog 266 10 10 := ⟨fun _ _ _ => by kernel_rfl⟩
instance : ElOf Tryz.prog 266 11 48 := elOf_mk (by kernel_rfl) (by decide)
instance : ZeroOf Tryz.prog 266 [(.int .u64 0), (.int .u64 0), (.int .u32 0), (.int .u8 0), (.int .u8 0), (.int .u8 0), (.int .u8 0), .nilFunc, (.pointer none), (.int .i32 0), (.int .i32 0)] := ⟨(.agg #[(.int .u64 0), (.int .u64 0), (.int .u32 0), (.int .u8 0), (.int .u8 0), (.int .u8 0), (.int .u8 0), .nilFunc, (.pointer none), (.int .i32 0), (.int .i32 0)]), fun _ => by kernel_rfl, by kernel_rfl⟩
instance : PlacesOf Tryz.prog 266 [(0, 1), (1, 1), (2, 1), (3, 1), (4, 1), (5, 1), (6, 1), (7, 1), (8, 1), (9, 1), (10, 1)] [(.int .u64 0), (.int .u64 0), (.int .u32 0), (.int .u8 0), (.int .u8 0), (.int .u8 0), (.int .u8 0), .nilFunc, (.pointer none), (.int .i32 0), (.int .i32 0)] := placesOf_mk (Tryz.prog.fieldsOf 266) (.agg #[(.int .u64 0), (.int .u64 0), (.int .u32 0), (.int .u8 0), (.int .u8 0), (.int .u8 0), (.int .u8 0), .nilFunc, (.pointer none), (.int .i32 0), (.int .i32 0)]) (fun _ => by kernel_rfl) (by kernel_rfl) (by kernel_rfl) (fun _ => by kernel_rfl)
instance : IsOne Tryz.prog 267 := ⟨fun _ => by kernel_rfl, fun _ => by kernel_rfl⟩
instance : ElOf Tryz.prog 267 1 8 := elOf_mk (by kernel_rfl) (by decide)
instance : ZeroOf Tryz.prog 267 [(.pointer none)] := ⟨(.pointer none), fun _ => by kernel_rfl, by kernel_rfl⟩
instance : Mixed Tryz.prog := ⟨by kernel_rfl⟩
instance : Ent Tryz.prog 3 := ⟨enters_of Tryz.func3 (by kernel_rfl) rfl⟩
instance : Ent Tryz.prog 4 := ⟨enters_of Tryz.func4 (by kernel_rfl) rfl⟩
instance : Ent Tryz.prog 5 := ⟨enters_of Tryz.func5 (by kernel_rfl) rfl⟩
instance : Ent Tryz.prog 6 := ⟨enters_of Tryz.func6 (by kernel_rfl) rfl⟩
instance : Ent Tryz.prog 7 := ⟨enters_of Tryz.func7 (by kernel_rfl) rfl⟩
instance : Ent Tryz.prog 8 := ⟨enters_of Tryz.func8 (by kernel_rfl) rfl⟩
instance : Ent Tryz.prog 9 := ⟨enters_of Tryz.func9 (by kernel_rfl) rfl⟩
instance : Ent Tryz.prog 10 := ⟨enters_of Tryz.func10 (by kernel_rfl) rfl⟩
instance : Ent Tryz.prog 11 := ⟨enters_of Tryz.func11 (by kernel_rfl) rfl⟩
instance : Ent Tryz.prog 12 := ⟨enters_of Tryz.func12 (by kernel_rfl) rfl⟩
instance : Ent Tryz.prog 13 := ⟨enters_of Tryz.func13 (by kernel_rfl) rfl⟩
instance : Ent Tryz.prog 14 := ⟨enters_of Tryz.func14 (by kernel_rfl) rfl⟩
instance : Ent Tryz.prog 15 := ⟨enters_of Tryz.func15 (by kernel_rfl) rfl⟩
instance : Ent Tryz.prog 16 := ⟨enters_of Tryz.func16 (by kernel_rfl) rfl⟩
instance : Ent Tryz.prog 17 := ⟨enters_of Tryz.func17 (by kernel_rfl) rfl⟩
instance : Ent Tryz.prog 18 := ⟨enters_of Tryz.func18 (by kernel_rfl) rfl⟩
instance : Ent Tryz.prog 19 := ⟨enters_of Tryz.func19 (by kernel_rfl) rfl⟩
instance : Ent Tryz.prog 20 := ⟨enters_of Tryz.func20 (by kernel_rfl) rfl⟩
instance : Ent Tryz.prog 21 := ⟨enters_of Tryz.func21 (by kernel_rfl) rfl⟩
instance : Ent Tryz.prog 22 := ⟨enters_of Tryz.func22 (by kernel_rfl) rfl⟩
instance : Ent Tryz.prog 23 := ⟨enters_of Tryz.func23 (by kernel_rfl) rfl⟩
instance : Ent Tryz.prog 24 := ⟨enters_of Tryz.func24 (by kernel_rfl) rfl⟩
instance : Ent Tryz.prog 25 := ⟨enters_of Tryz.func25 (by kernel_rfl) rfl⟩
instance : Ent Tryz.prog 26 := ⟨enters_of Tryz.func26 (by kernel_rfl) rfl⟩
instance : Ent Tryz.prog 27 := ⟨enters_of Tryz.func27 (by kernel_rfl) rfl⟩
instance : Ent Tryz.prog 28 := ⟨enters_of Tryz.func28 (by kernel_rfl) rfl⟩
instance : Ent Tryz.prog 29 := ⟨enters_of Tryz.func29 (by kernel_rfl) rfl⟩
instance : Ent Tryz.prog 30 := ⟨enters_of Tryz.func30 (by kernel_rfl) rfl⟩
instance : Ent Tryz.prog 31 := ⟨enters_of Tryz.func31 (by kernel_rfl) rfl⟩
instance : Ent Tryz.prog 32 := ⟨enters_of Tryz.func32 (by kernel_rfl) rfl⟩
instance : Ent Tryz.prog 33 := ⟨enters_of Tryz.func33 (by kernel_rfl) rfl⟩
instance : Ent Tryz.prog 34 := ⟨enters_of Tryz.func34 (by kernel_rfl) rfl⟩
instance : Ent Tryz.prog 35 := ⟨enters_of Tryz.func35 (by kernel_rfl) rfl⟩
instance : Ent Tryz.prog 36 := ⟨enters_of Tryz.func36 (by kernel_rfl) rfl⟩
instance : Ent Tryz.prog 37 := ⟨enters_of Tryz.func37 (by kernel_rfl) rfl⟩
instance : Ent Tryz.prog 38 := ⟨enters_of Tryz.func38 (by kernel_rfl) rfl⟩
instance : Ent Tryz.prog 39 := ⟨enters_of Tryz.func39 (by kernel_rfl) rfl⟩
instance : Ent Tryz.prog 40 := ⟨enters_of Tryz.func40 (by kernel_rfl) rfl⟩
instance : Ent Tryz.prog 41 := ⟨enters_of Tryz.func41 (by kernel_rfl) rfl⟩
instance : Ent Tryz.prog 42 := ⟨enters_of Tryz.func42 (by kernel_rfl) rfl⟩
instance : Ent Tryz.prog 43 := ⟨enters_of Tryz.func43 (by kernel_rfl) rfl⟩
instance : Ent Tryz.prog 44 := ⟨enters_of Tryz.func44 (by kernel_rfl) rfl⟩
instance : Ent Tryz.prog 45 := ⟨enters_of Tryz.func45 (by kernel_rfl) rfl⟩
instance : Ent Tryz.prog 46 := ⟨enters_of Tryz.func46 (by kernel_rfl) rfl⟩
instance : Ent Tryz.prog 47 := ⟨enters_of Tryz.func47 (by kernel_rfl) rfl⟩
instance : Ent Tryz.prog 48 := ⟨enters_of Tryz.func48 (by kernel_rfl) rfl⟩
instance : Ent Tryz.prog 49 := ⟨enters_of Tryz.func49 (by kernel_rfl) rfl⟩
instance : Ent Tryz.prog 50 := ⟨enters_of Tryz.func50 (by kernel_rfl) rfl⟩
instance : Ent Tryz.prog 51 := ⟨enters_of Tryz.func51 (by kernel_rfl) rfl⟩
instance : Ent Tryz.prog 52 := ⟨enters_of Tryz.func52 (by kernel_rfl) rfl⟩
instance : Ent Tryz.prog 53 := ⟨enters_of Tryz.func53 (by kernel_rfl) rfl⟩
instance : Ent Tryz.prog 54 := ⟨enters_of Tryz.func54 (by kernel_rfl) rfl⟩
instance : Ent Tryz.prog 55 := ⟨enters_of Tryz.func55 (by kernel_rfl) rfl⟩
instance : Ent Tryz.prog 56 := ⟨enters_of Tryz.func56 (by kernel_rfl) rfl⟩
instance : Ent Tryz.prog 57 := ⟨enters_of Tryz.func57 (by kernel_rfl) rfl⟩
instance : Ent Tryz.prog 58 := ⟨enters_of Tryz.func58 (by kernel_rfl) rfl⟩
instance : Ent Tryz.prog 59 := ⟨enters_of Tryz.func59 (by kernel_rfl) rfl⟩
instance : Ent Tryz.prog 60 := ⟨enters_of Tryz.func60 (by kernel_rfl) rfl⟩
instance : Ent Tryz.prog 61 := ⟨enters_of Tryz.func61 (by kernel_rfl) rfl⟩
instance : Ent Tryz.prog 62 := ⟨enters_of Tryz.func62 (by kernel_rfl) rfl⟩
instance : Ent Tryz.prog 63 := ⟨enters_of Tryz.func63 (by kernel_rfl) rfl⟩
instance : Ent Tryz.prog 64 := ⟨enters_of Tryz.func64 (by kernel_rfl) rfl⟩
instance : Ent Tryz.prog 65 := ⟨enters_of Tryz.func65 (by kernel_rfl) rfl⟩
instance : Ent Tryz.prog 66 := ⟨enters_of Tryz.func66 (by kernel_rfl) rfl⟩
instance : Ent Tryz.prog 67 := ⟨enters_of Tryz.func67 (by kernel_rfl) rfl⟩
instance : Ent Tryz.prog 68 := ⟨enters_of Tryz.func68 (by kernel_rfl) rfl⟩
instance : Ent Tryz.prog 69 := ⟨enters_of Tryz.func69 (by kernel_rfl) rfl⟩
instance : Ent Tryz.prog 70 := ⟨enters_of Tryz.func70 (by kernel_rfl) rfl⟩
instance : Ent Tryz.prog 71 := ⟨enters_of Tryz.func71 (by kernel_rfl) rfl⟩
instance : Ent Tryz.prog 72 := ⟨enters_of Tryz.func72 (by kernel_rfl) rfl⟩
instance : Ent Tryz.prog 73 := ⟨enters_of Tryz.func73 (by kernel_rfl) rfl⟩
instance : Ent Tryz.prog 74 := ⟨enters_of Tryz.func74 (by kernel_rfl) rfl⟩
instance : Ent Tryz.prog 75 := ⟨enters_of Tryz.func75 (by kernel_rfl) rfl⟩
instance : Ent Tryz.prog 76 := ⟨enters_of Tryz.func76 (by kernel_rfl) rfl⟩
instance : Ent Tryz.prog 77 := ⟨enters_of Tryz.func77 (by kernel_rfl) rfl⟩
instance : Ent Tryz.prog 78 := ⟨enters_of Tryz.func78 (by kernel_rfl) rfl⟩
instance : Ent Tryz.prog 79 := ⟨enters_of Tryz.func79 (by kernel_rfl) rfl⟩
instance : Ent Tryz.prog 80 := ⟨enters_of Tryz.func80 (by kernel_rfl) rfl⟩
instance : Ent Tryz.prog 81 := ⟨enters_of Tryz.func81 (by kernel_rfl) rfl⟩
instance : Ent Tryz.prog 82 := ⟨enters_of Tryz.func82 (by kernel_rfl) rfl⟩
instance : Ent Tryz.prog 83 := ⟨enters_of Tryz.func83 (by kernel_rfl) rfl⟩
instance : Ent Tryz.prog 84 := ⟨enters_of Tryz.func84 (by kernel_rfl) rfl⟩
instance : Ent Tryz.prog 85 := ⟨enters_of Tryz.func85 (by kernel_rfl) rfl⟩
instance : Ent Tryz.prog 86 := ⟨enters_of Tryz.func86 (by kernel_rfl) rfl⟩
instance : Ent Tryz.prog 87 := ⟨enters_of Tryz.func87 (by kernel_rfl) rfl⟩
instance : Ent Tryz.prog 88 := ⟨enters_of Tryz.func88 (by kernel_rfl) rfl⟩
instance : Ent Tryz.prog 89 := ⟨enters_of Tryz.func89 (by kernel_rfl) rfl⟩
instance : Ent Tryz.prog 90 := ⟨enters_of Tryz.func90 (by kernel_rfl) rfl⟩
instance : Ent Tryz.prog 91 := ⟨enters_of Tryz.func91 (by kernel_rfl) rfl⟩
instance : Ent Tryz.prog 92 := ⟨enters_of Tryz.func92 (by kernel_rfl) rfl⟩
instance : Ent Tryz.prog 93 := ⟨enters_of Tryz.func93 (by kernel_rfl) rfl⟩
instance : Ent Tryz.prog 94 := ⟨enters_of Tryz.func94 (by kernel_rfl) rfl⟩
instance : Ent Tryz.prog 95 := ⟨enters_of Tryz.func95 (by kernel_rfl) rfl⟩
instance : Ent Tryz.prog 96 := ⟨enters_of Tryz.func96 (by kernel_rfl) rfl⟩
instance : Ent Tryz.prog 97 := ⟨enters_of Tryz.func97 (by kernel_rfl) rfl⟩
instance : Ent Tryz.prog 98 := ⟨enters_of Tryz.func98 (by kernel_rfl) rfl⟩
instance : Ent Tryz.prog 99 := ⟨enters_of Tryz.func99 (by kernel_rfl) rfl⟩
instance : Ent Tryz.prog 100 := ⟨enters_of Tryz.func100 (by kernel_rfl) rfl⟩
instance : Ent Tryz.prog 101 := ⟨enters_of Tryz.func101 (by kernel_rfl) rfl⟩
instance : Ent Tryz.prog 102 := ⟨enters_of Tryz.func102 (by kernel_rfl) rfl⟩
instance : Ent Tryz.prog 103 := ⟨enters_of Tryz.func103 (by kernel_rfl) rfl⟩
instance : Ent Tryz.prog 104 := ⟨enters_of Tryz.func104 (by kernel_rfl) rfl⟩
instance : Ent Tryz.prog 105 := ⟨enters_of Tryz.func105 (by kernel_rfl) rfl⟩
instance : Ent Tryz.prog 106 := ⟨enters_of Tryz.func106 (by kernel_rfl) rfl⟩
instance : Ent Tryz.prog 107 := ⟨enters_of Tryz.func107 (by kernel_rfl) rfl⟩
instance : Ent Tryz.prog 108 := ⟨enters_of Tryz.func108 (by kernel_rfl) rfl⟩
instance : Ent Tryz.prog 109 := ⟨enters_of Tryz.func109 (by kernel_rfl) rfl⟩
instance : Ent Tryz.prog 110 := ⟨enters_of Tryz.func110 (by kernel_rfl) rfl⟩
instance : Ent Tryz.prog 111 := ⟨enters_of Tryz.func111 (by kernel_rfl) rfl⟩
instance : Ent Tryz.prog 112 := ⟨enters_of Tryz.func112 (by kernel_rfl) rfl⟩
instance : Ent Tryz.prog 113 := ⟨enters_of Tryz.func113 (by kernel_rfl) rfl⟩
instance : Ent Tryz.prog 114 := ⟨enters_of Tryz.func114 (by kernel_rfl) rfl⟩
instance : Ent Tryz.prog 115 := ⟨enters_of Tryz.func115 (by kernel_rfl) rfl⟩
instance : Ent Tryz.prog 116 := ⟨enters_of Tryz.func116 (by kernel_rfl) rfl⟩
instance : Ent Tryz.prog 117 := ⟨enters_of Tryz.func117 (by kernel_rfl) rfl⟩
instance : Ent Tryz.prog 118 := ⟨enters_of Tryz.func118 (by kernel_rfl) rfl⟩
instance : Ent Tryz.prog 119 := ⟨enters_of Tryz.func119 (by kernel_rfl) rfl⟩
instance : Ent Tryz.prog 120 := ⟨enters_of Tryz.func120 (by kernel_rfl) rfl⟩
instance : Ent Tryz.prog 121 := ⟨enters_of Tryz.func121 (by kernel_rfl) rfl⟩
instance : Ent Tryz.prog 122 := ⟨enters_of Tryz.func122 (by kernel_rfl) rfl⟩
instance : Ent Tryz.prog 123 := ⟨enters_of Tryz.func123 (by kernel_rfl) rfl⟩
instance : Ent Tryz.prog 124 := ⟨enters_of Tryz.func124 (by kernel_rfl) rfl⟩
instance : Ent Tryz.prog 125 := ⟨enters_of Tryz.func125 (by kernel_rfl) rfl⟩
instance : Ent Tryz.prog 126 := ⟨enters_of Tryz.func126 (by kernel_rfl) rfl⟩
instance : Ent Tryz.prog 127 := ⟨enters_of Tryz.func127 (by kernel_rfl) rfl⟩
instance : Ent Tryz.prog 128 := ⟨enters_of Tryz.func128 (by kernel_rfl) rfl⟩
instance : Ent Tryz.prog 129 := ⟨enters_of Tryz.func129 (by kernel_rfl) rfl⟩
instance : Ent Tryz.prog 130 := ⟨enters_of Tryz.func130 (by kernel_rfl) rfl⟩
instance : Ent Tryz.prog 131 := ⟨enters_of Tryz.func131 (by kernel_rfl) rfl⟩
instance : Ent Tryz.prog 132 := ⟨enters_of Tryz.func132 (by kernel_rfl) rfl⟩
instance : Ent Tryz.prog 133 := ⟨enters_of Tryz.func133 (by kernel_rfl) rfl⟩
instance : Ent Tryz.prog 134 := ⟨enters_of Tryz.func134 (by kernel_rfl) rfl⟩
instance : Ent Tryz.prog 135 := ⟨enters_of Tryz.func135 (by kernel_rfl) rfl⟩
instance : Ent Tryz.prog 136 := ⟨enters_of Tryz.func136 (by kernel_rfl) rfl⟩
instance : Ent Tryz.prog 137 := ⟨enters_of Tryz.func137 (by kernel_rfl) rfl⟩
instance : Ent Tryz.prog 138 := ⟨enters_of Tryz.func138 (by kernel_rfl) rfl⟩
instance : Ent Tryz.prog 139 := ⟨enters_of Tryz.func139 (by kernel_rfl) rfl⟩
instance : Ent Tryz.prog 140 := ⟨enters_of Tryz.func140 (by kernel_rfl) rfl⟩
instance : Ent Tryz.prog 141 := ⟨enters_of Tryz.func141 (by kernel_rfl) rfl⟩
instance : Ent Tryz.prog 142 := ⟨enters_of Tryz.func142 (by kernel_rfl) rfl⟩
instance : Ent Tryz.prog 143 := ⟨enters_of Tryz.func143 (by kernel_rfl) rfl⟩
instance : Ent Tryz.prog 144 := ⟨enters_of Tryz.func144 (by kernel_rfl) rfl⟩
instance : Ent Tryz.prog 145 := ⟨enters_of Tryz.func145 (by kernel_rfl) rfl⟩
instance : Ent Tryz.prog 146 := ⟨enters_of Tryz.func146 (by kernel_rfl) rfl⟩
instance : Ent Tryz.prog 147 := ⟨enters_of Tryz.func147 (by kernel_rfl) rfl⟩
instance : Ent Tryz.prog 148 := ⟨enters_of Tryz.func148 (by kernel_rfl) rfl⟩
instance : Ent Tryz.prog 149 := ⟨enters_of Tryz.func149 (by kernel_rfl) rfl⟩
instance : Ent Tryz.prog 150 := ⟨enters_of Tryz.func150 (by kernel_rfl) rfl⟩
instance : Ent Tryz.prog 151 := ⟨enters_of Tryz.func151 (by kernel_rfl) rfl⟩
instance : Ent Tryz.prog 152 := ⟨enters_of Tryz.func152 (by kernel_rfl) rfl⟩
instance : Ent Tryz.prog 153 := ⟨enters_of Tryz.func153 (by kernel_rfl) rfl⟩
instance : Ent Tryz.prog 154 := ⟨enters_of Tryz.func154 (by kernel_rfl) rfl⟩
instance : Ent Tryz.prog 156 := ⟨enters_of Tryz.func156 (by kernel_rfl) rfl⟩
instance : Ent Tryz.prog 157 := ⟨enters_of Tryz.func157 (by kernel_rfl) rfl⟩
instance : Ent Tryz.prog 158 := ⟨enters_of Tryz.func158 (by kernel_rfl) rfl⟩
instance : Ent Tryz.prog 159 := ⟨enters_of Tryz.func159 (by kernel_rfl) rfl⟩
instance : Ent Tryz.prog 160 := ⟨enters_of Tryz.func160 (by kernel_rfl) rfl⟩
instance : Ent Tryz.prog 161 := ⟨enters_of Tryz.func161 (by kernel_rfl) rfl⟩
instance : Ent Tryz.prog 162 := ⟨enters_of Tryz.func162 (by kernel_rfl) rfl⟩
instance : Ent Tryz.prog 163 := ⟨enters_of Tryz.func163 (by kernel_rfl) rfl⟩
instance : Ent Tryz.prog 164 := ⟨enters_of Tryz.func164 (by kernel_rfl) rfl⟩
instance : Ent Tryz.prog 165 := ⟨enters_of Tryz.func165 (by kernel_rfl) rfl⟩
instance : Ent Tryz.prog 166 := ⟨enters_of Tryz.func166 (by kernel_rfl) rfl⟩
instance : Ent Tryz.prog 167 := ⟨enters_of Tryz.func167 (by kernel_rfl) rfl⟩
instance : Ent Tryz.prog 168 := ⟨enters_of Tryz.func168 (by kernel_rfl) rfl⟩
instance : Ent Tryz.prog 169 := ⟨enters_of Tryz.func169 (by kernel_rfl) rfl⟩
instance : Ent Tryz.prog 170 := ⟨enters_of Tryz.func170 (by kernel_rfl) rfl⟩
instance : Ent Tryz.prog 171 := ⟨enters_of Tryz.func171 (by kernel_rfl) rfl⟩
instance : Ent Tryz.prog 172 := ⟨enters_of Tryz.func172 (by kernel_rfl) rfl⟩
instance : Ent Tryz.prog 174 := ⟨enters_of Tryz.func174 (by kernel_rfl) rfl⟩
instance : Ent Tryz.prog 175 := ⟨enters_of Tryz.func175 (by kernel_rfl) rfl⟩
instance : Ent Tryz.prog 176 := ⟨enters_of Tryz.func176 (by kernel_rfl) rfl⟩
instance : Ent Tryz.prog 177 := ⟨enters_of Tryz.func177 (by kernel_rfl) rfl⟩
instance : Ent Tryz.prog 178 := ⟨enters_of Tryz.func178 (by kernel_rfl) rfl⟩
instance : Ent Tryz.prog 179 := ⟨enters_of Tryz.func179 (by kernel_rfl) rfl⟩
instance : Ent Tryz.prog 180 := ⟨enters_of Tryz.func180 (by kernel_rfl) rfl⟩
instance : Ent Tryz.prog 181 := ⟨enters_of Tryz.func181 (by kernel_rfl) rfl⟩
instance : Ent Tryz.prog 182 := ⟨enters_of Tryz.func182 (by kernel_rfl) rfl⟩
instance : Ent Tryz.prog 183 := ⟨enters_of Tryz.func183 (by kernel_rfl) rfl⟩
instance : Ent Tryz.prog 184 := ⟨enters_of Tryz.func184 (by kernel_rfl) rfl⟩
instance : Ent Tryz.prog 185 := ⟨enters_of Tryz.func185 (by kernel_rfl) rfl⟩
instance : Ent Tryz.prog 186 := ⟨enters_of Tryz.func186 (by kernel_rfl) rfl⟩
instance : Ent Tryz.prog 187 := ⟨enters_of Tryz.func187 (by kernel_rfl) rfl⟩
instance : Ent Tryz.prog 189 := ⟨enters_of Tryz.func189 (by kernel_rfl) rfl⟩
instance : Ent Tryz.prog 190 := ⟨enters_of Tryz.func190 (by kernel_rfl) rfl⟩
instance : Ent Tryz.prog 191 := ⟨enters_of Tryz.func191 (by kernel_rfl) rfl⟩
instance : Ent Tryz.prog 192 := ⟨enters_of Tryz.func192 (by kernel_rfl) rfl⟩
instance : Ent Tryz.prog 193 := ⟨enters_of Tryz.func193 (by kernel_rfl) rfl⟩
instance : Ent Tryz.prog 194 := ⟨enters_of Tryz.func194 (by kernel_rfl) rfl⟩
instance : Ent Tryz.prog 195 := ⟨enters_of Tryz.func195 (by kernel_rfl) rfl⟩
instance : Ent Tryz.prog 196 := ⟨enters_of Tryz.func196 (by kernel_rfl) rfl⟩
instance : Ent Tryz.prog 197 := ⟨enters_of Tryz.func197 (by kernel_rfl) rfl⟩
instance : Ent Tryz.prog 198 := ⟨enters_of Tryz.func198 (by kernel_rfl) rfl⟩
instance : Ent Tryz.prog 199 := ⟨enters_of Tryz.func199 (by kernel_rfl) rfl⟩
instance : Ent Tryz.prog 200 := ⟨enters_of Tryz.func200 (by kernel_rfl) rfl⟩
instance : Ent Tryz.prog 201 := ⟨enters_of Tryz.func201 (by kernel_rfl) rfl⟩
instance : Ent Tryz.prog 202 := ⟨enters_of Tryz.func202 (by kernel_rfl) rfl⟩
instance : Ent Tryz.prog 203 := ⟨enters_of Tryz.func203 (by kernel_rfl) rfl⟩
instance : Ent Tryz.prog 204 := ⟨enters_of Tryz.func204 (by kernel_rfl) rfl⟩
instance : Ent Tryz.prog 205 := ⟨enters_of Tryz.func205 (by kernel_rfl) rfl⟩
instance : Ent Tryz.prog 206 := ⟨enters_of Tryz.func206 (by kernel_rfl) rfl⟩
instance : Ent Tryz.prog 207 := ⟨enters_of Tryz.func207 (by kernel_rfl) rfl⟩
instance : Ent Tryz.prog 208 := ⟨enters_of Tryz.func208 (by kernel_rfl) rfl⟩
instance : Ent Tryz.prog 209 := ⟨enters_of Tryz.func209 (by kernel_rfl) rfl⟩
instance : Ent Tryz.prog 230 := ⟨enters_of Tryz.func230 (by kernel_rfl) rfl⟩
end Go.Proofs.YtpjdhokpfccahaaGreatDoor
namespace Go.Proofs.YtpjdhokpfccahaaGreatDoor

abbrev Sp := Int × Int
/-- the order of spans: by begin, then by end -/
def ltC (a b : Sp) : Prop := a.1 < b.1 ∨ (a.1 = b.1 ∧ a.2 < b.2)
instance (a b : Sp) : Decidable (ltC a b) := by unfold ltC; exact inferInstance
theorem ltC_sto : STO ltC where
  irr a := by unfold ltC; omega
  trans a b c := by unfold ltC; omega
  tri a b := by
    unfold ltC
    by_cases h : a.1 = b.1 ∧ a.2 = b.2
    · exact .inr (.inl (Prod.ext h.1 h.2))
    · omega
def conS (a b : Sp) : Bool := decide (a.1 ≤ b.1 ∧ b.2 ≤ a.2)
/-- of a list: contains no other one -/
def keepShort (l : List Sp) (s : Sp) : Bool := l.all fun t => !(conS s t) || decide (t = s)
/-- of a list: is in no other one -/
def keepLong (l : List Sp) (s : Sp) : Bool := l.all fun t => !(conS t s) || decide (t = s)
theorem keepShort_iff {l : List Sp} {s : Sp} : keepShort l s = true ↔ ∀ t ∈ l, s.1 ≤ t.1 → t.2 ≤ s.2 → t = s := by
  unfold keepShort conS
  rw [List.all_eq_true]
  refine forall_congr' fun t => forall_congr' fun ht => ?_
  by_cases h : t = s
  · simp [h]
  · simp [h]; omega
theorem keepLong_iff {l : List Sp} {s : Sp} : keepLong l s = true ↔ ∀ t ∈ l, t.1 ≤ s.1 → s.2 ≤ t.2 → t = s := by
  unfold keepLong conS
  rw [List.all_eq_true]
  refine forall_congr' fun t => forall_congr' fun ht => ?_
  by_cases h : t = s
  · simp [h]
  · simp [h]; omega
/-- two places of an ascending list -/
theorem asc_at {l : List Sp} (h : l.Pairwise ltC) {i j : Nat} {s t : Sp} (hs : l[i]? = some s) (ht : l[j]? = some t) (hij : i < j) : ltC s t := by
  obtain ⟨hi, rfl⟩ := List.getElem?_eq_some_iff.1 hs
  obtain ⟨hj, rfl⟩ := List.getElem?_eq_some_iff.1 ht
  exact List.pairwise_iff_getElem.1 h i j hi hj hij
theorem asc_le {l : List Sp} (h : l.Pairwise ltC) {i j : Nat} {s t : Sp} (hs : l[i]? = some s) (ht : l[j]? = some t) (hij : i ≤ j) : s = t ∨ ltC s t := by
  rcases Nat.lt_or_ge i j with h1 | h1
  · exact .inr (asc_at h hs ht h1)
  · have : i = j := by omega
    subst this; rw [hs] at ht; exact .inl (by injection ht)

/-! ### shortest: from the last one on -/
/-- the first one with its begin -/
def isFirst (l : List Sp) (j : Nat) (t : Sp) : Prop := l[j]? = some t ∧ (j = 0 ∨ ∀ u, l[j - 1]? = some u → u.1 ≠ t.1)
/-- of the first ones from place i on, least is the least end (−1: none) -/
def LeastOk (l : List Sp) (i : Nat) (least : Int) : Prop :=
  (least = -1 ∧ ∀ j t, i ≤ j → ¬ isFirst l j t) ∨ (0 < least ∧ (∃ j t, i ≤ j ∧ isFirst l j t ∧ t.2 = least) ∧ ∀ j t, i ≤ j → isFirst l j t → least ≤ t.2)
theorem first_of {l : List Sp} (h : l.Pairwise ltC) : ∀ (j : Nat) (t : Sp), l[j]? = some t → ∃ j' u, j' ≤ j ∧ isFirst l j' u ∧ u.1 = t.1 ∧ u.2 ≤ t.2
  | 0, t, ht => ⟨0, t, Nat.le_refl _, ⟨ht, .inl rfl⟩, rfl, Int.le_refl _⟩
  | j + 1, t, ht => by
    obtain ⟨v, hv⟩ : ∃ v, l[j]? = some v := ⟨_, List.getElem?_eq_getElem (by have := (List.getElem?_eq_some_iff.1 ht).1; omega)⟩
    by_cases e : v.1 = t.1
    · obtain ⟨j', u, h1, h2, h3, h4⟩ := first_of h j v hv
      have h5 := asc_at h hv ht (by omega)
      unfold ltC at h5
      exact ⟨j', u, by omega, h2, by omega, by omega⟩
    · refine ⟨j + 1, t, Nat.le_refl _, ⟨ht, .inr fun u hu => ?_⟩, rfl, Int.le_refl _⟩
      rw [Nat.add_sub_cancel, hv] at hu
      injection hu with hu
      rw [← hu]; exact e
theorem LeastOk.skip {l : List Sp} (h : l.Pairwise ltC) {i : Nat} {s t : Sp} {least : Int} (hs : l[i + 1]? = some s) (ht : l[i]? = some t) (e : t.1 = s.1) (hl : LeastOk l (i + 2) least) : keepShort l s = false ∧ LeastOk l (i + 1) least := by
  constructor
  · rw [Bool.eq_false_iff]
    intro hk
    have h1 := asc_at h ht hs (by omega)
    have := keepShort_iff.1 hk t (List.mem_of_getElem? ht) (by omega) (by unfold ltC at h1; omega)
    rw [this] at h1
    exact ltC_sto.irr s h1
  · have hn : ∀ j u, i + 1 ≤ j → isFirst l j u → i + 2 ≤ j := by
      intro j u hj hf
      by_cases hji : j = i + 1
      · subst hji
        exfalso
        rcases hf.2 with h0 | h0
        · omega
        · have hu : u = s := by have := hf.1; rw [hs] at this; injection this with this; exact this.symm
          subst hu
          exact h0 t ht e
      · omega
    rcases hl with ⟨h1, h2⟩ | ⟨h1, ⟨j, u, h2, h3, h4⟩, h5⟩
    · exact .inl ⟨h1, fun j u hj hf => h2 j u (hn j u hj hf) hf⟩
    · exact .inr ⟨h1, ⟨j, u, by omega, h3, h4⟩, fun j u hj hf => h5 j u (hn j u hj hf) hf⟩
theorem LeastOk.keep {l : List Sp} (h : l.Pairwise ltC) (hv : ∀ s ∈ l, 0 ≤ s.1 ∧ s.1 < s.2) {i : Nat} {s : Sp} {least : Int} (hf : isFirst l i s) (hl : LeastOk l (i + 1) least) (hk : least < 0 ∨ s.2 < least) : keepShort l s = true ∧ LeastOk l i s.2 := by
  have hs := hf.1
  constructor
  · refine keepShort_iff.2 fun t ht h1 h2 => ?_
    obtain ⟨j, hj, rfl⟩ := List.mem_iff_getElem.1 ht
    have hjs : l[j]? = some l[j] := List.getElem?_eq_getElem hj
    generalize l[j] = t at *
    rcases Nat.lt_trichotomy j i with h3 | h3 | h3
    · exfalso
      have h4 := asc_at h hjs hs h3
      unfold ltC at h4
      rcases hf.2 with h5 | h5
      · omega
      · obtain ⟨v, hvv⟩ : ∃ v, l[i - 1]? = some v := ⟨_, List.getElem?_eq_getElem (by have := (List.getElem?_eq_some_iff.1 hs).1; omega)⟩
        have h6 := asc_le h hjs hvv (by omega)
        have h7 := asc_at h hvv hs (by omega)
        have h8 := h5 v hvv
        unfold ltC at h6 h7
        rcases h6 with rfl | h6
        · omega
        · omega
    · subst h3
      rw [hs] at hjs; injection hjs with e; exact e.symm
    · exfalso
      have h4 := asc_at h hs hjs h3
      obtain ⟨j', u, k1, k2, k3, k4⟩ := first_of h j t hjs
      have hij : i + 1 ≤ j' := by
        by_cases hle : j' ≤ i
        · have h5 := asc_le h k2.1 hs hle
          unfold ltC at h4 h5
          rcases h5 with rfl | h5
          · omega
          · omega
        · omega
      rcases hl with ⟨l1, l2⟩ | ⟨l1, _, l3⟩
      · exact l2 j' u hij k2
      · have := l3 j' u hij k2
        omega
  · refine .inr ⟨by have := hv s (List.mem_of_getElem? hs); omega, ⟨i, s, Nat.le_refl _, hf, rfl⟩, fun j t hj ht => ?_⟩
    by_cases hji : j = i
    · subst hji
      have := ht.1; rw [hs] at this; injection this with this; rw [this]; exact Int.le_refl _
    · rcases hl with ⟨l1, l2⟩ | ⟨l1, _, l3⟩
      · exact absurd ht (l2 j t (by omega))
      · have := l3 j t (by omega) ht
        omega
theorem LeastOk.drop {l : List Sp} (h : l.Pairwise ltC) {i : Nat} {s : Sp} {least : Int} (hf : isFirst l i s) (hl : LeastOk l (i + 1) least) (hk : ¬ (least < 0 ∨ s.2 < least)) : keepShort l s = false ∧ LeastOk l i least := by
  rcases hl with ⟨l1, _⟩ | ⟨l1, ⟨j, t, l2, l3, l4⟩, l5⟩
  · omega
  · have h4 := asc_at h hf.1 l3.1 (by omega)
    constructor
    · rw [Bool.eq_false_iff]
      intro hkk
      have := keepShort_iff.1 hkk t (List.mem_of_getElem? l3.1) (by unfold ltC at h4; omega) (by omega)
      rw [this] at h4
      exact ltC_sto.irr s h4
    · refine .inr ⟨l1, ⟨j, t, by omega, l3, l4⟩, fun j' u hj hu => ?_⟩
      by_cases hji : j' = i
      · subst hji
        have := hu.1; rw [hf.1] at this; injection this with this; rw [← this]; omega
      · exact l5 j' u (by omega) hu

/-! ### longest: from the first one on -/
/-- the last one with its begin -/
def isLast (l : List Sp) (j : Nat) (t : Sp) : Prop := l[j]? = some t ∧ ∀ u, l[j + 1]? = some u → u.1 ≠ t.1
def MostOk (l : List Sp) (i : Nat) (most : Int) : Prop :=
  (most = -1 ∧ ∀ j t, j < i → ¬ isLast l j t) ∨ (0 < most ∧ (∃ j t, j < i ∧ isLast l j t ∧ t.2 = most) ∧ ∀ j t, j < i → isLast l j t → t.2 ≤ most)
theorem last_of {l : List Sp} (h : l.Pairwise ltC) : ∀ (n j : Nat) (t : Sp), l.length - j = n → l[j]? = some t → ∃ j' u, j ≤ j' ∧ isLast l j' u ∧ u.1 = t.1 ∧ t.2 ≤ u.2
  | 0, j, t, hn, ht => by have := (List.getElem?_eq_some_iff.1 ht).1; omega
  | n + 1, j, t, hn, ht => by
    cases hv : l[j + 1]? with
    | none => exact ⟨j, t, Nat.le_refl _, ⟨ht, fun u hu => by rw [hv] at hu; cases hu⟩, rfl, Int.le_refl _⟩
    | some v =>
      by_cases e : v.1 = t.1
      · obtain ⟨j', u, h1, h2, h3, h4⟩ := last_of h n (j + 1) v (by omega) hv
        have h5 := asc_at h ht hv (by omega)
        unfold ltC at h5
        exact ⟨j', u, by omega, h2, by omega, by omega⟩
      · exact ⟨j, t, Nat.le_refl _, ⟨ht, fun u hu => by rw [hv] at hu; injection hu with hu; rw [← hu]; exact e⟩, rfl, Int.le_refl _⟩
theorem MostOk.skip {l : List Sp} (h : l.Pairwise ltC) {i : Nat} {s t : Sp} {most : Int} (hs : l[i]? = some s) (ht : l[i + 1]? = some t) (e : t.1 = s.1) (hl : MostOk l i most) : keepLong l s = false ∧ MostOk l (i + 1) most := by
  constructor
  · rw [Bool.eq_false_iff]
    intro hk
    have h1 := asc_at h hs ht (by omega)
    have := keepLong_iff.1 hk t (List.mem_of_getElem? ht) (by omega) (by unfold ltC at h1; omega)
    rw [this] at h1
    exact ltC_sto.irr s h1
  · have hn : ∀ j u, j < i + 1 → isLast l j u → j < i := by
      intro j u hj hf
      by_cases hji : j = i
      · subst hji
        exfalso
        have hu : u = s := by have := hf.1; rw [hs] at this; injection this with this; exact this.symm
        subst hu
        exact hf.2 t ht e
      · omega
    rcases hl with ⟨h1, h2⟩ | ⟨h1, ⟨j, u, h2, h3, h4⟩, h5⟩
    · exact .inl ⟨h1, fun j u hj hf => h2 j u (hn j u hj hf) hf⟩
    · exact .inr ⟨h1, ⟨j, u, by omega, h3, h4⟩, fun j u hj hf => h5 j u (hn j u hj hf) hf⟩
theorem MostOk.keep {l : List Sp} (h : l.Pairwise ltC) (hv : ∀ s ∈ l, 0 ≤ s.1 ∧ s.1 < s.2) {i : Nat} {s : Sp} {most : Int} (hf : isLast l i s) (hl : MostOk l i most) (hk : most < s.2) : keepLong l s = true ∧ MostOk l (i + 1) s.2 := by
  have hs := hf.1
  constructor
  · refine keepLong_iff.2 fun t ht h1 h2 => ?_
    obtain ⟨j, hj, rfl⟩ := List.mem_iff_getElem.1 ht
    have hjs : l[j]? = some l[j] := List.getElem?_eq_getElem hj
    generalize l[j] = t at *
    rcases Nat.lt_trichotomy j i with h3 | h3 | h3
    · exfalso
      have h4 := asc_at h hjs hs h3
      obtain ⟨j', u, k1, k2, k3, k4⟩ := last_of h _ j t rfl hjs
      unfold ltC at h4
      have hij : j' < i := by
        by_cases hle : i ≤ j'
        · have h5 := asc_le h hs k2.1 hle
          unfold ltC at h5
          rcases h5 with rfl | h5
          · omega
          · omega
        · omega
      rcases hl with ⟨l1, l2⟩ | ⟨l1, _, l3⟩
      · exact l2 j' u hij k2
      · have := l3 j' u hij k2
        omega
    · subst h3
      rw [hs] at hjs; injection hjs with e; exact e.symm
    · exfalso
      have h4 := asc_at h hs hjs h3
      unfold ltC at h4
      obtain ⟨v, hvv⟩ : ∃ v, l[i + 1]? = some v := ⟨_, List.getElem?_eq_getElem (by omega)⟩
      have h6 := asc_at h hs hvv (by omega)
      have h7 := asc_le h hvv hjs (by omega)
      have h8 := hf.2 v hvv
      unfold ltC at h6 h7
      rcases h7 with rfl | h7
      · omega
      · omega
  · refine .inr ⟨by have := hv s (List.mem_of_getElem? hs); omega, ⟨i, s, by omega, hf, rfl⟩, fun j t hj ht => ?_⟩
    by_cases hji : j = i
    · subst hji
      have := ht.1; rw [hs] at this; injection this with this; rw [this]; exact Int.le_refl _
    · rcases hl with ⟨l1, l2⟩ | ⟨l1, _, l3⟩
      · exact absurd ht (l2 j t (by omega))
      · have := l3 j t (by omega) ht
        omega
theorem MostOk.drop {l : List Sp} (h : l.Pairwise ltC) (hv : ∀ s ∈ l, 0 ≤ s.1 ∧ s.1 < s.2) {i : Nat} {s : Sp} {most : Int} (hf : isLast l i s) (hl : MostOk l i most) (hk : ¬ most < s.2) : keepLong l s = false ∧ MostOk l (i + 1) most := by
  have hsv := hv s (List.mem_of_getElem? hf.1)
  rcases hl with ⟨l1, _⟩ | ⟨l1, ⟨j, t, l2, l3, l4⟩, l5⟩
  · omega
  · have h4 := asc_at h l3.1 hf.1 l2
    constructor
    · rw [Bool.eq_false_iff]
      intro hkk
      have := keepLong_iff.1 hkk t (List.mem_of_getElem? l3.1) (by unfold ltC at h4; omega) (by omega)
      rw [this] at h4
      exact ltC_sto.irr s h4
    · refine .inr ⟨l1, ⟨j, t, by omega, l3, l4⟩, fun j' u hj hu => ?_⟩
      by_cases hji : j' = i
      · subst hji
        have := hu.1; rw [hf.1] at this; injection this with this; rw [← this]; omega
      · exact l5 j' u (by omega) hu

end Go.Proofs.YtpjdhokpfccahaaGreatDoor
namespace Go.Proofs.YtpjdhokpfccahaaGreatDoor

/-- the order of lists of integers: by the first difference; a beginning comes first -/
def cmpL : List Int → List Int → Int
  | [], [] => 0
  | [], _ :: _ => -1
  | _ :: _, [] => 1
  | a :: l, b :: m => if a < b then -1 else if b < a then 1 else cmpL l m
def ltK (a b : List Int) : Prop := cmpL a b < 0
end Go.Proofs.YtpjdhokpfccahaaGreatDoor
namespace Go.Proofs.YtpjdhokpfccahaaGreatDoor

instance (a b : List Int) : Decidable (ltK a b) := by unfold ltK; exact inferInstance
end Go.Proofs.YtpjdhokpfccahaaGreatDoor
namespace Go.Proofs.YtpjdhokpfccahaaGreatDoor
open Go.RowKit

structure Mt where
  b : Int
  e : Int
  v : Value
  ls : List Int
def spm (m : Mt) : Sp := (m.b, m.e)
def keyM (m : Mt) : List Int := m.b :: m.e :: m.ls
def okS (s : Sp) : Prop := 0 ≤ s.1 ∧ s.1 < s.2
instance (s : Sp) : Decidable (okS s) := by unfold okS; exact inferInstance
def ascM (l : List Mt) : Prop := l.Pairwise fun a b => ltK (keyM a) (keyM b)
instance (l : List Mt) : Decidable (ascM l) := by unfold ascM; exact inferInstance
def goodM (k : Int) (l : List Mt) : Prop := (0 ≤ k ∧ k ≤ 3) ∧ (∀ m ∈ l, okS (spm m)) ∧ ascM l
instance (k : Int) (l : List Mt) : Decidable (goodM k l) := by unfold goodM; exact inferInstance
end Go.Proofs.YtpjdhokpfccahaaGreatDoor
namespace Go.Proofs.YtpjdhokpfccahaaGreatDoor
open Go.RowKit

end Go.Proofs.YtpjdhokpfccahaaGreatDoor
