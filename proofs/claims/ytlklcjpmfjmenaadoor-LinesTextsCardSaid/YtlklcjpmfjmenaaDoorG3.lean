/- Facts on the types and functions of the program, by program.
   Plain: spans in order, and what the strategies keep of them.
   Plain: matches, their order, and the matches of chosen spans.
   Plain: insertion into an ascending list from behind.
   Plain: matches and what a strategy keeps of them.
   Plain: what the laws about strategies say of lists. -/
import Derived.Test.YtlklcjpmfjmenaaDoorProg
import Derived.Test.YtlklcjpmfjmenaaDoorG2
namespace Go.Proofs.YtlklcjpmfjmenaaDoor

instance : IsOne Tryd.prog 1 := ⟨fun _ => by kernel_rfl, fun _ => by kernel_rfl⟩
instance : ElOf Tryd.prog 1 1 8 := elOf_mk (by kernel_rfl) (by decide)
instance : ZeroOf Tryd.prog 1 [.nilFunc] := ⟨.nilFunc, fun _ => by kernel_rfl, by kernel_rfl⟩
instance : IsOne Tryd.prog 2 := ⟨fun _ => by kernel_rfl, fun _ => by kernel_rfl⟩
instance : IntT Tryd.prog 2 .i64 := ⟨by kernel_rfl⟩
instance : ElOf Tryd.prog 2 1 8 := elOf_mk (by kernel_rfl) (by decide)
instance : ZeroOf Tryd.prog 2 [(.int .i64 0)] := ⟨(.int .i64 0), fun _ => by kernel_rfl, by kernel_rfl⟩
instance : IsOne Tryd.prog 3 := ⟨fun _ => by kernel_rfl, fun _ => by kernel_rfl⟩
instance : IntT Tryd.prog 3 .i64 := ⟨by kernel_rfl⟩
instance : ElOf Tryd.prog 3 1 8 := elOf_mk (by kernel_rfl) (by decide)
instance : ZeroOf Tryd.prog 3 [(.int .i64 0)] := ⟨(.int .i64 0), fun _ => by kernel_rfl, by kernel_rfl⟩
instance : IsOne Tryd.prog 4 := ⟨fun _ => by kernel_rfl, fun _ => by kernel_rfl⟩
instance : BoolT Tryd.prog 4 := ⟨by kernel_rfl⟩
instance : ElOf Tryd.prog 4 1 1 := elOf_mk (by kernel_rfl) (by decide)
instance : ZeroOf Tryd.prog 4 [(.bool false)] := ⟨(.bool false), fun _ => by kernel_rfl, by kernel_rfl⟩
instance : IsOne Tryd.prog 5 := ⟨fun _ => by kernel_rfl, fun _ => by kernel_rfl⟩
instance : IntT Tryd.prog 5 .u8 := ⟨by kernel_rfl⟩
instance : ElOf Tryd.prog 5 1 1 := elOf_mk (by kernel_rfl) (by decide)
instance : ZeroOf Tryd.prog 5 [(.int .u8 0)] := ⟨(.int .u8 0), fun _ => by kernel_rfl, by kernel_rfl⟩
instance : IsOne Tryd.prog 6 := ⟨fun _ => by kernel_rfl, fun _ => by kernel_rfl⟩
instance : IntT Tryd.prog 6 .u8 := ⟨by kernel_rfl⟩
instance : ElOf Tryd.prog 6 1 1 := elOf_mk (by kernel_rfl) (by decide)
instance : ZeroOf Tryd.prog 6 [(.int .u8 0)] := ⟨(.int .u8 0), fun _ => by kernel_rfl, by kernel_rfl⟩
instance : IsAgg Tryd.prog 7 4 := ⟨fun _ => by kernel_rfl, fun _ => by kernel_rfl⟩
instance : FldAt Tryd.prog 7 0 0 := ⟨fun _ _ _ => by kernel_rfl⟩
instance : FldAt Tryd.prog 7 1 1 := ⟨fun _ _ _ => by kernel_rfl⟩
instance : FldAt Tryd.prog 7 2 2 := ⟨fun _ _ _ => by kernel_rfl⟩
instance : FldAt Tryd.prog 7 3 3 := ⟨fun _ _ _ => by kernel_rfl⟩
instance : ElOf Tryd.prog 7 4 24 := elOf_mk (by kernel_rfl) (by decide)
instance : ZeroOf Tryd.prog 7 [(.int .i64 0), (.int .i64 0), (.bool false), (.int .u8 0)] := ⟨(.agg #[(.int .i64 0), (.int .i64 0), (.bool false), (.int .u8 0)]), fun _ => by kernel_rfl, by kernel_rfl⟩
instance : PlacesOf Tryd.prog 7 [(0, 1), (1, 1), (2, 1), (3, 1)] [(.int .i64 0), (.int .i64 0), (.bool false), (.int .u8 0)] := placesOf_mk (Tryd.prog.fieldsOf 7) (.agg #[(.int .i64 0), (.int .i64 0), (.bool false), (.int .u8 0)]) (fun _ => by kernel_rfl) (by kernel_rfl) (by kernel_rfl) (fun _ => by kernel_rfl)
instance : IsAgg Tryd.prog 8 4 := ⟨fun _ => by kernel_rfl, fun _ => by kernel_rfl⟩
instance : FldAt Tryd.prog 8 0 0 := ⟨fun _ _ _ => by kernel_rfl⟩
instance : FldAt Tryd.prog 8 1 1 := ⟨fun _ _ _ => by kernel_rfl⟩
instance : FldAt Tryd.prog 8 2 2 := ⟨fun _ _ _ => by kernel_rfl⟩
instance : FldAt Tryd.prog 8 3 3 := ⟨fun _ _ _ => by kernel_rfl⟩
instance : ElOf Tryd.prog 8 4 24 := elOf_mk (by kernel_rfl) (by decide)
instance : ZeroOf Tryd.prog 8 [(.int .i64 0), (.int .i64 0), (.bool false), (.int .u8 0)] := ⟨(.agg #[(.int .i64 0), (.int .i64 0), (.bool false), (.int .u8 0)]), fun _ => by kernel_rfl, by kernel_rfl⟩
instance : PlacesOf Tryd.prog 8 [(0, 1), (1, 1), (2, 1), (3, 1)] [(.int .i64 0), (.int .i64 0), (.bool false), (.int .u8 0)] := placesOf_mk (Tryd.prog.fieldsOf 8) (.agg #[(.int .i64 0), (.int .i64 0), (.bool false), (.int .u8 0)]) (fun _ => by kernel_rfl) (by kernel_rfl) (by kernel_rfl) (fun _ => by kernel_rfl)
instance : IsOne Tryd.prog 9 := ⟨fun _ => by kernel_rfl, fun _ => by kernel_rfl⟩
instance : NotInt Tryd.prog 9 := ⟨.inl (by kernel_rfl)⟩
instance : StrT Tryd.prog 9 := ⟨by kernel_rfl⟩
instance : ElOf Tryd.prog 9 1 16 := elOf_mk (by kernel_rfl) (by decide)
instance : ZeroOf Tryd.prog 9 [(.string ⟨#[]⟩)] := ⟨(.string ⟨#[]⟩), fun _ => by kernel_rfl, by kernel_rfl⟩
instance : IsOne Tryd.prog 10 := ⟨fun _ => by kernel_rfl, fun _ => by kernel_rfl⟩
instance : NotInt Tryd.prog 10 := ⟨.inl (by kernel_rfl)⟩
instance : StrT Tryd.prog 10 := ⟨by kernel_rfl⟩
instance : ElOf Tryd.prog 10 1 16 := elOf_mk (by kernel_rfl) (by decide)
instance : ZeroOf Tryd.prog 10 [(.string ⟨#[]⟩)] := ⟨(.string ⟨#[]⟩), fun _ => by kernel_rfl, by kernel_rfl⟩
instance : IsOne Tryd.prog 11 := ⟨fun _ => by kernel_rfl, fun _ => by kernel_rfl⟩
instance : NotInt Tryd.prog 11 := ⟨.inl (by kernel_rfl)⟩
instance : StrT Tryd.prog 11 := ⟨by kernel_rfl⟩
instance : ElOf Tryd.prog 11 1 16 := elOf_mk (by kernel_rfl) (by decide)
instance : ZeroOf Tryd.prog 11 [(.string ⟨#[]⟩)] := ⟨(.string ⟨#[]⟩), fun _ => by kernel_rfl, by kernel_rfl⟩
instance : IsOne Tryd.prog 12 := ⟨fun _ => by kernel_rfl, fun _ => by kernel_rfl⟩
instance : IntT Tryd.prog 12 .u64 := ⟨by kernel_rfl⟩
instance : ElOf Tryd.prog 12 1 8 := elOf_mk (by kernel_rfl) (by decide)
instance : ZeroOf Tryd.prog 12 [(.int .u64 0)] := ⟨(.int .u64 0), fun _ => by kernel_rfl, by kernel_rfl⟩
instance : IsAgg Tryd.prog 13 2 := ⟨fun _ => by kernel_rfl, fun _ => by kernel_rfl⟩
instance : FldAt Tryd.prog 13 0 0 := ⟨fun _ _ _ => by kernel_rfl⟩
instance : FldAt Tryd.prog 13 1 1 := ⟨fun _ _ _ => by kernel_rfl⟩
instance : ElOf Tryd.prog 13 2 24 := elOf_mk (by kernel_rfl) (by decide)
instance : ZeroOf Tryd.prog 13 [(.string ⟨#[]⟩), (.int .u64 0)] := ⟨(.agg #[(.string ⟨#[]⟩), (.int .u64 0)]), fun _ => by kernel_rfl, by kernel_rfl⟩
instance : PlacesOf Tryd.prog 13 [(0, 1), (1, 1)] [(.string ⟨#[]⟩), (.int .u64 0)] := placesOf_mk (Tryd.prog.fieldsOf 13) (.agg #[(.string ⟨#[]⟩), (.int .u64 0)]) (fun _ => by kernel_rfl) (by kernel_rfl) (by kernel_rfl) (fun _ => by kernel_rfl)
instance : IsAgg Tryd.prog 14 2 := ⟨fun _ => by kernel_rfl, fun _ => by kernel_rfl⟩
instance : FldAt Tryd.prog 14 0 0 := ⟨fun _ _ _ => by kernel_rfl⟩
instance : FldAt Tryd.prog 14 1 1 := ⟨fun _ _ _ => by kernel_rfl⟩
instance : ElOf Tryd.prog 14 2 24 := elOf_mk (by kernel_rfl) (by decide)
instance : ZeroOf Tryd.prog 14 [(.string ⟨#[]⟩), (.int .u64 0)] := ⟨(.agg #[(.string ⟨#[]⟩), (.int .u64 0)]), fun _ => by kernel_rfl, by kernel_rfl⟩
instance : PlacesOf Tryd.prog 14 [(0, 1), (1, 1)] [(.string ⟨#[]⟩), (.int .u64 0)] := placesOf_mk (Tryd.prog.fieldsOf 14) (.agg #[(.string ⟨#[]⟩), (.int .u64 0)]) (fun _ => by kernel_rfl) (by kernel_rfl) (by kernel_rfl) (fun _ => by kernel_rfl)
instance : IsOne Tryd.prog 15 := ⟨fun _ => by kernel_rfl, fun _ => by kernel_rfl⟩
instance : ElOf Tryd.prog 15 1 8 := elOf_mk (by kernel_rfl) (by decide)
instance : ZeroOf Tryd.prog 15 [(.pointer none)] := ⟨(.pointer none), fun _ => by kernel_rfl, by kernel_rfl⟩
instance : IsOne Tryd.prog 16 := ⟨fun _ => by kernel_rfl, fun _ => by kernel_rfl⟩
instance : ElOf Tryd.prog 16 1 8 := elOf_mk (by kernel_rfl) (by decide)
instance : ZeroOf Tryd.prog 16 [(.pointer none)] := ⟨(.pointer none), fun _ => by kernel_rfl, by kernel_rfl⟩
instance : IsOne Tryd.prog 17 := ⟨fun _ => by kernel_rfl, fun _ => by kernel_rfl⟩
instance : ElOf Tryd.prog 17 1 8 := elOf_mk (by kernel_rfl) (by decide)
instance : ZeroOf Tryd.prog 17 [(.pointer none)] := ⟨(.pointer none), fun _ => by kernel_rfl, by kernel_rfl⟩
instance : IsAgg Tryd.prog 18 1 := ⟨fun _ => by kernel_rfl, fun _ => by kernel_rfl⟩
instance : FldAt Tryd.prog 18 0 0 := ⟨fun _ _ _ => by kernel_rfl⟩
instance : ElOf Tryd.prog 18 1 8 := elOf_mk (by kernel_rfl) (by decide)
instance : ZeroOf Tryd.prog 18 [(.pointer none)] := ⟨(.agg #[(.pointer none)]), fun _ => by kernel_rfl, by kernel_rfl⟩
instance : PlacesOf Tryd.prog 18 [(0, 1)] [(.pointer none)] := placesOf_mk (Tryd.prog.fieldsOf 18) (.agg #[(.pointer none)]) (fun _ => by kernel_rfl) (by kernel_rfl) (by kernel_rfl) (fun _ => by kernel_rfl)
instance : IsAgg Tryd.prog 19 1 := ⟨fun _ => by kernel_rfl, fun _ => by kernel_rfl⟩
instance : FldAt Tryd.prog 19 0 0 := ⟨fun _ _ _ => by kernel_rfl⟩
instance : ElOf Tryd.prog 19 1 8 := elOf_mk (by kernel_rfl) (by decide)
instance : ZeroOf Tryd.prog 19 [(.pointer none)] := ⟨(.agg #[(.pointer none)]), fun _ => by kernel_rfl, by kernel_rfl⟩
instance : PlacesOf Tryd.prog 19 [(0, 1)] [(.pointer none)] := placesOf_mk (Tryd.prog.fieldsOf 19) (.agg #[(.pointer none)]) (fun _ => by kernel_rfl) (by kernel_rfl) (by kernel_rfl) (fun _ => by kernel_rfl)
instance : IsOne Tryd.prog 20 := ⟨fun _ => by kernel_rfl, fun _ => by kernel_rfl⟩
instance : ElOf Tryd.prog 20 1 16 := elOf_mk (by kernel_rfl) (by decide)
instance : ZeroOf Tryd.prog 20 [.nilIface] := ⟨.nilIface, fun _ => by kernel_rfl, by kernel_rfl⟩
instance : IsOne Tryd.prog 21 := ⟨fun _ => by kernel_rfl, fun _ => by kernel_rfl⟩
instance : IntT Tryd.prog 21 .i32 := ⟨by kernel_rfl⟩
instance : ElOf Tryd.prog 21 1 4 := elOf_mk (by kernel_rfl) (by decide)
instance : ZeroOf Tryd.prog 21 [(.int .i32 0)] := ⟨(.int .i32 0), fun _ => by kernel_rfl, by kernel_rfl⟩
instance : IsOne Tryd.prog 22 := ⟨fun _ => by kernel_rfl, fun _ => by kernel_rfl⟩
instance : NotInt Tryd.prog 22 := ⟨.inr ⟨3, by kernel_rfl⟩⟩
instance : SlOf Tryd.prog 22 3 1 := ⟨by kernel_rfl, fun _ => by kernel_rfl⟩
instance : ElOf Tryd.prog 22 1 24 := elOf_mk (by kernel_rfl) (by decide)
instance : ZeroOf Tryd.prog 22 [(.slice none 0 0)] := ⟨(.slice none 0 0), fun _ => by kernel_rfl, by kernel_rfl⟩
instance : IsOne Tryd.prog 23 := ⟨fun _ => by kernel_rfl, fun _ => by kernel_rfl⟩
instance : ElOf Tryd.prog 23 1 8 := elOf_mk (by kernel_rfl) (by decide)
instance : ZeroOf Tryd.prog 23 [(.pointer none)] := ⟨(.pointer none), fun _ => by kernel_rfl, by kernel_rfl⟩
instance : IsOne Tryd.prog 24 := ⟨fun _ => by kernel_rfl, fun _ => by kernel_rfl⟩
instance : ElOf Tryd.prog 24 1 8 := elOf_mk (by kernel_rfl) (by decide)
instance : ZeroOf Tryd.prog 24 [.nilFunc] := ⟨.nilFunc, fun _ => by kernel_rfl, by kernel_rfl⟩
instance : IsOne Tryd.prog 25 := ⟨fun _ => by kernel_rfl, fun _ => by kernel_rfl⟩
instance : NotInt Tryd.prog 25 := ⟨.inr ⟨69, by kernel_rfl⟩⟩
instance : SlOf Tryd.prog 25 69 2 := ⟨by kernel_rfl, fun _ => by kernel_rfl⟩
instance : ElOf Tryd.prog 25 1 24 := elOf_mk (by kernel_rfl) (by decide)
instance : ZeroOf Tryd.prog 25 [(.slice none 0 0)] := ⟨(.slice none 0 0), fun _ => by kernel_rfl, by kernel_rfl⟩
instance : IsOne Tryd.prog 26 := ⟨fun _ => by kernel_rfl, fun _ => by kernel_rfl⟩
instance : NotInt Tryd.prog 26 := ⟨.inr ⟨30, by kernel_rfl⟩⟩
instance : SlOf Tryd.prog 26 30 1 := ⟨by kernel_rfl, fun _ => by kernel_rfl⟩
instance : ElOf Tryd.prog 26 1 24 := elOf_mk (by kernel_rfl) (by decide)
instance : ZeroOf Tryd.prog 26 [(.slice none 0 0)] := ⟨(.slice none 0 0), fun _ => by kernel_rfl, by kernel_rfl⟩
instance : IsOne Tryd.prog 27 := ⟨fun _ => by kernel_rfl, fun _ => by kernel_rfl⟩
instance : NotInt Tryd.prog 27 := ⟨.inr ⟨38, by kernel_rfl⟩⟩
instance : SlOf Tryd.prog 27 38 4 := ⟨by kernel_rfl, fun _ => by kernel_rfl⟩
instance : ElOf Tryd.prog 27 1 24 := elOf_mk (by kernel_rfl) (by decide)
instance : ZeroOf Tryd.prog 27 [(.slice none 0 0)] := ⟨(.slice none 0 0), fun _ => by kernel_rfl, by kernel_rfl⟩
instance : IsOne Tryd.prog 28 := ⟨fun _ => by kernel_rfl, fun _ => by kernel_rfl⟩
instance : NotInt Tryd.prog 28 := ⟨.inr ⟨60, by kernel_rfl⟩⟩
instance : SlOf Tryd.prog 28 60 4 := ⟨by kernel_rfl, fun _ => by kernel_rfl⟩
instance : ElOf Tryd.prog 28 1 24 := elOf_mk (by kernel_rfl) (by decide)
instance : ZeroOf Tryd.prog 28 [(.slice none 0 0)] := ⟨(.slice none 0 0), fun _ => by kernel_rfl, by kernel_rfl⟩
instance : IsOne Tryd.prog 29 := ⟨fun _ => by kernel_rfl, fun _ => by kernel_rfl⟩
instance : NotInt Tryd.prog 29 := ⟨.inr ⟨73, by kernel_rfl⟩⟩
instance : SlOf Tryd.prog 29 73 4 := ⟨by kernel_rfl, fun _ => by kernel_rfl⟩
instance : ElOf Tryd.prog 29 1 24 := elOf_mk (by kernel_rfl) (by decide)
instance : ZeroOf Tryd.prog 29 [(.slice none 0 0)] := ⟨(.slice none 0 0), fun _ => by kernel_rfl, by kernel_rfl⟩
instance : IsOne Tryd.prog 30 := ⟨fun _ => by kernel_rfl, fun _ => by kernel_rfl⟩
instance : NotInt Tryd.prog 30 := ⟨.inr ⟨9, by kernel_rfl⟩⟩
instance : SlOf Tryd.prog 30 9 1 := ⟨by kernel_rfl, fun _ => by kernel_rfl⟩
instance : ElOf Tryd.prog 30 1 24 := elOf_mk (by kernel_rfl) (by decide)
instance : ZeroOf Tryd.prog 30 [(.slice none 0 0)] := ⟨(.slice none 0 0), fun _ => by kernel_rfl, by kernel_rfl⟩
instance : IsAgg Tryd.prog 31 7 := ⟨fun _ => by kernel_rfl, fun _ => by kernel_rfl⟩
instance : FldAt Tryd.prog 31 0 0 := ⟨fun _ _ _ => by kernel_rfl⟩
instance : FldAt Tryd.prog 31 1 1 := ⟨fun _ _ _ => by kernel_rfl⟩
instance : FldAt Tryd.prog 31 2 2 := ⟨fun _ _ _ => by kernel_rfl⟩
instance : FldAt Tryd.prog 31 3 3 := ⟨fun _ _ _ => by kernel_rfl⟩
instance : FldAt Tryd.prog 31 4 4 := ⟨fun _ _ _ => by kernel_rfl⟩
instance : FldAt Tryd.prog 31 5 5 := ⟨fun _ _ _ => by kernel_rfl⟩
instance : FldAt Tryd.prog 31 6 6 := ⟨fun _ _ _ => by kernel_rfl⟩
instance : ElOf Tryd.prog 31 7 168 := elOf_mk (by kernel_rfl) (by decide)
instance : ZeroOf Tryd.prog 31 [(.slice none 0 0), (.slice none 0 0), (.slice none 0 0), (.slice none 0 0), (.slice none 0 0), (.slice none 0 0), (.slice none 0 0)] := ⟨(.agg #[(.slice none 0 0), (.slice none 0 0), (.slice none 0 0), (.slice none 0 0), (.slice none 0 0), (.slice none 0 0), (.slice none 0 0)]), fun _ => by kernel_rfl, by kernel_rfl⟩
instance : PlacesOf Tryd.prog 31 [(0, 1), (1, 1), (2, 1), (3, 1), (4, 1), (5, 1), (6, 1)] [(.slice none 0 0), (.slice none 0 0), (.slice none 0 0), (.slice none 0 0), (.slice none 0 0), (.slice none 0 0), (.slice none 0 0)] := placesOf_mk (Tryd.prog.fieldsOf 31) (.agg #[(.slice none 0 0), (.slice none 0 0), (.slice none 0 0), (.slice none 0 0), (.slice none 0 0), (.slice none 0 0), (.slice none 0 0)]) (fun _ => by kernel_rfl) (by kernel_rfl) (by kernel_rfl) (fun _ => by kernel_rfl)
instance : IsAgg Tryd.prog 32 7 := ⟨fun _ => by kernel_rfl, fun _ => by kernel_rfl⟩
instance : FldAt Tryd.prog 32 0 0 := ⟨fun _ _ _ => by kernel_rfl⟩
instance : FldAt Tryd.prog 32 1 1 := ⟨fun _ _ _ => by kernel_rfl⟩
instance : FldAt Tryd.prog 32 2 2 := ⟨fun _ _ _ => by kernel_rfl⟩
instance : FldAt Tryd.prog 32 3 3 := ⟨fun _ _ _ => by kernel_rfl⟩
instance : FldAt Tryd.prog 32 4 4 := ⟨fun _ _ _ => by kernel_rfl⟩
instance : FldAt Tryd.prog 32 5 5 := ⟨fun _ _ _ => by kernel_rfl⟩
instance : FldAt Tryd.prog 32 6 6 := ⟨fun _ _ _ => by kernel_rfl⟩
instance : ElOf Tryd.prog 32 7 168 := elOf_mk (by kernel_rfl) (by decide)
instance : ZeroOf Tryd.prog 32 [(.slice none 0 0), (.slice none 0 0), (.slice none 0 0), (.slice none 0 0), (.slice none 0 0), (.slice none 0 0), (.slice none 0 0)] := ⟨(.agg #[(.slice none 0 0), (.slice none 0 0), (.slice none 0 0), (.slice none 0 0), (.slice none 0 0), (.slice none 0 0), (.slice none 0 0)]), fun _ => by kernel_rfl, by kernel_rfl⟩
instance : PlacesOf Tryd.prog 32 [(0, 1), (1, 1), (2, 1), (3, 1), (4, 1), (5, 1), (6, 1)] [(.slice none 0 0), (.slice none 0 0), (.slice none 0 0), (.slice none 0 0), (.slice none 0 0), (.slice none 0 0), (.slice none 0 0)] := placesOf_mk (Tryd.prog.fieldsOf 32) (.agg #[(.slice none 0 0), (.slice none 0 0), (.slice none 0 0), (.slice none 0 0), (.slice none 0 0), (.slice none 0 0), (.slice none 0 0)]) (fun _ => by kernel_rfl) (by kernel_rfl) (by kernel_rfl) (fun _ => by kernel_rfl)
instance : IsOne Tryd.prog 33 := ⟨fun _ => by kernel_rfl, fun _ => by kernel_rfl⟩
instance : ElOf Tryd.prog 33 1 8 := elOf_mk (by kernel_rfl) (by decide)
instance : ZeroOf Tryd.prog 33 [.nilFunc] := ⟨.nilFunc, fun _ => by kernel_rfl, by kernel_rfl⟩
instance : IsOne Tryd.prog 34 := ⟨fun _ => by kernel_rfl, fun _ => by kernel_rfl⟩
instance : NotInt Tryd.prog 34 := ⟨.inr ⟨40, by kernel_rfl⟩⟩
instance : SlOf Tryd.prog 34 40 3 := ⟨by kernel_rfl, fun _ => by kernel_rfl⟩
instance : ElOf Tryd.prog 34 1 24 := elOf_mk (by kernel_rfl) (by decide)
instance : ZeroOf Tryd.prog 34 [(.slice none 0 0)] := ⟨(.slice none 0 0), fun _ => by kernel_rfl, by kernel_rfl⟩
instance : IsOne Tryd.prog 35 := ⟨fun _ => by kernel_rfl, fun _ => by kernel_rfl⟩
instance : ElOf Tryd.prog 35 1 8 := elOf_mk (by kernel_rfl) (by decide)
instance : ZeroOf Tryd.prog 35 [.nilFunc] := ⟨.nilFunc, fun _ => by kernel_rfl, by kernel_rfl⟩
instance : IsOne Tryd.prog 36 := ⟨fun _ => by kernel_rfl, fun _ => by kernel_rfl⟩
instance : NotInt Tryd.prog 36 := ⟨.inr ⟨57, by kernel_rfl⟩⟩
instance : SlOf Tryd.prog 36 57 2 := ⟨by kernel_rfl, fun _ => by kernel_rfl⟩
instance : ElOf Tryd.prog 36 1 24 := elOf_mk (by kernel_rfl) (by decide)
instance : ZeroOf Tryd.prog 36 [(.slice none 0 0)] := ⟨(.slice none 0 0), fun _ => by kernel_rfl, by kernel_rfl⟩
instance : IsAgg Tryd.prog 37 4 := ⟨fun _ => by kernel_rfl, fun _ => by kernel_rfl⟩
instance : FldAt Tryd.prog 37 0 0 := ⟨fun _ _ _ => by kernel_rfl⟩
instance : FldAt Tryd.prog 37 1 1 := ⟨fun _ _ _ => by kernel_rfl⟩
instance : FldAt Tryd.prog 37 2 2 := ⟨fun _ _ _ => by kernel_rfl⟩
instance : FldAt Tryd.prog 37 3 3 := ⟨fun _ _ _ => by kernel_rfl⟩
instance : ElOf Tryd.prog 37 4 56 := elOf_mk (by kernel_rfl) (by decide)
instance : ZeroOf Tryd.prog 37 [(.string ⟨#[]⟩), (.int .i64 0), (.int .i64 0), (.slice none 0 0)] := ⟨(.agg #[(.string ⟨#[]⟩), (.int .i64 0), (.int .i64 0), (.slice none 0 0)]), fun _ => by kernel_rfl, by kernel_rfl⟩
instance : PlacesOf Tryd.prog 37 [(0, 1), (1, 1), (2, 1), (3, 1)] [(.string ⟨#[]⟩), (.int .i64 0), (.int .i64 0), (.slice none 0 0)] := placesOf_mk (Tryd.prog.fieldsOf 37) (.agg #[(.string ⟨#[]⟩), (.int .i64 0), (.int .i64 0), (.slice none 0 0)]) (fun _ => by kernel_rfl) (by kernel_rfl) (by kernel_rfl) (fun _ => by kernel_rfl)
instance : IsAgg Tryd.prog 38 4 := ⟨fun _ => by kernel_rfl, fun _ => by kernel_rfl⟩
instance : FldAt Tryd.prog 38 0 0 := ⟨fun _ _ _ => by kernel_rfl⟩
instance : FldAt Tryd.prog 38 1 1 := ⟨fun _ _ _ => by kernel_rfl⟩
instance : FldAt Tryd.prog 38 2 2 := ⟨fun _ _ _ => by kernel_rfl⟩
instance : FldAt Tryd.prog 38 3 3 := ⟨fun _ _ _ => by kernel_rfl⟩
instance : ElOf Tryd.prog 38 4 56 := elOf_mk (by kernel_rfl) (by decide)
instance : ZeroOf Tryd.prog 38 [(.string ⟨#[]⟩), (.int .i64 0), (.int .i64 0), (.slice none 0 0)] := ⟨(.agg #[(.string ⟨#[]⟩), (.int .i64 0), (.int .i64 0), (.slice none 0 0)]), fun _ => by kernel_rfl, by kernel_rfl⟩
instance : PlacesOf Tryd.prog 38 [(0, 1), (1, 1), (2, 1), (3, 1)] [(.string ⟨#[]⟩), (.int .i64 0), (.int .i64 0), (.slice none 0 0)] := placesOf_mk (Tryd.prog.fieldsOf 38) (.agg #[(.string ⟨#[]⟩), (.int .i64 0), (.int .i64 0), (.slice none 0 0)]) (fun _ => by kernel_rfl) (by kernel_rfl) (by kernel_rfl) (fun _ => by kernel_rfl)
instance : IsAgg Tryd.prog 39 3 := ⟨fun _ => by kernel_rfl, fun _ => by kernel_rfl⟩
instance : FldAt Tryd.prog 39 0 0 := ⟨fun _ _ _ => by kernel_rfl⟩
instance : FldAt Tryd.prog 39 1 1 := ⟨fun _ _ _ => by kernel_rfl⟩
instance : FldAt Tryd.prog 39 2 2 := ⟨fun _ _ _ => by kernel_rfl⟩
instance : ElOf Tryd.prog 39 3 40 := elOf_mk (by kernel_rfl) (by decide)
instance : ZeroOf Tryd.prog 39 [(.int .i64 0), (.int .i64 0), (.slice none 0 0)] := ⟨(.agg #[(.int .i64 0), (.int .i64 0), (.slice none 0 0)]), fun _ => by kernel_rfl, by kernel_rfl⟩
instance : PlacesOf Tryd.prog 39 [(0, 1), (1, 1), (2, 1)] [(.int .i64 0), (.int .i64 0), (.slice none 0 0)] := placesOf_mk (Tryd.prog.fieldsOf 39) (.agg #[(.int .i64 0), (.int .i64 0), (.slice none 0 0)]) (fun _ => by kernel_rfl) (by kernel_rfl) (by kernel_rfl) (fun _ => by kernel_rfl)
instance : IsAgg Tryd.prog 40 3 := ⟨fun _ => by kernel_rfl, fun _ => by kernel_rfl⟩
instance : FldAt Tryd.prog 40 0 0 := ⟨fun _ _ _ => by kernel_rfl⟩
instance : FldAt Tryd.prog 40 1 1 := ⟨fun _ _ _ => by kernel_rfl⟩
instance : FldAt Tryd.prog 40 2 2 := ⟨fun _ _ _ => by kernel_rfl⟩
instance : ElOf Tryd.prog 40 3 40 := elOf_mk (by kernel_rfl) (by decide)
instance : ZeroOf Tryd.prog 40 [(.int .i64 0), (.int .i64 0), (.slice none 0 0)] := ⟨(.agg #[(.int .i64 0), (.int .i64 0), (.slice none 0 0)]), fun _ => by kernel_rfl, by kernel_rfl⟩
instance : PlacesOf Tryd.prog 40 [(0, 1), (1, 1), (2, 1)] [(.int .i64 0), (.int .i64 0), (.slice none 0 0)] := placesOf_mk (Tryd.prog.fieldsOf 40) (.agg #[(.int .i64 0), (.int .i64 0), (.slice none 0 0)]) (fun _ => by kernel_rfl) (by kernel_rfl) (by kernel_rfl) (fun _ => by kernel_rfl)
instance : IsAgg Tryd.prog 41 5 := ⟨fun _ => by kernel_rfl, fun _ => by kernel_rfl⟩
instance : FldAt Tryd.prog 41 0 0 := ⟨fun _ _ _ => by kernel_rfl⟩
instance : FldAt Tryd.prog 41 1 1 := ⟨fun _ _ _ => by kernel_rfl⟩
instance : FldAt Tryd.prog 41 2 2 := ⟨fun _ _ _ => by kernel_rfl⟩
instance : FldAt Tryd.prog 41 3 3 := ⟨fun _ _ _ => by kernel_rfl⟩
instance : FldAt Tryd.prog 41 4 4 := ⟨fun _ _ _ => by kernel_rfl⟩
instance : ElOf Tryd.prog 41 5 96 := elOf_mk (by kernel_rfl) (by decide)
instance : ZeroOf Tryd.prog 41 [(.string ⟨#[]⟩), (.int .i64 0), (.slice none 0 0), (.slice none 0 0), (.slice none 0 0)] := ⟨(.agg #[(.string ⟨#[]⟩), (.int .i64 0), (.slice none 0 0), (.slice none 0 0), (.slice none 0 0)]), fun _ => by kernel_rfl, by kernel_rfl⟩
instance : PlacesOf Tryd.prog 41 [(0, 1), (1, 1), (2, 1), (3, 1), (4, 1)] [(.string ⟨#[]⟩), (.int .i64 0), (.slice none 0 0), (.slice none 0 0), (.slice none 0 0)] := placesOf_mk (Tryd.prog.fieldsOf 41) (.agg #[(.string ⟨#[]⟩), (.int .i64 0), (.slice none 0 0), (.slice none 0 0), (.slice none 0 0)]) (fun _ => by kernel_rfl) (by kernel_rfl) (by kernel_rfl) (fun _ => by kernel_rfl)
instance : IsAgg Tryd.prog 42 5 := ⟨fun _ => by kernel_rfl, fun _ => by kernel_rfl⟩
instance : FldAt Tryd.prog 42 0 0 := ⟨fun _ _ _ => by kernel_rfl⟩
instance : FldAt Tryd.prog 42 1 1 := ⟨fun _ _ _ => by kernel_rfl⟩
instance : FldAt Tryd.prog 42 2 2 := ⟨fun _ _ _ => by kernel_rfl⟩
instance : FldAt Tryd.prog 42 3 3 := ⟨fun _ _ _ => by kernel_rfl⟩
instance : FldAt Tryd.prog 42 4 4 := ⟨fun _ _ _ => by kernel_rfl⟩
instance : ElOf Tryd.prog 42 5 96 := elOf_mk (by kernel_rfl) (by decide)
instance : ZeroOf Tryd.prog 42 [(.string ⟨#[]⟩), (.int .i64 0), (.slice none 0 0), (.slice none 0 0), (.slice none 0 0)] := ⟨(.agg #[(.string ⟨#[]⟩), (.int .i64 0), (.slice none 0 0), (.slice none 0 0), (.slice none 0 0)]), fun _ => by kernel_rfl, by kernel_rfl⟩
instance : PlacesOf Tryd.prog 42 [(0, 1), (1, 1), (2, 1), (3, 1), (4, 1)] [(.string ⟨#[]⟩), (.int .i64 0), (.slice none 0 0), (.slice none 0 0), (.slice none 0 0)] := placesOf_mk (Tryd.prog.fieldsOf 42) (.agg #[(.string ⟨#[]⟩), (.int .i64 0), (.slice none 0 0), (.slice none 0 0), (.slice none 0 0)]) (fun _ => by kernel_rfl) (by kernel_rfl) (by kernel_rfl) (fun _ => by kernel_rfl)
instance : IsOne Tryd.prog 43 := ⟨fun _ => by kernel_rfl, fun _ => by kernel_rfl⟩
instance : IntT Tryd.prog 43 .i64 := ⟨by kernel_rfl⟩
instance : ElOf Tryd.prog 43 1 8 := elOf_mk (by kernel_rfl) (by decide)
instance : ZeroOf Tryd.prog 43 [(.int .i64 0)] := ⟨(.int .i64 0), fun _ => by kernel_rfl, by kernel_rfl⟩
instance : IsOne Tryd.prog 45 := ⟨fun _ => by kernel_rfl, fun _ => by kernel_rfl⟩
instance : ElOf Tryd.prog 45 1 8 := elOf_mk (by kernel_rfl) (by decide)
instance : ZeroOf Tryd.prog 45 [.nilFunc] := ⟨.nilFunc, fun _ => by kernel_rfl, by kernel_rfl⟩
instance : IsOne Tryd.prog 46 := ⟨fun _ => by kernel_rfl, fun _ => by kernel_rfl⟩
instance : ElOf Tryd.prog 46 1 8 := elOf_mk (by kernel_rfl) (by decide)
instance : ZeroOf Tryd.prog 46 [.nilFunc] := ⟨.nilFunc, fun _ => by kernel_rfl, by kernel_rfl⟩
instance : IsOne Tryd.prog 47 := ⟨fun _ => by kernel_rfl, fun _ => by kernel_rfl⟩
instance : IntT Tryd.prog 47 .u32 := ⟨by kernel_rfl⟩
instance : ElOf Tryd.prog 47 1 4 := elOf_mk (by kernel_rfl) (by decide)
instance : ZeroOf Tryd.prog 47 [(.int .u32 0)] := ⟨(.int .u32 0), fun _ => by kernel_rfl, by kernel_rfl⟩
instance : IsOne Tryd.prog 48 := ⟨fun _ => by kernel_rfl, fun _ => by kernel_rfl⟩
instance : ElOf Tryd.prog 48 1 8 := elOf_mk (by kernel_rfl) (by decide)
instance : ZeroOf Tryd.prog 48 [.nilFunc] := ⟨.nilFunc, fun _ => by kernel_rfl, by kernel_rfl⟩
instance : IsOne Tryd.prog 49 := ⟨fun _ => by kernel_rfl, fun _ => by kernel_rfl⟩
instance : ElOf Tryd.prog 49 1 8 := elOf_mk (by kernel_rfl) (by decide)
instance : ZeroOf Tryd.prog 49 [.nilFunc] := ⟨.nilFunc, fun _ => by kernel_rfl, by kernel_rfl⟩
instance : IsOne Tryd.prog 50 := ⟨fun _ => by kernel_rfl, fun _ => by kernel_rfl⟩
instance : ElOf Tryd.prog 50 1 8 := elOf_mk (by kernel_rfl) (by decide)
instance : ZeroOf Tryd.prog 50 [.nilFunc] := ⟨.nilFunc, fun _ => by kernel_rfl, by kernel_rfl⟩
instance : IsOne Tryd.prog 51 := ⟨fun _ => by kernel_rfl, fun _ => by kernel_rfl⟩
instance : ElOf Tryd.prog 51 1 8 := elOf_mk (by kernel_rfl) (by decide)
instance : ZeroOf Tryd.prog 51 [.nilFunc] := ⟨.nilFunc, fun _ => by kernel_rfl, by kernel_rfl⟩
instance : IsAgg Tryd.prog 52 2 := ⟨fun _ => by kernel_rfl, fun _ => by kernel_rfl⟩
instance : FldAt Tryd.prog 52 0 0 := ⟨fun _ _ _ => by kernel_rfl⟩
instance : FldAt Tryd.prog 52 1 1 := ⟨fun _ _ _ => by kernel_rfl⟩
instance : ElOf Tryd.prog 52 2 32 := elOf_mk (by kernel_rfl) (by decide)
instance : ZeroOf Tryd.prog 52 [(.slice none 0 0), (.int .i64 0)] := ⟨(.agg #[(.slice none 0 0), (.int .i64 0)]), fun _ => by kernel_rfl, by kernel_rfl⟩
instance : PlacesOf Tryd.prog 52 [(0, 1), (1, 1)] [(.slice none 0 0), (.int .i64 0)] := placesOf_mk (Tryd.prog.fieldsOf 52) (.agg #[(.slice none 0 0), (.int .i64 0)]) (fun _ => by kernel_rfl) (by kernel_rfl) (by kernel_rfl) (fun _ => by kernel_rfl)
instance : IsAgg Tryd.prog 53 2 := ⟨fun _ => by kernel_rfl, fun _ => by kernel_rfl⟩
instance : FldAt Tryd.prog 53 0 0 := ⟨fun _ _ _ => by kernel_rfl⟩
instance : FldAt Tryd.prog 53 1 1 := ⟨fun _ _ _ => by kernel_rfl⟩
instance : ElOf Tryd.prog 53 2 32 := elOf_mk (by kernel_rfl) (by decide)
instance : ZeroOf Tryd.prog 53 [(.slice none 0 0), (.int .i64 0)] := ⟨(.agg #[(.slice none 0 0), (.int .i64 0)]), fun _ => by kernel_rfl, by kernel_rfl⟩
instance : PlacesOf Tryd.prog 53 [(0, 1), (1, 1)] [(.slice none 0 0), (.int .i64 0)] := placesOf_mk (Tryd.prog.fieldsOf 53) (.agg #[(.slice none 0 0), (.int .i64 0)]) (fun _ => by kernel_rfl) (by kernel_rfl) (by kernel_rfl) (fun _ => by kernel_rfl)
instance : IsOne Tryd.prog 54 := ⟨fun _ => by kernel_rfl, fun _ => by kernel_rfl⟩
instance : ElOf Tryd.prog 54 1 8 := elOf_mk (by kernel_rfl) (by decide)
instance : ZeroOf Tryd.prog 54 [.nilFunc] := ⟨.nilFunc, fun _ => by kernel_rfl, by kernel_rfl⟩
instance : IsOne Tryd.prog 55 := ⟨fun _ => by kernel_rfl, fun _ => by kernel_rfl⟩
instance : ElOf Tryd.prog 55 1 8 := elOf_mk (by kernel_rfl) (by decide)
instance : ZeroOf Tryd.prog 55 [.nilFunc] := ⟨.nilFunc, fun _ => by kernel_rfl, by kernel_rfl⟩
instance : IsAgg Tryd.prog 56 2 := ⟨fun _ => by kernel_rfl, fun _ => by kernel_rfl⟩
instance : FldAt Tryd.prog 56 0 0 := ⟨fun _ _ _ => by kernel_rfl⟩
instance : FldAt Tryd.prog 56 1 1 := ⟨fun _ _ _ => by kernel_rfl⟩
instance : ElOf Tryd.prog 56 2 32 := elOf_mk (by kernel_rfl) (by decide)
instance : ZeroOf Tryd.prog 56 [(.string ⟨#[]⟩), (.string ⟨#[]⟩)] := ⟨(.agg #[(.string ⟨#[]⟩), (.string ⟨#[]⟩)]), fun _ => by kernel_rfl, by kernel_rfl⟩
instance : PlacesOf Tryd.prog 56 [(0, 1), (1, 1)] [(.string ⟨#[]⟩), (.string ⟨#[]⟩)] := placesOf_mk (Tryd.prog.fieldsOf 56) (.agg #[(.string ⟨#[]⟩), (.string ⟨#[]⟩)]) (fun _ => by kernel_rfl) (by kernel_rfl) (by kernel_rfl) (fun _ => by kernel_rfl)
instance : IsAgg Tryd.prog 57 2 := ⟨fun _ => by kernel_rfl, fun _ => by kernel_rfl⟩
instance : FldAt Tryd.prog 57 0 0 := ⟨fun _ _ _ => by kernel_rfl⟩
instance : FldAt Tryd.prog 57 1 1 := ⟨fun _ _ _ => by kernel_rfl⟩
set_option maxRecDepth 100000 in
instance : FlatEq Tryd.prog 57 [.str, .str] := ⟨by kernel_rfl, .cons (by kernel_rfl) (of_decide_eq_true (by kernel_rfl)) (fun _ => by kernel_rfl) (by kernel_rfl) (.cons (by kernel_rfl) (of_decide_eq_true (by kernel_rfl)) (fun _ => by kernel_rfl) (by kernel_rfl) (.nil)), by kernel_rfl, by kernel_rfl⟩
instance : ElOf Tryd.prog 57 2 32 := elOf_mk (by kernel_rfl) (by decide)
instance : ZeroOf Tryd.prog 57 [(.string ⟨#[]⟩), (.string ⟨#[]⟩)] := ⟨(.agg #[(.string ⟨#[]⟩), (.string ⟨#[]⟩)]), fun _ => by kernel_rfl, by kernel_rfl⟩
instance : PlacesOf Tryd.prog 57 [(0, 1), (1, 1)] [(.string ⟨#[]⟩), (.string ⟨#[]⟩)] := placesOf_mk (Tryd.prog.fieldsOf 57) (.agg #[(.string ⟨#[]⟩), (.string ⟨#[]⟩)]) (fun _ => by kernel_rfl) (by kernel_rfl) (by kernel_rfl) (fun _ => by kernel_rfl)
instance : IsOne Tryd.prog 58 := ⟨fun _ => by kernel_rfl, fun _ => by kernel_rfl⟩
instance : ElOf Tryd.prog 58 1 8 := elOf_mk (by kernel_rfl) (by decide)
instance : ZeroOf Tryd.prog 58 [.nilFunc] := ⟨.nilFunc, fun _ => by kernel_rfl, by kernel_rfl⟩
instance : IsAgg Tryd.prog 59 4 := ⟨fun _ => by kernel_rfl, fun _ => by kernel_rfl⟩
instance : FldAt Tryd.prog 59 0 0 := ⟨fun _ _ _ => by kernel_rfl⟩
instance : FldAt Tryd.prog 59 1 1 := ⟨fun _ _ _ => by kernel_rfl⟩
instance : FldAt Tryd.prog 59 2 2 := ⟨fun _ _ _ => by kernel_rfl⟩
instance : FldAt Tryd.prog 59 3 3 := ⟨fun _ _ _ => by kernel_rfl⟩
instance : ElOf Tryd.prog 59 4 56 := elOf_mk (by kernel_rfl) (by decide)
instance : ZeroOf Tryd.prog 59 [(.string ⟨#[]⟩), (.int .i64 0), (.int .i64 0), (.slice none 0 0)] := ⟨(.agg #[(.string ⟨#[]⟩), (.int .i64 0), (.int .i64 0), (.slice none 0 0)]), fun _ => by kernel_rfl, by kernel_rfl⟩
instance : PlacesOf Tryd.prog 59 [(0, 1), (1, 1), (2, 1), (3, 1)] [(.string ⟨#[]⟩), (.int .i64 0), (.int .i64 0), (.slice none 0 0)] := placesOf_mk (Tryd.prog.fieldsOf 59) (.agg #[(.string ⟨#[]⟩), (.int .i64 0), (.int .i64 0), (.slice none 0 0)]) (fun _ => by kernel_rfl) (by kernel_rfl) (by kernel_rfl) (fun _ => by kernel_rfl)
instance : IsAgg Tryd.prog 60 4 := ⟨fun _ => by kernel_rfl, fun _ => by kernel_rfl⟩
instance : FldAt Tryd.prog 60 0 0 := ⟨fun _ _ _ => by kernel_rfl⟩
instance : FldAt Tryd.prog 60 1 1 := ⟨fun _ _ _ => by kernel_rfl⟩
instance : FldAt Tryd.prog 60 2 2 := ⟨fun _ _ _ => by kernel_rfl⟩
instance : FldAt Tryd.prog 60 3 3 := ⟨fun _ _ _ => by kernel_rfl⟩
instance : ElOf Tryd.prog 60 4 56 := elOf_mk (by kernel_rfl) (by decide)
instance : ZeroOf Tryd.prog 60 [(.string ⟨#[]⟩), (.int .i64 0), (.int .i64 0), (.slice none 0 0)] := ⟨(.agg #[(.string ⟨#[]⟩), (.int .i64 0), (.int .i64 0), (.slice none 0 0)]), fun _ => by kernel_rfl, by kernel_rfl⟩
instance : PlacesOf Tryd.prog 60 [(0, 1), (1, 1), (2, 1), (3, 1)] [(.string ⟨#[]⟩), (.int .i64 0), (.int .i64 0), (.slice none 0 0)] := placesOf_mk (Tryd.prog.fieldsOf 60) (.agg #[(.string ⟨#[]⟩), (.int .i64 0), (.int .i64 0), (.slice none 0 0)]) (fun _ => by kernel_rfl) (by kernel_rfl) (by kernel_rfl) (fun _ => by kernel_rfl)
instance : IsOne Tryd.prog 61 := ⟨fun _ => by kernel_rfl, fun _ => by kernel_rfl⟩
instance : ElOf Tryd.prog 61 1 8 := elOf_mk (by kernel_rfl) (by decide)
instance : ZeroOf Tryd.prog 61 [.nilFunc] := ⟨.nilFunc, fun _ => by kernel_rfl, by kernel_rfl⟩
instance : IsOne Tryd.prog 62 := ⟨fun _ => by kernel_rfl, fun _ => by kernel_rfl⟩
instance : ElOf Tryd.prog 62 1 8 := elOf_mk (by kernel_rfl) (by decide)
instance : ZeroOf Tryd.prog 62 [.nilFunc] := ⟨.nilFunc, fun _ => by kernel_rfl, by kernel_rfl⟩
instance : IsOne Tryd.prog 63 := ⟨fun _ => by kernel_rfl, fun _ => by kernel_rfl⟩
instance : ElOf Tryd.prog 63 1 8 := elOf_mk (by kernel_rfl) (by decide)
instance : ZeroOf Tryd.prog 63 [(.pointer none)] := ⟨(.pointer none), fun _ => by kernel_rfl, by kernel_rfl⟩
instance : IsOne Tryd.prog 65 := ⟨fun _ => by kernel_rfl, fun _ => by kernel_rfl⟩
instance : ElOf Tryd.prog 65 1 8 := elOf_mk (by kernel_rfl) (by decide)
instance : ZeroOf Tryd.prog 65 [.nilFunc] := ⟨.nilFunc, fun _ => by kernel_rfl, by kernel_rfl⟩
instance : IsOne Tryd.prog 66 := ⟨fun _ => by kernel_rfl, fun _ => by kernel_rfl⟩
instance : ElOf Tryd.prog 66 1 8 := elOf_mk (by kernel_rfl) (by decide)
instance : ZeroOf Tryd.prog 66 [.nilFunc] := ⟨.nilFunc, fun _ => by kernel_rfl, by kernel_rfl⟩
instance : IsOne Tryd.prog 67 := ⟨fun _ => by kernel_rfl, fun _ => by kernel_rfl⟩
instance : NotInt Tryd.prog 67 := ⟨.inr ⟨5, by kernel_rfl⟩⟩
instance : SlOf Tryd.prog 67 5 1 := ⟨by kernel_rfl, fun _ => by kernel_rfl⟩
instance : ElOf Tryd.prog 67 1 24 := elOf_mk (by kernel_rfl) (by decide)
instance : ZeroOf Tryd.prog 67 [(.slice none 0 0)] := ⟨(.slice none 0 0), fun _ => by kernel_rfl, by kernel_rfl⟩
instance : IsAgg Tryd.prog 68 2 := ⟨fun _ => by kernel_rfl, fun _ => by kernel_rfl⟩
instance : FldAt Tryd.prog 68 0 0 := ⟨fun _ _ _ => by kernel_rfl⟩
instance : FldAt Tryd.prog 68 1 1 := ⟨fun _ _ _ => by kernel_rfl⟩
instance : ElOf Tryd.prog 68 2 24 := elOf_mk (by kernel_rfl) (by decide)
instance : ZeroOf Tryd.prog 68 [(.string ⟨#[]⟩), (.bool false)] := ⟨(.agg #[(.string ⟨#[]⟩), (.bool false)]), fun _ => by kernel_rfl, by kernel_rfl⟩
instance : PlacesOf Tryd.prog 68 [(0, 1), (1, 1)] [(.string ⟨#[]⟩), (.bool false)] := placesOf_mk (Tryd.prog.fieldsOf 68) (.agg #[(.string ⟨#[]⟩), (.bool false)]) (fun _ => by kernel_rfl) (by kernel_rfl) (by kernel_rfl) (fun _ => by kernel_rfl)
instance : IsAgg Tryd.prog 69 2 := ⟨fun _ => by kernel_rfl, fun _ => by kernel_rfl⟩
instance : FldAt Tryd.prog 69 0 0 := ⟨fun _ _ _ => by kernel_rfl⟩
instance : FldAt Tryd.prog 69 1 1 := ⟨fun _ _ _ => by kernel_rfl⟩
set_option maxRecDepth 100000 in
instance : FlatEq Tryd.prog 69 [.str, .bool] := ⟨by kernel_rfl, .cons (by kernel_rfl) (of_decide_eq_true (by kernel_rfl)) (fun _ => by kernel_rfl) (by kernel_rfl) (.cons (by kernel_rfl) (of_decide_eq_true (by kernel_rfl)) (fun _ => by kernel_rfl) (by kernel_rfl) (.nil)), by kernel_rfl, by kernel_rfl⟩
instance : ElOf Tryd.prog 69 2 24 := elOf_mk (by kernel_rfl) (by decide)
instance : ZeroOf Tryd.prog 69 [(.string ⟨#[]⟩), (.bool false)] := ⟨(.agg #[(.string ⟨#[]⟩), (.bool false)]), fun _ => by kernel_rfl, by kernel_rfl⟩
instance : PlacesOf Tryd.prog 69 [(0, 1), (1, 1)] [(.string ⟨#[]⟩), (.bool false)] := placesOf_mk (Tryd.prog.fieldsOf 69) (.agg #[(.string ⟨#[]⟩), (.bool false)]) (fun _ => by kernel_rfl) (by kernel_rfl) (by kernel_rfl) (fun _ => by kernel_rfl)
instance : IsOne Tryd.prog 70 := ⟨fun _ => by kernel_rfl, fun _ => by kernel_rfl⟩
instance : ElOf Tryd.prog 70 1 8 := elOf_mk (by kernel_rfl) (by decide)
instance : ZeroOf Tryd.prog 70 [.nilFunc] := ⟨.nilFunc, fun _ => by kernel_rfl, by kernel_rfl⟩
instance : IsOne Tryd.prog 71 := ⟨fun _ => by kernel_rfl, fun _ => by kernel_rfl⟩
instance : ElOf Tryd.prog 71 1 8 := elOf_mk (by kernel_rfl) (by decide)
instance : ZeroOf Tryd.prog 71 [.nilFunc] := ⟨.nilFunc, fun _ => by kernel_rfl, by kernel_rfl⟩
instance : IsAgg Tryd.prog 72 4 := ⟨fun _ => by kernel_rfl, fun _ => by kernel_rfl⟩
instance : FldAt Tryd.prog 72 0 0 := ⟨fun _ _ _ => by kernel_rfl⟩
instance : FldAt Tryd.prog 72 1 1 := ⟨fun _ _ _ => by kernel_rfl⟩
instance : FldAt Tryd.prog 72 2 2 := ⟨fun _ _ _ => by kernel_rfl⟩
instance : FldAt Tryd.prog 72 3 3 := ⟨fun _ _ _ => by kernel_rfl⟩
instance : ElOf Tryd.prog 72 4 40 := elOf_mk (by kernel_rfl) (by decide)
instance : ZeroOf Tryd.prog 72 [(.string ⟨#[]⟩), (.int .i64 0), (.int .i64 0), (.int .i64 0)] := ⟨(.agg #[(.string ⟨#[]⟩), (.int .i64 0), (.int .i64 0), (.int .i64 0)]), fun _ => by kernel_rfl, by kernel_rfl⟩
instance : PlacesOf Tryd.prog 72 [(0, 1), (1, 1), (2, 1), (3, 1)] [(.string ⟨#[]⟩), (.int .i64 0), (.int .i64 0), (.int .i64 0)] := placesOf_mk (Tryd.prog.fieldsOf 72) (.agg #[(.string ⟨#[]⟩), (.int .i64 0), (.int .i64 0), (.int .i64 0)]) (fun _ => by kernel_rfl) (by kernel_rfl) (by kernel_rfl) (fun _ => by kernel_rfl)
instance : IsAgg Tryd.prog 73 4 := ⟨fun _ => by kernel_rfl, fun _ => by kernel_rfl⟩
instance : FldAt Tryd.prog 73 0 0 := ⟨fun _ _ _ => by kernel_rfl⟩
instance : FldAt Tryd.prog 73 1 1 := ⟨fun _ _ _ => by kernel_rfl⟩
instance : FldAt Tryd.prog 73 2 2 := ⟨fun _ _ _ => by kernel_rfl⟩
instance : FldAt Tryd.prog 73 3 3 := ⟨fun _ _ _ => by kernel_rfl⟩
set_option maxRecDepth 100000 in
instance : FlatEq Tryd.prog 73 [.str, .int .i64, .int .i64, .int .i64] := ⟨by kernel_rfl, .cons (by kernel_rfl) (of_decide_eq_true (by kernel_rfl)) (fun _ => by kernel_rfl) (by kernel_rfl) (.cons (by kernel_rfl) (of_decide_eq_true (by kernel_rfl)) (fun _ => by kernel_rfl) (by kernel_rfl) (.cons (by kernel_rfl) (of_decide_eq_true (by kernel_rfl)) (fun _ => by kernel_rfl) (by kernel_rfl) (.cons (by kernel_rfl) (of_decide_eq_true (by kernel_rfl)) (fun _ => by kernel_rfl) (by kernel_rfl) (.nil)))), by kernel_rfl, by kernel_rfl⟩
instance : ElOf Tryd.prog 73 4 40 := elOf_mk (by kernel_rfl) (by decide)
instance : ZeroOf Tryd.prog 73 [(.string ⟨#[]⟩), (.int .i64 0), (.int .i64 0), (.int .i64 0)] := ⟨(.agg #[(.string ⟨#[]⟩), (.int .i64 0), (.int .i64 0), (.int .i64 0)]), fun _ => by kernel_rfl, by kernel_rfl⟩
instance : PlacesOf Tryd.prog 73 [(0, 1), (1, 1), (2, 1), (3, 1)] [(.string ⟨#[]⟩), (.int .i64 0), (.int .i64 0), (.int .i64 0)] := placesOf_mk (Tryd.prog.fieldsOf 73) (.agg #[(.string ⟨#[]⟩), (.int .i64 0), (.int .i64 0), (.int .i64 0)]) (fun _ => by kernel_rfl) (by kernel_rfl) (by kernel_rfl) (fun _ => by kernel_rfl)
instance : IsOne Tryd.prog 74 := ⟨fun _ => by kernel_rfl, fun _ => by kernel_rfl⟩
instance : ElOf Tryd.prog 74 1 8 := elOf_mk (by kernel_rfl) (by decide)
instance : ZeroOf Tryd.prog 74 [.nilFunc] := ⟨.nilFunc, fun _ => by kernel_rfl, by kernel_rfl⟩
instance : IsOne Tryd.prog 75 := ⟨fun _ => by kernel_rfl, fun _ => by kernel_rfl⟩
instance : ElOf Tryd.prog 75 1 8 := elOf_mk (by kernel_rfl) (by decide)
instance : ZeroOf Tryd.prog 75 [.nilFunc] := ⟨.nilFunc, fun _ => by kernel_rfl, by kernel_rfl⟩
instance : IsOne Tryd.prog 76 := ⟨fun _ => by kernel_rfl, fun _ => by kernel_rfl⟩
instance : ElOf Tryd.prog 76 1 8 := elOf_mk (by kernel_rfl) (by decide)
instance : ZeroOf Tryd.prog 76 [.nilFunc] := ⟨.nilFunc, fun _ => by kernel_rfl, by kernel_rfl⟩
instance : IsOne Tryd.prog 77 := ⟨fun _ => by kernel_rfl, fun _ => by kernel_rfl⟩
instance : ElOf Tryd.prog 77 1 8 := elOf_mk (by kernel_rfl) (by decide)
instance : ZeroOf Tryd.prog 77 [.nilFunc] := ⟨.nilFunc, fun _ => by kernel_rfl, by kernel_rfl⟩
instance : IsOne Tryd.prog 78 := ⟨fun _ => by kernel_rfl, fun _ => by kernel_rfl⟩
instance : ElOf Tryd.prog 78 1 8 := elOf_mk (by kernel_rfl) (by decide)
instance : ZeroOf Tryd.prog 78 [.nilFunc] := ⟨.nilFunc, fun _ => by kernel_rfl, by kernel_rfl⟩
instance : IsOne Tryd.prog 79 := ⟨fun _ => by kernel_rfl, fun _ => by kernel_rfl⟩
instance : ElOf Tryd.prog 79 1 8 := elOf_mk (by kernel_rfl) (by decide)
instance : ZeroOf Tryd.prog 79 [.nilFunc] := ⟨.nilFunc, fun _ => by kernel_rfl, by kernel_rfl⟩
instance : IsOne Tryd.prog 80 := ⟨fun _ => by kernel_rfl, fun _ => by kernel_rfl⟩
instance : ElOf Tryd.prog 80 1 8 := elOf_mk (by kernel_rfl) (by decide)
instance : ZeroOf Tryd.prog 80 [.nilFunc] := ⟨.nilFunc, fun _ => by kernel_rfl, by kernel_rfl⟩
instance : IsOne Tryd.prog 81 := ⟨fun _ => by kernel_rfl, fun _ => by kernel_rfl⟩
instance : ElOf Tryd.prog 81 1 8 := elOf_mk (by kernel_rfl) (by decide)
instance : ZeroOf Tryd.prog 81 [.nilFunc] := ⟨.nilFunc, fun _ => by kernel_rfl, by kernel_rfl⟩
instance : IsOne Tryd.prog 82 := ⟨fun _ => by kernel_rfl, fun _ => by kernel_rfl⟩
instance : ElOf Tryd.prog 82 1 8 := elOf_mk (by kernel_rfl) (by decide)
instance : ZeroOf Tryd.prog 82 [.nilFunc] := ⟨.nilFunc, fun _ => by kernel_rfl, by kernel_rfl⟩
instance : IsAgg Tryd.prog 83 24 := ⟨fun _ => by kernel_rfl, fun _ => by kernel_rfl⟩
instance : ElOf Tryd.prog 83 24 24 := elOf_mk (by kernel_rfl) (by decide)
instance : ZeroOf Tryd.prog 83 [(.int .u8 0), (.int .u8 0), (.int .u8 0), (.int .u8 0), (.int .u8 0), (.int .u8 0), (.int .u8 0), (.int .u8 0), (.int .u8 0), (.int .u8 0), (.int .u8 0), (.int .u8 0), (.int .u8 0), (.int .u8 0), (.int .u8 0), (.int .u8 0), (.int .u8 0), (.int .u8 0), (.int .u8 0), (.int .u8 0), (.int .u8 0), (.int .u8 0), (.int .u8 0), (.int .u8 0)] := ⟨(.agg #[(.int .u8 0), (.int .u8 0), (.int .u8 0), (.int .u8 0), (.int .u8 0), (.int .u8 0), (.int .u8 0), (.int .u8 0), (.int .u8 0), (.int .u8 0), (.int .u8 0), (.int .u8 0), (.int .u8 0), (.int .u8 0), (.int .u8 0), (.int .u8 0), (.int .u8 0), (.int .u8 0), (.int .u8 0), (.int .u8 0), (.int .u8 0), (.int .u8 0), (.int .u8 0), (.int .u8 0)]), fun _ => by kernel_rfl, by kernel_rfl⟩
instance : IsOne Tryd.prog 84 := ⟨fun _ => by kernel_rfl, fun _ => by kernel_rfl⟩
instance : IntT Tryd.prog 84 .u64 := ⟨by kernel_rfl⟩
instance : ElOf Tryd.prog 84 1 8 := elOf_mk (by kernel_rfl) (by decide)
instance : ZeroOf Tryd.prog 84 [(.int .u64 0)] := ⟨(.int .u64 0), fun _ => by kernel_rfl, by kernel_rfl⟩
instance : IsOne Tryd.prog 85 := ⟨fun _ => by kernel_rfl, fun _ => by kernel_rfl⟩
instance : ElOf Tryd.prog 85 1 8 := elOf_mk (by kernel_rfl) (by decide)
instance : ZeroOf Tryd.prog 85 [.nilFunc] := ⟨.nilFunc, fun _ => by kernel_rfl, by kernel_rfl⟩
instance : IsOne Tryd.prog 86 := ⟨fun _ => by kernel_rfl, fun _ => by kernel_rfl⟩
instance : ElOf Tryd.prog 86 1 8 := elOf_mk (by kernel_rfl) (by decide)
instance : ZeroOf Tryd.prog 86 [.nilFunc] := ⟨.nilFunc, fun _ => by kernel_rfl, by kernel_rfl⟩
instance : IsOne Tryd.prog 88 := ⟨fun _ => by kernel_rfl, fun _ => by kernel_rfl⟩
instance : ElOf Tryd.prog 88 1 8 := elOf_mk (by kernel_rfl) (by decide)
instance : ZeroOf Tryd.prog 88 [.nilFunc] := ⟨.nilFunc, fun _ => by kernel_rfl, by kernel_rfl⟩
instance : IsAgg Tryd.prog 89 20 := ⟨fun _ => by kernel_rfl, fun _ => by kernel_rfl⟩
instance : ElOf Tryd.prog 89 20 160 := elOf_mk (by kernel_rfl) (by decide)
instance : ZeroOf Tryd.prog 89 [(.int .u64 0), (.int .u64 0), (.int .u64 0), (.int .u64 0), (.int .u64 0), (.int .u64 0), (.int .u64 0), (.int .u64 0), (.int .u64 0), (.int .u64 0), (.int .u64 0), (.int .u64 0), (.int .u64 0), (.int .u64 0), (.int .u64 0), (.int .u64 0), (.int .u64 0), (.int .u64 0), (.int .u64 0), (.int .u64 0)] := ⟨(.agg #[(.int .u64 0), (.int .u64 0), (.int .u64 0), (.int .u64 0), (.int .u64 0), (.int .u64 0), (.int .u64 0), (.int .u64 0), (.int .u64 0), (.int .u64 0), (.int .u64 0), (.int .u64 0), (.int .u64 0), (.int .u64 0), (.int .u64 0), (.int .u64 0), (.int .u64 0), (.int .u64 0), (.int .u64 0), (.int .u64 0)]), fun _ => by kernel_rfl, by kernel_rfl⟩
instance : IsAgg Tryd.prog 90 65 := ⟨fun _ => by kernel_rfl, fun _ => by kernel_rfl⟩
instance : IsOne Tryd.prog 91 := ⟨fun _ => by kernel_rfl, fun _ => by kernel_rfl⟩
instance : IntT Tryd.prog 91 .u64 := ⟨by kernel_rfl⟩
instance : ElOf Tryd.prog 91 1 8 := elOf_mk (by kernel_rfl) (by decide)
instance : ZeroOf Tryd.prog 91 [(.int .u64 0)] := ⟨(.int .u64 0), fun _ => by kernel_rfl, by kernel_rfl⟩
instance : IsOne Tryd.prog 92 := ⟨fun _ => by kernel_rfl, fun _ => by kernel_rfl⟩
instance : ElOf Tryd.prog 92 1 8 := elOf_mk (by kernel_rfl) (by decide)
instance : ZeroOf Tryd.prog 92 [.nilFunc] := ⟨.nilFunc, fun _ => by kernel_rfl, by kernel_rfl⟩
instance : IsOne Tryd.prog 93 := ⟨fun _ => by kernel_rfl, fun _ => by kernel_rfl⟩
instance : ElOf Tryd.prog 93 1 8 := elOf_mk (by kernel_rfl) (by decide)
instance : ZeroOf Tryd.prog 93 [.nilFunc] := ⟨.nilFunc, fun _ => by kernel_rfl, by kernel_rfl⟩
instance : IsAgg Tryd.prog 94 32 := ⟨fun _ => by kernel_rfl, fun _ => by kernel_rfl⟩
instance : ElOf Tryd.prog 94 32 32 := elOf_mk (by kernel_rfl) (by decide)
instance : ZeroOf Tryd.prog 94 [(.int .u8 0), (.int .u8 0), (.int .u8 0), (.int .u8 0), (.int .u8 0), (.int .u8 0), (.int .u8 0), (.int .u8 0), (.int .u8 0), (.int .u8 0), (.int .u8 0), (.int .u8 0), (.int .u8 0), (.int .u8 0), (.int .u8 0), (.int .u8 0), (.int .u8 0), (.int .u8 0), (.int .u8 0), (.int .u8 0), (.int .u8 0), (.int .u8 0), (.int .u8 0), (.int .u8 0), (.int .u8 0), (.int .u8 0), (.int .u8 0), (.int .u8 0), (.int .u8 0), (.int .u8 0), (.int .u8 0), (.int .u8 0)] := ⟨(.agg #[(.int .u8 0), (.int .u8 0), (.int .u8 0), (.int .u8 0), (.int .u8 0), (.int .u8 0), (.int .u8 0), (.int .u8 0), (.int .u8 0), (.int .u8 0), (.int .u8 0), (.int .u8 0), (.int .u8 0), (.int .u8 0), (.int .u8 0), (.int .u8 0), (.int .u8 0), (.int .u8 0), (.int .u8 0), (.int .u8 0), (.int .u8 0), (.int .u8 0), (.int .u8 0), (.int .u8 0), (.int .u8 0), (.int .u8 0), (.int .u8 0), (.int .u8 0), (.int .u8 0), (.int .u8 0), (.int .u8 0), (.int .u8 0)]), fun _ => by kernel_rfl, by kernel_rfl⟩
instance : IsAgg Tryd.prog 95 64 := ⟨fun _ => by kernel_rfl, fun _ => by kernel_rfl⟩
instance : ElOf Tryd.prog 95 64 64 := elOf_mk (by kernel_rfl) (by decide)
instance : ZeroOf Tryd.prog 95 [(.int .u8 0), (.int .u8 0), (.int .u8 0), (.int .u8 0), (.int .u8 0), (.int .u8 0), (.int .u8 0), (.int .u8 0), (.int .u8 0), (.int .u8 0), (.int .u8 0), (.int .u8 0), (.int .u8 0), (.int .u8 0), (.int .u8 0), (.int .u8 0), (.int .u8 0), (.int .u8 0), (.int .u8 0), (.int .u8 0), (.int .u8 0), (.int .u8 0), (.int .u8 0), (.int .u8 0), (.int .u8 0), (.int .u8 0), (.int .u8 0), (.int .u8 0), (.int .u8 0), (.int .u8 0), (.int .u8 0), (.int .u8 0), (.int .u8 0), (.int .u8 0), (.int .u8 0), (.int .u8 0), (.int .u8 0), (.int .u8 0), (.int .u8 0), (.int .u8 0), (.int .u8 0), (.int .u8 0), (.int .u8 0), (.int .u8 0), (.int .u8 0), (.int .u8 0), (.int .u8 0), (.int .u8 0), (.int .u8 0), (.int .u8 0), (.int .u8 0), (.int .u8 0), (.int .u8 0), (.int .u8 0), (.int .u8 0), (.int .u8 0), (.int .u8 0), (.int .u8 0), (.int .u8 0), (.int .u8 0), (.int .u8 0), (.int .u8 0), (.int .u8 0), (.int .u8 0)] := ⟨(.agg #[(.int .u8 0), (.int .u8 0), (.int .u8 0), (.int .u8 0), (.int .u8 0), (.int .u8 0), (.int .u8 0), (.int .u8 0), (.int .u8 0), (.int .u8 0), (.int .u8 0), (.int .u8 0), (.int .u8 0), (.int .u8 0), (.int .u8 0), (.int .u8 0), (.int .u8 0), (.int .u8 0), (.int .u8 0), (.int .u8 0), (.int .u8 0), (.int .u8 0), (.int .u8 0), (.int .u8 0), (.int .u8 0), (.int .u8 0), (.int .u8 0), (.int .u8 0), (.int .u8 0), (.int .u8 0), (.int .u8 0), (.int .u8 0), (.int .u8 0), (.int .u8 0), (.int .u8 0), (.int .u8 0), (.int .u8 0), (.int .u8 0), (.int .u8 0), (.int .u8 0), (.int .u8 0), (.int .u8 0), (.int .u8 0), (.int .u8 0), (.int .u8 0), (.int .u8 0), (.int .u8 0), (.int .u8 0), (.int .u8 0), (.int .u8 0), (.int .u8 0), (.int .u8 0), (.int .u8 0), (.int .u8 0), (.int .u8 0), (.int .u8 0), (.int .u8 0), (.int .u8 0), (.int .u8 0), (.int .u8 0), (.int .u8 0), (.int .u8 0), (.int .u8 0), (.int .u8 0)]), fun _ => by kernel_rfl, by kernel_rfl⟩
instance : IsOne Tryd.prog 96 := ⟨fun _ => by kernel_rfl, fun _ => by kernel_rfl⟩
instance : ElOf Tryd.prog 96 1 8 := elOf_mk (by kernel_rfl) (by decide)
instance : ZeroOf Tryd.prog 96 [.nilFunc] := ⟨.nilFunc, fun _ => by kernel_rfl, by kernel_rfl⟩
instance : IsAgg Tryd.prog 97 4 := ⟨fun _ => by kernel_rfl, fun _ => by kernel_rfl⟩
instance : FldAt Tryd.prog 97 0 0 := ⟨fun _ _ _ => by kernel_rfl⟩
instance : FldAt Tryd.prog 97 1 1 := ⟨fun _ _ _ => by kernel_rfl⟩
instance : FldAt Tryd.prog 97 2 2 := ⟨fun _ _ _ => by kernel_rfl⟩
instance : FldAt Tryd.prog 97 3 3 := ⟨fun _ _ _ => by kernel_rfl⟩
instance : ElOf Tryd.prog 97 4 40 := elOf_mk (by kernel_rfl) (by decide)
instance : ZeroOf Tryd.prog 97 [(.pointer none), (.pointer none), (.pointer none), (.string ⟨#[]⟩)] := ⟨(.agg #[(.pointer none), (.pointer none), (.pointer none), (.string ⟨#[]⟩)]), fun _ => by kernel_rfl, by kernel_rfl⟩
instance : PlacesOf Tryd.prog 97 [(0, 1), (1, 1), (2, 1), (3, 1)] [(.pointer none), (.pointer none), (.pointer none), (.string ⟨#[]⟩)] := placesOf_mk (Tryd.prog.fieldsOf 97) (.agg #[(.pointer none), (.pointer none), (.pointer none), (.string ⟨#[]⟩)]) (fun _ => by kernel_rfl) (by kernel_rfl) (by kernel_rfl) (fun _ => by kernel_rfl)
instance : IsAgg Tryd.prog 98 4 := ⟨fun _ => by kernel_rfl, fun _ => by kernel_rfl⟩
instance : FldAt Tryd.prog 98 0 0 := ⟨fun _ _ _ => by kernel_rfl⟩
instance : FldAt Tryd.prog 98 1 1 := ⟨fun _ _ _ => by kernel_rfl⟩
instance : FldAt Tryd.prog 98 2 2 := ⟨fun _ _ _ => by kernel_rfl⟩
instance : FldAt Tryd.prog 98 3 3 := ⟨fun _ _ _ => by kernel_rfl⟩
instance : ElOf Tryd.prog 98 4 40 := elOf_mk (by kernel_rfl) (by decide)
instance : ZeroOf Tryd.prog 98 [(.pointer none), (.pointer none), (.pointer none), (.string ⟨#[]⟩)] := ⟨(.agg #[(.pointer none), (.pointer none), (.pointer none), (.string ⟨#[]⟩)]), fun _ => by kernel_rfl, by kernel_rfl⟩
instance : PlacesOf Tryd.prog 98 [(0, 1), (1, 1), (2, 1), (3, 1)] [(.pointer none), (.pointer none), (.pointer none), (.string ⟨#[]⟩)] := placesOf_mk (Tryd.prog.fieldsOf 98) (.agg #[(.pointer none), (.pointer none), (.pointer none), (.string ⟨#[]⟩)]) (fun _ => by kernel_rfl) (by kernel_rfl) (by kernel_rfl) (fun _ => by kernel_rfl)
instance : IsOne Tryd.prog 102 := ⟨fun _ => by kernel_rfl, fun _ => by kernel_rfl⟩
instance : ElOf Tryd.prog 102 1 8 := elOf_mk (by kernel_rfl) (by decide)
instance : ZeroOf Tryd.prog 102 [.nilFunc] := ⟨.nilFunc, fun _ => by kernel_rfl, by kernel_rfl⟩
instance : IsOne Tryd.prog 103 := ⟨fun _ => by kernel_rfl, fun _ => by kernel_rfl⟩
instance : IntT Tryd.prog 103 .u8 := ⟨by kernel_rfl⟩
instance : ElOf Tryd.prog 103 1 1 := elOf_mk (by kernel_rfl) (by decide)
instance : ZeroOf Tryd.prog 103 [(.int .u8 0)] := ⟨(.int .u8 0), fun _ => by kernel_rfl, by kernel_rfl⟩
instance : IsOne Tryd.prog 104 := ⟨fun _ => by kernel_rfl, fun _ => by kernel_rfl⟩
instance : IntT Tryd.prog 104 .u8 := ⟨by kernel_rfl⟩
instance : ElOf Tryd.prog 104 1 1 := elOf_mk (by kernel_rfl) (by decide)
instance : ZeroOf Tryd.prog 104 [(.int .u8 0)] := ⟨(.int .u8 0), fun _ => by kernel_rfl, by kernel_rfl⟩
instance : IsOne Tryd.prog 105 := ⟨fun _ => by kernel_rfl, fun _ => by kernel_rfl⟩
instance : ElOf Tryd.prog 105 1 8 := elOf_mk (by kernel_rfl) (by decide)
instance : ZeroOf Tryd.prog 105 [.nilFunc] := ⟨.nilFunc, fun _ => by kernel_rfl, by kernel_rfl⟩
instance : IsOne Tryd.prog 106 := ⟨fun _ => by kernel_rfl, fun _ => by kernel_rfl⟩
instance : ElOf Tryd.prog 106 1 8 := elOf_mk (by kernel_rfl) (by decide)
instance : ZeroOf Tryd.prog 106 [(.pointer none)] := ⟨(.pointer none), fun _ => by kernel_rfl, by kernel_rfl⟩
instance : IsOne Tryd.prog 107 := ⟨fun _ => by kernel_rfl, fun _ => by kernel_rfl⟩
instance : IntT Tryd.prog 107 .i32 := ⟨by kernel_rfl⟩
instance : ElOf Tryd.prog 107 1 4 := elOf_mk (by kernel_rfl) (by decide)
instance : ZeroOf Tryd.prog 107 [(.int .i32 0)] := ⟨(.int .i32 0), fun _ => by kernel_rfl, by kernel_rfl⟩
instance : IsOne Tryd.prog 108 := ⟨fun _ => by kernel_rfl, fun _ => by kernel_rfl⟩
instance : IntT Tryd.prog 108 .i32 := ⟨by kernel_rfl⟩
instance : ElOf Tryd.prog 108 1 4 := elOf_mk (by kernel_rfl) (by decide)
instance : ZeroOf Tryd.prog 108 [(.int .i32 0)] := ⟨(.int .i32 0), fun _ => by kernel_rfl, by kernel_rfl⟩
instance : IsAgg Tryd.prog 109 11 := ⟨fun _ => by kernel_rfl, fun _ => by kernel_rfl⟩
instance : FldAt Tryd.prog 109 0 0 := ⟨fun _ _ _ => by kernel_rfl⟩
instance : FldAt Tryd.prog 109 1 1 := ⟨fun _ _ _ => by kernel_rfl⟩
instance : FldAt Tryd.prog 109 2 2 := ⟨fun _ _ _ => by kernel_rfl⟩
instance : FldAt Tryd.prog 109 3 3 := ⟨fun _ _ _ => by kernel_rfl⟩
instance : FldAt Tryd.prog 109 4 4 := ⟨fun _ _ _ => by kernel_rfl⟩
instance : FldAt Tryd.prog 109 5 5 := ⟨fun _ _ _ => by kernel_rfl⟩
instance : FldAt Tryd.prog 109 6 6 := ⟨fun _ _ _ => by kernel_rfl⟩
instance : FldAt Tryd.prog 109 7 7 := ⟨fun _ _ _ => by kernel_rfl⟩
instance : FldAt Tryd.prog 109 8 8 := ⟨fun _ _ _ => by kernel_rfl⟩
instance : FldAt Tryd.prog 109 9 9 := ⟨fun _ _ _ => by kernel_rfl⟩
instance : FldAt Tryd.prog 109 10 10 := ⟨fun _ _ _ => by kernel_rfl⟩
instance : ElOf Tryd.prog 109 11 48 := elOf_mk (by kernel_rfl) (by decide)
instance : ZeroOf Tryd.prog 109 [(.int .u64 0), (.int .u64 0), (.int .u32 0), (.int .u8 0), (.int .u8 0), (.int .u8 0), (.int .u8 0), .nilFunc, (.pointer none), (.int .i32 0), (.int .i32 0)] := ⟨(.agg #[(.int .u64 0), (.int .u64 0), (.int .u32 0), (.int .u8 0), (.int .u8 0), (.int .u8 0), (.int .u8 0), .nilFunc, (.pointer none), (.int .i32 0), (.int .i32 0)]), fun _ => by kernel_rfl, by kernel_rfl⟩
instance : PlacesOf Tryd.prog 109 [(0, 1), (1, 1), (2, 1), (3, 1), (4, 1), (5, 1), (6, 1), (7, 1), (8, 1), (9, 1), (10, 1)] [(.int .u64 0), (.int .u64 0), (.int .u32 0), (.int .u8 0), (.int .u8 0), (.int .u8 0), (.int .u8 0), .nilFunc, (.pointer none), (.int .i32 0), (.int .i32 0)] := placesOf_mk (Tryd.prog.fieldsOf 109) (.agg #[(.int .u64 0), (.int .u64 0), (.int .u32 0), (.int .u8 0), (.int .u8 0), (.int .u8 0), (.int .u8 0), .nilFunc, (.pointer none), (.int .i32 0), (.int .i32 0)]) (fun _ => by kernel_rfl) (by kernel_rfl) (by kernel_rfl) (fun _ => by kernel_rfl)
instance : IsAgg Tryd.prog 110 11 := ⟨fun _ => by kernel_rfl, fun _ => by kernel_rfl⟩
instance : FldAt Tryd.prog 110 0 0 := ⟨fun _ _ _ => by kernel_rfl⟩
instance : FldAt Tryd.prog 110 1 1 := ⟨fun _ _ _ => by kernel_rfl⟩
instance : FldAt Tryd.prog 110 2 2 := ⟨fun _ _ _ => by kernel_rfl⟩
instance : FldAt Tryd.prog 110 3 3 := ⟨fun _ _ _ => by kernel_rfl⟩
instance : FldAt Tryd.prog 110 4 4 := ⟨fun _ _ _ => by kernel_rfl⟩
instance : FldAt Tryd.prog 110 5 5 := ⟨fun _ _ _ => by kernel_rfl⟩
instance : FldAt Tryd.prog 110 6 6 := ⟨fun _ _ _ => by kernel_rfl⟩
instance : FldAt Tryd.prog 110 7 7 := ⟨fun _ _ _ => by kernel_rfl⟩
instance : FldAt Tryd.prog 110 8 8 := ⟨fun _ _ _ => by kernel_rfl⟩
instance : FldAt Tryd.prog 110 9 9 := ⟨fun _ _ _ => by kernel_rfl⟩
instance : FldAt Tryd.prog 110 10 10 := ⟨fun _ _ _ => by kernel_rfl⟩
instance : ElOf Tryd.prog 110 11 48 := elOf_mk (by kernel_rfl) (by decide)
instance : ZeroOf Tryd.prog 110 [(.int .u64 0), (.int .u64 0), (.int .u32 0), (.int .u8 0), (.int .u8 0), (.int .u8 0), (.int .u8 0), .nilFunc, (.pointer none), (.int .i32 0), (.int .i32 0)] := ⟨(.agg #[(.int .u64 0), (.int .u64 0), (.int .u32 0), (.int .u8 0), (.int .u8 0), (.int .u8 0), (.int .u8 0), .nilFunc, (.pointer none), (.int .i32 0), (.int .i32 0)]), fun _ => by kernel_rfl, by kernel_rfl⟩
instance : PlacesOf Tryd.prog 110 [(0, 1), (1, 1), (2, 1), (3, 1), (4, 1), (5, 1), (6, 1), (7, 1), (8, 1), (9, 1), (10, 1)] [(.int .u64 0), (.int .u64 0), (.int .u32 0), (.int .u8 0), (.int .u8 0), (.int .u8 0), (.int .u8 0), .nilFunc, (.pointer none), (.int .i32 0), (.int .i32 0)] := placesOf_mk (Tryd.prog.fieldsOf 110) (.agg #[(.int .u64 0), (.int .u64 0), (.int .u32 0), (.int .u8 0), (.int .u8 0), (.int .u8 0), (.int .u8 0), .nilFunc, (.pointer none), (.int .i32 0), (.int .i32 0)]) (fun _ => by kernel_rfl) (by kernel_rfl) (by kernel_rfl) (fun _ => by kernel_rfl)
instance : IsOne Tryd.prog 111 := ⟨fun _ => by kernel_rfl, fun _ => by kernel_rfl⟩
instance : ElOf Tryd.prog 111 1 8 := elOf_mk (by kernel_rfl) (by decide)
instance : ZeroOf Tryd.prog 111 [(.pointer none)] := ⟨(.pointer none), fun _ => by kernel_rfl, by kernel_rfl⟩
instance : Mixed Tryd.prog := ⟨by kernel_rfl⟩
instance : Ent Tryd.prog 3 := ⟨enters_of Tryd.func3 (by kernel_rfl) rfl⟩
instance : Ent Tryd.prog 4 := ⟨enters_of Tryd.func4 (by kernel_rfl) rfl⟩
instance : Ent Tryd.prog 5 := ⟨enters_of Tryd.func5 (by kernel_rfl) rfl⟩
instance : Ent Tryd.prog 6 := ⟨enters_of Tryd.func6 (by kernel_rfl) rfl⟩
instance : Ent Tryd.prog 7 := ⟨enters_of Tryd.func7 (by kernel_rfl) rfl⟩
instance : Ent Tryd.prog 8 := ⟨enters_of Tryd.func8 (by kernel_rfl) rfl⟩
instance : Ent Tryd.prog 9 := ⟨enters_of Tryd.func9 (by kernel_rfl) rfl⟩
instance : Ent Tryd.prog 10 := ⟨enters_of Tryd.func10 (by kernel_rfl) rfl⟩
instance : Ent Tryd.prog 11 := ⟨enters_of Tryd.func11 (by kernel_rfl) rfl⟩
instance : Ent Tryd.prog 12 := ⟨enters_of Tryd.func12 (by kernel_rfl) rfl⟩
instance : Ent Tryd.prog 13 := ⟨enters_of Tryd.func13 (by kernel_rfl) rfl⟩
instance : Ent Tryd.prog 14 := ⟨enters_of Tryd.func14 (by kernel_rfl) rfl⟩
instance : Ent Tryd.prog 15 := ⟨enters_of Tryd.func15 (by kernel_rfl) rfl⟩
instance : Ent Tryd.prog 16 := ⟨enters_of Tryd.func16 (by kernel_rfl) rfl⟩
instance : Ent Tryd.prog 17 := ⟨enters_of Tryd.func17 (by kernel_rfl) rfl⟩
instance : Ent Tryd.prog 18 := ⟨enters_of Tryd.func18 (by kernel_rfl) rfl⟩
instance : Ent Tryd.prog 19 := ⟨enters_of Tryd.func19 (by kernel_rfl) rfl⟩
instance : Ent Tryd.prog 20 := ⟨enters_of Tryd.func20 (by kernel_rfl) rfl⟩
instance : Ent Tryd.prog 21 := ⟨enters_of Tryd.func21 (by kernel_rfl) rfl⟩
instance : Ent Tryd.prog 22 := ⟨enters_of Tryd.func22 (by kernel_rfl) rfl⟩
instance : Ent Tryd.prog 23 := ⟨enters_of Tryd.func23 (by kernel_rfl) rfl⟩
instance : Ent Tryd.prog 24 := ⟨enters_of Tryd.func24 (by kernel_rfl) rfl⟩
instance : Ent Tryd.prog 25 := ⟨enters_of Tryd.func25 (by kernel_rfl) rfl⟩
instance : Ent Tryd.prog 26 := ⟨enters_of Tryd.func26 (by kernel_rfl) rfl⟩
instance : Ent Tryd.prog 27 := ⟨enters_of Tryd.func27 (by kernel_rfl) rfl⟩
instance : Ent Tryd.prog 28 := ⟨enters_of Tryd.func28 (by kernel_rfl) rfl⟩
instance : Ent Tryd.prog 29 := ⟨enters_of Tryd.func29 (by kernel_rfl) rfl⟩
instance : Ent Tryd.prog 30 := ⟨enters_of Tryd.func30 (by kernel_rfl) rfl⟩
instance : Ent Tryd.prog 31 := ⟨enters_of Tryd.func31 (by kernel_rfl) rfl⟩
instance : Ent Tryd.prog 32 := ⟨enters_of Tryd.func32 (by kernel_rfl) rfl⟩
instance : Ent Tryd.prog 33 := ⟨enters_of Tryd.func33 (by kernel_rfl) rfl⟩
instance : Ent Tryd.prog 34 := ⟨enters_of Tryd.func34 (by kernel_rfl) rfl⟩
instance : Ent Tryd.prog 35 := ⟨enters_of Tryd.func35 (by kernel_rfl) rfl⟩
instance : Ent Tryd.prog 36 := ⟨enters_of Tryd.func36 (by kernel_rfl) rfl⟩
instance : Ent Tryd.prog 37 := ⟨enters_of Tryd.func37 (by kernel_rfl) rfl⟩
instance : Ent Tryd.prog 38 := ⟨enters_of Tryd.func38 (by kernel_rfl) rfl⟩
instance : Ent Tryd.prog 39 := ⟨enters_of Tryd.func39 (by kernel_rfl) rfl⟩
instance : Ent Tryd.prog 40 := ⟨enters_of Tryd.func40 (by kernel_rfl) rfl⟩
instance : Ent Tryd.prog 41 := ⟨enters_of Tryd.func41 (by kernel_rfl) rfl⟩
instance : Ent Tryd.prog 42 := ⟨enters_of Tryd.func42 (by kernel_rfl) rfl⟩
instance : Ent Tryd.prog 43 := ⟨enters_of Tryd.func43 (by kernel_rfl) rfl⟩
instance : Ent Tryd.prog 44 := ⟨enters_of Tryd.func44 (by kernel_rfl) rfl⟩
instance : Ent Tryd.prog 45 := ⟨enters_of Tryd.func45 (by kernel_rfl) rfl⟩
instance : Ent Tryd.prog 46 := ⟨enters_of Tryd.func46 (by kernel_rfl) rfl⟩
instance : Ent Tryd.prog 69 := ⟨enters_of Tryd.func69 (by kernel_rfl) rfl⟩
end Go.Proofs.YtlklcjpmfjmenaaDoor
namespace Go.Proofs.YtlklcjpmfjmenaaDoor

abbrev Sp := Int × Int
/-- the order of spans: by begin, then by end -/
def ltC (a b : Sp) : Prop := a.1 < b.1 ∨ (a.1 = b.1 ∧ a.2 < b.2)
instance (a b : Sp) : Decidable (ltC a b) := by unfold ltC; exact inferInstance
theorem ltC_sto : STO ltC where
  irr a := by unfold ltC; omega
  trans a b c := by unfold ltC; omega
  tri a b := by
    unfold ltC
    by_cases h : a.1 = b.1 ∧ a.2 = b.2
    · exact .inr (.inl (Prod.ext h.1 h.2))
    · omega
def conS (a b : Sp) : Bool := decide (a.1 ≤ b.1 ∧ b.2 ≤ a.2)
/-- of a list: contains no other one -/
def keepShort (l : List Sp) (s : Sp) : Bool := l.all fun t => !(conS s t) || decide (t = s)
/-- of a list: is in no other one -/
def keepLong (l : List Sp) (s : Sp) : Bool := l.all fun t => !(conS t s) || decide (t = s)
theorem keepShort_iff {l : List Sp} {s : Sp} : keepShort l s = true ↔ ∀ t ∈ l, s.1 ≤ t.1 → t.2 ≤ s.2 → t = s := by
  unfold keepShort conS
  rw [List.all_eq_true]
  refine forall_congr' fun t => forall_congr' fun ht => ?_
  by_cases h : t = s
  · simp [h]
  · simp [h]; omega
theorem keepLong_iff {l : List Sp} {s : Sp} : keepLong l s = true ↔ ∀ t ∈ l, t.1 ≤ s.1 → s.2 ≤ t.2 → t = s := by
  unfold keepLong conS
  rw [List.all_eq_true]
  refine forall_congr' fun t => forall_congr' fun ht => ?_
  by_cases h : t = s
  · simp [h]
  · simp [h]; omega
/-- two places of an ascending list -/
theorem asc_at {l : List Sp} (h : l.Pairwise ltC) {i j : Nat} {s t : Sp} (hs : l[i]? = some s) (ht : l[j]? = some t) (hij : i < j) : ltC s t := by
  obtain ⟨hi, rfl⟩ := List.getElem?_eq_some_iff.1 hs
  obtain ⟨hj, rfl⟩ := List.getElem?_eq_some_iff.1 ht
  exact List.pairwise_iff_getElem.1 h i j hi hj hij
theorem asc_le {l : List Sp} (h : l.Pairwise ltC) {i j : Nat} {s t : Sp} (hs : l[i]? = some s) (ht : l[j]? = some t) (hij : i ≤ j) : s = t ∨ ltC s t := by
  rcases Nat.lt_or_ge i j with h1 | h1
  · exact .inr (asc_at h hs ht h1)
  · have : i = j := by omega
    subst this; rw [hs] at ht; exact .inl (by injection ht)

/-! ### shortest: from the last one on -/
/-- the first one with its begin -/
def isFirst (l : List Sp) (j : Nat) (t : Sp) : Prop := l[j]? = some t ∧ (j = 0 ∨ ∀ u, l[j - 1]? = some u → u.1 ≠ t.1)
/-- of the first ones from place i on, least is the least end (−1: none) -/
def LeastOk (l : List Sp) (i : Nat) (least : Int) : Prop :=
  (least = -1 ∧ ∀ j t, i ≤ j → ¬ isFirst l j t) ∨ (0 < least ∧ (∃ j t, i ≤ j ∧ isFirst l j t ∧ t.2 = least) ∧ ∀ j t, i ≤ j → isFirst l j t → least ≤ t.2)
theorem first_of {l : List Sp} (h : l.Pairwise ltC) : ∀ (j : Nat) (t : Sp), l[j]? = some t → ∃ j' u, j' ≤ j ∧ isFirst l j' u ∧ u.1 = t.1 ∧ u.2 ≤ t.2
  | 0, t, ht => ⟨0, t, Nat.le_refl _, ⟨ht, .inl rfl⟩, rfl, Int.le_refl _⟩
  | j + 1, t, ht => by
    obtain ⟨v, hv⟩ : ∃ v, l[j]? = some v := ⟨_, List.getElem?_eq_getElem (by have := (List.getElem?_eq_some_iff.1 ht).1; omega)⟩
    by_cases e : v.1 = t.1
    · obtain ⟨j', u, h1, h2, h3, h4⟩ := first_of h j v hv
      have h5 := asc_at h hv ht (by omega)
      unfold ltC at h5
      exact ⟨j', u, by omega, h2, by omega, by omega⟩
    · refine ⟨j + 1, t, Nat.le_refl _, ⟨ht, .inr fun u hu => ?_⟩, rfl, Int.le_refl _⟩
      rw [Nat.add_sub_cancel, hv] at hu
      injection hu with hu
      rw [← hu]; exact e
theorem LeastOk.skip {l : List Sp} (h : l.Pairwise ltC) {i : Nat} {s t : Sp} {least : Int} (hs : l[i + 1]? = some s) (ht : l[i]? = some t) (e : t.1 = s.1) (hl : LeastOk l (i + 2) least) : keepShort l s = false ∧ LeastOk l (i + 1) least := by
  constructor
  · rw [Bool.eq_false_iff]
    intro hk
    have h1 := asc_at h ht hs (by omega)
    have := keepShort_iff.1 hk t (List.mem_of_getElem? ht) (by omega) (by unfold ltC at h1; omega)
    rw [this] at h1
    exact ltC_sto.irr s h1
  · have hn : ∀ j u, i + 1 ≤ j → isFirst l j u → i + 2 ≤ j := by
      intro j u hj hf
      by_cases hji : j = i + 1
      · subst hji
        exfalso
        rcases hf.2 with h0 | h0
        · omega
        · have hu : u = s := by have := hf.1; rw [hs] at this; injection this with this; exact this.symm
          subst hu
          exact h0 t ht e
      · omega
    rcases hl with ⟨h1, h2⟩ | ⟨h1, ⟨j, u, h2, h3, h4⟩, h5⟩
    · exact .inl ⟨h1, fun j u hj hf => h2 j u (hn j u hj hf) hf⟩
    · exact .inr ⟨h1, ⟨j, u, by omega, h3, h4⟩, fun j u hj hf => h5 j u (hn j u hj hf) hf⟩
theorem LeastOk.keep {l : List Sp} (h : l.Pairwise ltC) (hv : ∀ s ∈ l, 0 ≤ s.1 ∧ s.1 < s.2) {i : Nat} {s : Sp} {least : Int} (hf : isFirst l i s) (hl : LeastOk l (i + 1) least) (hk : least < 0 ∨ s.2 < least) : keepShort l s = true ∧ LeastOk l i s.2 := by
  have hs := hf.1
  constructor
  · refine keepShort_iff.2 fun t ht h1 h2 => ?_
    obtain ⟨j, hj, rfl⟩ := List.mem_iff_getElem.1 ht
    have hjs : l[j]? = some l[j] := List.getElem?_eq_getElem hj
    generalize l[j] = t at *
    rcases Nat.lt_trichotomy j i with h3 | h3 | h3
    · exfalso
      have h4 := asc_at h hjs hs h3
      unfold ltC at h4
      rcases hf.2 with h5 | h5
      · omega
      · obtain ⟨v, hvv⟩ : ∃ v, l[i - 1]? = some v := ⟨_, List.getElem?_eq_getElem (by have := (List.getElem?_eq_some_iff.1 hs).1; omega)⟩
        have h6 := asc_le h hjs hvv (by omega)
        have h7 := asc_at h hvv hs (by omega)
        have h8 := h5 v hvv
        unfold ltC at h6 h7
        rcases h6 with rfl | h6
        · omega
        · omega
    · subst h3
      rw [hs] at hjs; injection hjs with e; exact e.symm
    · exfalso
      have h4 := asc_at h hs hjs h3
      obtain ⟨j', u, k1, k2, k3, k4⟩ := first_of h j t hjs
      have hij : i + 1 ≤ j' := by
        by_cases hle : j' ≤ i
        · have h5 := asc_le h k2.1 hs hle
          unfold ltC at h4 h5
          rcases h5 with rfl | h5
          · omega
          · omega
        · omega
      rcases hl with ⟨l1, l2⟩ | ⟨l1, _, l3⟩
      · exact l2 j' u hij k2
      · have := l3 j' u hij k2
        omega
  · refine .inr ⟨by have := hv s (List.mem_of_getElem? hs); omega, ⟨i, s, Nat.le_refl _, hf, rfl⟩, fun j t hj ht => ?_⟩
    by_cases hji : j = i
    · subst hji
      have := ht.1; rw [hs] at this; injection this with this; rw [this]; exact Int.le_refl _
    · rcases hl with ⟨l1, l2⟩ | ⟨l1, _, l3⟩
      · exact absurd ht (l2 j t (by omega))
      · have := l3 j t (by omega) ht
        omega
theorem LeastOk.drop {l : List Sp} (h : l.Pairwise ltC) {i : Nat} {s : Sp} {least : Int} (hf : isFirst l i s) (hl : LeastOk l (i + 1) least) (hk : ¬ (least < 0 ∨ s.2 < least)) : keepShort l s = false ∧ LeastOk l i least := by
  rcases hl with ⟨l1, _⟩ | ⟨l1, ⟨j, t, l2, l3, l4⟩, l5⟩
  · omega
  · have h4 := asc_at h hf.1 l3.1 (by omega)
    constructor
    · rw [Bool.eq_false_iff]
      intro hkk
      have := keepShort_iff.1 hkk t (List.mem_of_getElem? l3.1) (by unfold ltC at h4; omega) (by omega)
      rw [this] at h4
      exact ltC_sto.irr s h4
    · refine .inr ⟨l1, ⟨j, t, by omega, l3, l4⟩, fun j' u hj hu => ?_⟩
      by_cases hji : j' = i
      · subst hji
        have := hu.1; rw [hf.1] at this; injection this with this; rw [← this]; omega
      · exact l5 j' u (by omega) hu

/-! ### longest: from the first one on -/
/-- the last one with its begin -/
def isLast (l : List Sp) (j : Nat) (t : Sp) : Prop := l[j]? = some t ∧ ∀ u, l[j + 1]? = some u → u.1 ≠ t.1
def MostOk (l : List Sp) (i : Nat) (most : Int) : Prop :=
  (most = -1 ∧ ∀ j t, j < i → ¬ isLast l j t) ∨ (0 < most ∧ (∃ j t, j < i ∧ isLast l j t ∧ t.2 = most) ∧ ∀ j t, j < i → isLast l j t → t.2 ≤ most)
theorem last_of {l : List Sp} (h : l.Pairwise ltC) : ∀ (n j : Nat) (t : Sp), l.length - j = n → l[j]? = some t → ∃ j' u, j ≤ j' ∧ isLast l j' u ∧ u.1 = t.1 ∧ t.2 ≤ u.2
  | 0, j, t, hn, ht => by have := (List.getElem?_eq_some_iff.1 ht).1; omega
  | n + 1, j, t, hn, ht => by
    cases hv : l[j + 1]? with
    | none => exact ⟨j, t, Nat.le_refl _, ⟨ht, fun u hu => by rw [hv] at hu; cases hu⟩, rfl, Int.le_refl _⟩
    | some v =>
      by_cases e : v.1 = t.1
      · obtain ⟨j', u, h1, h2, h3, h4⟩ := last_of h n (j + 1) v (by omega) hv
        have h5 := asc_at h ht hv (by omega)
        unfold ltC at h5
        exact ⟨j', u, by omega, h2, by omega, by omega⟩
      · exact ⟨j, t, Nat.le_refl _, ⟨ht, fun u hu => by rw [hv] at hu; injection hu with hu; rw [← hu]; exact e⟩, rfl, Int.le_refl _⟩
theorem MostOk.skip {l : List Sp} (h : l.Pairwise ltC) {i : Nat} {s t : Sp} {most : Int} (hs : l[i]? = some s) (ht : l[i + 1]? = some t) (e : t.1 = s.1) (hl : MostOk l i most) : keepLong l s = false ∧ MostOk l (i + 1) most := by
  constructor
  · rw [Bool.eq_false_iff]
    intro hk
    have h1 := asc_at h hs ht (by omega)
    have := keepLong_iff.1 hk t (List.mem_of_getElem? ht) (by omega) (by unfold ltC at h1; omega)
    rw [this] at h1
    exact ltC_sto.irr s h1
  · have hn : ∀ j u, j < i + 1 → isLast l j u → j < i := by
      intro j u hj hf
      by_cases hji : j = i
      · subst hji
        exfalso
        have hu : u = s := by have := hf.1; rw [hs] at this; injection this with this; exact this.symm
        subst hu
        exact hf.2 t ht e
      · omega
    rcases hl with ⟨h1, h2⟩ | ⟨h1, ⟨j, u, h2, h3, h4⟩, h5⟩
    · exact .inl ⟨h1, fun j u hj hf => h2 j u (hn j u hj hf) hf⟩
    · exact .inr ⟨h1, ⟨j, u, by omega, h3, h4⟩, fun j u hj hf => h5 j u (hn j u hj hf) hf⟩
theorem MostOk.keep {l : List Sp} (h : l.Pairwise ltC) (hv : ∀ s ∈ l, 0 ≤ s.1 ∧ s.1 < s.2) {i : Nat} {s : Sp} {most : Int} (hf : isLast l i s) (hl : MostOk l i most) (hk : most < s.2) : keepLong l s = true ∧ MostOk l (i + 1) s.2 := by
  have hs := hf.1
  constructor
  · refine keepLong_iff.2 fun t ht h1 h2 => ?_
    obtain ⟨j, hj, rfl⟩ := List.mem_iff_getElem.1 ht
    have hjs : l[j]? = some l[j] := List.getElem?_eq_getElem hj
    generalize l[j] = t at *
    rcases Nat.lt_trichotomy j i with h3 | h3 | h3
    · exfalso
      have h4 := asc_at h hjs hs h3
      obtain ⟨j', u, k1, k2, k3, k4⟩ := last_of h _ j t rfl hjs
      unfold ltC at h4
      have hij : j' < i := by
        by_cases hle : i ≤ j'
        · have h5 := asc_le h hs k2.1 hle
          unfold ltC at h5
          rcases h5 with rfl | h5
          · omega
          · omega
        · omega
      rcases hl with ⟨l1, l2⟩ | ⟨l1, _, l3⟩
      · exact l2 j' u hij k2
      · have := l3 j' u hij k2
        omega
    · subst h3
      rw [hs] at hjs; injection hjs with e; exact e.symm
    · exfalso
      have h4 := asc_at h hs hjs h3
      unfold ltC at h4
      obtain ⟨v, hvv⟩ : ∃ v, l[i + 1]? = some v := ⟨_, List.getElem?_eq_getElem (by omega)⟩
      have h6 := asc_at h hs hvv (by omega)
      have h7 := asc_le h hvv hjs (by omega)
      have h8 := hf.2 v hvv
      unfold ltC at h6 h7
      rcases h7 with rfl | h7
      · omega
      · omega
  · refine .inr ⟨by have := hv s (List.mem_of_getElem? hs); omega, ⟨i, s, by omega, hf, rfl⟩, fun j t hj ht => ?_⟩
    by_cases hji : j = i
    · subst hji
      have := ht.1; rw [hs] at this; injection this with this; rw [this]; exact Int.le_refl _
    · rcases hl with ⟨l1, l2⟩ | ⟨l1, _, l3⟩
      · exact absurd ht (l2 j t (by omega))
      · have := l3 j t (by omega) ht
        omega
theorem MostOk.drop {l : List Sp} (h : l.Pairwise ltC) (hv : ∀ s ∈ l, 0 ≤ s.1 ∧ s.1 < s.2) {i : Nat} {s : Sp} {most : Int} (hf : isLast l i s) (hl : MostOk l i most) (hk : ¬ most < s.2) : keepLong l s = false ∧ MostOk l (i + 1) most := by
  have hsv := hv s (List.mem_of_getElem? hf.1)
  rcases hl with ⟨l1, _⟩ | ⟨l1, ⟨j, t, l2, l3, l4⟩, l5⟩
  · omega
  · have h4 := asc_at h l3.1 hf.1 l2
    constructor
    · rw [Bool.eq_false_iff]
      intro hkk
      have := keepLong_iff.1 hkk t (List.mem_of_getElem? l3.1) (by unfold ltC at h4; omega) (by omega)
      rw [this] at h4
      exact ltC_sto.irr s h4
    · refine .inr ⟨l1, ⟨j, t, by omega, l3, l4⟩, fun j' u hj hu => ?_⟩
      by_cases hji : j' = i
      · subst hji
        have := hu.1; rw [hf.1] at this; injection this with this; rw [← this]; omega
      · exact l5 j' u (by omega) hu

end Go.Proofs.YtlklcjpmfjmenaaDoor
namespace Go.Proofs.YtlklcjpmfjmenaaDoor

/-- the order of lists of integers: by the first difference; a beginning comes first -/
def cmpL : List Int → List Int → Int
  | [], [] => 0
  | [], _ :: _ => -1
  | _ :: _, [] => 1
  | a :: l, b :: m => if a < b then -1 else if b < a then 1 else cmpL l m
def ltK (a b : List Int) : Prop := cmpL a b < 0
end Go.Proofs.YtlklcjpmfjmenaaDoor
namespace Go.Proofs.YtlklcjpmfjmenaaDoor


instance (a b : List Int) : Decidable (ltK a b) := by unfold ltK; exact inferInstance
end Go.Proofs.YtlklcjpmfjmenaaDoor
namespace Go.Proofs.YtlklcjpmfjmenaaDoor
open Go.RowKit


structure Mt where
  b : Int
  e : Int
  v : Value
  ls : List Int
def spm (m : Mt) : Sp := (m.b, m.e)
def keyM (m : Mt) : List Int := m.b :: m.e :: m.ls
def okS (s : Sp) : Prop := 0 ≤ s.1 ∧ s.1 < s.2
instance (s : Sp) : Decidable (okS s) := by unfold okS; exact inferInstance
def ascM (l : List Mt) : Prop := l.Pairwise fun a b => ltK (keyM a) (keyM b)
instance (l : List Mt) : Decidable (ascM l) := by unfold ascM; exact inferInstance
def goodM (k : Int) (l : List Mt) : Prop := (0 ≤ k ∧ k ≤ 3) ∧ (∀ m ∈ l, okS (spm m)) ∧ ascM l
instance (k : Int) (l : List Mt) : Decidable (goodM k l) := by unfold goodM; exact inferInstance
end Go.Proofs.YtlklcjpmfjmenaaDoor
namespace Go.Proofs.YtlklcjpmfjmenaaDoor
open Go.RowKit


end Go.Proofs.YtlklcjpmfjmenaaDoor
