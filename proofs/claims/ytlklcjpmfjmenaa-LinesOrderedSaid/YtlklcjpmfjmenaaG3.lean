/- Facts on the types and functions of the program, by program.
   Plain: spans in order, and what the strategies keep of them.
   Plain: matches, their order, and the matches of chosen spans.
   Plain: insertion into an ascending list from behind.
   Plain: matches and what a strategy keeps of them.
   Plain: what the laws about strategies say of lists. -/
import Derived.Test.YtlklcjpmfjmenaaProg
import Derived.Test.YtlklcjpmfjmenaaG2
namespace Go.Proofs.Ytlklcjpmfjmenaa

instance : IsOne Try.prog 1 := ⟨fun _ => by kernel_rfl, fun _ => by kernel_rfl⟩
instance : ElOf Try.prog 1 1 8 := elOf_mk (by kernel_rfl) (by decide)
instance : ZeroOf Try.prog 1 [.nilFunc] := ⟨.nilFunc, fun _ => by kernel_rfl, by kernel_rfl⟩
instance : IsOne Try.prog 2 := ⟨fun _ => by kernel_rfl, fun _ => by kernel_rfl⟩
instance : IntT Try.prog 2 .i64 := ⟨by kernel_rfl⟩
instance : ElOf Try.prog 2 1 8 := elOf_mk (by kernel_rfl) (by decide)
instance : ZeroOf Try.prog 2 [(.int .i64 0)] := ⟨(.int .i64 0), fun _ => by kernel_rfl, by kernel_rfl⟩
instance : IsOne Try.prog 3 := ⟨fun _ => by kernel_rfl, fun _ => by kernel_rfl⟩
instance : IntT Try.prog 3 .i64 := ⟨by kernel_rfl⟩
instance : ElOf Try.prog 3 1 8 := elOf_mk (by kernel_rfl) (by decide)
instance : ZeroOf Try.prog 3 [(.int .i64 0)] := ⟨(.int .i64 0), fun _ => by kernel_rfl, by kernel_rfl⟩
instance : IsOne Try.prog 4 := ⟨fun _ => by kernel_rfl, fun _ => by kernel_rfl⟩
instance : BoolT Try.prog 4 := ⟨by kernel_rfl⟩
instance : ElOf Try.prog 4 1 1 := elOf_mk (by kernel_rfl) (by decide)
instance : ZeroOf Try.prog 4 [(.bool false)] := ⟨(.bool false), fun _ => by kernel_rfl, by kernel_rfl⟩
instance : IsOne Try.prog 5 := ⟨fun _ => by kernel_rfl, fun _ => by kernel_rfl⟩
instance : IntT Try.prog 5 .u8 := ⟨by kernel_rfl⟩
instance : ElOf Try.prog 5 1 1 := elOf_mk (by kernel_rfl) (by decide)
instance : ZeroOf Try.prog 5 [(.int .u8 0)] := ⟨(.int .u8 0), fun _ => by kernel_rfl, by kernel_rfl⟩
instance : IsOne Try.prog 6 := ⟨fun _ => by kernel_rfl, fun _ => by kernel_rfl⟩
instance : IntT Try.prog 6 .u8 := ⟨by kernel_rfl⟩
instance : ElOf Try.prog 6 1 1 := elOf_mk (by kernel_rfl) (by decide)
instance : ZeroOf Try.prog 6 [(.int .u8 0)] := ⟨(.int .u8 0), fun _ => by kernel_rfl, by kernel_rfl⟩
instance : IsAgg Try.prog 7 4 := ⟨fun _ => by kernel_rfl, fun _ => by kernel_rfl⟩
instance : FldAt Try.prog 7 0 0 := ⟨fun _ _ _ => by kernel_rfl⟩
instance : FldAt Try.prog 7 1 1 := ⟨fun _ _ _ => by kernel_rfl⟩
instance : FldAt Try.prog 7 2 2 := ⟨fun _ _ _ => by kernel_rfl⟩
instance : FldAt Try.prog 7 3 3 := ⟨fun _ _ _ => by kernel_rfl⟩
instance : ElOf Try.prog 7 4 24 := elOf_mk (by kernel_rfl) (by decide)
instance : ZeroOf Try.prog 7 [(.int .i64 0), (.int .i64 0), (.bool false), (.int .u8 0)] := ⟨(.agg #[(.int .i64 0), (.int .i64 0), (.bool false), (.int .u8 0)]), fun _ => by kernel_rfl, by kernel_rfl⟩
instance : PlacesOf Try.prog 7 [(0, 1), (1, 1), (2, 1), (3, 1)] [(.int .i64 0), (.int .i64 0), (.bool false), (.int .u8 0)] := placesOf_mk (Try.prog.fieldsOf 7) (.agg #[(.int .i64 0), (.int .i64 0), (.bool false), (.int .u8 0)]) (fun _ => by kernel_rfl) (by kernel_rfl) (by kernel_rfl) (fun _ => by kernel_rfl)
instance : IsAgg Try.prog 8 4 := ⟨fun _ => by kernel_rfl, fun _ => by kernel_rfl⟩
instance : FldAt Try.prog 8 0 0 := ⟨fun _ _ _ => by kernel_rfl⟩
instance : FldAt Try.prog 8 1 1 := ⟨fun _ _ _ => by kernel_rfl⟩
instance : FldAt Try.prog 8 2 2 := ⟨fun _ _ _ => by kernel_rfl⟩
instance : FldAt Try.prog 8 3 3 := ⟨fun _ _ _ => by kernel_rfl⟩
instance : ElOf Try.prog 8 4 24 := elOf_mk (by kernel_rfl) (by decide)
instance : ZeroOf Try.prog 8 [(.int .i64 0), (.int .i64 0), (.bool false), (.int .u8 0)] := ⟨(.agg #[(.int .i64 0), (.int .i64 0), (.bool false), (.int .u8 0)]), fun _ => by kernel_rfl, by kernel_rfl⟩
instance : PlacesOf Try.prog 8 [(0, 1), (1, 1), (2, 1), (3, 1)] [(.int .i64 0), (.int .i64 0), (.bool false), (.int .u8 0)] := placesOf_mk (Try.prog.fieldsOf 8) (.agg #[(.int .i64 0), (.int .i64 0), (.bool false), (.int .u8 0)]) (fun _ => by kernel_rfl) (by kernel_rfl) (by kernel_rfl) (fun _ => by kernel_rfl)
instance : IsOne Try.prog 9 := ⟨fun _ => by kernel_rfl, fun _ => by kernel_rfl⟩
instance : NotInt Try.prog 9 := ⟨.inl (by kernel_rfl)⟩
instance : StrT Try.prog 9 := ⟨by kernel_rfl⟩
instance : ElOf Try.prog 9 1 16 := elOf_mk (by kernel_rfl) (by decide)
instance : ZeroOf Try.prog 9 [(.string ⟨#[]⟩)] := ⟨(.string ⟨#[]⟩), fun _ => by kernel_rfl, by kernel_rfl⟩
instance : IsOne Try.prog 10 := ⟨fun _ => by kernel_rfl, fun _ => by kernel_rfl⟩
instance : NotInt Try.prog 10 := ⟨.inl (by kernel_rfl)⟩
instance : StrT Try.prog 10 := ⟨by kernel_rfl⟩
instance : ElOf Try.prog 10 1 16 := elOf_mk (by kernel_rfl) (by decide)
instance : ZeroOf Try.prog 10 [(.string ⟨#[]⟩)] := ⟨(.string ⟨#[]⟩), fun _ => by kernel_rfl, by kernel_rfl⟩
instance : IsOne Try.prog 11 := ⟨fun _ => by kernel_rfl, fun _ => by kernel_rfl⟩
instance : NotInt Try.prog 11 := ⟨.inl (by kernel_rfl)⟩
instance : StrT Try.prog 11 := ⟨by kernel_rfl⟩
instance : ElOf Try.prog 11 1 16 := elOf_mk (by kernel_rfl) (by decide)
instance : ZeroOf Try.prog 11 [(.string ⟨#[]⟩)] := ⟨(.string ⟨#[]⟩), fun _ => by kernel_rfl, by kernel_rfl⟩
instance : IsOne Try.prog 12 := ⟨fun _ => by kernel_rfl, fun _ => by kernel_rfl⟩
instance : IntT Try.prog 12 .u64 := ⟨by kernel_rfl⟩
instance : ElOf Try.prog 12 1 8 := elOf_mk (by kernel_rfl) (by decide)
instance : ZeroOf Try.prog 12 [(.int .u64 0)] := ⟨(.int .u64 0), fun _ => by kernel_rfl, by kernel_rfl⟩
instance : IsAgg Try.prog 13 2 := ⟨fun _ => by kernel_rfl, fun _ => by kernel_rfl⟩
instance : FldAt Try.prog 13 0 0 := ⟨fun _ _ _ => by kernel_rfl⟩
instance : FldAt Try.prog 13 1 1 := ⟨fun _ _ _ => by kernel_rfl⟩
instance : ElOf Try.prog 13 2 24 := elOf_mk (by kernel_rfl) (by decide)
instance : ZeroOf Try.prog 13 [(.string ⟨#[]⟩), (.int .u64 0)] := ⟨(.agg #[(.string ⟨#[]⟩), (.int .u64 0)]), fun _ => by kernel_rfl, by kernel_rfl⟩
instance : PlacesOf Try.prog 13 [(0, 1), (1, 1)] [(.string ⟨#[]⟩), (.int .u64 0)] := placesOf_mk (Try.prog.fieldsOf 13) (.agg #[(.string ⟨#[]⟩), (.int .u64 0)]) (fun _ => by kernel_rfl) (by kernel_rfl) (by kernel_rfl) (fun _ => by kernel_rfl)
instance : IsAgg Try.prog 14 2 := ⟨fun _ => by kernel_rfl, fun _ => by kernel_rfl⟩
instance : FldAt Try.prog 14 0 0 := ⟨fun _ _ _ => by kernel_rfl⟩
instance : FldAt Try.prog 14 1 1 := ⟨fun _ _ _ => by kernel_rfl⟩
instance : ElOf Try.prog 14 2 24 := elOf_mk (by kernel_rfl) (by decide)
instance : ZeroOf Try.prog 14 [(.string ⟨#[]⟩), (.int .u64 0)] := ⟨(.agg #[(.string ⟨#[]⟩), (.int .u64 0)]), fun _ => by kernel_rfl, by kernel_rfl⟩
instance : PlacesOf Try.prog 14 [(0, 1), (1, 1)] [(.string ⟨#[]⟩), (.int .u64 0)] := placesOf_mk (Try.prog.fieldsOf 14) (.agg #[(.string ⟨#[]⟩), (.int .u64 0)]) (fun _ => by kernel_rfl) (by kernel_rfl) (by kernel_rfl) (fun _ => by kernel_rfl)
instance : IsOne Try.prog 15 := ⟨fun _ => by kernel_rfl, fun _ => by kernel_rfl⟩
instance : ElOf Try.prog 15 1 8 := elOf_mk (by kernel_rfl) (by decide)
instance : ZeroOf Try.prog 15 [(.pointer none)] := ⟨(.pointer none), fun _ => by kernel_rfl, by kernel_rfl⟩
instance : IsOne Try.prog 16 := ⟨fun _ => by kernel_rfl, fun _ => by kernel_rfl⟩
instance : ElOf Try.prog 16 1 8 := elOf_mk (by kernel_rfl) (by decide)
instance : ZeroOf Try.prog 16 [(.pointer none)] := ⟨(.pointer none), fun _ => by kernel_rfl, by kernel_rfl⟩
instance : IsOne Try.prog 17 := ⟨fun _ => by kernel_rfl, fun _ => by kernel_rfl⟩
instance : ElOf Try.prog 17 1 8 := elOf_mk (by kernel_rfl) (by decide)
instance : ZeroOf Try.prog 17 [(.pointer none)] := ⟨(.pointer none), fun _ => by kernel_rfl, by kernel_rfl⟩
instance : IsAgg Try.prog 18 1 := ⟨fun _ => by kernel_rfl, fun _ => by kernel_rfl⟩
instance : FldAt Try.prog 18 0 0 := ⟨fun _ _ _ => by kernel_rfl⟩
instance : ElOf Try.prog 18 1 8 := elOf_mk (by kernel_rfl) (by decide)
instance : ZeroOf Try.prog 18 [(.pointer none)] := ⟨(.agg #[(.pointer none)]), fun _ => by kernel_rfl, by kernel_rfl⟩
instance : PlacesOf Try.prog 18 [(0, 1)] [(.pointer none)] := placesOf_mk (Try.prog.fieldsOf 18) (.agg #[(.pointer none)]) (fun _ => by kernel_rfl) (by kernel_rfl) (by kernel_rfl) (fun _ => by kernel_rfl)
instance : IsAgg Try.prog 19 1 := ⟨fun _ => by kernel_rfl, fun _ => by kernel_rfl⟩
instance : FldAt Try.prog 19 0 0 := ⟨fun _ _ _ => by kernel_rfl⟩
instance : ElOf Try.prog 19 1 8 := elOf_mk (by kernel_rfl) (by decide)
instance : ZeroOf Try.prog 19 [(.pointer none)] := ⟨(.agg #[(.pointer none)]), fun _ => by kernel_rfl, by kernel_rfl⟩
instance : PlacesOf Try.prog 19 [(0, 1)] [(.pointer none)] := placesOf_mk (Try.prog.fieldsOf 19) (.agg #[(.pointer none)]) (fun _ => by kernel_rfl) (by kernel_rfl) (by kernel_rfl) (fun _ => by kernel_rfl)
instance : IsOne Try.prog 20 := ⟨fun _ => by kernel_rfl, fun _ => by kernel_rfl⟩
instance : ElOf Try.prog 20 1 16 := elOf_mk (by kernel_rfl) (by decide)
instance : ZeroOf Try.prog 20 [.nilIface] := ⟨.nilIface, fun _ => by kernel_rfl, by kernel_rfl⟩
instance : IsOne Try.prog 21 := ⟨fun _ => by kernel_rfl, fun _ => by kernel_rfl⟩
instance : IntT Try.prog 21 .i32 := ⟨by kernel_rfl⟩
instance : ElOf Try.prog 21 1 4 := elOf_mk (by kernel_rfl) (by decide)
instance : ZeroOf Try.prog 21 [(.int .i32 0)] := ⟨(.int .i32 0), fun _ => by kernel_rfl, by kernel_rfl⟩
instance : IsOne Try.prog 22 := ⟨fun _ => by kernel_rfl, fun _ => by kernel_rfl⟩
instance : NotInt Try.prog 22 := ⟨.inr ⟨3, by kernel_rfl⟩⟩
instance : SlOf Try.prog 22 3 1 := ⟨by kernel_rfl, fun _ => by kernel_rfl⟩
instance : ElOf Try.prog 22 1 24 := elOf_mk (by kernel_rfl) (by decide)
instance : ZeroOf Try.prog 22 [(.slice none 0 0)] := ⟨(.slice none 0 0), fun _ => by kernel_rfl, by kernel_rfl⟩
instance : IsOne Try.prog 23 := ⟨fun _ => by kernel_rfl, fun _ => by kernel_rfl⟩
instance : ElOf Try.prog 23 1 8 := elOf_mk (by kernel_rfl) (by decide)
instance : ZeroOf Try.prog 23 [(.pointer none)] := ⟨(.pointer none), fun _ => by kernel_rfl, by kernel_rfl⟩
instance : IsOne Try.prog 24 := ⟨fun _ => by kernel_rfl, fun _ => by kernel_rfl⟩
instance : ElOf Try.prog 24 1 8 := elOf_mk (by kernel_rfl) (by decide)
instance : ZeroOf Try.prog 24 [.nilFunc] := ⟨.nilFunc, fun _ => by kernel_rfl, by kernel_rfl⟩
instance : IsOne Try.prog 25 := ⟨fun _ => by kernel_rfl, fun _ => by kernel_rfl⟩
instance : NotInt Try.prog 25 := ⟨.inr ⟨87, by kernel_rfl⟩⟩
instance : SlOf Try.prog 25 87 2 := ⟨by kernel_rfl, fun _ => by kernel_rfl⟩
instance : ElOf Try.prog 25 1 24 := elOf_mk (by kernel_rfl) (by decide)
instance : ZeroOf Try.prog 25 [(.slice none 0 0)] := ⟨(.slice none 0 0), fun _ => by kernel_rfl, by kernel_rfl⟩
instance : IsOne Try.prog 26 := ⟨fun _ => by kernel_rfl, fun _ => by kernel_rfl⟩
instance : NotInt Try.prog 26 := ⟨.inr ⟨30, by kernel_rfl⟩⟩
instance : SlOf Try.prog 26 30 1 := ⟨by kernel_rfl, fun _ => by kernel_rfl⟩
instance : ElOf Try.prog 26 1 24 := elOf_mk (by kernel_rfl) (by decide)
instance : ZeroOf Try.prog 26 [(.slice none 0 0)] := ⟨(.slice none 0 0), fun _ => by kernel_rfl, by kernel_rfl⟩
instance : IsOne Try.prog 27 := ⟨fun _ => by kernel_rfl, fun _ => by kernel_rfl⟩
instance : NotInt Try.prog 27 := ⟨.inr ⟨69, by kernel_rfl⟩⟩
instance : SlOf Try.prog 27 69 4 := ⟨by kernel_rfl, fun _ => by kernel_rfl⟩
instance : ElOf Try.prog 27 1 24 := elOf_mk (by kernel_rfl) (by decide)
instance : ZeroOf Try.prog 27 [(.slice none 0 0)] := ⟨(.slice none 0 0), fun _ => by kernel_rfl, by kernel_rfl⟩
instance : IsOne Try.prog 28 := ⟨fun _ => by kernel_rfl, fun _ => by kernel_rfl⟩
instance : NotInt Try.prog 28 := ⟨.inr ⟨80, by kernel_rfl⟩⟩
instance : SlOf Try.prog 28 80 4 := ⟨by kernel_rfl, fun _ => by kernel_rfl⟩
instance : ElOf Try.prog 28 1 24 := elOf_mk (by kernel_rfl) (by decide)
instance : ZeroOf Try.prog 28 [(.slice none 0 0)] := ⟨(.slice none 0 0), fun _ => by kernel_rfl, by kernel_rfl⟩
instance : IsOne Try.prog 29 := ⟨fun _ => by kernel_rfl, fun _ => by kernel_rfl⟩
instance : NotInt Try.prog 29 := ⟨.inr ⟨108, by kernel_rfl⟩⟩
instance : SlOf Try.prog 29 108 4 := ⟨by kernel_rfl, fun _ => by kernel_rfl⟩
instance : ElOf Try.prog 29 1 24 := elOf_mk (by kernel_rfl) (by decide)
instance : ZeroOf Try.prog 29 [(.slice none 0 0)] := ⟨(.slice none 0 0), fun _ => by kernel_rfl, by kernel_rfl⟩
instance : IsOne Try.prog 30 := ⟨fun _ => by kernel_rfl, fun _ => by kernel_rfl⟩
instance : NotInt Try.prog 30 := ⟨.inr ⟨9, by kernel_rfl⟩⟩
instance : SlOf Try.prog 30 9 1 := ⟨by kernel_rfl, fun _ => by kernel_rfl⟩
instance : ElOf Try.prog 30 1 24 := elOf_mk (by kernel_rfl) (by decide)
instance : ZeroOf Try.prog 30 [(.slice none 0 0)] := ⟨(.slice none 0 0), fun _ => by kernel_rfl, by kernel_rfl⟩
instance : IsAgg Try.prog 31 7 := ⟨fun _ => by kernel_rfl, fun _ => by kernel_rfl⟩
instance : FldAt Try.prog 31 0 0 := ⟨fun _ _ _ => by kernel_rfl⟩
instance : FldAt Try.prog 31 1 1 := ⟨fun _ _ _ => by kernel_rfl⟩
instance : FldAt Try.prog 31 2 2 := ⟨fun _ _ _ => by kernel_rfl⟩
instance : FldAt Try.prog 31 3 3 := ⟨fun _ _ _ => by kernel_rfl⟩
instance : FldAt Try.prog 31 4 4 := ⟨fun _ _ _ => by kernel_rfl⟩
instance : FldAt Try.prog 31 5 5 := ⟨fun _ _ _ => by kernel_rfl⟩
instance : FldAt Try.prog 31 6 6 := ⟨fun _ _ _ => by kernel_rfl⟩
instance : ElOf Try.prog 31 7 168 := elOf_mk (by kernel_rfl) (by decide)
instance : ZeroOf Try.prog 31 [(.slice none 0 0), (.slice none 0 0), (.slice none 0 0), (.slice none 0 0), (.slice none 0 0), (.slice none 0 0), (.slice none 0 0)] := ⟨(.agg #[(.slice none 0 0), (.slice none 0 0), (.slice none 0 0), (.slice none 0 0), (.slice none 0 0), (.slice none 0 0), (.slice none 0 0)]), fun _ => by kernel_rfl, by kernel_rfl⟩
instance : PlacesOf Try.prog 31 [(0, 1), (1, 1), (2, 1), (3, 1), (4, 1), (5, 1), (6, 1)] [(.slice none 0 0), (.slice none 0 0), (.slice none 0 0), (.slice none 0 0), (.slice none 0 0), (.slice none 0 0), (.slice none 0 0)] := placesOf_mk (Try.prog.fieldsOf 31) (.agg #[(.slice none 0 0), (.slice none 0 0), (.slice none 0 0), (.slice none 0 0), (.slice none 0 0), (.slice none 0 0), (.slice none 0 0)]) (fun _ => by kernel_rfl) (by kernel_rfl) (by kernel_rfl) (fun _ => by kernel_rfl)
instance : IsAgg Try.prog 32 7 := ⟨fun _ => by kernel_rfl, fun _ => by kernel_rfl⟩
instance : FldAt Try.prog 32 0 0 := ⟨fun _ _ _ => by kernel_rfl⟩
instance : FldAt Try.prog 32 1 1 := ⟨fun _ _ _ => by kernel_rfl⟩
instance : FldAt Try.prog 32 2 2 := ⟨fun _ _ _ => by kernel_rfl⟩
instance : FldAt Try.prog 32 3 3 := ⟨fun _ _ _ => by kernel_rfl⟩
instance : FldAt Try.prog 32 4 4 := ⟨fun _ _ _ => by kernel_rfl⟩
instance : FldAt Try.prog 32 5 5 := ⟨fun _ _ _ => by kernel_rfl⟩
instance : FldAt Try.prog 32 6 6 := ⟨fun _ _ _ => by kernel_rfl⟩
instance : ElOf Try.prog 32 7 168 := elOf_mk (by kernel_rfl) (by decide)
instance : ZeroOf Try.prog 32 [(.slice none 0 0), (.slice none 0 0), (.slice none 0 0), (.slice none 0 0), (.slice none 0 0), (.slice none 0 0), (.slice none 0 0)] := ⟨(.agg #[(.slice none 0 0), (.slice none 0 0), (.slice none 0 0), (.slice none 0 0), (.slice none 0 0), (.slice none 0 0), (.slice none 0 0)]), fun _ => by kernel_rfl, by kernel_rfl⟩
instance : PlacesOf Try.prog 32 [(0, 1), (1, 1), (2, 1), (3, 1), (4, 1), (5, 1), (6, 1)] [(.slice none 0 0), (.slice none 0 0), (.slice none 0 0), (.slice none 0 0), (.slice none 0 0), (.slice none 0 0), (.slice none 0 0)] := placesOf_mk (Try.prog.fieldsOf 32) (.agg #[(.slice none 0 0), (.slice none 0 0), (.slice none 0 0), (.slice none 0 0), (.slice none 0 0), (.slice none 0 0), (.slice none 0 0)]) (fun _ => by kernel_rfl) (by kernel_rfl) (by kernel_rfl) (fun _ => by kernel_rfl)
instance : IsOne Try.prog 33 := ⟨fun _ => by kernel_rfl, fun _ => by kernel_rfl⟩
instance : ElOf Try.prog 33 1 8 := elOf_mk (by kernel_rfl) (by decide)
instance : ZeroOf Try.prog 33 [.nilFunc] := ⟨.nilFunc, fun _ => by kernel_rfl, by kernel_rfl⟩
instance : IsAgg Try.prog 34 7 := ⟨fun _ => by kernel_rfl, fun _ => by kernel_rfl⟩
instance : FldAt Try.prog 34 0 0 := ⟨fun _ _ _ => by kernel_rfl⟩
instance : FldAt Try.prog 34 1 1 := ⟨fun _ _ _ => by kernel_rfl⟩
instance : FldAt Try.prog 34 2 2 := ⟨fun _ _ _ => by kernel_rfl⟩
instance : FldAt Try.prog 34 3 3 := ⟨fun _ _ _ => by kernel_rfl⟩
instance : FldAt Try.prog 34 4 4 := ⟨fun _ _ _ => by kernel_rfl⟩
instance : FldAt Try.prog 34 5 5 := ⟨fun _ _ _ => by kernel_rfl⟩
instance : FldAt Try.prog 34 6 6 := ⟨fun _ _ _ => by kernel_rfl⟩
instance : ElOf Try.prog 34 7 56 := elOf_mk (by kernel_rfl) (by decide)
instance : ZeroOf Try.prog 34 [(.int .i64 0), (.int .i64 0), (.string ⟨#[]⟩), (.string ⟨#[]⟩), (.bool false), (.bool false), (.bool false)] := ⟨(.agg #[(.int .i64 0), (.int .i64 0), (.string ⟨#[]⟩), (.string ⟨#[]⟩), (.bool false), (.bool false), (.bool false)]), fun _ => by kernel_rfl, by kernel_rfl⟩
instance : PlacesOf Try.prog 34 [(0, 1), (1, 1), (2, 1), (3, 1), (4, 1), (5, 1), (6, 1)] [(.int .i64 0), (.int .i64 0), (.string ⟨#[]⟩), (.string ⟨#[]⟩), (.bool false), (.bool false), (.bool false)] := placesOf_mk (Try.prog.fieldsOf 34) (.agg #[(.int .i64 0), (.int .i64 0), (.string ⟨#[]⟩), (.string ⟨#[]⟩), (.bool false), (.bool false), (.bool false)]) (fun _ => by kernel_rfl) (by kernel_rfl) (by kernel_rfl) (fun _ => by kernel_rfl)
instance : IsAgg Try.prog 35 7 := ⟨fun _ => by kernel_rfl, fun _ => by kernel_rfl⟩
instance : FldAt Try.prog 35 0 0 := ⟨fun _ _ _ => by kernel_rfl⟩
instance : FldAt Try.prog 35 1 1 := ⟨fun _ _ _ => by kernel_rfl⟩
instance : FldAt Try.prog 35 2 2 := ⟨fun _ _ _ => by kernel_rfl⟩
instance : FldAt Try.prog 35 3 3 := ⟨fun _ _ _ => by kernel_rfl⟩
instance : FldAt Try.prog 35 4 4 := ⟨fun _ _ _ => by kernel_rfl⟩
instance : FldAt Try.prog 35 5 5 := ⟨fun _ _ _ => by kernel_rfl⟩
instance : FldAt Try.prog 35 6 6 := ⟨fun _ _ _ => by kernel_rfl⟩
set_option maxRecDepth 100000 in
instance : FlatEq Try.prog 35 [.int .i64, .int .i64, .str, .str, .bool, .bool, .bool] := ⟨by kernel_rfl, .cons (by kernel_rfl) (of_decide_eq_true (by kernel_rfl)) (fun _ => by kernel_rfl) (by kernel_rfl) (.cons (by kernel_rfl) (of_decide_eq_true (by kernel_rfl)) (fun _ => by kernel_rfl) (by kernel_rfl) (.cons (by kernel_rfl) (of_decide_eq_true (by kernel_rfl)) (fun _ => by kernel_rfl) (by kernel_rfl) (.cons (by kernel_rfl) (of_decide_eq_true (by kernel_rfl)) (fun _ => by kernel_rfl) (by kernel_rfl) (.cons (by kernel_rfl) (of_decide_eq_true (by kernel_rfl)) (fun _ => by kernel_rfl) (by kernel_rfl) (.cons (by kernel_rfl) (of_decide_eq_true (by kernel_rfl)) (fun _ => by kernel_rfl) (by kernel_rfl) (.cons (by kernel_rfl) (of_decide_eq_true (by kernel_rfl)) (fun _ => by kernel_rfl) (by kernel_rfl) (.nil))))))), by kernel_rfl, by kernel_rfl⟩
instance : ElOf Try.prog 35 7 56 := elOf_mk (by kernel_rfl) (by decide)
instance : ZeroOf Try.prog 35 [(.int .i64 0), (.int .i64 0), (.string ⟨#[]⟩), (.string ⟨#[]⟩), (.bool false), (.bool false), (.bool false)] := ⟨(.agg #[(.int .i64 0), (.int .i64 0), (.string ⟨#[]⟩), (.string ⟨#[]⟩), (.bool false), (.bool false), (.bool false)]), fun _ => by kernel_rfl, by kernel_rfl⟩
instance : PlacesOf Try.prog 35 [(0, 1), (1, 1), (2, 1), (3, 1), (4, 1), (5, 1), (6, 1)] [(.int .i64 0), (.int .i64 0), (.string ⟨#[]⟩), (.string ⟨#[]⟩), (.bool false), (.bool false), (.bool false)] := placesOf_mk (Try.prog.fieldsOf 35) (.agg #[(.int .i64 0), (.int .i64 0), (.string ⟨#[]⟩), (.string ⟨#[]⟩), (.bool false), (.bool false), (.bool false)]) (fun _ => by kernel_rfl) (by kernel_rfl) (by kernel_rfl) (fun _ => by kernel_rfl)
instance : IsOne Try.prog 36 := ⟨fun _ => by kernel_rfl, fun _ => by kernel_rfl⟩
instance : ElOf Try.prog 36 1 8 := elOf_mk (by kernel_rfl) (by decide)
instance : ZeroOf Try.prog 36 [.nilFunc] := ⟨.nilFunc, fun _ => by kernel_rfl, by kernel_rfl⟩
instance : IsOne Try.prog 37 := ⟨fun _ => by kernel_rfl, fun _ => by kernel_rfl⟩
instance : ElOf Try.prog 37 1 8 := elOf_mk (by kernel_rfl) (by decide)
instance : ZeroOf Try.prog 37 [.nilFunc] := ⟨.nilFunc, fun _ => by kernel_rfl, by kernel_rfl⟩
instance : IsOne Try.prog 38 := ⟨fun _ => by kernel_rfl, fun _ => by kernel_rfl⟩
instance : ElOf Try.prog 38 1 8 := elOf_mk (by kernel_rfl) (by decide)
instance : ZeroOf Try.prog 38 [.nilFunc] := ⟨.nilFunc, fun _ => by kernel_rfl, by kernel_rfl⟩
instance : IsOne Try.prog 39 := ⟨fun _ => by kernel_rfl, fun _ => by kernel_rfl⟩
instance : ElOf Try.prog 39 1 8 := elOf_mk (by kernel_rfl) (by decide)
instance : ZeroOf Try.prog 39 [.nilFunc] := ⟨.nilFunc, fun _ => by kernel_rfl, by kernel_rfl⟩
instance : IsOne Try.prog 40 := ⟨fun _ => by kernel_rfl, fun _ => by kernel_rfl⟩
instance : NotInt Try.prog 40 := ⟨.inr ⟨43, by kernel_rfl⟩⟩
instance : SlOf Try.prog 40 43 3 := ⟨by kernel_rfl, fun _ => by kernel_rfl⟩
instance : ElOf Try.prog 40 1 24 := elOf_mk (by kernel_rfl) (by decide)
instance : ZeroOf Try.prog 40 [(.slice none 0 0)] := ⟨(.slice none 0 0), fun _ => by kernel_rfl, by kernel_rfl⟩
instance : IsOne Try.prog 41 := ⟨fun _ => by kernel_rfl, fun _ => by kernel_rfl⟩
instance : ElOf Try.prog 41 1 8 := elOf_mk (by kernel_rfl) (by decide)
instance : ZeroOf Try.prog 41 [.nilFunc] := ⟨.nilFunc, fun _ => by kernel_rfl, by kernel_rfl⟩
instance : IsAgg Try.prog 42 3 := ⟨fun _ => by kernel_rfl, fun _ => by kernel_rfl⟩
instance : FldAt Try.prog 42 0 0 := ⟨fun _ _ _ => by kernel_rfl⟩
instance : FldAt Try.prog 42 1 1 := ⟨fun _ _ _ => by kernel_rfl⟩
instance : FldAt Try.prog 42 2 2 := ⟨fun _ _ _ => by kernel_rfl⟩
instance : ElOf Try.prog 42 3 40 := elOf_mk (by kernel_rfl) (by decide)
instance : ZeroOf Try.prog 42 [(.int .i64 0), (.int .i64 0), (.slice none 0 0)] := ⟨(.agg #[(.int .i64 0), (.int .i64 0), (.slice none 0 0)]), fun _ => by kernel_rfl, by kernel_rfl⟩
instance : PlacesOf Try.prog 42 [(0, 1), (1, 1), (2, 1)] [(.int .i64 0), (.int .i64 0), (.slice none 0 0)] := placesOf_mk (Try.prog.fieldsOf 42) (.agg #[(.int .i64 0), (.int .i64 0), (.slice none 0 0)]) (fun _ => by kernel_rfl) (by kernel_rfl) (by kernel_rfl) (fun _ => by kernel_rfl)
instance : IsAgg Try.prog 43 3 := ⟨fun _ => by kernel_rfl, fun _ => by kernel_rfl⟩
instance : FldAt Try.prog 43 0 0 := ⟨fun _ _ _ => by kernel_rfl⟩
instance : FldAt Try.prog 43 1 1 := ⟨fun _ _ _ => by kernel_rfl⟩
instance : FldAt Try.prog 43 2 2 := ⟨fun _ _ _ => by kernel_rfl⟩
instance : ElOf Try.prog 43 3 40 := elOf_mk (by kernel_rfl) (by decide)
instance : ZeroOf Try.prog 43 [(.int .i64 0), (.int .i64 0), (.slice none 0 0)] := ⟨(.agg #[(.int .i64 0), (.int .i64 0), (.slice none 0 0)]), fun _ => by kernel_rfl, by kernel_rfl⟩
instance : PlacesOf Try.prog 43 [(0, 1), (1, 1), (2, 1)] [(.int .i64 0), (.int .i64 0), (.slice none 0 0)] := placesOf_mk (Try.prog.fieldsOf 43) (.agg #[(.int .i64 0), (.int .i64 0), (.slice none 0 0)]) (fun _ => by kernel_rfl) (by kernel_rfl) (by kernel_rfl) (fun _ => by kernel_rfl)
instance : IsAgg Try.prog 44 5 := ⟨fun _ => by kernel_rfl, fun _ => by kernel_rfl⟩
instance : FldAt Try.prog 44 0 0 := ⟨fun _ _ _ => by kernel_rfl⟩
instance : FldAt Try.prog 44 1 1 := ⟨fun _ _ _ => by kernel_rfl⟩
instance : FldAt Try.prog 44 2 2 := ⟨fun _ _ _ => by kernel_rfl⟩
instance : FldAt Try.prog 44 3 3 := ⟨fun _ _ _ => by kernel_rfl⟩
instance : FldAt Try.prog 44 4 4 := ⟨fun _ _ _ => by kernel_rfl⟩
instance : ElOf Try.prog 44 5 96 := elOf_mk (by kernel_rfl) (by decide)
instance : ZeroOf Try.prog 44 [(.string ⟨#[]⟩), (.int .i64 0), (.slice none 0 0), (.slice none 0 0), (.slice none 0 0)] := ⟨(.agg #[(.string ⟨#[]⟩), (.int .i64 0), (.slice none 0 0), (.slice none 0 0), (.slice none 0 0)]), fun _ => by kernel_rfl, by kernel_rfl⟩
instance : PlacesOf Try.prog 44 [(0, 1), (1, 1), (2, 1), (3, 1), (4, 1)] [(.string ⟨#[]⟩), (.int .i64 0), (.slice none 0 0), (.slice none 0 0), (.slice none 0 0)] := placesOf_mk (Try.prog.fieldsOf 44) (.agg #[(.string ⟨#[]⟩), (.int .i64 0), (.slice none 0 0), (.slice none 0 0), (.slice none 0 0)]) (fun _ => by kernel_rfl) (by kernel_rfl) (by kernel_rfl) (fun _ => by kernel_rfl)
instance : IsAgg Try.prog 45 5 := ⟨fun _ => by kernel_rfl, fun _ => by kernel_rfl⟩
instance : FldAt Try.prog 45 0 0 := ⟨fun _ _ _ => by kernel_rfl⟩
instance : FldAt Try.prog 45 1 1 := ⟨fun _ _ _ => by kernel_rfl⟩
instance : FldAt Try.prog 45 2 2 := ⟨fun _ _ _ => by kernel_rfl⟩
instance : FldAt Try.prog 45 3 3 := ⟨fun _ _ _ => by kernel_rfl⟩
instance : FldAt Try.prog 45 4 4 := ⟨fun _ _ _ => by kernel_rfl⟩
instance : ElOf Try.prog 45 5 96 := elOf_mk (by kernel_rfl) (by decide)
instance : ZeroOf Try.prog 45 [(.string ⟨#[]⟩), (.int .i64 0), (.slice none 0 0), (.slice none 0 0), (.slice none 0 0)] := ⟨(.agg #[(.string ⟨#[]⟩), (.int .i64 0), (.slice none 0 0), (.slice none 0 0), (.slice none 0 0)]), fun _ => by kernel_rfl, by kernel_rfl⟩
instance : PlacesOf Try.prog 45 [(0, 1), (1, 1), (2, 1), (3, 1), (4, 1)] [(.string ⟨#[]⟩), (.int .i64 0), (.slice none 0 0), (.slice none 0 0), (.slice none 0 0)] := placesOf_mk (Try.prog.fieldsOf 45) (.agg #[(.string ⟨#[]⟩), (.int .i64 0), (.slice none 0 0), (.slice none 0 0), (.slice none 0 0)]) (fun _ => by kernel_rfl) (by kernel_rfl) (by kernel_rfl) (fun _ => by kernel_rfl)
instance : IsOne Try.prog 46 := ⟨fun _ => by kernel_rfl, fun _ => by kernel_rfl⟩
instance : IntT Try.prog 46 .i64 := ⟨by kernel_rfl⟩
instance : ElOf Try.prog 46 1 8 := elOf_mk (by kernel_rfl) (by decide)
instance : ZeroOf Try.prog 46 [(.int .i64 0)] := ⟨(.int .i64 0), fun _ => by kernel_rfl, by kernel_rfl⟩
instance : IsOne Try.prog 48 := ⟨fun _ => by kernel_rfl, fun _ => by kernel_rfl⟩
instance : ElOf Try.prog 48 1 8 := elOf_mk (by kernel_rfl) (by decide)
instance : ZeroOf Try.prog 48 [.nilFunc] := ⟨.nilFunc, fun _ => by kernel_rfl, by kernel_rfl⟩
instance : IsOne Try.prog 49 := ⟨fun _ => by kernel_rfl, fun _ => by kernel_rfl⟩
instance : ElOf Try.prog 49 1 8 := elOf_mk (by kernel_rfl) (by decide)
instance : ZeroOf Try.prog 49 [.nilFunc] := ⟨.nilFunc, fun _ => by kernel_rfl, by kernel_rfl⟩
instance : IsOne Try.prog 50 := ⟨fun _ => by kernel_rfl, fun _ => by kernel_rfl⟩
instance : ElOf Try.prog 50 1 8 := elOf_mk (by kernel_rfl) (by decide)
instance : ZeroOf Try.prog 50 [.nilFunc] := ⟨.nilFunc, fun _ => by kernel_rfl, by kernel_rfl⟩
instance : IsOne Try.prog 51 := ⟨fun _ => by kernel_rfl, fun _ => by kernel_rfl⟩
instance : ElOf Try.prog 51 1 8 := elOf_mk (by kernel_rfl) (by decide)
instance : ZeroOf Try.prog 51 [.nilFunc] := ⟨.nilFunc, fun _ => by kernel_rfl, by kernel_rfl⟩
instance : IsOne Try.prog 52 := ⟨fun _ => by kernel_rfl, fun _ => by kernel_rfl⟩
instance : ElOf Try.prog 52 1 8 := elOf_mk (by kernel_rfl) (by decide)
instance : ZeroOf Try.prog 52 [.nilFunc] := ⟨.nilFunc, fun _ => by kernel_rfl, by kernel_rfl⟩
instance : IsOne Try.prog 53 := ⟨fun _ => by kernel_rfl, fun _ => by kernel_rfl⟩
instance : ElOf Try.prog 53 1 8 := elOf_mk (by kernel_rfl) (by decide)
instance : ZeroOf Try.prog 53 [.nilFunc] := ⟨.nilFunc, fun _ => by kernel_rfl, by kernel_rfl⟩
instance : IsOne Try.prog 54 := ⟨fun _ => by kernel_rfl, fun _ => by kernel_rfl⟩
instance : ElOf Try.prog 54 1 8 := elOf_mk (by kernel_rfl) (by decide)
instance : ZeroOf Try.prog 54 [.nilFunc] := ⟨.nilFunc, fun _ => by kernel_rfl, by kernel_rfl⟩
instance : IsOne Try.prog 55 := ⟨fun _ => by kernel_rfl, fun _ => by kernel_rfl⟩
instance : NotInt Try.prog 55 := ⟨.inr ⟨35, by kernel_rfl⟩⟩
instance : SlOf Try.prog 55 35 7 := ⟨by kernel_rfl, fun _ => by kernel_rfl⟩
instance : ElOf Try.prog 55 1 24 := elOf_mk (by kernel_rfl) (by decide)
instance : ZeroOf Try.prog 55 [(.slice none 0 0)] := ⟨(.slice none 0 0), fun _ => by kernel_rfl, by kernel_rfl⟩
instance : IsOne Try.prog 57 := ⟨fun _ => by kernel_rfl, fun _ => by kernel_rfl⟩
instance : ElOf Try.prog 57 1 8 := elOf_mk (by kernel_rfl) (by decide)
instance : ZeroOf Try.prog 57 [.nilFunc] := ⟨.nilFunc, fun _ => by kernel_rfl, by kernel_rfl⟩
instance : IsOne Try.prog 58 := ⟨fun _ => by kernel_rfl, fun _ => by kernel_rfl⟩
instance : ElOf Try.prog 58 1 8 := elOf_mk (by kernel_rfl) (by decide)
instance : ZeroOf Try.prog 58 [.nilFunc] := ⟨.nilFunc, fun _ => by kernel_rfl, by kernel_rfl⟩
instance : IsOne Try.prog 59 := ⟨fun _ => by kernel_rfl, fun _ => by kernel_rfl⟩
instance : ElOf Try.prog 59 1 8 := elOf_mk (by kernel_rfl) (by decide)
instance : ZeroOf Try.prog 59 [.nilFunc] := ⟨.nilFunc, fun _ => by kernel_rfl, by kernel_rfl⟩
instance : IsOne Try.prog 60 := ⟨fun _ => by kernel_rfl, fun _ => by kernel_rfl⟩
instance : ElOf Try.prog 60 1 8 := elOf_mk (by kernel_rfl) (by decide)
instance : ZeroOf Try.prog 60 [.nilFunc] := ⟨.nilFunc, fun _ => by kernel_rfl, by kernel_rfl⟩
instance : IsOne Try.prog 61 := ⟨fun _ => by kernel_rfl, fun _ => by kernel_rfl⟩
instance : ElOf Try.prog 61 1 8 := elOf_mk (by kernel_rfl) (by decide)
instance : ZeroOf Try.prog 61 [.nilFunc] := ⟨.nilFunc, fun _ => by kernel_rfl, by kernel_rfl⟩
instance : IsAgg Try.prog 62 2 := ⟨fun _ => by kernel_rfl, fun _ => by kernel_rfl⟩
instance : FldAt Try.prog 62 0 0 := ⟨fun _ _ _ => by kernel_rfl⟩
instance : FldAt Try.prog 62 1 1 := ⟨fun _ _ _ => by kernel_rfl⟩
instance : ElOf Try.prog 62 2 32 := elOf_mk (by kernel_rfl) (by decide)
instance : ZeroOf Try.prog 62 [(.slice none 0 0), (.int .i64 0)] := ⟨(.agg #[(.slice none 0 0), (.int .i64 0)]), fun _ => by kernel_rfl, by kernel_rfl⟩
instance : PlacesOf Try.prog 62 [(0, 1), (1, 1)] [(.slice none 0 0), (.int .i64 0)] := placesOf_mk (Try.prog.fieldsOf 62) (.agg #[(.slice none 0 0), (.int .i64 0)]) (fun _ => by kernel_rfl) (by kernel_rfl) (by kernel_rfl) (fun _ => by kernel_rfl)
instance : IsAgg Try.prog 63 2 := ⟨fun _ => by kernel_rfl, fun _ => by kernel_rfl⟩
instance : FldAt Try.prog 63 0 0 := ⟨fun _ _ _ => by kernel_rfl⟩
instance : FldAt Try.prog 63 1 1 := ⟨fun _ _ _ => by kernel_rfl⟩
instance : ElOf Try.prog 63 2 32 := elOf_mk (by kernel_rfl) (by decide)
instance : ZeroOf Try.prog 63 [(.slice none 0 0), (.int .i64 0)] := ⟨(.agg #[(.slice none 0 0), (.int .i64 0)]), fun _ => by kernel_rfl, by kernel_rfl⟩
instance : PlacesOf Try.prog 63 [(0, 1), (1, 1)] [(.slice none 0 0), (.int .i64 0)] := placesOf_mk (Try.prog.fieldsOf 63) (.agg #[(.slice none 0 0), (.int .i64 0)]) (fun _ => by kernel_rfl) (by kernel_rfl) (by kernel_rfl) (fun _ => by kernel_rfl)
instance : IsOne Try.prog 64 := ⟨fun _ => by kernel_rfl, fun _ => by kernel_rfl⟩
instance : ElOf Try.prog 64 1 8 := elOf_mk (by kernel_rfl) (by decide)
instance : ZeroOf Try.prog 64 [.nilFunc] := ⟨.nilFunc, fun _ => by kernel_rfl, by kernel_rfl⟩
instance : IsOne Try.prog 66 := ⟨fun _ => by kernel_rfl, fun _ => by kernel_rfl⟩
instance : ElOf Try.prog 66 1 8 := elOf_mk (by kernel_rfl) (by decide)
instance : ZeroOf Try.prog 66 [.nilFunc] := ⟨.nilFunc, fun _ => by kernel_rfl, by kernel_rfl⟩
instance : IsOne Try.prog 67 := ⟨fun _ => by kernel_rfl, fun _ => by kernel_rfl⟩
instance : NotInt Try.prog 67 := ⟨.inr ⟨100, by kernel_rfl⟩⟩
instance : SlOf Try.prog 67 100 2 := ⟨by kernel_rfl, fun _ => by kernel_rfl⟩
instance : ElOf Try.prog 67 1 24 := elOf_mk (by kernel_rfl) (by decide)
instance : ZeroOf Try.prog 67 [(.slice none 0 0)] := ⟨(.slice none 0 0), fun _ => by kernel_rfl, by kernel_rfl⟩
instance : IsAgg Try.prog 68 4 := ⟨fun _ => by kernel_rfl, fun _ => by kernel_rfl⟩
instance : FldAt Try.prog 68 0 0 := ⟨fun _ _ _ => by kernel_rfl⟩
instance : FldAt Try.prog 68 1 1 := ⟨fun _ _ _ => by kernel_rfl⟩
instance : FldAt Try.prog 68 2 2 := ⟨fun _ _ _ => by kernel_rfl⟩
instance : FldAt Try.prog 68 3 3 := ⟨fun _ _ _ => by kernel_rfl⟩
instance : ElOf Try.prog 68 4 56 := elOf_mk (by kernel_rfl) (by decide)
instance : ZeroOf Try.prog 68 [(.string ⟨#[]⟩), (.int .i64 0), (.int .i64 0), (.slice none 0 0)] := ⟨(.agg #[(.string ⟨#[]⟩), (.int .i64 0), (.int .i64 0), (.slice none 0 0)]), fun _ => by kernel_rfl, by kernel_rfl⟩
instance : PlacesOf Try.prog 68 [(0, 1), (1, 1), (2, 1), (3, 1)] [(.string ⟨#[]⟩), (.int .i64 0), (.int .i64 0), (.slice none 0 0)] := placesOf_mk (Try.prog.fieldsOf 68) (.agg #[(.string ⟨#[]⟩), (.int .i64 0), (.int .i64 0), (.slice none 0 0)]) (fun _ => by kernel_rfl) (by kernel_rfl) (by kernel_rfl) (fun _ => by kernel_rfl)
instance : IsAgg Try.prog 69 4 := ⟨fun _ => by kernel_rfl, fun _ => by kernel_rfl⟩
instance : FldAt Try.prog 69 0 0 := ⟨fun _ _ _ => by kernel_rfl⟩
instance : FldAt Try.prog 69 1 1 := ⟨fun _ _ _ => by kernel_rfl⟩
instance : FldAt Try.prog 69 2 2 := ⟨fun _ _ _ => by kernel_rfl⟩
instance : FldAt Try.prog 69 3 3 := ⟨fun _ _ _ => by kernel_rfl⟩
instance : ElOf Try.prog 69 4 56 := elOf_mk (by kernel_rfl) (by decide)
instance : ZeroOf Try.prog 69 [(.string ⟨#[]⟩), (.int .i64 0), (.int .i64 0), (.slice none 0 0)] := ⟨(.agg #[(.string ⟨#[]⟩), (.int .i64 0), (.int .i64 0), (.slice none 0 0)]), fun _ => by kernel_rfl, by kernel_rfl⟩
instance : PlacesOf Try.prog 69 [(0, 1), (1, 1), (2, 1), (3, 1)] [(.string ⟨#[]⟩), (.int .i64 0), (.int .i64 0), (.slice none 0 0)] := placesOf_mk (Try.prog.fieldsOf 69) (.agg #[(.string ⟨#[]⟩), (.int .i64 0), (.int .i64 0), (.slice none 0 0)]) (fun _ => by kernel_rfl) (by kernel_rfl) (by kernel_rfl) (fun _ => by kernel_rfl)
instance : IsOne Try.prog 71 := ⟨fun _ => by kernel_rfl, fun _ => by kernel_rfl⟩
instance : ElOf Try.prog 71 1 8 := elOf_mk (by kernel_rfl) (by decide)
instance : ZeroOf Try.prog 71 [.nilFunc] := ⟨.nilFunc, fun _ => by kernel_rfl, by kernel_rfl⟩
instance : IsOne Try.prog 72 := ⟨fun _ => by kernel_rfl, fun _ => by kernel_rfl⟩
instance : ElOf Try.prog 72 1 8 := elOf_mk (by kernel_rfl) (by decide)
instance : ZeroOf Try.prog 72 [.nilFunc] := ⟨.nilFunc, fun _ => by kernel_rfl, by kernel_rfl⟩
instance : IsOne Try.prog 73 := ⟨fun _ => by kernel_rfl, fun _ => by kernel_rfl⟩
instance : ElOf Try.prog 73 1 8 := elOf_mk (by kernel_rfl) (by decide)
instance : ZeroOf Try.prog 73 [.nilFunc] := ⟨.nilFunc, fun _ => by kernel_rfl, by kernel_rfl⟩
instance : IsOne Try.prog 74 := ⟨fun _ => by kernel_rfl, fun _ => by kernel_rfl⟩
instance : ElOf Try.prog 74 1 8 := elOf_mk (by kernel_rfl) (by decide)
instance : ZeroOf Try.prog 74 [.nilFunc] := ⟨.nilFunc, fun _ => by kernel_rfl, by kernel_rfl⟩
instance : IsOne Try.prog 75 := ⟨fun _ => by kernel_rfl, fun _ => by kernel_rfl⟩
instance : ElOf Try.prog 75 1 8 := elOf_mk (by kernel_rfl) (by decide)
instance : ZeroOf Try.prog 75 [.nilFunc] := ⟨.nilFunc, fun _ => by kernel_rfl, by kernel_rfl⟩
instance : IsOne Try.prog 76 := ⟨fun _ => by kernel_rfl, fun _ => by kernel_rfl⟩
instance : ElOf Try.prog 76 1 8 := elOf_mk (by kernel_rfl) (by decide)
instance : ZeroOf Try.prog 76 [.nilFunc] := ⟨.nilFunc, fun _ => by kernel_rfl, by kernel_rfl⟩
instance : IsAgg Try.prog 77 2 := ⟨fun _ => by kernel_rfl, fun _ => by kernel_rfl⟩
instance : FldAt Try.prog 77 0 0 := ⟨fun _ _ _ => by kernel_rfl⟩
instance : FldAt Try.prog 77 1 1 := ⟨fun _ _ _ => by kernel_rfl⟩
instance : ElOf Try.prog 77 2 16 := elOf_mk (by kernel_rfl) (by decide)
instance : ZeroOf Try.prog 77 [(.int .i64 0), (.int .i64 0)] := ⟨(.agg #[(.int .i64 0), (.int .i64 0)]), fun _ => by kernel_rfl, by kernel_rfl⟩
instance : PlacesOf Try.prog 77 [(0, 1), (1, 1)] [(.int .i64 0), (.int .i64 0)] := placesOf_mk (Try.prog.fieldsOf 77) (.agg #[(.int .i64 0), (.int .i64 0)]) (fun _ => by kernel_rfl) (by kernel_rfl) (by kernel_rfl) (fun _ => by kernel_rfl)
instance : IsAgg Try.prog 78 2 := ⟨fun _ => by kernel_rfl, fun _ => by kernel_rfl⟩
instance : FldAt Try.prog 78 0 0 := ⟨fun _ _ _ => by kernel_rfl⟩
instance : FldAt Try.prog 78 1 1 := ⟨fun _ _ _ => by kernel_rfl⟩
set_option maxRecDepth 100000 in
instance : FlatEq Try.prog 78 [.int .i64, .int .i64] := ⟨by kernel_rfl, .cons (by kernel_rfl) (of_decide_eq_true (by kernel_rfl)) (fun _ => by kernel_rfl) (by kernel_rfl) (.cons (by kernel_rfl) (of_decide_eq_true (by kernel_rfl)) (fun _ => by kernel_rfl) (by kernel_rfl) (.nil)), by kernel_rfl, by kernel_rfl⟩
instance : ElOf Try.prog 78 2 16 := elOf_mk (by kernel_rfl) (by decide)
instance : ZeroOf Try.prog 78 [(.int .i64 0), (.int .i64 0)] := ⟨(.agg #[(.int .i64 0), (.int .i64 0)]), fun _ => by kernel_rfl, by kernel_rfl⟩
instance : PlacesOf Try.prog 78 [(0, 1), (1, 1)] [(.int .i64 0), (.int .i64 0)] := placesOf_mk (Try.prog.fieldsOf 78) (.agg #[(.int .i64 0), (.int .i64 0)]) (fun _ => by kernel_rfl) (by kernel_rfl) (by kernel_rfl) (fun _ => by kernel_rfl)
instance : IsAgg Try.prog 79 4 := ⟨fun _ => by kernel_rfl, fun _ => by kernel_rfl⟩
instance : FldAt Try.prog 79 0 0 := ⟨fun _ _ _ => by kernel_rfl⟩
instance : FldAt Try.prog 79 1 1 := ⟨fun _ _ _ => by kernel_rfl⟩
instance : FldAt Try.prog 79 2 2 := ⟨fun _ _ _ => by kernel_rfl⟩
instance : FldAt Try.prog 79 3 3 := ⟨fun _ _ _ => by kernel_rfl⟩
instance : ElOf Try.prog 79 4 56 := elOf_mk (by kernel_rfl) (by decide)
instance : ZeroOf Try.prog 79 [(.string ⟨#[]⟩), (.int .i64 0), (.int .i64 0), (.slice none 0 0)] := ⟨(.agg #[(.string ⟨#[]⟩), (.int .i64 0), (.int .i64 0), (.slice none 0 0)]), fun _ => by kernel_rfl, by kernel_rfl⟩
instance : PlacesOf Try.prog 79 [(0, 1), (1, 1), (2, 1), (3, 1)] [(.string ⟨#[]⟩), (.int .i64 0), (.int .i64 0), (.slice none 0 0)] := placesOf_mk (Try.prog.fieldsOf 79) (.agg #[(.string ⟨#[]⟩), (.int .i64 0), (.int .i64 0), (.slice none 0 0)]) (fun _ => by kernel_rfl) (by kernel_rfl) (by kernel_rfl) (fun _ => by kernel_rfl)
instance : IsAgg Try.prog 80 4 := ⟨fun _ => by kernel_rfl, fun _ => by kernel_rfl⟩
instance : FldAt Try.prog 80 0 0 := ⟨fun _ _ _ => by kernel_rfl⟩
instance : FldAt Try.prog 80 1 1 := ⟨fun _ _ _ => by kernel_rfl⟩
instance : FldAt Try.prog 80 2 2 := ⟨fun _ _ _ => by kernel_rfl⟩
instance : FldAt Try.prog 80 3 3 := ⟨fun _ _ _ => by kernel_rfl⟩
instance : ElOf Try.prog 80 4 56 := elOf_mk (by kernel_rfl) (by decide)
instance : ZeroOf Try.prog 80 [(.string ⟨#[]⟩), (.int .i64 0), (.int .i64 0), (.slice none 0 0)] := ⟨(.agg #[(.string ⟨#[]⟩), (.int .i64 0), (.int .i64 0), (.slice none 0 0)]), fun _ => by kernel_rfl, by kernel_rfl⟩
instance : PlacesOf Try.prog 80 [(0, 1), (1, 1), (2, 1), (3, 1)] [(.string ⟨#[]⟩), (.int .i64 0), (.int .i64 0), (.slice none 0 0)] := placesOf_mk (Try.prog.fieldsOf 80) (.agg #[(.string ⟨#[]⟩), (.int .i64 0), (.int .i64 0), (.slice none 0 0)]) (fun _ => by kernel_rfl) (by kernel_rfl) (by kernel_rfl) (fun _ => by kernel_rfl)
instance : IsOne Try.prog 81 := ⟨fun _ => by kernel_rfl, fun _ => by kernel_rfl⟩
instance : ElOf Try.prog 81 1 8 := elOf_mk (by kernel_rfl) (by decide)
instance : ZeroOf Try.prog 81 [.nilFunc] := ⟨.nilFunc, fun _ => by kernel_rfl, by kernel_rfl⟩
instance : IsOne Try.prog 82 := ⟨fun _ => by kernel_rfl, fun _ => by kernel_rfl⟩
instance : ElOf Try.prog 82 1 8 := elOf_mk (by kernel_rfl) (by decide)
instance : ZeroOf Try.prog 82 [.nilFunc] := ⟨.nilFunc, fun _ => by kernel_rfl, by kernel_rfl⟩
instance : IsOne Try.prog 83 := ⟨fun _ => by kernel_rfl, fun _ => by kernel_rfl⟩
instance : ElOf Try.prog 83 1 8 := elOf_mk (by kernel_rfl) (by decide)
instance : ZeroOf Try.prog 83 [.nilFunc] := ⟨.nilFunc, fun _ => by kernel_rfl, by kernel_rfl⟩
instance : IsOne Try.prog 84 := ⟨fun _ => by kernel_rfl, fun _ => by kernel_rfl⟩
instance : ElOf Try.prog 84 1 8 := elOf_mk (by kernel_rfl) (by decide)
instance : ZeroOf Try.prog 84 [.nilFunc] := ⟨.nilFunc, fun _ => by kernel_rfl, by kernel_rfl⟩
instance : IsOne Try.prog 85 := ⟨fun _ => by kernel_rfl, fun _ => by kernel_rfl⟩
instance : ElOf Try.prog 85 1 8 := elOf_mk (by kernel_rfl) (by decide)
instance : ZeroOf Try.prog 85 [.nilFunc] := ⟨.nilFunc, fun _ => by kernel_rfl, by kernel_rfl⟩
instance : IsAgg Try.prog 86 2 := ⟨fun _ => by kernel_rfl, fun _ => by kernel_rfl⟩
instance : FldAt Try.prog 86 0 0 := ⟨fun _ _ _ => by kernel_rfl⟩
instance : FldAt Try.prog 86 1 1 := ⟨fun _ _ _ => by kernel_rfl⟩
instance : ElOf Try.prog 86 2 24 := elOf_mk (by kernel_rfl) (by decide)
instance : ZeroOf Try.prog 86 [(.string ⟨#[]⟩), (.bool false)] := ⟨(.agg #[(.string ⟨#[]⟩), (.bool false)]), fun _ => by kernel_rfl, by kernel_rfl⟩
instance : PlacesOf Try.prog 86 [(0, 1), (1, 1)] [(.string ⟨#[]⟩), (.bool false)] := placesOf_mk (Try.prog.fieldsOf 86) (.agg #[(.string ⟨#[]⟩), (.bool false)]) (fun _ => by kernel_rfl) (by kernel_rfl) (by kernel_rfl) (fun _ => by kernel_rfl)
instance : IsAgg Try.prog 87 2 := ⟨fun _ => by kernel_rfl, fun _ => by kernel_rfl⟩
instance : FldAt Try.prog 87 0 0 := ⟨fun _ _ _ => by kernel_rfl⟩
instance : FldAt Try.prog 87 1 1 := ⟨fun _ _ _ => by kernel_rfl⟩
set_option maxRecDepth 100000 in
instance : FlatEq Try.prog 87 [.str, .bool] := ⟨by kernel_rfl, .cons (by kernel_rfl) (of_decide_eq_true (by kernel_rfl)) (fun _ => by kernel_rfl) (by kernel_rfl) (.cons (by kernel_rfl) (of_decide_eq_true (by kernel_rfl)) (fun _ => by kernel_rfl) (by kernel_rfl) (.nil)), by kernel_rfl, by kernel_rfl⟩
instance : ElOf Try.prog 87 2 24 := elOf_mk (by kernel_rfl) (by decide)
instance : ZeroOf Try.prog 87 [(.string ⟨#[]⟩), (.bool false)] := ⟨(.agg #[(.string ⟨#[]⟩), (.bool false)]), fun _ => by kernel_rfl, by kernel_rfl⟩
instance : PlacesOf Try.prog 87 [(0, 1), (1, 1)] [(.string ⟨#[]⟩), (.bool false)] := placesOf_mk (Try.prog.fieldsOf 87) (.agg #[(.string ⟨#[]⟩), (.bool false)]) (fun _ => by kernel_rfl) (by kernel_rfl) (by kernel_rfl) (fun _ => by kernel_rfl)
instance : IsOne Try.prog 88 := ⟨fun _ => by kernel_rfl, fun _ => by kernel_rfl⟩
instance : ElOf Try.prog 88 1 8 := elOf_mk (by kernel_rfl) (by decide)
instance : ZeroOf Try.prog 88 [.nilFunc] := ⟨.nilFunc, fun _ => by kernel_rfl, by kernel_rfl⟩
instance : IsOne Try.prog 89 := ⟨fun _ => by kernel_rfl, fun _ => by kernel_rfl⟩
instance : NotInt Try.prog 89 := ⟨.inr ⟨92, by kernel_rfl⟩⟩
instance : SlOf Try.prog 89 92 5 := ⟨by kernel_rfl, fun _ => by kernel_rfl⟩
instance : ElOf Try.prog 89 1 24 := elOf_mk (by kernel_rfl) (by decide)
instance : ZeroOf Try.prog 89 [(.slice none 0 0)] := ⟨(.slice none 0 0), fun _ => by kernel_rfl, by kernel_rfl⟩
instance : IsOne Try.prog 90 := ⟨fun _ => by kernel_rfl, fun _ => by kernel_rfl⟩
instance : ElOf Try.prog 90 1 8 := elOf_mk (by kernel_rfl) (by decide)
instance : ZeroOf Try.prog 90 [.nilFunc] := ⟨.nilFunc, fun _ => by kernel_rfl, by kernel_rfl⟩
instance : IsAgg Try.prog 91 5 := ⟨fun _ => by kernel_rfl, fun _ => by kernel_rfl⟩
instance : FldAt Try.prog 91 0 0 := ⟨fun _ _ _ => by kernel_rfl⟩
instance : FldAt Try.prog 91 1 3 := ⟨fun _ _ _ => by kernel_rfl⟩
instance : FldAt Try.prog 91 2 4 := ⟨fun _ _ _ => by kernel_rfl⟩
instance : ElOf Try.prog 91 5 72 := elOf_mk (by kernel_rfl) (by decide)
instance : ZeroOf Try.prog 91 [(.int .i64 0), (.int .i64 0), (.slice none 0 0), (.int .i64 0), (.slice none 0 0)] := ⟨(.agg #[(.int .i64 0), (.int .i64 0), (.slice none 0 0), (.int .i64 0), (.slice none 0 0)]), fun _ => by kernel_rfl, by kernel_rfl⟩
instance : PlacesOf Try.prog 91 [(0, 3), (3, 1), (4, 1)] [(.int .i64 0), (.int .i64 0), (.slice none 0 0), (.int .i64 0), (.slice none 0 0)] := placesOf_mk (Try.prog.fieldsOf 91) (.agg #[(.int .i64 0), (.int .i64 0), (.slice none 0 0), (.int .i64 0), (.slice none 0 0)]) (fun _ => by kernel_rfl) (by kernel_rfl) (by kernel_rfl) (fun _ => by kernel_rfl)
instance : IsAgg Try.prog 92 5 := ⟨fun _ => by kernel_rfl, fun _ => by kernel_rfl⟩
instance : FldAt Try.prog 92 0 0 := ⟨fun _ _ _ => by kernel_rfl⟩
instance : FldAt Try.prog 92 1 3 := ⟨fun _ _ _ => by kernel_rfl⟩
instance : FldAt Try.prog 92 2 4 := ⟨fun _ _ _ => by kernel_rfl⟩
instance : ElOf Try.prog 92 5 72 := elOf_mk (by kernel_rfl) (by decide)
instance : ZeroOf Try.prog 92 [(.int .i64 0), (.int .i64 0), (.slice none 0 0), (.int .i64 0), (.slice none 0 0)] := ⟨(.agg #[(.int .i64 0), (.int .i64 0), (.slice none 0 0), (.int .i64 0), (.slice none 0 0)]), fun _ => by kernel_rfl, by kernel_rfl⟩
instance : PlacesOf Try.prog 92 [(0, 3), (3, 1), (4, 1)] [(.int .i64 0), (.int .i64 0), (.slice none 0 0), (.int .i64 0), (.slice none 0 0)] := placesOf_mk (Try.prog.fieldsOf 92) (.agg #[(.int .i64 0), (.int .i64 0), (.slice none 0 0), (.int .i64 0), (.slice none 0 0)]) (fun _ => by kernel_rfl) (by kernel_rfl) (by kernel_rfl) (fun _ => by kernel_rfl)
instance : IsOne Try.prog 93 := ⟨fun _ => by kernel_rfl, fun _ => by kernel_rfl⟩
instance : ElOf Try.prog 93 1 8 := elOf_mk (by kernel_rfl) (by decide)
instance : ZeroOf Try.prog 93 [.nilFunc] := ⟨.nilFunc, fun _ => by kernel_rfl, by kernel_rfl⟩
instance : IsOne Try.prog 94 := ⟨fun _ => by kernel_rfl, fun _ => by kernel_rfl⟩
instance : ElOf Try.prog 94 1 8 := elOf_mk (by kernel_rfl) (by decide)
instance : ZeroOf Try.prog 94 [.nilFunc] := ⟨.nilFunc, fun _ => by kernel_rfl, by kernel_rfl⟩
instance : IsOne Try.prog 95 := ⟨fun _ => by kernel_rfl, fun _ => by kernel_rfl⟩
instance : ElOf Try.prog 95 1 8 := elOf_mk (by kernel_rfl) (by decide)
instance : ZeroOf Try.prog 95 [.nilFunc] := ⟨.nilFunc, fun _ => by kernel_rfl, by kernel_rfl⟩
instance : IsOne Try.prog 96 := ⟨fun _ => by kernel_rfl, fun _ => by kernel_rfl⟩
instance : ElOf Try.prog 96 1 8 := elOf_mk (by kernel_rfl) (by decide)
instance : ZeroOf Try.prog 96 [.nilFunc] := ⟨.nilFunc, fun _ => by kernel_rfl, by kernel_rfl⟩
instance : IsOne Try.prog 97 := ⟨fun _ => by kernel_rfl, fun _ => by kernel_rfl⟩
instance : ElOf Try.prog 97 1 8 := elOf_mk (by kernel_rfl) (by decide)
instance : ZeroOf Try.prog 97 [.nilFunc] := ⟨.nilFunc, fun _ => by kernel_rfl, by kernel_rfl⟩
instance : IsOne Try.prog 98 := ⟨fun _ => by kernel_rfl, fun _ => by kernel_rfl⟩
instance : ElOf Try.prog 98 1 8 := elOf_mk (by kernel_rfl) (by decide)
instance : ZeroOf Try.prog 98 [.nilFunc] := ⟨.nilFunc, fun _ => by kernel_rfl, by kernel_rfl⟩
instance : IsAgg Try.prog 99 2 := ⟨fun _ => by kernel_rfl, fun _ => by kernel_rfl⟩
instance : FldAt Try.prog 99 0 0 := ⟨fun _ _ _ => by kernel_rfl⟩
instance : FldAt Try.prog 99 1 1 := ⟨fun _ _ _ => by kernel_rfl⟩
instance : ElOf Try.prog 99 2 32 := elOf_mk (by kernel_rfl) (by decide)
instance : ZeroOf Try.prog 99 [(.string ⟨#[]⟩), (.string ⟨#[]⟩)] := ⟨(.agg #[(.string ⟨#[]⟩), (.string ⟨#[]⟩)]), fun _ => by kernel_rfl, by kernel_rfl⟩
instance : PlacesOf Try.prog 99 [(0, 1), (1, 1)] [(.string ⟨#[]⟩), (.string ⟨#[]⟩)] := placesOf_mk (Try.prog.fieldsOf 99) (.agg #[(.string ⟨#[]⟩), (.string ⟨#[]⟩)]) (fun _ => by kernel_rfl) (by kernel_rfl) (by kernel_rfl) (fun _ => by kernel_rfl)
instance : IsAgg Try.prog 100 2 := ⟨fun _ => by kernel_rfl, fun _ => by kernel_rfl⟩
instance : FldAt Try.prog 100 0 0 := ⟨fun _ _ _ => by kernel_rfl⟩
instance : FldAt Try.prog 100 1 1 := ⟨fun _ _ _ => by kernel_rfl⟩
set_option maxRecDepth 100000 in
instance : FlatEq Try.prog 100 [.str, .str] := ⟨by kernel_rfl, .cons (by kernel_rfl) (of_decide_eq_true (by kernel_rfl)) (fun _ => by kernel_rfl) (by kernel_rfl) (.cons (by kernel_rfl) (of_decide_eq_true (by kernel_rfl)) (fun _ => by kernel_rfl) (by kernel_rfl) (.nil)), by kernel_rfl, by kernel_rfl⟩
instance : ElOf Try.prog 100 2 32 := elOf_mk (by kernel_rfl) (by decide)
instance : ZeroOf Try.prog 100 [(.string ⟨#[]⟩), (.string ⟨#[]⟩)] := ⟨(.agg #[(.string ⟨#[]⟩), (.string ⟨#[]⟩)]), fun _ => by kernel_rfl, by kernel_rfl⟩
instance : PlacesOf Try.prog 100 [(0, 1), (1, 1)] [(.string ⟨#[]⟩), (.string ⟨#[]⟩)] := placesOf_mk (Try.prog.fieldsOf 100) (.agg #[(.string ⟨#[]⟩), (.string ⟨#[]⟩)]) (fun _ => by kernel_rfl) (by kernel_rfl) (by kernel_rfl) (fun _ => by kernel_rfl)
instance : IsOne Try.prog 101 := ⟨fun _ => by kernel_rfl, fun _ => by kernel_rfl⟩
instance : ElOf Try.prog 101 1 8 := elOf_mk (by kernel_rfl) (by decide)
instance : ZeroOf Try.prog 101 [.nilFunc] := ⟨.nilFunc, fun _ => by kernel_rfl, by kernel_rfl⟩
instance : IsOne Try.prog 102 := ⟨fun _ => by kernel_rfl, fun _ => by kernel_rfl⟩
instance : ElOf Try.prog 102 1 8 := elOf_mk (by kernel_rfl) (by decide)
instance : ZeroOf Try.prog 102 [.nilFunc] := ⟨.nilFunc, fun _ => by kernel_rfl, by kernel_rfl⟩
instance : IsOne Try.prog 103 := ⟨fun _ => by kernel_rfl, fun _ => by kernel_rfl⟩
instance : ElOf Try.prog 103 1 8 := elOf_mk (by kernel_rfl) (by decide)
instance : ZeroOf Try.prog 103 [(.pointer none)] := ⟨(.pointer none), fun _ => by kernel_rfl, by kernel_rfl⟩
instance : IsOne Try.prog 104 := ⟨fun _ => by kernel_rfl, fun _ => by kernel_rfl⟩
instance : ElOf Try.prog 104 1 8 := elOf_mk (by kernel_rfl) (by decide)
instance : ZeroOf Try.prog 104 [.nilFunc] := ⟨.nilFunc, fun _ => by kernel_rfl, by kernel_rfl⟩
instance : IsOne Try.prog 105 := ⟨fun _ => by kernel_rfl, fun _ => by kernel_rfl⟩
instance : ElOf Try.prog 105 1 8 := elOf_mk (by kernel_rfl) (by decide)
instance : ZeroOf Try.prog 105 [.nilFunc] := ⟨.nilFunc, fun _ => by kernel_rfl, by kernel_rfl⟩
instance : IsOne Try.prog 106 := ⟨fun _ => by kernel_rfl, fun _ => by kernel_rfl⟩
instance : ElOf Try.prog 106 1 8 := elOf_mk (by kernel_rfl) (by decide)
instance : ZeroOf Try.prog 106 [.nilFunc] := ⟨.nilFunc, fun _ => by kernel_rfl, by kernel_rfl⟩
instance : IsAgg Try.prog 107 4 := ⟨fun _ => by kernel_rfl, fun _ => by kernel_rfl⟩
instance : FldAt Try.prog 107 0 0 := ⟨fun _ _ _ => by kernel_rfl⟩
instance : FldAt Try.prog 107 1 1 := ⟨fun _ _ _ => by kernel_rfl⟩
instance : FldAt Try.prog 107 2 2 := ⟨fun _ _ _ => by kernel_rfl⟩
instance : FldAt Try.prog 107 3 3 := ⟨fun _ _ _ => by kernel_rfl⟩
instance : ElOf Try.prog 107 4 40 := elOf_mk (by kernel_rfl) (by decide)
instance : ZeroOf Try.prog 107 [(.string ⟨#[]⟩), (.int .i64 0), (.int .i64 0), (.int .i64 0)] := ⟨(.agg #[(.string ⟨#[]⟩), (.int .i64 0), (.int .i64 0), (.int .i64 0)]), fun _ => by kernel_rfl, by kernel_rfl⟩
instance : PlacesOf Try.prog 107 [(0, 1), (1, 1), (2, 1), (3, 1)] [(.string ⟨#[]⟩), (.int .i64 0), (.int .i64 0), (.int .i64 0)] := placesOf_mk (Try.prog.fieldsOf 107) (.agg #[(.string ⟨#[]⟩), (.int .i64 0), (.int .i64 0), (.int .i64 0)]) (fun _ => by kernel_rfl) (by kernel_rfl) (by kernel_rfl) (fun _ => by kernel_rfl)
instance : IsAgg Try.prog 108 4 := ⟨fun _ => by kernel_rfl, fun _ => by kernel_rfl⟩
instance : FldAt Try.prog 108 0 0 := ⟨fun _ _ _ => by kernel_rfl⟩
instance : FldAt Try.prog 108 1 1 := ⟨fun _ _ _ => by kernel_rfl⟩
instance : FldAt Try.prog 108 2 2 := ⟨fun _ _ _ => by kernel_rfl⟩
instance : FldAt Try.prog 108 3 3 := ⟨fun _ _ _ => by kernel_rfl⟩
set_option maxRecDepth 100000 in
instance : FlatEq Try.prog 108 [.str, .int .i64, .int .i64, .int .i64] := ⟨by kernel_rfl, .cons (by kernel_rfl) (of_decide_eq_true (by kernel_rfl)) (fun _ => by kernel_rfl) (by kernel_rfl) (.cons (by kernel_rfl) (of_decide_eq_true (by kernel_rfl)) (fun _ => by kernel_rfl) (by kernel_rfl) (.cons (by kernel_rfl) (of_decide_eq_true (by kernel_rfl)) (fun _ => by kernel_rfl) (by kernel_rfl) (.cons (by kernel_rfl) (of_decide_eq_true (by kernel_rfl)) (fun _ => by kernel_rfl) (by kernel_rfl) (.nil)))), by kernel_rfl, by kernel_rfl⟩
instance : ElOf Try.prog 108 4 40 := elOf_mk (by kernel_rfl) (by decide)
instance : ZeroOf Try.prog 108 [(.string ⟨#[]⟩), (.int .i64 0), (.int .i64 0), (.int .i64 0)] := ⟨(.agg #[(.string ⟨#[]⟩), (.int .i64 0), (.int .i64 0), (.int .i64 0)]), fun _ => by kernel_rfl, by kernel_rfl⟩
instance : PlacesOf Try.prog 108 [(0, 1), (1, 1), (2, 1), (3, 1)] [(.string ⟨#[]⟩), (.int .i64 0), (.int .i64 0), (.int .i64 0)] := placesOf_mk (Try.prog.fieldsOf 108) (.agg #[(.string ⟨#[]⟩), (.int .i64 0), (.int .i64 0), (.int .i64 0)]) (fun _ => by kernel_rfl) (by kernel_rfl) (by kernel_rfl) (fun _ => by kernel_rfl)
instance : IsOne Try.prog 110 := ⟨fun _ => by kernel_rfl, fun _ => by kernel_rfl⟩
instance : ElOf Try.prog 110 1 8 := elOf_mk (by kernel_rfl) (by decide)
instance : ZeroOf Try.prog 110 [.nilFunc] := ⟨.nilFunc, fun _ => by kernel_rfl, by kernel_rfl⟩
instance : IsOne Try.prog 111 := ⟨fun _ => by kernel_rfl, fun _ => by kernel_rfl⟩
instance : ElOf Try.prog 111 1 8 := elOf_mk (by kernel_rfl) (by decide)
instance : ZeroOf Try.prog 111 [.nilFunc] := ⟨.nilFunc, fun _ => by kernel_rfl, by kernel_rfl⟩
instance : IsOne Try.prog 112 := ⟨fun _ => by kernel_rfl, fun _ => by kernel_rfl⟩
instance : ElOf Try.prog 112 1 8 := elOf_mk (by kernel_rfl) (by decide)
instance : ZeroOf Try.prog 112 [.nilFunc] := ⟨.nilFunc, fun _ => by kernel_rfl, by kernel_rfl⟩
instance : IsOne Try.prog 113 := ⟨fun _ => by kernel_rfl, fun _ => by kernel_rfl⟩
instance : ElOf Try.prog 113 1 8 := elOf_mk (by kernel_rfl) (by decide)
instance : ZeroOf Try.prog 113 [.nilFunc] := ⟨.nilFunc, fun _ => by kernel_rfl, by kernel_rfl⟩
instance : IsOne Try.prog 114 := ⟨fun _ => by kernel_rfl, fun _ => by kernel_rfl⟩
instance : ElOf Try.prog 114 1 8 := elOf_mk (by kernel_rfl) (by decide)
instance : ZeroOf Try.prog 114 [.nilFunc] := ⟨.nilFunc, fun _ => by kernel_rfl, by kernel_rfl⟩
instance : IsOne Try.prog 115 := ⟨fun _ => by kernel_rfl, fun _ => by kernel_rfl⟩
instance : ElOf Try.prog 115 1 8 := elOf_mk (by kernel_rfl) (by decide)
instance : ZeroOf Try.prog 115 [.nilFunc] := ⟨.nilFunc, fun _ => by kernel_rfl, by kernel_rfl⟩
instance : IsOne Try.prog 116 := ⟨fun _ => by kernel_rfl, fun _ => by kernel_rfl⟩
instance : ElOf Try.prog 116 1 8 := elOf_mk (by kernel_rfl) (by decide)
instance : ZeroOf Try.prog 116 [.nilFunc] := ⟨.nilFunc, fun _ => by kernel_rfl, by kernel_rfl⟩
instance : IsOne Try.prog 117 := ⟨fun _ => by kernel_rfl, fun _ => by kernel_rfl⟩
instance : ElOf Try.prog 117 1 8 := elOf_mk (by kernel_rfl) (by decide)
instance : ZeroOf Try.prog 117 [.nilFunc] := ⟨.nilFunc, fun _ => by kernel_rfl, by kernel_rfl⟩
instance : IsOne Try.prog 118 := ⟨fun _ => by kernel_rfl, fun _ => by kernel_rfl⟩
instance : ElOf Try.prog 118 1 8 := elOf_mk (by kernel_rfl) (by decide)
instance : ZeroOf Try.prog 118 [.nilFunc] := ⟨.nilFunc, fun _ => by kernel_rfl, by kernel_rfl⟩
instance : IsOne Try.prog 119 := ⟨fun _ => by kernel_rfl, fun _ => by kernel_rfl⟩
instance : ElOf Try.prog 119 1 8 := elOf_mk (by kernel_rfl) (by decide)
instance : ZeroOf Try.prog 119 [.nilFunc] := ⟨.nilFunc, fun _ => by kernel_rfl, by kernel_rfl⟩
instance : IsOne Try.prog 120 := ⟨fun _ => by kernel_rfl, fun _ => by kernel_rfl⟩
instance : ElOf Try.prog 120 1 8 := elOf_mk (by kernel_rfl) (by decide)
instance : ZeroOf Try.prog 120 [.nilFunc] := ⟨.nilFunc, fun _ => by kernel_rfl, by kernel_rfl⟩
instance : IsOne Try.prog 121 := ⟨fun _ => by kernel_rfl, fun _ => by kernel_rfl⟩
instance : ElOf Try.prog 121 1 8 := elOf_mk (by kernel_rfl) (by decide)
instance : ZeroOf Try.prog 121 [.nilFunc] := ⟨.nilFunc, fun _ => by kernel_rfl, by kernel_rfl⟩
instance : IsOne Try.prog 122 := ⟨fun _ => by kernel_rfl, fun _ => by kernel_rfl⟩
instance : NotInt Try.prog 122 := ⟨.inr ⟨5, by kernel_rfl⟩⟩
instance : SlOf Try.prog 122 5 1 := ⟨by kernel_rfl, fun _ => by kernel_rfl⟩
instance : ElOf Try.prog 122 1 24 := elOf_mk (by kernel_rfl) (by decide)
instance : ZeroOf Try.prog 122 [(.slice none 0 0)] := ⟨(.slice none 0 0), fun _ => by kernel_rfl, by kernel_rfl⟩
instance : IsOne Try.prog 123 := ⟨fun _ => by kernel_rfl, fun _ => by kernel_rfl⟩
instance : ElOf Try.prog 123 1 8 := elOf_mk (by kernel_rfl) (by decide)
instance : ZeroOf Try.prog 123 [.nilFunc] := ⟨.nilFunc, fun _ => by kernel_rfl, by kernel_rfl⟩
instance : IsOne Try.prog 124 := ⟨fun _ => by kernel_rfl, fun _ => by kernel_rfl⟩
instance : ElOf Try.prog 124 1 8 := elOf_mk (by kernel_rfl) (by decide)
instance : ZeroOf Try.prog 124 [.nilFunc] := ⟨.nilFunc, fun _ => by kernel_rfl, by kernel_rfl⟩
instance : IsAgg Try.prog 125 3 := ⟨fun _ => by kernel_rfl, fun _ => by kernel_rfl⟩
instance : FldAt Try.prog 125 0 0 := ⟨fun _ _ _ => by kernel_rfl⟩
instance : FldAt Try.prog 125 1 1 := ⟨fun _ _ _ => by kernel_rfl⟩
instance : FldAt Try.prog 125 2 2 := ⟨fun _ _ _ => by kernel_rfl⟩
instance : ElOf Try.prog 125 3 24 := elOf_mk (by kernel_rfl) (by decide)
instance : ZeroOf Try.prog 125 [(.int .i32 0), (.int .i64 0), (.int .i64 0)] := ⟨(.agg #[(.int .i32 0), (.int .i64 0), (.int .i64 0)]), fun _ => by kernel_rfl, by kernel_rfl⟩
instance : PlacesOf Try.prog 125 [(0, 1), (1, 1), (2, 1)] [(.int .i32 0), (.int .i64 0), (.int .i64 0)] := placesOf_mk (Try.prog.fieldsOf 125) (.agg #[(.int .i32 0), (.int .i64 0), (.int .i64 0)]) (fun _ => by kernel_rfl) (by kernel_rfl) (by kernel_rfl) (fun _ => by kernel_rfl)
instance : IsAgg Try.prog 126 3 := ⟨fun _ => by kernel_rfl, fun _ => by kernel_rfl⟩
instance : FldAt Try.prog 126 0 0 := ⟨fun _ _ _ => by kernel_rfl⟩
instance : FldAt Try.prog 126 1 1 := ⟨fun _ _ _ => by kernel_rfl⟩
instance : FldAt Try.prog 126 2 2 := ⟨fun _ _ _ => by kernel_rfl⟩
set_option maxRecDepth 100000 in
instance : FlatEq Try.prog 126 [.int .i32, .int .i64, .int .i64] := ⟨by kernel_rfl, .cons (by kernel_rfl) (of_decide_eq_true (by kernel_rfl)) (fun _ => by kernel_rfl) (by kernel_rfl) (.cons (by kernel_rfl) (of_decide_eq_true (by kernel_rfl)) (fun _ => by kernel_rfl) (by kernel_rfl) (.cons (by kernel_rfl) (of_decide_eq_true (by kernel_rfl)) (fun _ => by kernel_rfl) (by kernel_rfl) (.nil))), by kernel_rfl, by kernel_rfl⟩
instance : ElOf Try.prog 126 3 24 := elOf_mk (by kernel_rfl) (by decide)
instance : ZeroOf Try.prog 126 [(.int .i32 0), (.int .i64 0), (.int .i64 0)] := ⟨(.agg #[(.int .i32 0), (.int .i64 0), (.int .i64 0)]), fun _ => by kernel_rfl, by kernel_rfl⟩
instance : PlacesOf Try.prog 126 [(0, 1), (1, 1), (2, 1)] [(.int .i32 0), (.int .i64 0), (.int .i64 0)] := placesOf_mk (Try.prog.fieldsOf 126) (.agg #[(.int .i32 0), (.int .i64 0), (.int .i64 0)]) (fun _ => by kernel_rfl) (by kernel_rfl) (by kernel_rfl) (fun _ => by kernel_rfl)
instance : IsOne Try.prog 127 := ⟨fun _ => by kernel_rfl, fun _ => by kernel_rfl⟩
instance : ElOf Try.prog 127 1 8 := elOf_mk (by kernel_rfl) (by decide)
instance : ZeroOf Try.prog 127 [.nilFunc] := ⟨.nilFunc, fun _ => by kernel_rfl, by kernel_rfl⟩
instance : IsOne Try.prog 128 := ⟨fun _ => by kernel_rfl, fun _ => by kernel_rfl⟩
instance : NotInt Try.prog 128 := ⟨.inr ⟨126, by kernel_rfl⟩⟩
instance : SlOf Try.prog 128 126 3 := ⟨by kernel_rfl, fun _ => by kernel_rfl⟩
instance : ElOf Try.prog 128 1 24 := elOf_mk (by kernel_rfl) (by decide)
instance : ZeroOf Try.prog 128 [(.slice none 0 0)] := ⟨(.slice none 0 0), fun _ => by kernel_rfl, by kernel_rfl⟩
instance : IsOne Try.prog 129 := ⟨fun _ => by kernel_rfl, fun _ => by kernel_rfl⟩
instance : ElOf Try.prog 129 1 8 := elOf_mk (by kernel_rfl) (by decide)
instance : ZeroOf Try.prog 129 [.nilFunc] := ⟨.nilFunc, fun _ => by kernel_rfl, by kernel_rfl⟩
instance : IsOne Try.prog 130 := ⟨fun _ => by kernel_rfl, fun _ => by kernel_rfl⟩
instance : NotInt Try.prog 130 := ⟨.inr ⟨133, by kernel_rfl⟩⟩
instance : SlOf Try.prog 130 133 4 := ⟨by kernel_rfl, fun _ => by kernel_rfl⟩
instance : ElOf Try.prog 130 1 24 := elOf_mk (by kernel_rfl) (by decide)
instance : ZeroOf Try.prog 130 [(.slice none 0 0)] := ⟨(.slice none 0 0), fun _ => by kernel_rfl, by kernel_rfl⟩
instance : IsOne Try.prog 131 := ⟨fun _ => by kernel_rfl, fun _ => by kernel_rfl⟩
instance : ElOf Try.prog 131 1 8 := elOf_mk (by kernel_rfl) (by decide)
instance : ZeroOf Try.prog 131 [.nilFunc] := ⟨.nilFunc, fun _ => by kernel_rfl, by kernel_rfl⟩
instance : IsAgg Try.prog 132 4 := ⟨fun _ => by kernel_rfl, fun _ => by kernel_rfl⟩
instance : FldAt Try.prog 132 0 0 := ⟨fun _ _ _ => by kernel_rfl⟩
instance : FldAt Try.prog 132 1 1 := ⟨fun _ _ _ => by kernel_rfl⟩
instance : FldAt Try.prog 132 2 2 := ⟨fun _ _ _ => by kernel_rfl⟩
instance : FldAt Try.prog 132 3 3 := ⟨fun _ _ _ => by kernel_rfl⟩
instance : ElOf Try.prog 132 4 32 := elOf_mk (by kernel_rfl) (by decide)
instance : ZeroOf Try.prog 132 [(.int .i32 0), (.int .i64 0), (.int .i64 0), (.bool false)] := ⟨(.agg #[(.int .i32 0), (.int .i64 0), (.int .i64 0), (.bool false)]), fun _ => by kernel_rfl, by kernel_rfl⟩
instance : PlacesOf Try.prog 132 [(0, 1), (1, 1), (2, 1), (3, 1)] [(.int .i32 0), (.int .i64 0), (.int .i64 0), (.bool false)] := placesOf_mk (Try.prog.fieldsOf 132) (.agg #[(.int .i32 0), (.int .i64 0), (.int .i64 0), (.bool false)]) (fun _ => by kernel_rfl) (by kernel_rfl) (by kernel_rfl) (fun _ => by kernel_rfl)
instance : IsAgg Try.prog 133 4 := ⟨fun _ => by kernel_rfl, fun _ => by kernel_rfl⟩
instance : FldAt Try.prog 133 0 0 := ⟨fun _ _ _ => by kernel_rfl⟩
instance : FldAt Try.prog 133 1 1 := ⟨fun _ _ _ => by kernel_rfl⟩
instance : FldAt Try.prog 133 2 2 := ⟨fun _ _ _ => by kernel_rfl⟩
instance : FldAt Try.prog 133 3 3 := ⟨fun _ _ _ => by kernel_rfl⟩
set_option maxRecDepth 100000 in
instance : FlatEq Try.prog 133 [.int .i32, .int .i64, .int .i64, .bool] := ⟨by kernel_rfl, .cons (by kernel_rfl) (of_decide_eq_true (by kernel_rfl)) (fun _ => by kernel_rfl) (by kernel_rfl) (.cons (by kernel_rfl) (of_decide_eq_true (by kernel_rfl)) (fun _ => by kernel_rfl) (by kernel_rfl) (.cons (by kernel_rfl) (of_decide_eq_true (by kernel_rfl)) (fun _ => by kernel_rfl) (by kernel_rfl) (.cons (by kernel_rfl) (of_decide_eq_true (by kernel_rfl)) (fun _ => by kernel_rfl) (by kernel_rfl) (.nil)))), by kernel_rfl, by kernel_rfl⟩
instance : ElOf Try.prog 133 4 32 := elOf_mk (by kernel_rfl) (by decide)
instance : ZeroOf Try.prog 133 [(.int .i32 0), (.int .i64 0), (.int .i64 0), (.bool false)] := ⟨(.agg #[(.int .i32 0), (.int .i64 0), (.int .i64 0), (.bool false)]), fun _ => by kernel_rfl, by kernel_rfl⟩
instance : PlacesOf Try.prog 133 [(0, 1), (1, 1), (2, 1), (3, 1)] [(.int .i32 0), (.int .i64 0), (.int .i64 0), (.bool false)] := placesOf_mk (Try.prog.fieldsOf 133) (.agg #[(.int .i32 0), (.int .i64 0), (.int .i64 0), (.bool false)]) (fun _ => by kernel_rfl) (by kernel_rfl) (by kernel_rfl) (fun _ => by kernel_rfl)
instance : IsOne Try.prog 134 := ⟨fun _ => by kernel_rfl, fun _ => by kernel_rfl⟩
instance : ElOf Try.prog 134 1 8 := elOf_mk (by kernel_rfl) (by decide)
instance : ZeroOf Try.prog 134 [.nilFunc] := ⟨.nilFunc, fun _ => by kernel_rfl, by kernel_rfl⟩
instance : IsOne Try.prog 135 := ⟨fun _ => by kernel_rfl, fun _ => by kernel_rfl⟩
instance : ElOf Try.prog 135 1 8 := elOf_mk (by kernel_rfl) (by decide)
instance : ZeroOf Try.prog 135 [.nilFunc] := ⟨.nilFunc, fun _ => by kernel_rfl, by kernel_rfl⟩
instance : IsOne Try.prog 136 := ⟨fun _ => by kernel_rfl, fun _ => by kernel_rfl⟩
instance : ElOf Try.prog 136 1 8 := elOf_mk (by kernel_rfl) (by decide)
instance : ZeroOf Try.prog 136 [.nilFunc] := ⟨.nilFunc, fun _ => by kernel_rfl, by kernel_rfl⟩
instance : IsOne Try.prog 137 := ⟨fun _ => by kernel_rfl, fun _ => by kernel_rfl⟩
instance : ElOf Try.prog 137 1 8 := elOf_mk (by kernel_rfl) (by decide)
instance : ZeroOf Try.prog 137 [.nilFunc] := ⟨.nilFunc, fun _ => by kernel_rfl, by kernel_rfl⟩
instance : IsOne Try.prog 139 := ⟨fun _ => by kernel_rfl, fun _ => by kernel_rfl⟩
instance : ElOf Try.prog 139 1 8 := elOf_mk (by kernel_rfl) (by decide)
instance : ZeroOf Try.prog 139 [.nilFunc] := ⟨.nilFunc, fun _ => by kernel_rfl, by kernel_rfl⟩
instance : IsOne Try.prog 140 := ⟨fun _ => by kernel_rfl, fun _ => by kernel_rfl⟩
instance : ElOf Try.prog 140 1 8 := elOf_mk (by kernel_rfl) (by decide)
instance : ZeroOf Try.prog 140 [.nilFunc] := ⟨.nilFunc, fun _ => by kernel_rfl, by kernel_rfl⟩
instance : IsOne Try.prog 141 := ⟨fun _ => by kernel_rfl, fun _ => by kernel_rfl⟩
instance : ElOf Try.prog 141 1 8 := elOf_mk (by kernel_rfl) (by decide)
instance : ZeroOf Try.prog 141 [.nilFunc] := ⟨.nilFunc, fun _ => by kernel_rfl, by kernel_rfl⟩
instance : IsOne Try.prog 142 := ⟨fun _ => by kernel_rfl, fun _ => by kernel_rfl⟩
instance : ElOf Try.prog 142 1 8 := elOf_mk (by kernel_rfl) (by decide)
instance : ZeroOf Try.prog 142 [.nilFunc] := ⟨.nilFunc, fun _ => by kernel_rfl, by kernel_rfl⟩
instance : IsOne Try.prog 143 := ⟨fun _ => by kernel_rfl, fun _ => by kernel_rfl⟩
instance : ElOf Try.prog 143 1 8 := elOf_mk (by kernel_rfl) (by decide)
instance : ZeroOf Try.prog 143 [.nilFunc] := ⟨.nilFunc, fun _ => by kernel_rfl, by kernel_rfl⟩
instance : IsOne Try.prog 144 := ⟨fun _ => by kernel_rfl, fun _ => by kernel_rfl⟩
instance : ElOf Try.prog 144 1 8 := elOf_mk (by kernel_rfl) (by decide)
instance : ZeroOf Try.prog 144 [.nilFunc] := ⟨.nilFunc, fun _ => by kernel_rfl, by kernel_rfl⟩
instance : IsOne Try.prog 145 := ⟨fun _ => by kernel_rfl, fun _ => by kernel_rfl⟩
instance : ElOf Try.prog 145 1 8 := elOf_mk (by kernel_rfl) (by decide)
instance : ZeroOf Try.prog 145 [.nilFunc] := ⟨.nilFunc, fun _ => by kernel_rfl, by kernel_rfl⟩
instance : IsOne Try.prog 147 := ⟨fun _ => by kernel_rfl, fun _ => by kernel_rfl⟩
instance : ElOf Try.prog 147 1 8 := elOf_mk (by kernel_rfl) (by decide)
instance : ZeroOf Try.prog 147 [.nilFunc] := ⟨.nilFunc, fun _ => by kernel_rfl, by kernel_rfl⟩
instance : IsOne Try.prog 148 := ⟨fun _ => by kernel_rfl, fun _ => by kernel_rfl⟩
instance : ElOf Try.prog 148 1 8 := elOf_mk (by kernel_rfl) (by decide)
instance : ZeroOf Try.prog 148 [.nilFunc] := ⟨.nilFunc, fun _ => by kernel_rfl, by kernel_rfl⟩
instance : IsOne Try.prog 149 := ⟨fun _ => by kernel_rfl, fun _ => by kernel_rfl⟩
instance : ElOf Try.prog 149 1 8 := elOf_mk (by kernel_rfl) (by decide)
instance : ZeroOf Try.prog 149 [.nilFunc] := ⟨.nilFunc, fun _ => by kernel_rfl, by kernel_rfl⟩
instance : IsOne Try.prog 150 := ⟨fun _ => by kernel_rfl, fun _ => by kernel_rfl⟩
instance : IntT Try.prog 150 .u64 := ⟨by kernel_rfl⟩
instance : ElOf Try.prog 150 1 8 := elOf_mk (by kernel_rfl) (by decide)
instance : ZeroOf Try.prog 150 [(.int .u64 0)] := ⟨(.int .u64 0), fun _ => by kernel_rfl, by kernel_rfl⟩
instance : IsOne Try.prog 151 := ⟨fun _ => by kernel_rfl, fun _ => by kernel_rfl⟩
instance : ElOf Try.prog 151 1 8 := elOf_mk (by kernel_rfl) (by decide)
instance : ZeroOf Try.prog 151 [.nilFunc] := ⟨.nilFunc, fun _ => by kernel_rfl, by kernel_rfl⟩
instance : IsOne Try.prog 152 := ⟨fun _ => by kernel_rfl, fun _ => by kernel_rfl⟩
instance : ElOf Try.prog 152 1 8 := elOf_mk (by kernel_rfl) (by decide)
instance : ZeroOf Try.prog 152 [.nilFunc] := ⟨.nilFunc, fun _ => by kernel_rfl, by kernel_rfl⟩
instance : IsOne Try.prog 153 := ⟨fun _ => by kernel_rfl, fun _ => by kernel_rfl⟩
instance : ElOf Try.prog 153 1 8 := elOf_mk (by kernel_rfl) (by decide)
instance : ZeroOf Try.prog 153 [.nilFunc] := ⟨.nilFunc, fun _ => by kernel_rfl, by kernel_rfl⟩
instance : IsOne Try.prog 154 := ⟨fun _ => by kernel_rfl, fun _ => by kernel_rfl⟩
instance : ElOf Try.prog 154 1 8 := elOf_mk (by kernel_rfl) (by decide)
instance : ZeroOf Try.prog 154 [.nilFunc] := ⟨.nilFunc, fun _ => by kernel_rfl, by kernel_rfl⟩
instance : IsOne Try.prog 155 := ⟨fun _ => by kernel_rfl, fun _ => by kernel_rfl⟩
instance : ElOf Try.prog 155 1 8 := elOf_mk (by kernel_rfl) (by decide)
instance : ZeroOf Try.prog 155 [.nilFunc] := ⟨.nilFunc, fun _ => by kernel_rfl, by kernel_rfl⟩
instance : IsOne Try.prog 156 := ⟨fun _ => by kernel_rfl, fun _ => by kernel_rfl⟩
instance : ElOf Try.prog 156 1 8 := elOf_mk (by kernel_rfl) (by decide)
instance : ZeroOf Try.prog 156 [.nilFunc] := ⟨.nilFunc, fun _ => by kernel_rfl, by kernel_rfl⟩
instance : IsOne Try.prog 157 := ⟨fun _ => by kernel_rfl, fun _ => by kernel_rfl⟩
instance : ElOf Try.prog 157 1 8 := elOf_mk (by kernel_rfl) (by decide)
instance : ZeroOf Try.prog 157 [.nilFunc] := ⟨.nilFunc, fun _ => by kernel_rfl, by kernel_rfl⟩
instance : IsOne Try.prog 159 := ⟨fun _ => by kernel_rfl, fun _ => by kernel_rfl⟩
instance : ElOf Try.prog 159 1 8 := elOf_mk (by kernel_rfl) (by decide)
instance : ZeroOf Try.prog 159 [.nilFunc] := ⟨.nilFunc, fun _ => by kernel_rfl, by kernel_rfl⟩
instance : IsOne Try.prog 160 := ⟨fun _ => by kernel_rfl, fun _ => by kernel_rfl⟩
instance : ElOf Try.prog 160 1 8 := elOf_mk (by kernel_rfl) (by decide)
instance : ZeroOf Try.prog 160 [.nilFunc] := ⟨.nilFunc, fun _ => by kernel_rfl, by kernel_rfl⟩
instance : IsOne Try.prog 161 := ⟨fun _ => by kernel_rfl, fun _ => by kernel_rfl⟩
instance : ElOf Try.prog 161 1 8 := elOf_mk (by kernel_rfl) (by decide)
instance : ZeroOf Try.prog 161 [.nilFunc] := ⟨.nilFunc, fun _ => by kernel_rfl, by kernel_rfl⟩
instance : IsAgg Try.prog 162 4 := ⟨fun _ => by kernel_rfl, fun _ => by kernel_rfl⟩
instance : FldAt Try.prog 162 0 0 := ⟨fun _ _ _ => by kernel_rfl⟩
instance : FldAt Try.prog 162 1 1 := ⟨fun _ _ _ => by kernel_rfl⟩
instance : FldAt Try.prog 162 2 2 := ⟨fun _ _ _ => by kernel_rfl⟩
instance : FldAt Try.prog 162 3 3 := ⟨fun _ _ _ => by kernel_rfl⟩
instance : ElOf Try.prog 162 4 40 := elOf_mk (by kernel_rfl) (by decide)
instance : ZeroOf Try.prog 162 [(.pointer none), (.pointer none), (.pointer none), (.string ⟨#[]⟩)] := ⟨(.agg #[(.pointer none), (.pointer none), (.pointer none), (.string ⟨#[]⟩)]), fun _ => by kernel_rfl, by kernel_rfl⟩
instance : PlacesOf Try.prog 162 [(0, 1), (1, 1), (2, 1), (3, 1)] [(.pointer none), (.pointer none), (.pointer none), (.string ⟨#[]⟩)] := placesOf_mk (Try.prog.fieldsOf 162) (.agg #[(.pointer none), (.pointer none), (.pointer none), (.string ⟨#[]⟩)]) (fun _ => by kernel_rfl) (by kernel_rfl) (by kernel_rfl) (fun _ => by kernel_rfl)
instance : IsAgg Try.prog 163 4 := ⟨fun _ => by kernel_rfl, fun _ => by kernel_rfl⟩
instance : FldAt Try.prog 163 0 0 := ⟨fun _ _ _ => by kernel_rfl⟩
instance : FldAt Try.prog 163 1 1 := ⟨fun _ _ _ => by kernel_rfl⟩
instance : FldAt Try.prog 163 2 2 := ⟨fun _ _ _ => by kernel_rfl⟩
instance : FldAt Try.prog 163 3 3 := ⟨fun _ _ _ => by kernel_rfl⟩
instance : ElOf Try.prog 163 4 40 := elOf_mk (by kernel_rfl) (by decide)
instance : ZeroOf Try.prog 163 [(.pointer none), (.pointer none), (.pointer none), (.string ⟨#[]⟩)] := ⟨(.agg #[(.pointer none), (.pointer none), (.pointer none), (.string ⟨#[]⟩)]), fun _ => by kernel_rfl, by kernel_rfl⟩
instance : PlacesOf Try.prog 163 [(0, 1), (1, 1), (2, 1), (3, 1)] [(.pointer none), (.pointer none), (.pointer none), (.string ⟨#[]⟩)] := placesOf_mk (Try.prog.fieldsOf 163) (.agg #[(.pointer none), (.pointer none), (.pointer none), (.string ⟨#[]⟩)]) (fun _ => by kernel_rfl) (by kernel_rfl) (by kernel_rfl) (fun _ => by kernel_rfl)
instance : IsOne Try.prog 167 := ⟨fun _ => by kernel_rfl, fun _ => by kernel_rfl⟩
instance : ElOf Try.prog 167 1 8 := elOf_mk (by kernel_rfl) (by decide)
instance : ZeroOf Try.prog 167 [.nilFunc] := ⟨.nilFunc, fun _ => by kernel_rfl, by kernel_rfl⟩
instance : IsOne Try.prog 168 := ⟨fun _ => by kernel_rfl, fun _ => by kernel_rfl⟩
instance : IntT Try.prog 168 .u32 := ⟨by kernel_rfl⟩
instance : ElOf Try.prog 168 1 4 := elOf_mk (by kernel_rfl) (by decide)
instance : ZeroOf Try.prog 168 [(.int .u32 0)] := ⟨(.int .u32 0), fun _ => by kernel_rfl, by kernel_rfl⟩
instance : IsOne Try.prog 169 := ⟨fun _ => by kernel_rfl, fun _ => by kernel_rfl⟩
instance : IntT Try.prog 169 .u8 := ⟨by kernel_rfl⟩
instance : ElOf Try.prog 169 1 1 := elOf_mk (by kernel_rfl) (by decide)
instance : ZeroOf Try.prog 169 [(.int .u8 0)] := ⟨(.int .u8 0), fun _ => by kernel_rfl, by kernel_rfl⟩
instance : IsOne Try.prog 170 := ⟨fun _ => by kernel_rfl, fun _ => by kernel_rfl⟩
instance : IntT Try.prog 170 .u8 := ⟨by kernel_rfl⟩
instance : ElOf Try.prog 170 1 1 := elOf_mk (by kernel_rfl) (by decide)
instance : ZeroOf Try.prog 170 [(.int .u8 0)] := ⟨(.int .u8 0), fun _ => by kernel_rfl, by kernel_rfl⟩
instance : IsOne Try.prog 171 := ⟨fun _ => by kernel_rfl, fun _ => by kernel_rfl⟩
instance : ElOf Try.prog 171 1 8 := elOf_mk (by kernel_rfl) (by decide)
instance : ZeroOf Try.prog 171 [.nilFunc] := ⟨.nilFunc, fun _ => by kernel_rfl, by kernel_rfl⟩
instance : IsOne Try.prog 172 := ⟨fun _ => by kernel_rfl, fun _ => by kernel_rfl⟩
instance : ElOf Try.prog 172 1 8 := elOf_mk (by kernel_rfl) (by decide)
instance : ZeroOf Try.prog 172 [(.pointer none)] := ⟨(.pointer none), fun _ => by kernel_rfl, by kernel_rfl⟩
instance : IsOne Try.prog 173 := ⟨fun _ => by kernel_rfl, fun _ => by kernel_rfl⟩
instance : IntT Try.prog 173 .i32 := ⟨by kernel_rfl⟩
instance : ElOf Try.prog 173 1 4 := elOf_mk (by kernel_rfl) (by decide)
instance : ZeroOf Try.prog 173 [(.int .i32 0)] := ⟨(.int .i32 0), fun _ => by kernel_rfl, by kernel_rfl⟩
instance : IsOne Try.prog 174 := ⟨fun _ => by kernel_rfl, fun _ => by kernel_rfl⟩
instance : IntT Try.prog 174 .i32 := ⟨by kernel_rfl⟩
instance : ElOf Try.prog 174 1 4 := elOf_mk (by kernel_rfl) (by decide)
instance : ZeroOf Try.prog 174 [(.int .i32 0)] := ⟨(.int .i32 0), fun _ => by kernel_rfl, by kernel_rfl⟩
instance : IsAgg Try.prog 175 11 := ⟨fun _ => by kernel_rfl, fun _ => by kernel_rfl⟩
instance : FldAt Try.prog 175 0 0 := ⟨fun _ _ _ => by kernel_rfl⟩
instance : FldAt Try.prog 175 1 1 := ⟨fun _ _ _ => by kernel_rfl⟩
instance : FldAt Try.prog 175 2 2 := ⟨fun _ _ _ => by kernel_rfl⟩
instance : FldAt Try.prog 175 3 3 := ⟨fun _ _ _ => by kernel_rfl⟩
instance : FldAt Try.prog 175 4 4 := ⟨fun _ _ _ => by kernel_rfl⟩
instance : FldAt Try.prog 175 5 5 := ⟨fun _ _ _ => by kernel_rfl⟩
instance : FldAt Try.prog 175 6 6 := ⟨fun _ _ _ => by kernel_rfl⟩
instance : FldAt Try.prog 175 7 7 := ⟨fun _ _ _ => by kernel_rfl⟩
instance : FldAt Try.prog 175 8 8 := ⟨fun _ _ _ => by kernel_rfl⟩
instance : FldAt Try.prog 175 9 9 := ⟨fun _ _ _ => by kernel_rfl⟩
instance : FldAt Try.prog 175 10 10 := ⟨fun _ _ _ => by kernel_rfl⟩
instance : ElOf Try.prog 175 11 48 := elOf_mk (by kernel_rfl) (by decide)
instance : ZeroOf Try.prog 175 [(.int .u64 0), (.int .u64 0), (.int .u32 0), (.int .u8 0), (.int .u8 0), (.int .u8 0), (.int .u8 0), .nilFunc, (.pointer none), (.int .i32 0), (.int .i32 0)] := ⟨(.agg #[(.int .u64 0), (.int .u64 0), (.int .u32 0), (.int .u8 0), (.int .u8 0), (.int .u8 0), (.int .u8 0), .nilFunc, (.pointer none), (.int .i32 0), (.int .i32 0)]), fun _ => by kernel_rfl, by kernel_rfl⟩
instance : PlacesOf Try.prog 175 [(0, 1), (1, 1), (2, 1), (3, 1), (4, 1), (5, 1), (6, 1), (7, 1), (8, 1), (9, 1), (10, 1)] [(.int .u64 0), (.int .u64 0), (.int .u32 0), (.int .u8 0), (.int .u8 0), (.int .u8 0), (.int .u8 0), .nilFunc, (.pointer none), (.int .i32 0), (.int .i32 0)] := placesOf_mk (Try.prog.fieldsOf 175) (.agg #[(.int .u64 0), (.int .u64 0), (.int .u32 0), (.int .u8 0), (.int .u8 0), (.int .u8 0), (.int .u8 0), .nilFunc, (.pointer none), (.int .i32 0), (.int .i32 0)]) (fun _ => by kernel_rfl) (by kernel_rfl) (by kernel_rfl) (fun _ => by kernel_rfl)
instance : IsAgg Try.prog 176 11 := ⟨fun _ => by kernel_rfl, fun _ => by kernel_rfl⟩
instance : FldAt Try.prog 176 0 0 := ⟨fun _ _ _ => by kernel_rfl⟩
instance : FldAt Try.prog 176 1 1 := ⟨fun _ _ _ => by kernel_rfl⟩
instance : FldAt Try.prog 176 2 2 := ⟨fun _ _ _ => by kernel_rfl⟩
instance : FldAt Try.prog 176 3 3 := ⟨fun _ _ _ => by kernel_rfl⟩
instance : FldAt Try.prog 176 4 4 := ⟨fun _ _ _ => by kernel_rfl⟩
instance : FldAt Try.prog 176 5 5 := ⟨fun _ _ _ => by kernel_rfl⟩
instance : FldAt Try.prog 176 6 6 := ⟨fun _ _ _ => by kernel_rfl⟩
instance : FldAt Try.prog 176 7 7 := ⟨fun _ _ _ => by kernel_rfl⟩
instance : FldAt Try.prog 176 8 8 := ⟨fun _ _ _ => by kernel_rfl⟩
instance : FldAt Try.prog 176 9 9 := ⟨fun _ _ _ => by kernel_rfl⟩
instance : FldAt Try.prog 176 10 10 := ⟨fun _ _ _ => by kernel_rfl⟩
instance : ElOf Try.prog 176 11 48 := elOf_mk (by kernel_rfl) (by decide)
instance : ZeroOf Try.prog 176 [(.int .u64 0), (.int .u64 0), (.int .u32 0), (.int .u8 0), (.int .u8 0), (.int .u8 0), (.int .u8 0), .nilFunc, (.pointer none), (.int .i32 0), (.int .i32 0)] := ⟨(.agg #[(.int .u64 0), (.int .u64 0), (.int .u32 0), (.int .u8 0), (.int .u8 0), (.int .u8 0), (.int .u8 0), .nilFunc, (.pointer none), (.int .i32 0), (.int .i32 0)]), fun _ => by kernel_rfl, by kernel_rfl⟩
instance : PlacesOf Try.prog 176 [(0, 1), (1, 1), (2, 1), (3, 1), (4, 1), (5, 1), (6, 1), (7, 1), (8, 1), (9, 1), (10, 1)] [(.int .u64 0), (.int .u64 0), (.int .u32 0), (.int .u8 0), (.int .u8 0), (.int .u8 0), (.int .u8 0), .nilFunc, (.pointer none), (.int .i32 0), (.int .i32 0)] := placesOf_mk (Try.prog.fieldsOf 176) (.agg #[(.int .u64 0), (.int .u64 0), (.int .u32 0), (.int .u8 0), (.int .u8 0), (.int .u8 0), (.int .u8 0), .nilFunc, (.pointer none), (.int .i32 0), (.int .i32 0)]) (fun _ => by kernel_rfl) (by kernel_rfl) (by kernel_rfl) (fun _ => by kernel_rfl)
instance : IsOne Try.prog 177 := ⟨fun _ => by kernel_rfl, fun _ => by kernel_rfl⟩
instance : ElOf Try.prog 177 1 8 := elOf_mk (by kernel_rfl) (by decide)
instance : ZeroOf Try.prog 177 [(.pointer none)] := ⟨(.pointer none), fun _ => by kernel_rfl, by kernel_rfl⟩
instance : Mixed Try.prog := ⟨by kernel_rfl⟩
instance : Ent Try.prog 3 := ⟨enters_of Try.func3 (by kernel_rfl) rfl⟩
instance : Ent Try.prog 4 := ⟨enters_of Try.func4 (by kernel_rfl) rfl⟩
instance : Ent Try.prog 5 := ⟨enters_of Try.func5 (by kernel_rfl) rfl⟩
instance : Ent Try.prog 6 := ⟨enters_of Try.func6 (by kernel_rfl) rfl⟩
instance : Ent Try.prog 7 := ⟨enters_of Try.func7 (by kernel_rfl) rfl⟩
instance : Ent Try.prog 8 := ⟨enters_of Try.func8 (by kernel_rfl) rfl⟩
instance : Ent Try.prog 9 := ⟨enters_of Try.func9 (by kernel_rfl) rfl⟩
instance : Ent Try.prog 10 := ⟨enters_of Try.func10 (by kernel_rfl) rfl⟩
instance : Ent Try.prog 11 := ⟨enters_of Try.func11 (by kernel_rfl) rfl⟩
instance : Ent Try.prog 12 := ⟨enters_of Try.func12 (by kernel_rfl) rfl⟩
instance : Ent Try.prog 13 := ⟨enters_of Try.func13 (by kernel_rfl) rfl⟩
instance : Ent Try.prog 14 := ⟨enters_of Try.func14 (by kernel_rfl) rfl⟩
instance : Ent Try.prog 15 := ⟨enters_of Try.func15 (by kernel_rfl) rfl⟩
instance : Ent Try.prog 16 := ⟨enters_of Try.func16 (by kernel_rfl) rfl⟩
instance : Ent Try.prog 17 := ⟨enters_of Try.func17 (by kernel_rfl) rfl⟩
instance : Ent Try.prog 18 := ⟨enters_of Try.func18 (by kernel_rfl) rfl⟩
instance : Ent Try.prog 19 := ⟨enters_of Try.func19 (by kernel_rfl) rfl⟩
instance : Ent Try.prog 20 := ⟨enters_of Try.func20 (by kernel_rfl) rfl⟩
instance : Ent Try.prog 21 := ⟨enters_of Try.func21 (by kernel_rfl) rfl⟩
instance : Ent Try.prog 22 := ⟨enters_of Try.func22 (by kernel_rfl) rfl⟩
instance : Ent Try.prog 23 := ⟨enters_of Try.func23 (by kernel_rfl) rfl⟩
instance : Ent Try.prog 24 := ⟨enters_of Try.func24 (by kernel_rfl) rfl⟩
instance : Ent Try.prog 25 := ⟨enters_of Try.func25 (by kernel_rfl) rfl⟩
instance : Ent Try.prog 26 := ⟨enters_of Try.func26 (by kernel_rfl) rfl⟩
instance : Ent Try.prog 27 := ⟨enters_of Try.func27 (by kernel_rfl) rfl⟩
instance : Ent Try.prog 28 := ⟨enters_of Try.func28 (by kernel_rfl) rfl⟩
instance : Ent Try.prog 29 := ⟨enters_of Try.func29 (by kernel_rfl) rfl⟩
instance : Ent Try.prog 30 := ⟨enters_of Try.func30 (by kernel_rfl) rfl⟩
instance : Ent Try.prog 31 := ⟨enters_of Try.func31 (by kernel_rfl) rfl⟩
instance : Ent Try.prog 32 := ⟨enters_of Try.func32 (by kernel_rfl) rfl⟩
instance : Ent Try.prog 33 := ⟨enters_of Try.func33 (by kernel_rfl) rfl⟩
instance : Ent Try.prog 34 := ⟨enters_of Try.func34 (by kernel_rfl) rfl⟩
instance : Ent Try.prog 35 := ⟨enters_of Try.func35 (by kernel_rfl) rfl⟩
instance : Ent Try.prog 36 := ⟨enters_of Try.func36 (by kernel_rfl) rfl⟩
instance : Ent Try.prog 37 := ⟨enters_of Try.func37 (by kernel_rfl) rfl⟩
instance : Ent Try.prog 38 := ⟨enters_of Try.func38 (by kernel_rfl) rfl⟩
instance : Ent Try.prog 39 := ⟨enters_of Try.func39 (by kernel_rfl) rfl⟩
instance : Ent Try.prog 40 := ⟨enters_of Try.func40 (by kernel_rfl) rfl⟩
instance : Ent Try.prog 41 := ⟨enters_of Try.func41 (by kernel_rfl) rfl⟩
instance : Ent Try.prog 42 := ⟨enters_of Try.func42 (by kernel_rfl) rfl⟩
instance : Ent Try.prog 43 := ⟨enters_of Try.func43 (by kernel_rfl) rfl⟩
instance : Ent Try.prog 44 := ⟨enters_of Try.func44 (by kernel_rfl) rfl⟩
instance : Ent Try.prog 45 := ⟨enters_of Try.func45 (by kernel_rfl) rfl⟩
instance : Ent Try.prog 46 := ⟨enters_of Try.func46 (by kernel_rfl) rfl⟩
instance : Ent Try.prog 47 := ⟨enters_of Try.func47 (by kernel_rfl) rfl⟩
instance : Ent Try.prog 48 := ⟨enters_of Try.func48 (by kernel_rfl) rfl⟩
instance : Ent Try.prog 49 := ⟨enters_of Try.func49 (by kernel_rfl) rfl⟩
instance : Ent Try.prog 50 := ⟨enters_of Try.func50 (by kernel_rfl) rfl⟩
instance : Ent Try.prog 51 := ⟨enters_of Try.func51 (by kernel_rfl) rfl⟩
instance : Ent Try.prog 52 := ⟨enters_of Try.func52 (by kernel_rfl) rfl⟩
instance : Ent Try.prog 53 := ⟨enters_of Try.func53 (by kernel_rfl) rfl⟩
instance : Ent Try.prog 54 := ⟨enters_of Try.func54 (by kernel_rfl) rfl⟩
instance : Ent Try.prog 55 := ⟨enters_of Try.func55 (by kernel_rfl) rfl⟩
instance : Ent Try.prog 56 := ⟨enters_of Try.func56 (by kernel_rfl) rfl⟩
instance : Ent Try.prog 57 := ⟨enters_of Try.func57 (by kernel_rfl) rfl⟩
instance : Ent Try.prog 58 := ⟨enters_of Try.func58 (by kernel_rfl) rfl⟩
instance : Ent Try.prog 59 := ⟨enters_of Try.func59 (by kernel_rfl) rfl⟩
instance : Ent Try.prog 60 := ⟨enters_of Try.func60 (by kernel_rfl) rfl⟩
instance : Ent Try.prog 61 := ⟨enters_of Try.func61 (by kernel_rfl) rfl⟩
instance : Ent Try.prog 62 := ⟨enters_of Try.func62 (by kernel_rfl) rfl⟩
instance : Ent Try.prog 63 := ⟨enters_of Try.func63 (by kernel_rfl) rfl⟩
instance : Ent Try.prog 64 := ⟨enters_of Try.func64 (by kernel_rfl) rfl⟩
instance : Ent Try.prog 65 := ⟨enters_of Try.func65 (by kernel_rfl) rfl⟩
instance : Ent Try.prog 66 := ⟨enters_of Try.func66 (by kernel_rfl) rfl⟩
instance : Ent Try.prog 67 := ⟨enters_of Try.func67 (by kernel_rfl) rfl⟩
instance : Ent Try.prog 68 := ⟨enters_of Try.func68 (by kernel_rfl) rfl⟩
instance : Ent Try.prog 69 := ⟨enters_of Try.func69 (by kernel_rfl) rfl⟩
instance : Ent Try.prog 70 := ⟨enters_of Try.func70 (by kernel_rfl) rfl⟩
instance : Ent Try.prog 71 := ⟨enters_of Try.func71 (by kernel_rfl) rfl⟩
instance : Ent Try.prog 72 := ⟨enters_of Try.func72 (by kernel_rfl) rfl⟩
instance : Ent Try.prog 73 := ⟨enters_of Try.func73 (by kernel_rfl) rfl⟩
instance : Ent Try.prog 74 := ⟨enters_of Try.func74 (by kernel_rfl) rfl⟩
instance : Ent Try.prog 75 := ⟨enters_of Try.func75 (by kernel_rfl) rfl⟩
instance : Ent Try.prog 76 := ⟨enters_of Try.func76 (by kernel_rfl) rfl⟩
instance : Ent Try.prog 77 := ⟨enters_of Try.func77 (by kernel_rfl) rfl⟩
instance : Ent Try.prog 78 := ⟨enters_of Try.func78 (by kernel_rfl) rfl⟩
instance : Ent Try.prog 79 := ⟨enters_of Try.func79 (by kernel_rfl) rfl⟩
instance : Ent Try.prog 80 := ⟨enters_of Try.func80 (by kernel_rfl) rfl⟩
instance : Ent Try.prog 81 := ⟨enters_of Try.func81 (by kernel_rfl) rfl⟩
instance : Ent Try.prog 82 := ⟨enters_of Try.func82 (by kernel_rfl) rfl⟩
instance : Ent Try.prog 83 := ⟨enters_of Try.func83 (by kernel_rfl) rfl⟩
instance : Ent Try.prog 84 := ⟨enters_of Try.func84 (by kernel_rfl) rfl⟩
instance : Ent Try.prog 85 := ⟨enters_of Try.func85 (by kernel_rfl) rfl⟩
instance : Ent Try.prog 86 := ⟨enters_of Try.func86 (by kernel_rfl) rfl⟩
instance : Ent Try.prog 87 := ⟨enters_of Try.func87 (by kernel_rfl) rfl⟩
instance : Ent Try.prog 88 := ⟨enters_of Try.func88 (by kernel_rfl) rfl⟩
instance : Ent Try.prog 89 := ⟨enters_of Try.func89 (by kernel_rfl) rfl⟩
instance : Ent Try.prog 91 := ⟨enters_of Try.func91 (by kernel_rfl) rfl⟩
instance : Ent Try.prog 92 := ⟨enters_of Try.func92 (by kernel_rfl) rfl⟩
instance : Ent Try.prog 93 := ⟨enters_of Try.func93 (by kernel_rfl) rfl⟩
instance : Ent Try.prog 94 := ⟨enters_of Try.func94 (by kernel_rfl) rfl⟩
instance : Ent Try.prog 95 := ⟨enters_of Try.func95 (by kernel_rfl) rfl⟩
instance : Ent Try.prog 96 := ⟨enters_of Try.func96 (by kernel_rfl) rfl⟩
instance : Ent Try.prog 97 := ⟨enters_of Try.func97 (by kernel_rfl) rfl⟩
instance : Ent Try.prog 98 := ⟨enters_of Try.func98 (by kernel_rfl) rfl⟩
instance : Ent Try.prog 99 := ⟨enters_of Try.func99 (by kernel_rfl) rfl⟩
instance : Ent Try.prog 100 := ⟨enters_of Try.func100 (by kernel_rfl) rfl⟩
instance : Ent Try.prog 101 := ⟨enters_of Try.func101 (by kernel_rfl) rfl⟩
instance : Ent Try.prog 102 := ⟨enters_of Try.func102 (by kernel_rfl) rfl⟩
instance : Ent Try.prog 103 := ⟨enters_of Try.func103 (by kernel_rfl) rfl⟩
instance : Ent Try.prog 104 := ⟨enters_of Try.func104 (by kernel_rfl) rfl⟩
instance : Ent Try.prog 105 := ⟨enters_of Try.func105 (by kernel_rfl) rfl⟩
instance : Ent Try.prog 106 := ⟨enters_of Try.func106 (by kernel_rfl) rfl⟩
instance : Ent Try.prog 107 := ⟨enters_of Try.func107 (by kernel_rfl) rfl⟩
instance : Ent Try.prog 108 := ⟨enters_of Try.func108 (by kernel_rfl) rfl⟩
instance : Ent Try.prog 109 := ⟨enters_of Try.func109 (by kernel_rfl) rfl⟩
instance : Ent Try.prog 110 := ⟨enters_of Try.func110 (by kernel_rfl) rfl⟩
instance : Ent Try.prog 111 := ⟨enters_of Try.func111 (by kernel_rfl) rfl⟩
instance : Ent Try.prog 112 := ⟨enters_of Try.func112 (by kernel_rfl) rfl⟩
end Go.Proofs.Ytlklcjpmfjmenaa
namespace Go.Proofs.Ytlklcjpmfjmenaa

abbrev Sp := Int × Int
/-- the order of spans: by begin, then by end -/
def ltC (a b : Sp) : Prop := a.1 < b.1 ∨ (a.1 = b.1 ∧ a.2 < b.2)
instance (a b : Sp) : Decidable (ltC a b) := by unfold ltC; exact inferInstance
theorem ltC_sto : STO ltC where
  irr a := by unfold ltC; omega
  trans a b c := by unfold ltC; omega
  tri a b := by
    unfold ltC
    by_cases h : a.1 = b.1 ∧ a.2 = b.2
    · exact .inr (.inl (Prod.ext h.1 h.2))
    · omega
def conS (a b : Sp) : Bool := decide (a.1 ≤ b.1 ∧ b.2 ≤ a.2)
/-- of a list: contains no other one -/
def keepShort (l : List Sp) (s : Sp) : Bool := l.all fun t => !(conS s t) || decide (t = s)
/-- of a list: is in no other one -/
def keepLong (l : List Sp) (s : Sp) : Bool := l.all fun t => !(conS t s) || decide (t = s)
theorem keepShort_iff {l : List Sp} {s : Sp} : keepShort l s = true ↔ ∀ t ∈ l, s.1 ≤ t.1 → t.2 ≤ s.2 → t = s := by
  unfold keepShort conS
  rw [List.all_eq_true]
  refine forall_congr' fun t => forall_congr' fun ht => ?_
  by_cases h : t = s
  · simp [h]
  · simp [h]; omega
theorem keepLong_iff {l : List Sp} {s : Sp} : keepLong l s = true ↔ ∀ t ∈ l, t.1 ≤ s.1 → s.2 ≤ t.2 → t = s := by
  unfold keepLong conS
  rw [List.all_eq_true]
  refine forall_congr' fun t => forall_congr' fun ht => ?_
  by_cases h : t = s
  · simp [h]
  · simp [h]; omega
/-- two places of an ascending list -/
theorem asc_at {l : List Sp} (h : l.Pairwise ltC) {i j : Nat} {s t : Sp} (hs : l[i]? = some s) (ht : l[j]? = some t) (hij : i < j) : ltC s t := by
  obtain ⟨hi, rfl⟩ := List.getElem?_eq_some_iff.1 hs
  obtain ⟨hj, rfl⟩ := List.getElem?_eq_some_iff.1 ht
  exact List.pairwise_iff_getElem.1 h i j hi hj hij
theorem asc_le {l : List Sp} (h : l.Pairwise ltC) {i j : Nat} {s t : Sp} (hs : l[i]? = some s) (ht : l[j]? = some t) (hij : i ≤ j) : s = t ∨ ltC s t := by
  rcases Nat.lt_or_ge i j with h1 | h1
  · exact .inr (asc_at h hs ht h1)
  · have : i = j := by omega
    subst this; rw [hs] at ht; exact .inl (by injection ht)

/-! ### shortest: from the last one on -/
/-- the first one with its begin -/
def isFirst (l : List Sp) (j : Nat) (t : Sp) : Prop := l[j]? = some t ∧ (j = 0 ∨ ∀ u, l[j - 1]? = some u → u.1 ≠ t.1)
/-- of the first ones from place i on, least is the least end (−1: none) -/
def LeastOk (l : List Sp) (i : Nat) (least : Int) : Prop :=
  (least = -1 ∧ ∀ j t, i ≤ j → ¬ isFirst l j t) ∨ (0 < least ∧ (∃ j t, i ≤ j ∧ isFirst l j t ∧ t.2 = least) ∧ ∀ j t, i ≤ j → isFirst l j t → least ≤ t.2)
theorem first_of {l : List Sp} (h : l.Pairwise ltC) : ∀ (j : Nat) (t : Sp), l[j]? = some t → ∃ j' u, j' ≤ j ∧ isFirst l j' u ∧ u.1 = t.1 ∧ u.2 ≤ t.2
  | 0, t, ht => ⟨0, t, Nat.le_refl _, ⟨ht, .inl rfl⟩, rfl, Int.le_refl _⟩
  | j + 1, t, ht => by
    obtain ⟨v, hv⟩ : ∃ v, l[j]? = some v := ⟨_, List.getElem?_eq_getElem (by have := (List.getElem?_eq_some_iff.1 ht).1; omega)⟩
    by_cases e : v.1 = t.1
    · obtain ⟨j', u, h1, h2, h3, h4⟩ := first_of h j v hv
      have h5 := asc_at h hv ht (by omega)
      unfold ltC at h5
      exact ⟨j', u, by omega, h2, by omega, by omega⟩
    · refine ⟨j + 1, t, Nat.le_refl _, ⟨ht, .inr fun u hu => ?_⟩, rfl, Int.le_refl _⟩
      rw [Nat.add_sub_cancel, hv] at hu
      injection hu with hu
      rw [← hu]; exact e
theorem LeastOk.skip {l : List Sp} (h : l.Pairwise ltC) {i : Nat} {s t : Sp} {least : Int} (hs : l[i + 1]? = some s) (ht : l[i]? = some t) (e : t.1 = s.1) (hl : LeastOk l (i + 2) least) : keepShort l s = false ∧ LeastOk l (i + 1) least := by
  constructor
  · rw [Bool.eq_false_iff]
    intro hk
    have h1 := asc_at h ht hs (by omega)
    have := keepShort_iff.1 hk t (List.mem_of_getElem? ht) (by omega) (by unfold ltC at h1; omega)
    rw [this] at h1
    exact ltC_sto.irr s h1
  · have hn : ∀ j u, i + 1 ≤ j → isFirst l j u → i + 2 ≤ j := by
      intro j u hj hf
      by_cases hji : j = i + 1
      · subst hji
        exfalso
        rcases hf.2 with h0 | h0
        · omega
        · have hu : u = s := by have := hf.1; rw [hs] at this; injection this with this; exact this.symm
          subst hu
          exact h0 t ht e
      · omega
    rcases hl with ⟨h1, h2⟩ | ⟨h1, ⟨j, u, h2, h3, h4⟩, h5⟩
    · exact .inl ⟨h1, fun j u hj hf => h2 j u (hn j u hj hf) hf⟩
    · exact .inr ⟨h1, ⟨j, u, by omega, h3, h4⟩, fun j u hj hf => h5 j u (hn j u hj hf) hf⟩
theorem LeastOk.keep {l : List Sp} (h : l.Pairwise ltC) (hv : ∀ s ∈ l, 0 ≤ s.1 ∧ s.1 < s.2) {i : Nat} {s : Sp} {least : Int} (hf : isFirst l i s) (hl : LeastOk l (i + 1) least) (hk : least < 0 ∨ s.2 < least) : keepShort l s = true ∧ LeastOk l i s.2 := by
  have hs := hf.1
  constructor
  · refine keepShort_iff.2 fun t ht h1 h2 => ?_
    obtain ⟨j, hj, rfl⟩ := List.mem_iff_getElem.1 ht
    have hjs : l[j]? = some l[j] := List.getElem?_eq_getElem hj
    generalize l[j] = t at *
    rcases Nat.lt_trichotomy j i with h3 | h3 | h3
    · exfalso
      have h4 := asc_at h hjs hs h3
      unfold ltC at h4
      rcases hf.2 with h5 | h5
      · omega
      · obtain ⟨v, hvv⟩ : ∃ v, l[i - 1]? = some v := ⟨_, List.getElem?_eq_getElem (by have := (List.getElem?_eq_some_iff.1 hs).1; omega)⟩
        have h6 := asc_le h hjs hvv (by omega)
        have h7 := asc_at h hvv hs (by omega)
        have h8 := h5 v hvv
        unfold ltC at h6 h7
        rcases h6 with rfl | h6
        · omega
        · omega
    · subst h3
      rw [hs] at hjs; injection hjs with e; exact e.symm
    · exfalso
      have h4 := asc_at h hs hjs h3
      obtain ⟨j', u, k1, k2, k3, k4⟩ := first_of h j t hjs
      have hij : i + 1 ≤ j' := by
        by_cases hle : j' ≤ i
        · have h5 := asc_le h k2.1 hs hle
          unfold ltC at h4 h5
          rcases h5 with rfl | h5
          · omega
          · omega
        · omega
      rcases hl with ⟨l1, l2⟩ | ⟨l1, _, l3⟩
      · exact l2 j' u hij k2
      · have := l3 j' u hij k2
        omega
  · refine .inr ⟨by have := hv s (List.mem_of_getElem? hs); omega, ⟨i, s, Nat.le_refl _, hf, rfl⟩, fun j t hj ht => ?_⟩
    by_cases hji : j = i
    · subst hji
      have := ht.1; rw [hs] at this; injection this with this; rw [this]; exact Int.le_refl _
    · rcases hl with ⟨l1, l2⟩ | ⟨l1, _, l3⟩
      · exact absurd ht (l2 j t (by omega))
      · have := l3 j t (by omega) ht
        omega
theorem LeastOk.drop {l : List Sp} (h : l.Pairwise ltC) {i : Nat} {s : Sp} {least : Int} (hf : isFirst l i s) (hl : LeastOk l (i + 1) least) (hk : ¬ (least < 0 ∨ s.2 < least)) : keepShort l s = false ∧ LeastOk l i least := by
  rcases hl with ⟨l1, _⟩ | ⟨l1, ⟨j, t, l2, l3, l4⟩, l5⟩
  · omega
  · have h4 := asc_at h hf.1 l3.1 (by omega)
    constructor
    · rw [Bool.eq_false_iff]
      intro hkk
      have := keepShort_iff.1 hkk t (List.mem_of_getElem? l3.1) (by unfold ltC at h4; omega) (by omega)
      rw [this] at h4
      exact ltC_sto.irr s h4
    · refine .inr ⟨l1, ⟨j, t, by omega, l3, l4⟩, fun j' u hj hu => ?_⟩
      by_cases hji : j' = i
      · subst hji
        have := hu.1; rw [hf.1] at this; injection this with this; rw [← this]; omega
      · exact l5 j' u (by omega) hu

/-! ### longest: from the first one on -/
/-- the last one with its begin -/
def isLast (l : List Sp) (j : Nat) (t : Sp) : Prop := l[j]? = some t ∧ ∀ u, l[j + 1]? = some u → u.1 ≠ t.1
def MostOk (l : List Sp) (i : Nat) (most : Int) : Prop :=
  (most = -1 ∧ ∀ j t, j < i → ¬ isLast l j t) ∨ (0 < most ∧ (∃ j t, j < i ∧ isLast l j t ∧ t.2 = most) ∧ ∀ j t, j < i → isLast l j t → t.2 ≤ most)
theorem last_of {l : List Sp} (h : l.Pairwise ltC) : ∀ (n j : Nat) (t : Sp), l.length - j = n → l[j]? = some t → ∃ j' u, j ≤ j' ∧ isLast l j' u ∧ u.1 = t.1 ∧ t.2 ≤ u.2
  | 0, j, t, hn, ht => by have := (List.getElem?_eq_some_iff.1 ht).1; omega
  | n + 1, j, t, hn, ht => by
    cases hv : l[j + 1]? with
    | none => exact ⟨j, t, Nat.le_refl _, ⟨ht, fun u hu => by rw [hv] at hu; cases hu⟩, rfl, Int.le_refl _⟩
    | some v =>
      by_cases e : v.1 = t.1
      · obtain ⟨j', u, h1, h2, h3, h4⟩ := last_of h n (j + 1) v (by omega) hv
        have h5 := asc_at h ht hv (by omega)
        unfold ltC at h5
        exact ⟨j', u, by omega, h2, by omega, by omega⟩
      · exact ⟨j, t, Nat.le_refl _, ⟨ht, fun u hu => by rw [hv] at hu; injection hu with hu; rw [← hu]; exact e⟩, rfl, Int.le_refl _⟩
theorem MostOk.skip {l : List Sp} (h : l.Pairwise ltC) {i : Nat} {s t : Sp} {most : Int} (hs : l[i]? = some s) (ht : l[i + 1]? = some t) (e : t.1 = s.1) (hl : MostOk l i most) : keepLong l s = false ∧ MostOk l (i + 1) most := by
  constructor
  · rw [Bool.eq_false_iff]
    intro hk
    have h1 := asc_at h hs ht (by omega)
    have := keepLong_iff.1 hk t (List.mem_of_getElem? ht) (by omega) (by unfold ltC at h1; omega)
    rw [this] at h1
    exact ltC_sto.irr s h1
  · have hn : ∀ j u, j < i + 1 → isLast l j u → j < i := by
      intro j u hj hf
      by_cases hji : j = i
      · subst hji
        exfalso
        have hu : u = s := by have := hf.1; rw [hs] at this; injection this with this; exact this.symm
        subst hu
        exact hf.2 t ht e
      · omega
    rcases hl with ⟨h1, h2⟩ | ⟨h1, ⟨j, u, h2, h3, h4⟩, h5⟩
    · exact .inl ⟨h1, fun j u hj hf => h2 j u (hn j u hj hf) hf⟩
    · exact .inr ⟨h1, ⟨j, u, by omega, h3, h4⟩, fun j u hj hf => h5 j u (hn j u hj hf) hf⟩
theorem MostOk.keep {l : List Sp} (h : l.Pairwise ltC) (hv : ∀ s ∈ l, 0 ≤ s.1 ∧ s.1 < s.2) {i : Nat} {s : Sp} {most : Int} (hf : isLast l i s) (hl : MostOk l i most) (hk : most < s.2) : keepLong l s = true ∧ MostOk l (i + 1) s.2 := by
  have hs := hf.1
  constructor
  · refine keepLong_iff.2 fun t ht h1 h2 => ?_
    obtain ⟨j, hj, rfl⟩ := List.mem_iff_getElem.1 ht
    have hjs : l[j]? = some l[j] := List.getElem?_eq_getElem hj
    generalize l[j] = t at *
    rcases Nat.lt_trichotomy j i with h3 | h3 | h3
    · exfalso
      have h4 := asc_at h hjs hs h3
      obtain ⟨j', u, k1, k2, k3, k4⟩ := last_of h _ j t rfl hjs
      unfold ltC at h4
      have hij : j' < i := by
        by_cases hle : i ≤ j'
        · have h5 := asc_le h hs k2.1 hle
          unfold ltC at h5
          rcases h5 with rfl | h5
          · omega
          · omega
        · omega
      rcases hl with ⟨l1, l2⟩ | ⟨l1, _, l3⟩
      · exact l2 j' u hij k2
      · have := l3 j' u hij k2
        omega
    · subst h3
      rw [hs] at hjs; injection hjs with e; exact e.symm
    · exfalso
      have h4 := asc_at h hs hjs h3
      unfold ltC at h4
      obtain ⟨v, hvv⟩ : ∃ v, l[i + 1]? = some v := ⟨_, List.getElem?_eq_getElem (by omega)⟩
      have h6 := asc_at h hs hvv (by omega)
      have h7 := asc_le h hvv hjs (by omega)
      have h8 := hf.2 v hvv
      unfold ltC at h6 h7
      rcases h7 with rfl | h7
      · omega
      · omega
  · refine .inr ⟨by have := hv s (List.mem_of_getElem? hs); omega, ⟨i, s, by omega, hf, rfl⟩, fun j t hj ht => ?_⟩
    by_cases hji : j = i
    · subst hji
      have := ht.1; rw [hs] at this; injection this with this; rw [this]; exact Int.le_refl _
    · rcases hl with ⟨l1, l2⟩ | ⟨l1, _, l3⟩
      · exact absurd ht (l2 j t (by omega))
      · have := l3 j t (by omega) ht
        omega
theorem MostOk.drop {l : List Sp} (h : l.Pairwise ltC) (hv : ∀ s ∈ l, 0 ≤ s.1 ∧ s.1 < s.2) {i : Nat} {s : Sp} {most : Int} (hf : isLast l i s) (hl : MostOk l i most) (hk : ¬ most < s.2) : keepLong l s = false ∧ MostOk l (i + 1) most := by
  have hsv := hv s (List.mem_of_getElem? hf.1)
  rcases hl with ⟨l1, _⟩ | ⟨l1, ⟨j, t, l2, l3, l4⟩, l5⟩
  · omega
  · have h4 := asc_at h l3.1 hf.1 l2
    constructor
    · rw [Bool.eq_false_iff]
      intro hkk
      have := keepLong_iff.1 hkk t (List.mem_of_getElem? l3.1) (by unfold ltC at h4; omega) (by omega)
      rw [this] at h4
      exact ltC_sto.irr s h4
    · refine .inr ⟨l1, ⟨j, t, by omega, l3, l4⟩, fun j' u hj hu => ?_⟩
      by_cases hji : j' = i
      · subst hji
        have := hu.1; rw [hf.1] at this; injection this with this; rw [← this]; omega
      · exact l5 j' u (by omega) hu

end Go.Proofs.Ytlklcjpmfjmenaa
namespace Go.Proofs.Ytlklcjpmfjmenaa

/-- the order of lists of integers: by the first difference; a beginning comes first -/
def cmpL : List Int → List Int → Int
  | [], [] => 0
  | [], _ :: _ => -1
  | _ :: _, [] => 1
  | a :: l, b :: m => if a < b then -1 else if b < a then 1 else cmpL l m
theorem cmpL_eq : ∀ a b : List Int, cmpL a b = 0 ↔ a = b
  | [], [] => by simp [cmpL]
  | [], _ :: _ => by simp [cmpL]
  | _ :: _, [] => by simp [cmpL]
  | a :: l, b :: m => by
    rw [cmpL, List.cons.injEq]
    by_cases h1 : a < b
    · rw [if_pos h1]; omega
    · rw [if_neg h1]
      by_cases h2 : b < a
      · rw [if_pos h2]; omega
      · rw [if_neg h2, cmpL_eq l m]
        constructor
        · intro h; exact ⟨by omega, h⟩
        · intro h; exact h.2
theorem cmpL_neg : ∀ a b : List Int, cmpL b a = - cmpL a b
  | [], [] => rfl
  | [], _ :: _ => rfl
  | _ :: _, [] => rfl
  | a :: l, b :: m => by
    rw [cmpL, cmpL]
    by_cases h1 : a < b
    · rw [if_pos h1, if_neg (by omega), if_pos h1]; rfl
    · by_cases h2 : b < a
      · rw [if_pos h2, if_neg h1, if_pos h2]
      · rw [if_neg h2, if_neg h1, if_neg h1, if_neg h2, cmpL_neg l m]
theorem cmpL_trans : ∀ a b c : List Int, cmpL a b < 0 → cmpL b c < 0 → cmpL a c < 0
  | [], [], _, h, _ => by simp [cmpL] at h
  | [], _ :: _, [], _, h => by simp [cmpL] at h
  | [], _ :: _, _ :: _, _, _ => by simp [cmpL]
  | _ :: _, [], _, h, _ => by simp [cmpL] at h
  | _ :: _, _ :: _, [], _, h => by simp [cmpL] at h
  | a :: l, b :: m, c :: n, h1, h2 => by
    rw [cmpL] at h1 h2 ⊢
    by_cases ha : a < b
    · by_cases hb : b < c
      · rw [if_pos (by omega)]; omega
      · rw [if_neg hb] at h2
        by_cases hb2 : c < b
        · rw [if_pos hb2] at h2; omega
        · rw [if_pos (by omega)]; omega
    · rw [if_neg ha] at h1
      by_cases ha2 : b < a
      · rw [if_pos ha2] at h1; omega
      · rw [if_neg ha2] at h1
        by_cases hb : b < c
        · rw [if_pos (by omega)]; omega
        · rw [if_neg hb] at h2
          by_cases hb2 : c < b
          · rw [if_pos hb2] at h2; omega
          · rw [if_neg hb2] at h2
            rw [if_neg (by omega), if_neg (by omega)]
            exact cmpL_trans l m n h1 h2
def ltK (a b : List Int) : Prop := cmpL a b < 0
end Go.Proofs.Ytlklcjpmfjmenaa
namespace Go.Proofs.Ytlklcjpmfjmenaa

instance (a b : List Int) : Decidable (ltK a b) := by unfold ltK; exact inferInstance
end Go.Proofs.Ytlklcjpmfjmenaa
namespace Go.Proofs.Ytlklcjpmfjmenaa
open Go.RowKit

structure Mt where
  b : Int
  e : Int
  v : Value
  ls : List Int
def spm (m : Mt) : Sp := (m.b, m.e)
def keyM (m : Mt) : List Int := m.b :: m.e :: m.ls
def okS (s : Sp) : Prop := 0 ≤ s.1 ∧ s.1 < s.2
instance (s : Sp) : Decidable (okS s) := by unfold okS; exact inferInstance
def ascM (l : List Mt) : Prop := l.Pairwise fun a b => ltK (keyM a) (keyM b)
instance (l : List Mt) : Decidable (ascM l) := by unfold ascM; exact inferInstance
def goodM (k : Int) (l : List Mt) : Prop := (0 ≤ k ∧ k ≤ 3) ∧ (∀ m ∈ l, okS (spm m)) ∧ ascM l
instance (k : Int) (l : List Mt) : Decidable (goodM k l) := by unfold goodM; exact inferInstance
end Go.Proofs.Ytlklcjpmfjmenaa
namespace Go.Proofs.Ytlklcjpmfjmenaa
open Go.RowKit

end Go.Proofs.Ytlklcjpmfjmenaa
