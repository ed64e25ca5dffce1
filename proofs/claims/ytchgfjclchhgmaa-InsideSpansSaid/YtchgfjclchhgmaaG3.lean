/- Facts on the types and functions of the program, by program.
   Plain: spans in order, and what the strategies keep of them.
   Plain: matches, their order, and the matches of chosen spans.
   Plain: insertion into an ascending list from behind.
   Plain: matches and what a strategy keeps of them.
   Plain: what the laws about strategies say of lists. -/
import Derived.Test.YtchgfjclchhgmaaProg
import Derived.Test.YtchgfjclchhgmaaG2
namespace Go.Proofs.Ytchgfjclchhgmaa

instance : IsOne Try.prog 1 := ⟨fun _ => by kernel_rfl, fun _ => by kernel_rfl⟩
instance : ElOf Try.prog 1 1 8 := elOf_mk (by kernel_rfl) (by decide)
instance : ZeroOf Try.prog 1 [.nilFunc] := ⟨.nilFunc, fun _ => by kernel_rfl, by kernel_rfl⟩
instance : IsOne Try.prog 2 := ⟨fun _ => by kernel_rfl, fun _ => by kernel_rfl⟩
instance : IntT Try.prog 2 .i64 := ⟨by kernel_rfl⟩
instance : ElOf Try.prog 2 1 8 := elOf_mk (by kernel_rfl) (by decide)
instance : ZeroOf Try.prog 2 [(.int .i64 0)] := ⟨(.int .i64 0), fun _ => by kernel_rfl, by kernel_rfl⟩
instance : IsOne Try.prog 3 := ⟨fun _ => by kernel_rfl, fun _ => by kernel_rfl⟩
instance : IntT Try.prog 3 .i64 := ⟨by kernel_rfl⟩
instance : ElOf Try.prog 3 1 8 := elOf_mk (by kernel_rfl) (by decide)
instance : ZeroOf Try.prog 3 [(.int .i64 0)] := ⟨(.int .i64 0), fun _ => by kernel_rfl, by kernel_rfl⟩
instance : IsOne Try.prog 4 := ⟨fun _ => by kernel_rfl, fun _ => by kernel_rfl⟩
instance : BoolT Try.prog 4 := ⟨by kernel_rfl⟩
instance : ElOf Try.prog 4 1 1 := elOf_mk (by kernel_rfl) (by decide)
instance : ZeroOf Try.prog 4 [(.bool false)] := ⟨(.bool false), fun _ => by kernel_rfl, by kernel_rfl⟩
instance : IsOne Try.prog 5 := ⟨fun _ => by kernel_rfl, fun _ => by kernel_rfl⟩
instance : IntT Try.prog 5 .u8 := ⟨by kernel_rfl⟩
instance : ElOf Try.prog 5 1 1 := elOf_mk (by kernel_rfl) (by decide)
instance : ZeroOf Try.prog 5 [(.int .u8 0)] := ⟨(.int .u8 0), fun _ => by kernel_rfl, by kernel_rfl⟩
instance : IsOne Try.prog 6 := ⟨fun _ => by kernel_rfl, fun _ => by kernel_rfl⟩
instance : IntT Try.prog 6 .u8 := ⟨by kernel_rfl⟩
instance : ElOf Try.prog 6 1 1 := elOf_mk (by kernel_rfl) (by decide)
instance : ZeroOf Try.prog 6 [(.int .u8 0)] := ⟨(.int .u8 0), fun _ => by kernel_rfl, by kernel_rfl⟩
instance : IsAgg Try.prog 7 4 := ⟨fun _ => by kernel_rfl, fun _ => by kernel_rfl⟩
instance : FldAt Try.prog 7 0 0 := ⟨fun _ _ _ => by kernel_rfl⟩
instance : FldAt Try.prog 7 1 1 := ⟨fun _ _ _ => by kernel_rfl⟩
instance : FldAt Try.prog 7 2 2 := ⟨fun _ _ _ => by kernel_rfl⟩
instance : FldAt Try.prog 7 3 3 := ⟨fun _ _ _ => by kernel_rfl⟩
instance : ElOf Try.prog 7 4 24 := elOf_mk (by kernel_rfl) (by decide)
instance : ZeroOf Try.prog 7 [(.int .i64 0), (.int .i64 0), (.bool false), (.int .u8 0)] := ⟨(.agg #[(.int .i64 0), (.int .i64 0), (.bool false), (.int .u8 0)]), fun _ => by kernel_rfl, by kernel_rfl⟩
instance : PlacesOf Try.prog 7 [(0, 1), (1, 1), (2, 1), (3, 1)] [(.int .i64 0), (.int .i64 0), (.bool false), (.int .u8 0)] := placesOf_mk (Try.prog.fieldsOf 7) (.agg #[(.int .i64 0), (.int .i64 0), (.bool false), (.int .u8 0)]) (fun _ => by kernel_rfl) (by kernel_rfl) (by kernel_rfl) (fun _ => by kernel_rfl)
instance : IsAgg Try.prog 8 4 := ⟨fun _ => by kernel_rfl, fun _ => by kernel_rfl⟩
instance : FldAt Try.prog 8 0 0 := ⟨fun _ _ _ => by kernel_rfl⟩
instance : FldAt Try.prog 8 1 1 := ⟨fun _ _ _ => by kernel_rfl⟩
instance : FldAt Try.prog 8 2 2 := ⟨fun _ _ _ => by kernel_rfl⟩
instance : FldAt Try.prog 8 3 3 := ⟨fun _ _ _ => by kernel_rfl⟩
instance : ElOf Try.prog 8 4 24 := elOf_mk (by kernel_rfl) (by decide)
instance : ZeroOf Try.prog 8 [(.int .i64 0), (.int .i64 0), (.bool false), (.int .u8 0)] := ⟨(.agg #[(.int .i64 0), (.int .i64 0), (.bool false), (.int .u8 0)]), fun _ => by kernel_rfl, by kernel_rfl⟩
instance : PlacesOf Try.prog 8 [(0, 1), (1, 1), (2, 1), (3, 1)] [(.int .i64 0), (.int .i64 0), (.bool false), (.int .u8 0)] := placesOf_mk (Try.prog.fieldsOf 8) (.agg #[(.int .i64 0), (.int .i64 0), (.bool false), (.int .u8 0)]) (fun _ => by kernel_rfl) (by kernel_rfl) (by kernel_rfl) (fun _ => by kernel_rfl)
instance : IsOne Try.prog 9 := ⟨fun _ => by kernel_rfl, fun _ => by kernel_rfl⟩
instance : NotInt Try.prog 9 := ⟨.inl (by kernel_rfl)⟩
instance : StrT Try.prog 9 := ⟨by kernel_rfl⟩
instance : ElOf Try.prog 9 1 16 := elOf_mk (by kernel_rfl) (by decide)
instance : ZeroOf Try.prog 9 [(.string ⟨#[]⟩)] := ⟨(.string ⟨#[]⟩), fun _ => by kernel_rfl, by kernel_rfl⟩
instance : IsOne Try.prog 10 := ⟨fun _ => by kernel_rfl, fun _ => by kernel_rfl⟩
instance : NotInt Try.prog 10 := ⟨.inl (by kernel_rfl)⟩
instance : StrT Try.prog 10 := ⟨by kernel_rfl⟩
instance : ElOf Try.prog 10 1 16 := elOf_mk (by kernel_rfl) (by decide)
instance : ZeroOf Try.prog 10 [(.string ⟨#[]⟩)] := ⟨(.string ⟨#[]⟩), fun _ => by kernel_rfl, by kernel_rfl⟩
instance : IsOne Try.prog 11 := ⟨fun _ => by kernel_rfl, fun _ => by kernel_rfl⟩
instance : NotInt Try.prog 11 := ⟨.inl (by kernel_rfl)⟩
instance : StrT Try.prog 11 := ⟨by kernel_rfl⟩
instance : ElOf Try.prog 11 1 16 := elOf_mk (by kernel_rfl) (by decide)
instance : ZeroOf Try.prog 11 [(.string ⟨#[]⟩)] := ⟨(.string ⟨#[]⟩), fun _ => by kernel_rfl, by kernel_rfl⟩
instance : IsOne Try.prog 12 := ⟨fun _ => by kernel_rfl, fun _ => by kernel_rfl⟩
instance : IntT Try.prog 12 .u64 := ⟨by kernel_rfl⟩
instance : ElOf Try.prog 12 1 8 := elOf_mk (by kernel_rfl) (by decide)
instance : ZeroOf Try.prog 12 [(.int .u64 0)] := ⟨(.int .u64 0), fun _ => by kernel_rfl, by kernel_rfl⟩
instance : IsAgg Try.prog 13 2 := ⟨fun _ => by kernel_rfl, fun _ => by kernel_rfl⟩
instance : FldAt Try.prog 13 0 0 := ⟨fun _ _ _ => by kernel_rfl⟩
instance : FldAt Try.prog 13 1 1 := ⟨fun _ _ _ => by kernel_rfl⟩
instance : ElOf Try.prog 13 2 24 := elOf_mk (by kernel_rfl) (by decide)
instance : ZeroOf Try.prog 13 [(.string ⟨#[]⟩), (.int .u64 0)] := ⟨(.agg #[(.string ⟨#[]⟩), (.int .u64 0)]), fun _ => by kernel_rfl, by kernel_rfl⟩
instance : PlacesOf Try.prog 13 [(0, 1), (1, 1)] [(.string ⟨#[]⟩), (.int .u64 0)] := placesOf_mk (Try.prog.fieldsOf 13) (.agg #[(.string ⟨#[]⟩), (.int .u64 0)]) (fun _ => by kernel_rfl) (by kernel_rfl) (by kernel_rfl) (fun _ => by kernel_rfl)
instance : IsAgg Try.prog 14 2 := ⟨fun _ => by kernel_rfl, fun _ => by kernel_rfl⟩
instance : FldAt Try.prog 14 0 0 := ⟨fun _ _ _ => by kernel_rfl⟩
instance : FldAt Try.prog 14 1 1 := ⟨fun _ _ _ => by kernel_rfl⟩
instance : ElOf Try.prog 14 2 24 := elOf_mk (by kernel_rfl) (by decide)
instance : ZeroOf Try.prog 14 [(.string ⟨#[]⟩), (.int .u64 0)] := ⟨(.agg #[(.string ⟨#[]⟩), (.int .u64 0)]), fun _ => by kernel_rfl, by kernel_rfl⟩
instance : PlacesOf Try.prog 14 [(0, 1), (1, 1)] [(.string ⟨#[]⟩), (.int .u64 0)] := placesOf_mk (Try.prog.fieldsOf 14) (.agg #[(.string ⟨#[]⟩), (.int .u64 0)]) (fun _ => by kernel_rfl) (by kernel_rfl) (by kernel_rfl) (fun _ => by kernel_rfl)
instance : IsOne Try.prog 15 := ⟨fun _ => by kernel_rfl, fun _ => by kernel_rfl⟩
instance : ElOf Try.prog 15 1 8 := elOf_mk (by kernel_rfl) (by decide)
instance : ZeroOf Try.prog 15 [(.pointer none)] := ⟨(.pointer none), fun _ => by kernel_rfl, by kernel_rfl⟩
instance : IsOne Try.prog 16 := ⟨fun _ => by kernel_rfl, fun _ => by kernel_rfl⟩
instance : ElOf Try.prog 16 1 8 := elOf_mk (by kernel_rfl) (by decide)
instance : ZeroOf Try.prog 16 [(.pointer none)] := ⟨(.pointer none), fun _ => by kernel_rfl, by kernel_rfl⟩
instance : IsOne Try.prog 17 := ⟨fun _ => by kernel_rfl, fun _ => by kernel_rfl⟩
instance : ElOf Try.prog 17 1 8 := elOf_mk (by kernel_rfl) (by decide)
instance : ZeroOf Try.prog 17 [(.pointer none)] := ⟨(.pointer none), fun _ => by kernel_rfl, by kernel_rfl⟩
instance : IsAgg Try.prog 18 1 := ⟨fun _ => by kernel_rfl, fun _ => by kernel_rfl⟩
instance : FldAt Try.prog 18 0 0 := ⟨fun _ _ _ => by kernel_rfl⟩
instance : ElOf Try.prog 18 1 8 := elOf_mk (by kernel_rfl) (by decide)
instance : ZeroOf Try.prog 18 [(.pointer none)] := ⟨(.agg #[(.pointer none)]), fun _ => by kernel_rfl, by kernel_rfl⟩
instance : PlacesOf Try.prog 18 [(0, 1)] [(.pointer none)] := placesOf_mk (Try.prog.fieldsOf 18) (.agg #[(.pointer none)]) (fun _ => by kernel_rfl) (by kernel_rfl) (by kernel_rfl) (fun _ => by kernel_rfl)
instance : IsAgg Try.prog 19 1 := ⟨fun _ => by kernel_rfl, fun _ => by kernel_rfl⟩
instance : FldAt Try.prog 19 0 0 := ⟨fun _ _ _ => by kernel_rfl⟩
instance : ElOf Try.prog 19 1 8 := elOf_mk (by kernel_rfl) (by decide)
instance : ZeroOf Try.prog 19 [(.pointer none)] := ⟨(.agg #[(.pointer none)]), fun _ => by kernel_rfl, by kernel_rfl⟩
instance : PlacesOf Try.prog 19 [(0, 1)] [(.pointer none)] := placesOf_mk (Try.prog.fieldsOf 19) (.agg #[(.pointer none)]) (fun _ => by kernel_rfl) (by kernel_rfl) (by kernel_rfl) (fun _ => by kernel_rfl)
instance : IsOne Try.prog 20 := ⟨fun _ => by kernel_rfl, fun _ => by kernel_rfl⟩
instance : ElOf Try.prog 20 1 16 := elOf_mk (by kernel_rfl) (by decide)
instance : ZeroOf Try.prog 20 [.nilIface] := ⟨.nilIface, fun _ => by kernel_rfl, by kernel_rfl⟩
instance : IsOne Try.prog 21 := ⟨fun _ => by kernel_rfl, fun _ => by kernel_rfl⟩
instance : IntT Try.prog 21 .i32 := ⟨by kernel_rfl⟩
instance : ElOf Try.prog 21 1 4 := elOf_mk (by kernel_rfl) (by decide)
instance : ZeroOf Try.prog 21 [(.int .i32 0)] := ⟨(.int .i32 0), fun _ => by kernel_rfl, by kernel_rfl⟩
instance : IsOne Try.prog 22 := ⟨fun _ => by kernel_rfl, fun _ => by kernel_rfl⟩
instance : NotInt Try.prog 22 := ⟨.inr ⟨3, by kernel_rfl⟩⟩
instance : SlOf Try.prog 22 3 1 := ⟨by kernel_rfl, fun _ => by kernel_rfl⟩
instance : ElOf Try.prog 22 1 24 := elOf_mk (by kernel_rfl) (by decide)
instance : ZeroOf Try.prog 22 [(.slice none 0 0)] := ⟨(.slice none 0 0), fun _ => by kernel_rfl, by kernel_rfl⟩
instance : IsOne Try.prog 23 := ⟨fun _ => by kernel_rfl, fun _ => by kernel_rfl⟩
instance : NotInt Try.prog 23 := ⟨.inr ⟨38, by kernel_rfl⟩⟩
instance : SlOf Try.prog 23 38 3 := ⟨by kernel_rfl, fun _ => by kernel_rfl⟩
instance : ElOf Try.prog 23 1 24 := elOf_mk (by kernel_rfl) (by decide)
instance : ZeroOf Try.prog 23 [(.slice none 0 0)] := ⟨(.slice none 0 0), fun _ => by kernel_rfl, by kernel_rfl⟩
instance : IsAgg Try.prog 24 2 := ⟨fun _ => by kernel_rfl, fun _ => by kernel_rfl⟩
instance : FldAt Try.prog 24 0 0 := ⟨fun _ _ _ => by kernel_rfl⟩
instance : FldAt Try.prog 24 1 1 := ⟨fun _ _ _ => by kernel_rfl⟩
instance : ElOf Try.prog 24 2 16 := elOf_mk (by kernel_rfl) (by decide)
instance : ZeroOf Try.prog 24 [(.int .i64 0), (.int .i64 0)] := ⟨(.agg #[(.int .i64 0), (.int .i64 0)]), fun _ => by kernel_rfl, by kernel_rfl⟩
instance : PlacesOf Try.prog 24 [(0, 1), (1, 1)] [(.int .i64 0), (.int .i64 0)] := placesOf_mk (Try.prog.fieldsOf 24) (.agg #[(.int .i64 0), (.int .i64 0)]) (fun _ => by kernel_rfl) (by kernel_rfl) (by kernel_rfl) (fun _ => by kernel_rfl)
instance : IsAgg Try.prog 25 2 := ⟨fun _ => by kernel_rfl, fun _ => by kernel_rfl⟩
instance : FldAt Try.prog 25 0 0 := ⟨fun _ _ _ => by kernel_rfl⟩
instance : FldAt Try.prog 25 1 1 := ⟨fun _ _ _ => by kernel_rfl⟩
set_option maxRecDepth 100000 in
instance : FlatEq Try.prog 25 [.int .i64, .int .i64] := ⟨by kernel_rfl, .cons (by kernel_rfl) (of_decide_eq_true (by kernel_rfl)) (fun _ => by kernel_rfl) (by kernel_rfl) (.cons (by kernel_rfl) (of_decide_eq_true (by kernel_rfl)) (fun _ => by kernel_rfl) (by kernel_rfl) (.nil)), by kernel_rfl, by kernel_rfl⟩
instance : ElOf Try.prog 25 2 16 := elOf_mk (by kernel_rfl) (by decide)
instance : ZeroOf Try.prog 25 [(.int .i64 0), (.int .i64 0)] := ⟨(.agg #[(.int .i64 0), (.int .i64 0)]), fun _ => by kernel_rfl, by kernel_rfl⟩
instance : PlacesOf Try.prog 25 [(0, 1), (1, 1)] [(.int .i64 0), (.int .i64 0)] := placesOf_mk (Try.prog.fieldsOf 25) (.agg #[(.int .i64 0), (.int .i64 0)]) (fun _ => by kernel_rfl) (by kernel_rfl) (by kernel_rfl) (fun _ => by kernel_rfl)
instance : IsOne Try.prog 26 := ⟨fun _ => by kernel_rfl, fun _ => by kernel_rfl⟩
instance : NotInt Try.prog 26 := ⟨.inr ⟨72, by kernel_rfl⟩⟩
instance : SlOf Try.prog 26 72 2 := ⟨by kernel_rfl, fun _ => by kernel_rfl⟩
instance : ElOf Try.prog 26 1 24 := elOf_mk (by kernel_rfl) (by decide)
instance : ZeroOf Try.prog 26 [(.slice none 0 0)] := ⟨(.slice none 0 0), fun _ => by kernel_rfl, by kernel_rfl⟩
instance : IsOne Try.prog 27 := ⟨fun _ => by kernel_rfl, fun _ => by kernel_rfl⟩
instance : NotInt Try.prog 27 := ⟨.inr ⟨31, by kernel_rfl⟩⟩
instance : SlOf Try.prog 27 31 1 := ⟨by kernel_rfl, fun _ => by kernel_rfl⟩
instance : ElOf Try.prog 27 1 24 := elOf_mk (by kernel_rfl) (by decide)
instance : ZeroOf Try.prog 27 [(.slice none 0 0)] := ⟨(.slice none 0 0), fun _ => by kernel_rfl, by kernel_rfl⟩
instance : IsOne Try.prog 28 := ⟨fun _ => by kernel_rfl, fun _ => by kernel_rfl⟩
instance : NotInt Try.prog 28 := ⟨.inr ⟨74, by kernel_rfl⟩⟩
instance : SlOf Try.prog 28 74 4 := ⟨by kernel_rfl, fun _ => by kernel_rfl⟩
instance : ElOf Try.prog 28 1 24 := elOf_mk (by kernel_rfl) (by decide)
instance : ZeroOf Try.prog 28 [(.slice none 0 0)] := ⟨(.slice none 0 0), fun _ => by kernel_rfl, by kernel_rfl⟩
instance : IsOne Try.prog 29 := ⟨fun _ => by kernel_rfl, fun _ => by kernel_rfl⟩
instance : NotInt Try.prog 29 := ⟨.inr ⟨52, by kernel_rfl⟩⟩
instance : SlOf Try.prog 29 52 4 := ⟨by kernel_rfl, fun _ => by kernel_rfl⟩
instance : ElOf Try.prog 29 1 24 := elOf_mk (by kernel_rfl) (by decide)
instance : ZeroOf Try.prog 29 [(.slice none 0 0)] := ⟨(.slice none 0 0), fun _ => by kernel_rfl, by kernel_rfl⟩
instance : IsOne Try.prog 30 := ⟨fun _ => by kernel_rfl, fun _ => by kernel_rfl⟩
instance : NotInt Try.prog 30 := ⟨.inr ⟨97, by kernel_rfl⟩⟩
instance : SlOf Try.prog 30 97 4 := ⟨by kernel_rfl, fun _ => by kernel_rfl⟩
instance : ElOf Try.prog 30 1 24 := elOf_mk (by kernel_rfl) (by decide)
instance : ZeroOf Try.prog 30 [(.slice none 0 0)] := ⟨(.slice none 0 0), fun _ => by kernel_rfl, by kernel_rfl⟩
instance : IsOne Try.prog 31 := ⟨fun _ => by kernel_rfl, fun _ => by kernel_rfl⟩
instance : NotInt Try.prog 31 := ⟨.inr ⟨9, by kernel_rfl⟩⟩
instance : SlOf Try.prog 31 9 1 := ⟨by kernel_rfl, fun _ => by kernel_rfl⟩
instance : ElOf Try.prog 31 1 24 := elOf_mk (by kernel_rfl) (by decide)
instance : ZeroOf Try.prog 31 [(.slice none 0 0)] := ⟨(.slice none 0 0), fun _ => by kernel_rfl, by kernel_rfl⟩
instance : IsAgg Try.prog 32 7 := ⟨fun _ => by kernel_rfl, fun _ => by kernel_rfl⟩
instance : FldAt Try.prog 32 0 0 := ⟨fun _ _ _ => by kernel_rfl⟩
instance : FldAt Try.prog 32 1 1 := ⟨fun _ _ _ => by kernel_rfl⟩
instance : FldAt Try.prog 32 2 2 := ⟨fun _ _ _ => by kernel_rfl⟩
instance : FldAt Try.prog 32 3 3 := ⟨fun _ _ _ => by kernel_rfl⟩
instance : FldAt Try.prog 32 4 4 := ⟨fun _ _ _ => by kernel_rfl⟩
instance : FldAt Try.prog 32 5 5 := ⟨fun _ _ _ => by kernel_rfl⟩
instance : FldAt Try.prog 32 6 6 := ⟨fun _ _ _ => by kernel_rfl⟩
instance : ElOf Try.prog 32 7 168 := elOf_mk (by kernel_rfl) (by decide)
instance : ZeroOf Try.prog 32 [(.slice none 0 0), (.slice none 0 0), (.slice none 0 0), (.slice none 0 0), (.slice none 0 0), (.slice none 0 0), (.slice none 0 0)] := ⟨(.agg #[(.slice none 0 0), (.slice none 0 0), (.slice none 0 0), (.slice none 0 0), (.slice none 0 0), (.slice none 0 0), (.slice none 0 0)]), fun _ => by kernel_rfl, by kernel_rfl⟩
instance : PlacesOf Try.prog 32 [(0, 1), (1, 1), (2, 1), (3, 1), (4, 1), (5, 1), (6, 1)] [(.slice none 0 0), (.slice none 0 0), (.slice none 0 0), (.slice none 0 0), (.slice none 0 0), (.slice none 0 0), (.slice none 0 0)] := placesOf_mk (Try.prog.fieldsOf 32) (.agg #[(.slice none 0 0), (.slice none 0 0), (.slice none 0 0), (.slice none 0 0), (.slice none 0 0), (.slice none 0 0), (.slice none 0 0)]) (fun _ => by kernel_rfl) (by kernel_rfl) (by kernel_rfl) (fun _ => by kernel_rfl)
instance : IsAgg Try.prog 33 7 := ⟨fun _ => by kernel_rfl, fun _ => by kernel_rfl⟩
instance : FldAt Try.prog 33 0 0 := ⟨fun _ _ _ => by kernel_rfl⟩
instance : FldAt Try.prog 33 1 1 := ⟨fun _ _ _ => by kernel_rfl⟩
instance : FldAt Try.prog 33 2 2 := ⟨fun _ _ _ => by kernel_rfl⟩
instance : FldAt Try.prog 33 3 3 := ⟨fun _ _ _ => by kernel_rfl⟩
instance : FldAt Try.prog 33 4 4 := ⟨fun _ _ _ => by kernel_rfl⟩
instance : FldAt Try.prog 33 5 5 := ⟨fun _ _ _ => by kernel_rfl⟩
instance : FldAt Try.prog 33 6 6 := ⟨fun _ _ _ => by kernel_rfl⟩
instance : ElOf Try.prog 33 7 168 := elOf_mk (by kernel_rfl) (by decide)
instance : ZeroOf Try.prog 33 [(.slice none 0 0), (.slice none 0 0), (.slice none 0 0), (.slice none 0 0), (.slice none 0 0), (.slice none 0 0), (.slice none 0 0)] := ⟨(.agg #[(.slice none 0 0), (.slice none 0 0), (.slice none 0 0), (.slice none 0 0), (.slice none 0 0), (.slice none 0 0), (.slice none 0 0)]), fun _ => by kernel_rfl, by kernel_rfl⟩
instance : PlacesOf Try.prog 33 [(0, 1), (1, 1), (2, 1), (3, 1), (4, 1), (5, 1), (6, 1)] [(.slice none 0 0), (.slice none 0 0), (.slice none 0 0), (.slice none 0 0), (.slice none 0 0), (.slice none 0 0), (.slice none 0 0)] := placesOf_mk (Try.prog.fieldsOf 33) (.agg #[(.slice none 0 0), (.slice none 0 0), (.slice none 0 0), (.slice none 0 0), (.slice none 0 0), (.slice none 0 0), (.slice none 0 0)]) (fun _ => by kernel_rfl) (by kernel_rfl) (by kernel_rfl) (fun _ => by kernel_rfl)
instance : IsOne Try.prog 34 := ⟨fun _ => by kernel_rfl, fun _ => by kernel_rfl⟩
instance : ElOf Try.prog 34 1 8 := elOf_mk (by kernel_rfl) (by decide)
instance : ZeroOf Try.prog 34 [(.pointer none)] := ⟨(.pointer none), fun _ => by kernel_rfl, by kernel_rfl⟩
instance : IsOne Try.prog 35 := ⟨fun _ => by kernel_rfl, fun _ => by kernel_rfl⟩
instance : ElOf Try.prog 35 1 8 := elOf_mk (by kernel_rfl) (by decide)
instance : ZeroOf Try.prog 35 [.nilFunc] := ⟨.nilFunc, fun _ => by kernel_rfl, by kernel_rfl⟩
instance : IsOne Try.prog 36 := ⟨fun _ => by kernel_rfl, fun _ => by kernel_rfl⟩
instance : ElOf Try.prog 36 1 8 := elOf_mk (by kernel_rfl) (by decide)
instance : ZeroOf Try.prog 36 [.nilFunc] := ⟨.nilFunc, fun _ => by kernel_rfl, by kernel_rfl⟩
instance : IsAgg Try.prog 37 3 := ⟨fun _ => by kernel_rfl, fun _ => by kernel_rfl⟩
instance : FldAt Try.prog 37 0 0 := ⟨fun _ _ _ => by kernel_rfl⟩
instance : FldAt Try.prog 37 1 1 := ⟨fun _ _ _ => by kernel_rfl⟩
instance : FldAt Try.prog 37 2 2 := ⟨fun _ _ _ => by kernel_rfl⟩
instance : ElOf Try.prog 37 3 32 := elOf_mk (by kernel_rfl) (by decide)
instance : ZeroOf Try.prog 37 [(.int .i64 0), (.bool false), (.string ⟨#[]⟩)] := ⟨(.agg #[(.int .i64 0), (.bool false), (.string ⟨#[]⟩)]), fun _ => by kernel_rfl, by kernel_rfl⟩
instance : PlacesOf Try.prog 37 [(0, 1), (1, 1), (2, 1)] [(.int .i64 0), (.bool false), (.string ⟨#[]⟩)] := placesOf_mk (Try.prog.fieldsOf 37) (.agg #[(.int .i64 0), (.bool false), (.string ⟨#[]⟩)]) (fun _ => by kernel_rfl) (by kernel_rfl) (by kernel_rfl) (fun _ => by kernel_rfl)
instance : IsAgg Try.prog 38 3 := ⟨fun _ => by kernel_rfl, fun _ => by kernel_rfl⟩
instance : FldAt Try.prog 38 0 0 := ⟨fun _ _ _ => by kernel_rfl⟩
instance : FldAt Try.prog 38 1 1 := ⟨fun _ _ _ => by kernel_rfl⟩
instance : FldAt Try.prog 38 2 2 := ⟨fun _ _ _ => by kernel_rfl⟩
set_option maxRecDepth 100000 in
instance : FlatEq Try.prog 38 [.int .i64, .bool, .str] := ⟨by kernel_rfl, .cons (by kernel_rfl) (of_decide_eq_true (by kernel_rfl)) (fun _ => by kernel_rfl) (by kernel_rfl) (.cons (by kernel_rfl) (of_decide_eq_true (by kernel_rfl)) (fun _ => by kernel_rfl) (by kernel_rfl) (.cons (by kernel_rfl) (of_decide_eq_true (by kernel_rfl)) (fun _ => by kernel_rfl) (by kernel_rfl) (.nil))), by kernel_rfl, by kernel_rfl⟩
instance : ElOf Try.prog 38 3 32 := elOf_mk (by kernel_rfl) (by decide)
instance : ZeroOf Try.prog 38 [(.int .i64 0), (.bool false), (.string ⟨#[]⟩)] := ⟨(.agg #[(.int .i64 0), (.bool false), (.string ⟨#[]⟩)]), fun _ => by kernel_rfl, by kernel_rfl⟩
instance : PlacesOf Try.prog 38 [(0, 1), (1, 1), (2, 1)] [(.int .i64 0), (.bool false), (.string ⟨#[]⟩)] := placesOf_mk (Try.prog.fieldsOf 38) (.agg #[(.int .i64 0), (.bool false), (.string ⟨#[]⟩)]) (fun _ => by kernel_rfl) (by kernel_rfl) (by kernel_rfl) (fun _ => by kernel_rfl)
instance : IsOne Try.prog 39 := ⟨fun _ => by kernel_rfl, fun _ => by kernel_rfl⟩
instance : ElOf Try.prog 39 1 8 := elOf_mk (by kernel_rfl) (by decide)
instance : ZeroOf Try.prog 39 [.nilFunc] := ⟨.nilFunc, fun _ => by kernel_rfl, by kernel_rfl⟩
instance : IsOne Try.prog 40 := ⟨fun _ => by kernel_rfl, fun _ => by kernel_rfl⟩
instance : ElOf Try.prog 40 1 8 := elOf_mk (by kernel_rfl) (by decide)
instance : ZeroOf Try.prog 40 [.nilFunc] := ⟨.nilFunc, fun _ => by kernel_rfl, by kernel_rfl⟩
instance : IsOne Try.prog 41 := ⟨fun _ => by kernel_rfl, fun _ => by kernel_rfl⟩
instance : IntT Try.prog 41 .i64 := ⟨by kernel_rfl⟩
instance : ElOf Try.prog 41 1 8 := elOf_mk (by kernel_rfl) (by decide)
instance : ZeroOf Try.prog 41 [(.int .i64 0)] := ⟨(.int .i64 0), fun _ => by kernel_rfl, by kernel_rfl⟩
instance : IsOne Try.prog 42 := ⟨fun _ => by kernel_rfl, fun _ => by kernel_rfl⟩
instance : ElOf Try.prog 42 1 8 := elOf_mk (by kernel_rfl) (by decide)
instance : ZeroOf Try.prog 42 [.nilFunc] := ⟨.nilFunc, fun _ => by kernel_rfl, by kernel_rfl⟩
instance : IsOne Try.prog 43 := ⟨fun _ => by kernel_rfl, fun _ => by kernel_rfl⟩
instance : ElOf Try.prog 43 1 8 := elOf_mk (by kernel_rfl) (by decide)
instance : ZeroOf Try.prog 43 [.nilFunc] := ⟨.nilFunc, fun _ => by kernel_rfl, by kernel_rfl⟩
instance : IsOne Try.prog 44 := ⟨fun _ => by kernel_rfl, fun _ => by kernel_rfl⟩
instance : ElOf Try.prog 44 1 8 := elOf_mk (by kernel_rfl) (by decide)
instance : ZeroOf Try.prog 44 [.nilFunc] := ⟨.nilFunc, fun _ => by kernel_rfl, by kernel_rfl⟩
instance : IsOne Try.prog 45 := ⟨fun _ => by kernel_rfl, fun _ => by kernel_rfl⟩
instance : ElOf Try.prog 45 1 8 := elOf_mk (by kernel_rfl) (by decide)
instance : ZeroOf Try.prog 45 [.nilFunc] := ⟨.nilFunc, fun _ => by kernel_rfl, by kernel_rfl⟩
instance : IsOne Try.prog 46 := ⟨fun _ => by kernel_rfl, fun _ => by kernel_rfl⟩
instance : ElOf Try.prog 46 1 8 := elOf_mk (by kernel_rfl) (by decide)
instance : ZeroOf Try.prog 46 [.nilFunc] := ⟨.nilFunc, fun _ => by kernel_rfl, by kernel_rfl⟩
instance : IsOne Try.prog 47 := ⟨fun _ => by kernel_rfl, fun _ => by kernel_rfl⟩
instance : NotInt Try.prog 47 := ⟨.inr ⟨25, by kernel_rfl⟩⟩
instance : SlOf Try.prog 47 25 2 := ⟨by kernel_rfl, fun _ => by kernel_rfl⟩
instance : ElOf Try.prog 47 1 24 := elOf_mk (by kernel_rfl) (by decide)
instance : ZeroOf Try.prog 47 [(.slice none 0 0)] := ⟨(.slice none 0 0), fun _ => by kernel_rfl, by kernel_rfl⟩
instance : IsOne Try.prog 48 := ⟨fun _ => by kernel_rfl, fun _ => by kernel_rfl⟩
instance : ElOf Try.prog 48 1 8 := elOf_mk (by kernel_rfl) (by decide)
instance : ZeroOf Try.prog 48 [.nilFunc] := ⟨.nilFunc, fun _ => by kernel_rfl, by kernel_rfl⟩
instance : IsOne Try.prog 49 := ⟨fun _ => by kernel_rfl, fun _ => by kernel_rfl⟩
instance : ElOf Try.prog 49 1 8 := elOf_mk (by kernel_rfl) (by decide)
instance : ZeroOf Try.prog 49 [.nilFunc] := ⟨.nilFunc, fun _ => by kernel_rfl, by kernel_rfl⟩
instance : IsOne Try.prog 50 := ⟨fun _ => by kernel_rfl, fun _ => by kernel_rfl⟩
instance : NotInt Try.prog 50 := ⟨.inr ⟨89, by kernel_rfl⟩⟩
instance : SlOf Try.prog 50 89 2 := ⟨by kernel_rfl, fun _ => by kernel_rfl⟩
instance : ElOf Try.prog 50 1 24 := elOf_mk (by kernel_rfl) (by decide)
instance : ZeroOf Try.prog 50 [(.slice none 0 0)] := ⟨(.slice none 0 0), fun _ => by kernel_rfl, by kernel_rfl⟩
instance : IsAgg Try.prog 51 4 := ⟨fun _ => by kernel_rfl, fun _ => by kernel_rfl⟩
instance : FldAt Try.prog 51 0 0 := ⟨fun _ _ _ => by kernel_rfl⟩
instance : FldAt Try.prog 51 1 1 := ⟨fun _ _ _ => by kernel_rfl⟩
instance : FldAt Try.prog 51 2 2 := ⟨fun _ _ _ => by kernel_rfl⟩
instance : FldAt Try.prog 51 3 3 := ⟨fun _ _ _ => by kernel_rfl⟩
instance : ElOf Try.prog 51 4 56 := elOf_mk (by kernel_rfl) (by decide)
instance : ZeroOf Try.prog 51 [(.string ⟨#[]⟩), (.int .i64 0), (.int .i64 0), (.slice none 0 0)] := ⟨(.agg #[(.string ⟨#[]⟩), (.int .i64 0), (.int .i64 0), (.slice none 0 0)]), fun _ => by kernel_rfl, by kernel_rfl⟩
instance : PlacesOf Try.prog 51 [(0, 1), (1, 1), (2, 1), (3, 1)] [(.string ⟨#[]⟩), (.int .i64 0), (.int .i64 0), (.slice none 0 0)] := placesOf_mk (Try.prog.fieldsOf 51) (.agg #[(.string ⟨#[]⟩), (.int .i64 0), (.int .i64 0), (.slice none 0 0)]) (fun _ => by kernel_rfl) (by kernel_rfl) (by kernel_rfl) (fun _ => by kernel_rfl)
instance : IsAgg Try.prog 52 4 := ⟨fun _ => by kernel_rfl, fun _ => by kernel_rfl⟩
instance : FldAt Try.prog 52 0 0 := ⟨fun _ _ _ => by kernel_rfl⟩
instance : FldAt Try.prog 52 1 1 := ⟨fun _ _ _ => by kernel_rfl⟩
instance : FldAt Try.prog 52 2 2 := ⟨fun _ _ _ => by kernel_rfl⟩
instance : FldAt Try.prog 52 3 3 := ⟨fun _ _ _ => by kernel_rfl⟩
instance : ElOf Try.prog 52 4 56 := elOf_mk (by kernel_rfl) (by decide)
instance : ZeroOf Try.prog 52 [(.string ⟨#[]⟩), (.int .i64 0), (.int .i64 0), (.slice none 0 0)] := ⟨(.agg #[(.string ⟨#[]⟩), (.int .i64 0), (.int .i64 0), (.slice none 0 0)]), fun _ => by kernel_rfl, by kernel_rfl⟩
instance : PlacesOf Try.prog 52 [(0, 1), (1, 1), (2, 1), (3, 1)] [(.string ⟨#[]⟩), (.int .i64 0), (.int .i64 0), (.slice none 0 0)] := placesOf_mk (Try.prog.fieldsOf 52) (.agg #[(.string ⟨#[]⟩), (.int .i64 0), (.int .i64 0), (.slice none 0 0)]) (fun _ => by kernel_rfl) (by kernel_rfl) (by kernel_rfl) (fun _ => by kernel_rfl)
instance : IsOne Try.prog 53 := ⟨fun _ => by kernel_rfl, fun _ => by kernel_rfl⟩
instance : ElOf Try.prog 53 1 8 := elOf_mk (by kernel_rfl) (by decide)
instance : ZeroOf Try.prog 53 [.nilFunc] := ⟨.nilFunc, fun _ => by kernel_rfl, by kernel_rfl⟩
instance : IsOne Try.prog 54 := ⟨fun _ => by kernel_rfl, fun _ => by kernel_rfl⟩
instance : NotInt Try.prog 54 := ⟨.inr ⟨77, by kernel_rfl⟩⟩
instance : SlOf Try.prog 54 77 3 := ⟨by kernel_rfl, fun _ => by kernel_rfl⟩
instance : ElOf Try.prog 54 1 24 := elOf_mk (by kernel_rfl) (by decide)
instance : ZeroOf Try.prog 54 [(.slice none 0 0)] := ⟨(.slice none 0 0), fun _ => by kernel_rfl, by kernel_rfl⟩
instance : IsOne Try.prog 55 := ⟨fun _ => by kernel_rfl, fun _ => by kernel_rfl⟩
instance : ElOf Try.prog 55 1 8 := elOf_mk (by kernel_rfl) (by decide)
instance : ZeroOf Try.prog 55 [.nilFunc] := ⟨.nilFunc, fun _ => by kernel_rfl, by kernel_rfl⟩
instance : IsOne Try.prog 56 := ⟨fun _ => by kernel_rfl, fun _ => by kernel_rfl⟩
instance : ElOf Try.prog 56 1 8 := elOf_mk (by kernel_rfl) (by decide)
instance : ZeroOf Try.prog 56 [.nilFunc] := ⟨.nilFunc, fun _ => by kernel_rfl, by kernel_rfl⟩
instance : IsOne Try.prog 57 := ⟨fun _ => by kernel_rfl, fun _ => by kernel_rfl⟩
instance : ElOf Try.prog 57 1 8 := elOf_mk (by kernel_rfl) (by decide)
instance : ZeroOf Try.prog 57 [.nilFunc] := ⟨.nilFunc, fun _ => by kernel_rfl, by kernel_rfl⟩
instance : IsOne Try.prog 58 := ⟨fun _ => by kernel_rfl, fun _ => by kernel_rfl⟩
instance : ElOf Try.prog 58 1 8 := elOf_mk (by kernel_rfl) (by decide)
instance : ZeroOf Try.prog 58 [.nilFunc] := ⟨.nilFunc, fun _ => by kernel_rfl, by kernel_rfl⟩
instance : IsOne Try.prog 59 := ⟨fun _ => by kernel_rfl, fun _ => by kernel_rfl⟩
instance : ElOf Try.prog 59 1 8 := elOf_mk (by kernel_rfl) (by decide)
instance : ZeroOf Try.prog 59 [.nilFunc] := ⟨.nilFunc, fun _ => by kernel_rfl, by kernel_rfl⟩
instance : IsAgg Try.prog 60 2 := ⟨fun _ => by kernel_rfl, fun _ => by kernel_rfl⟩
instance : FldAt Try.prog 60 0 0 := ⟨fun _ _ _ => by kernel_rfl⟩
instance : FldAt Try.prog 60 1 1 := ⟨fun _ _ _ => by kernel_rfl⟩
instance : ElOf Try.prog 60 2 32 := elOf_mk (by kernel_rfl) (by decide)
instance : ZeroOf Try.prog 60 [(.slice none 0 0), (.int .i64 0)] := ⟨(.agg #[(.slice none 0 0), (.int .i64 0)]), fun _ => by kernel_rfl, by kernel_rfl⟩
instance : PlacesOf Try.prog 60 [(0, 1), (1, 1)] [(.slice none 0 0), (.int .i64 0)] := placesOf_mk (Try.prog.fieldsOf 60) (.agg #[(.slice none 0 0), (.int .i64 0)]) (fun _ => by kernel_rfl) (by kernel_rfl) (by kernel_rfl) (fun _ => by kernel_rfl)
instance : IsAgg Try.prog 61 2 := ⟨fun _ => by kernel_rfl, fun _ => by kernel_rfl⟩
instance : FldAt Try.prog 61 0 0 := ⟨fun _ _ _ => by kernel_rfl⟩
instance : FldAt Try.prog 61 1 1 := ⟨fun _ _ _ => by kernel_rfl⟩
instance : ElOf Try.prog 61 2 32 := elOf_mk (by kernel_rfl) (by decide)
instance : ZeroOf Try.prog 61 [(.slice none 0 0), (.int .i64 0)] := ⟨(.agg #[(.slice none 0 0), (.int .i64 0)]), fun _ => by kernel_rfl, by kernel_rfl⟩
instance : PlacesOf Try.prog 61 [(0, 1), (1, 1)] [(.slice none 0 0), (.int .i64 0)] := placesOf_mk (Try.prog.fieldsOf 61) (.agg #[(.slice none 0 0), (.int .i64 0)]) (fun _ => by kernel_rfl) (by kernel_rfl) (by kernel_rfl) (fun _ => by kernel_rfl)
instance : IsOne Try.prog 62 := ⟨fun _ => by kernel_rfl, fun _ => by kernel_rfl⟩
instance : ElOf Try.prog 62 1 8 := elOf_mk (by kernel_rfl) (by decide)
instance : ZeroOf Try.prog 62 [.nilFunc] := ⟨.nilFunc, fun _ => by kernel_rfl, by kernel_rfl⟩
instance : IsOne Try.prog 64 := ⟨fun _ => by kernel_rfl, fun _ => by kernel_rfl⟩
instance : ElOf Try.prog 64 1 8 := elOf_mk (by kernel_rfl) (by decide)
instance : ZeroOf Try.prog 64 [.nilFunc] := ⟨.nilFunc, fun _ => by kernel_rfl, by kernel_rfl⟩
instance : IsOne Try.prog 65 := ⟨fun _ => by kernel_rfl, fun _ => by kernel_rfl⟩
instance : ElOf Try.prog 65 1 8 := elOf_mk (by kernel_rfl) (by decide)
instance : ZeroOf Try.prog 65 [.nilFunc] := ⟨.nilFunc, fun _ => by kernel_rfl, by kernel_rfl⟩
instance : IsOne Try.prog 66 := ⟨fun _ => by kernel_rfl, fun _ => by kernel_rfl⟩
instance : ElOf Try.prog 66 1 8 := elOf_mk (by kernel_rfl) (by decide)
instance : ZeroOf Try.prog 66 [.nilFunc] := ⟨.nilFunc, fun _ => by kernel_rfl, by kernel_rfl⟩
instance : IsOne Try.prog 67 := ⟨fun _ => by kernel_rfl, fun _ => by kernel_rfl⟩
instance : ElOf Try.prog 67 1 8 := elOf_mk (by kernel_rfl) (by decide)
instance : ZeroOf Try.prog 67 [.nilFunc] := ⟨.nilFunc, fun _ => by kernel_rfl, by kernel_rfl⟩
instance : IsOne Try.prog 68 := ⟨fun _ => by kernel_rfl, fun _ => by kernel_rfl⟩
instance : ElOf Try.prog 68 1 8 := elOf_mk (by kernel_rfl) (by decide)
instance : ZeroOf Try.prog 68 [.nilFunc] := ⟨.nilFunc, fun _ => by kernel_rfl, by kernel_rfl⟩
instance : IsOne Try.prog 69 := ⟨fun _ => by kernel_rfl, fun _ => by kernel_rfl⟩
instance : ElOf Try.prog 69 1 8 := elOf_mk (by kernel_rfl) (by decide)
instance : ZeroOf Try.prog 69 [.nilFunc] := ⟨.nilFunc, fun _ => by kernel_rfl, by kernel_rfl⟩
instance : IsOne Try.prog 70 := ⟨fun _ => by kernel_rfl, fun _ => by kernel_rfl⟩
instance : ElOf Try.prog 70 1 8 := elOf_mk (by kernel_rfl) (by decide)
instance : ZeroOf Try.prog 70 [.nilFunc] := ⟨.nilFunc, fun _ => by kernel_rfl, by kernel_rfl⟩
instance : IsAgg Try.prog 71 2 := ⟨fun _ => by kernel_rfl, fun _ => by kernel_rfl⟩
instance : FldAt Try.prog 71 0 0 := ⟨fun _ _ _ => by kernel_rfl⟩
instance : FldAt Try.prog 71 1 1 := ⟨fun _ _ _ => by kernel_rfl⟩
instance : ElOf Try.prog 71 2 24 := elOf_mk (by kernel_rfl) (by decide)
instance : ZeroOf Try.prog 71 [(.string ⟨#[]⟩), (.bool false)] := ⟨(.agg #[(.string ⟨#[]⟩), (.bool false)]), fun _ => by kernel_rfl, by kernel_rfl⟩
instance : PlacesOf Try.prog 71 [(0, 1), (1, 1)] [(.string ⟨#[]⟩), (.bool false)] := placesOf_mk (Try.prog.fieldsOf 71) (.agg #[(.string ⟨#[]⟩), (.bool false)]) (fun _ => by kernel_rfl) (by kernel_rfl) (by kernel_rfl) (fun _ => by kernel_rfl)
instance : IsAgg Try.prog 72 2 := ⟨fun _ => by kernel_rfl, fun _ => by kernel_rfl⟩
instance : FldAt Try.prog 72 0 0 := ⟨fun _ _ _ => by kernel_rfl⟩
instance : FldAt Try.prog 72 1 1 := ⟨fun _ _ _ => by kernel_rfl⟩
set_option maxRecDepth 100000 in
instance : FlatEq Try.prog 72 [.str, .bool] := ⟨by kernel_rfl, .cons (by kernel_rfl) (of_decide_eq_true (by kernel_rfl)) (fun _ => by kernel_rfl) (by kernel_rfl) (.cons (by kernel_rfl) (of_decide_eq_true (by kernel_rfl)) (fun _ => by kernel_rfl) (by kernel_rfl) (.nil)), by kernel_rfl, by kernel_rfl⟩
instance : ElOf Try.prog 72 2 24 := elOf_mk (by kernel_rfl) (by decide)
instance : ZeroOf Try.prog 72 [(.string ⟨#[]⟩), (.bool false)] := ⟨(.agg #[(.string ⟨#[]⟩), (.bool false)]), fun _ => by kernel_rfl, by kernel_rfl⟩
instance : PlacesOf Try.prog 72 [(0, 1), (1, 1)] [(.string ⟨#[]⟩), (.bool false)] := placesOf_mk (Try.prog.fieldsOf 72) (.agg #[(.string ⟨#[]⟩), (.bool false)]) (fun _ => by kernel_rfl) (by kernel_rfl) (by kernel_rfl) (fun _ => by kernel_rfl)
instance : IsAgg Try.prog 73 4 := ⟨fun _ => by kernel_rfl, fun _ => by kernel_rfl⟩
instance : FldAt Try.prog 73 0 0 := ⟨fun _ _ _ => by kernel_rfl⟩
instance : FldAt Try.prog 73 1 1 := ⟨fun _ _ _ => by kernel_rfl⟩
instance : FldAt Try.prog 73 2 2 := ⟨fun _ _ _ => by kernel_rfl⟩
instance : FldAt Try.prog 73 3 3 := ⟨fun _ _ _ => by kernel_rfl⟩
instance : ElOf Try.prog 73 4 56 := elOf_mk (by kernel_rfl) (by decide)
instance : ZeroOf Try.prog 73 [(.string ⟨#[]⟩), (.int .i64 0), (.int .i64 0), (.slice none 0 0)] := ⟨(.agg #[(.string ⟨#[]⟩), (.int .i64 0), (.int .i64 0), (.slice none 0 0)]), fun _ => by kernel_rfl, by kernel_rfl⟩
instance : PlacesOf Try.prog 73 [(0, 1), (1, 1), (2, 1), (3, 1)] [(.string ⟨#[]⟩), (.int .i64 0), (.int .i64 0), (.slice none 0 0)] := placesOf_mk (Try.prog.fieldsOf 73) (.agg #[(.string ⟨#[]⟩), (.int .i64 0), (.int .i64 0), (.slice none 0 0)]) (fun _ => by kernel_rfl) (by kernel_rfl) (by kernel_rfl) (fun _ => by kernel_rfl)
instance : IsAgg Try.prog 74 4 := ⟨fun _ => by kernel_rfl, fun _ => by kernel_rfl⟩
instance : FldAt Try.prog 74 0 0 := ⟨fun _ _ _ => by kernel_rfl⟩
instance : FldAt Try.prog 74 1 1 := ⟨fun _ _ _ => by kernel_rfl⟩
instance : FldAt Try.prog 74 2 2 := ⟨fun _ _ _ => by kernel_rfl⟩
instance : FldAt Try.prog 74 3 3 := ⟨fun _ _ _ => by kernel_rfl⟩
instance : ElOf Try.prog 74 4 56 := elOf_mk (by kernel_rfl) (by decide)
instance : ZeroOf Try.prog 74 [(.string ⟨#[]⟩), (.int .i64 0), (.int .i64 0), (.slice none 0 0)] := ⟨(.agg #[(.string ⟨#[]⟩), (.int .i64 0), (.int .i64 0), (.slice none 0 0)]), fun _ => by kernel_rfl, by kernel_rfl⟩
instance : PlacesOf Try.prog 74 [(0, 1), (1, 1), (2, 1), (3, 1)] [(.string ⟨#[]⟩), (.int .i64 0), (.int .i64 0), (.slice none 0 0)] := placesOf_mk (Try.prog.fieldsOf 74) (.agg #[(.string ⟨#[]⟩), (.int .i64 0), (.int .i64 0), (.slice none 0 0)]) (fun _ => by kernel_rfl) (by kernel_rfl) (by kernel_rfl) (fun _ => by kernel_rfl)
instance : IsOne Try.prog 75 := ⟨fun _ => by kernel_rfl, fun _ => by kernel_rfl⟩
instance : ElOf Try.prog 75 1 8 := elOf_mk (by kernel_rfl) (by decide)
instance : ZeroOf Try.prog 75 [.nilFunc] := ⟨.nilFunc, fun _ => by kernel_rfl, by kernel_rfl⟩
instance : IsAgg Try.prog 76 3 := ⟨fun _ => by kernel_rfl, fun _ => by kernel_rfl⟩
instance : FldAt Try.prog 76 0 0 := ⟨fun _ _ _ => by kernel_rfl⟩
instance : FldAt Try.prog 76 1 1 := ⟨fun _ _ _ => by kernel_rfl⟩
instance : FldAt Try.prog 76 2 2 := ⟨fun _ _ _ => by kernel_rfl⟩
instance : ElOf Try.prog 76 3 40 := elOf_mk (by kernel_rfl) (by decide)
instance : ZeroOf Try.prog 76 [(.int .i64 0), (.int .i64 0), (.slice none 0 0)] := ⟨(.agg #[(.int .i64 0), (.int .i64 0), (.slice none 0 0)]), fun _ => by kernel_rfl, by kernel_rfl⟩
instance : PlacesOf Try.prog 76 [(0, 1), (1, 1), (2, 1)] [(.int .i64 0), (.int .i64 0), (.slice none 0 0)] := placesOf_mk (Try.prog.fieldsOf 76) (.agg #[(.int .i64 0), (.int .i64 0), (.slice none 0 0)]) (fun _ => by kernel_rfl) (by kernel_rfl) (by kernel_rfl) (fun _ => by kernel_rfl)
instance : IsAgg Try.prog 77 3 := ⟨fun _ => by kernel_rfl, fun _ => by kernel_rfl⟩
instance : FldAt Try.prog 77 0 0 := ⟨fun _ _ _ => by kernel_rfl⟩
instance : FldAt Try.prog 77 1 1 := ⟨fun _ _ _ => by kernel_rfl⟩
instance : FldAt Try.prog 77 2 2 := ⟨fun _ _ _ => by kernel_rfl⟩
instance : ElOf Try.prog 77 3 40 := elOf_mk (by kernel_rfl) (by decide)
instance : ZeroOf Try.prog 77 [(.int .i64 0), (.int .i64 0), (.slice none 0 0)] := ⟨(.agg #[(.int .i64 0), (.int .i64 0), (.slice none 0 0)]), fun _ => by kernel_rfl, by kernel_rfl⟩
instance : PlacesOf Try.prog 77 [(0, 1), (1, 1), (2, 1)] [(.int .i64 0), (.int .i64 0), (.slice none 0 0)] := placesOf_mk (Try.prog.fieldsOf 77) (.agg #[(.int .i64 0), (.int .i64 0), (.slice none 0 0)]) (fun _ => by kernel_rfl) (by kernel_rfl) (by kernel_rfl) (fun _ => by kernel_rfl)
instance : IsOne Try.prog 78 := ⟨fun _ => by kernel_rfl, fun _ => by kernel_rfl⟩
instance : ElOf Try.prog 78 1 8 := elOf_mk (by kernel_rfl) (by decide)
instance : ZeroOf Try.prog 78 [.nilFunc] := ⟨.nilFunc, fun _ => by kernel_rfl, by kernel_rfl⟩
instance : IsOne Try.prog 79 := ⟨fun _ => by kernel_rfl, fun _ => by kernel_rfl⟩
instance : ElOf Try.prog 79 1 8 := elOf_mk (by kernel_rfl) (by decide)
instance : ZeroOf Try.prog 79 [.nilFunc] := ⟨.nilFunc, fun _ => by kernel_rfl, by kernel_rfl⟩
instance : IsOne Try.prog 80 := ⟨fun _ => by kernel_rfl, fun _ => by kernel_rfl⟩
instance : ElOf Try.prog 80 1 8 := elOf_mk (by kernel_rfl) (by decide)
instance : ZeroOf Try.prog 80 [.nilFunc] := ⟨.nilFunc, fun _ => by kernel_rfl, by kernel_rfl⟩
instance : IsOne Try.prog 81 := ⟨fun _ => by kernel_rfl, fun _ => by kernel_rfl⟩
instance : ElOf Try.prog 81 1 8 := elOf_mk (by kernel_rfl) (by decide)
instance : ZeroOf Try.prog 81 [.nilFunc] := ⟨.nilFunc, fun _ => by kernel_rfl, by kernel_rfl⟩
instance : IsOne Try.prog 82 := ⟨fun _ => by kernel_rfl, fun _ => by kernel_rfl⟩
instance : ElOf Try.prog 82 1 8 := elOf_mk (by kernel_rfl) (by decide)
instance : ZeroOf Try.prog 82 [.nilFunc] := ⟨.nilFunc, fun _ => by kernel_rfl, by kernel_rfl⟩
instance : IsOne Try.prog 83 := ⟨fun _ => by kernel_rfl, fun _ => by kernel_rfl⟩
instance : ElOf Try.prog 83 1 8 := elOf_mk (by kernel_rfl) (by decide)
instance : ZeroOf Try.prog 83 [.nilFunc] := ⟨.nilFunc, fun _ => by kernel_rfl, by kernel_rfl⟩
instance : IsOne Try.prog 84 := ⟨fun _ => by kernel_rfl, fun _ => by kernel_rfl⟩
instance : ElOf Try.prog 84 1 8 := elOf_mk (by kernel_rfl) (by decide)
instance : ZeroOf Try.prog 84 [.nilFunc] := ⟨.nilFunc, fun _ => by kernel_rfl, by kernel_rfl⟩
instance : IsOne Try.prog 85 := ⟨fun _ => by kernel_rfl, fun _ => by kernel_rfl⟩
instance : ElOf Try.prog 85 1 8 := elOf_mk (by kernel_rfl) (by decide)
instance : ZeroOf Try.prog 85 [.nilFunc] := ⟨.nilFunc, fun _ => by kernel_rfl, by kernel_rfl⟩
instance : IsOne Try.prog 86 := ⟨fun _ => by kernel_rfl, fun _ => by kernel_rfl⟩
instance : ElOf Try.prog 86 1 8 := elOf_mk (by kernel_rfl) (by decide)
instance : ZeroOf Try.prog 86 [.nilFunc] := ⟨.nilFunc, fun _ => by kernel_rfl, by kernel_rfl⟩
instance : IsOne Try.prog 87 := ⟨fun _ => by kernel_rfl, fun _ => by kernel_rfl⟩
instance : ElOf Try.prog 87 1 8 := elOf_mk (by kernel_rfl) (by decide)
instance : ZeroOf Try.prog 87 [.nilFunc] := ⟨.nilFunc, fun _ => by kernel_rfl, by kernel_rfl⟩
instance : IsAgg Try.prog 88 2 := ⟨fun _ => by kernel_rfl, fun _ => by kernel_rfl⟩
instance : FldAt Try.prog 88 0 0 := ⟨fun _ _ _ => by kernel_rfl⟩
instance : FldAt Try.prog 88 1 1 := ⟨fun _ _ _ => by kernel_rfl⟩
instance : ElOf Try.prog 88 2 32 := elOf_mk (by kernel_rfl) (by decide)
instance : ZeroOf Try.prog 88 [(.string ⟨#[]⟩), (.string ⟨#[]⟩)] := ⟨(.agg #[(.string ⟨#[]⟩), (.string ⟨#[]⟩)]), fun _ => by kernel_rfl, by kernel_rfl⟩
instance : PlacesOf Try.prog 88 [(0, 1), (1, 1)] [(.string ⟨#[]⟩), (.string ⟨#[]⟩)] := placesOf_mk (Try.prog.fieldsOf 88) (.agg #[(.string ⟨#[]⟩), (.string ⟨#[]⟩)]) (fun _ => by kernel_rfl) (by kernel_rfl) (by kernel_rfl) (fun _ => by kernel_rfl)
instance : IsAgg Try.prog 89 2 := ⟨fun _ => by kernel_rfl, fun _ => by kernel_rfl⟩
instance : FldAt Try.prog 89 0 0 := ⟨fun _ _ _ => by kernel_rfl⟩
instance : FldAt Try.prog 89 1 1 := ⟨fun _ _ _ => by kernel_rfl⟩
set_option maxRecDepth 100000 in
instance : FlatEq Try.prog 89 [.str, .str] := ⟨by kernel_rfl, .cons (by kernel_rfl) (of_decide_eq_true (by kernel_rfl)) (fun _ => by kernel_rfl) (by kernel_rfl) (.cons (by kernel_rfl) (of_decide_eq_true (by kernel_rfl)) (fun _ => by kernel_rfl) (by kernel_rfl) (.nil)), by kernel_rfl, by kernel_rfl⟩
instance : ElOf Try.prog 89 2 32 := elOf_mk (by kernel_rfl) (by decide)
instance : ZeroOf Try.prog 89 [(.string ⟨#[]⟩), (.string ⟨#[]⟩)] := ⟨(.agg #[(.string ⟨#[]⟩), (.string ⟨#[]⟩)]), fun _ => by kernel_rfl, by kernel_rfl⟩
instance : PlacesOf Try.prog 89 [(0, 1), (1, 1)] [(.string ⟨#[]⟩), (.string ⟨#[]⟩)] := placesOf_mk (Try.prog.fieldsOf 89) (.agg #[(.string ⟨#[]⟩), (.string ⟨#[]⟩)]) (fun _ => by kernel_rfl) (by kernel_rfl) (by kernel_rfl) (fun _ => by kernel_rfl)
instance : IsOne Try.prog 90 := ⟨fun _ => by kernel_rfl, fun _ => by kernel_rfl⟩
instance : ElOf Try.prog 90 1 8 := elOf_mk (by kernel_rfl) (by decide)
instance : ZeroOf Try.prog 90 [.nilFunc] := ⟨.nilFunc, fun _ => by kernel_rfl, by kernel_rfl⟩
instance : IsOne Try.prog 91 := ⟨fun _ => by kernel_rfl, fun _ => by kernel_rfl⟩
instance : ElOf Try.prog 91 1 8 := elOf_mk (by kernel_rfl) (by decide)
instance : ZeroOf Try.prog 91 [.nilFunc] := ⟨.nilFunc, fun _ => by kernel_rfl, by kernel_rfl⟩
instance : IsOne Try.prog 92 := ⟨fun _ => by kernel_rfl, fun _ => by kernel_rfl⟩
instance : ElOf Try.prog 92 1 8 := elOf_mk (by kernel_rfl) (by decide)
instance : ZeroOf Try.prog 92 [(.pointer none)] := ⟨(.pointer none), fun _ => by kernel_rfl, by kernel_rfl⟩
instance : IsOne Try.prog 93 := ⟨fun _ => by kernel_rfl, fun _ => by kernel_rfl⟩
instance : ElOf Try.prog 93 1 8 := elOf_mk (by kernel_rfl) (by decide)
instance : ZeroOf Try.prog 93 [.nilFunc] := ⟨.nilFunc, fun _ => by kernel_rfl, by kernel_rfl⟩
instance : IsOne Try.prog 94 := ⟨fun _ => by kernel_rfl, fun _ => by kernel_rfl⟩
instance : ElOf Try.prog 94 1 8 := elOf_mk (by kernel_rfl) (by decide)
instance : ZeroOf Try.prog 94 [.nilFunc] := ⟨.nilFunc, fun _ => by kernel_rfl, by kernel_rfl⟩
instance : IsOne Try.prog 95 := ⟨fun _ => by kernel_rfl, fun _ => by kernel_rfl⟩
instance : ElOf Try.prog 95 1 8 := elOf_mk (by kernel_rfl) (by decide)
instance : ZeroOf Try.prog 95 [.nilFunc] := ⟨.nilFunc, fun _ => by kernel_rfl, by kernel_rfl⟩
instance : IsAgg Try.prog 96 4 := ⟨fun _ => by kernel_rfl, fun _ => by kernel_rfl⟩
instance : FldAt Try.prog 96 0 0 := ⟨fun _ _ _ => by kernel_rfl⟩
instance : FldAt Try.prog 96 1 1 := ⟨fun _ _ _ => by kernel_rfl⟩
instance : FldAt Try.prog 96 2 2 := ⟨fun _ _ _ => by kernel_rfl⟩
instance : FldAt Try.prog 96 3 3 := ⟨fun _ _ _ => by kernel_rfl⟩
instance : ElOf Try.prog 96 4 40 := elOf_mk (by kernel_rfl) (by decide)
instance : ZeroOf Try.prog 96 [(.string ⟨#[]⟩), (.int .i64 0), (.int .i64 0), (.int .i64 0)] := ⟨(.agg #[(.string ⟨#[]⟩), (.int .i64 0), (.int .i64 0), (.int .i64 0)]), fun _ => by kernel_rfl, by kernel_rfl⟩
instance : PlacesOf Try.prog 96 [(0, 1), (1, 1), (2, 1), (3, 1)] [(.string ⟨#[]⟩), (.int .i64 0), (.int .i64 0), (.int .i64 0)] := placesOf_mk (Try.prog.fieldsOf 96) (.agg #[(.string ⟨#[]⟩), (.int .i64 0), (.int .i64 0), (.int .i64 0)]) (fun _ => by kernel_rfl) (by kernel_rfl) (by kernel_rfl) (fun _ => by kernel_rfl)
instance : IsAgg Try.prog 97 4 := ⟨fun _ => by kernel_rfl, fun _ => by kernel_rfl⟩
instance : FldAt Try.prog 97 0 0 := ⟨fun _ _ _ => by kernel_rfl⟩
instance : FldAt Try.prog 97 1 1 := ⟨fun _ _ _ => by kernel_rfl⟩
instance : FldAt Try.prog 97 2 2 := ⟨fun _ _ _ => by kernel_rfl⟩
instance : FldAt Try.prog 97 3 3 := ⟨fun _ _ _ => by kernel_rfl⟩
set_option maxRecDepth 100000 in
instance : FlatEq Try.prog 97 [.str, .int .i64, .int .i64, .int .i64] := ⟨by kernel_rfl, .cons (by kernel_rfl) (of_decide_eq_true (by kernel_rfl)) (fun _ => by kernel_rfl) (by kernel_rfl) (.cons (by kernel_rfl) (of_decide_eq_true (by kernel_rfl)) (fun _ => by kernel_rfl) (by kernel_rfl) (.cons (by kernel_rfl) (of_decide_eq_true (by kernel_rfl)) (fun _ => by kernel_rfl) (by kernel_rfl) (.cons (by kernel_rfl) (of_decide_eq_true (by kernel_rfl)) (fun _ => by kernel_rfl) (by kernel_rfl) (.nil)))), by kernel_rfl, by kernel_rfl⟩
instance : ElOf Try.prog 97 4 40 := elOf_mk (by kernel_rfl) (by decide)
instance : ZeroOf Try.prog 97 [(.string ⟨#[]⟩), (.int .i64 0), (.int .i64 0), (.int .i64 0)] := ⟨(.agg #[(.string ⟨#[]⟩), (.int .i64 0), (.int .i64 0), (.int .i64 0)]), fun _ => by kernel_rfl, by kernel_rfl⟩
instance : PlacesOf Try.prog 97 [(0, 1), (1, 1), (2, 1), (3, 1)] [(.string ⟨#[]⟩), (.int .i64 0), (.int .i64 0), (.int .i64 0)] := placesOf_mk (Try.prog.fieldsOf 97) (.agg #[(.string ⟨#[]⟩), (.int .i64 0), (.int .i64 0), (.int .i64 0)]) (fun _ => by kernel_rfl) (by kernel_rfl) (by kernel_rfl) (fun _ => by kernel_rfl)
instance : IsOne Try.prog 99 := ⟨fun _ => by kernel_rfl, fun _ => by kernel_rfl⟩
instance : ElOf Try.prog 99 1 8 := elOf_mk (by kernel_rfl) (by decide)
instance : ZeroOf Try.prog 99 [.nilFunc] := ⟨.nilFunc, fun _ => by kernel_rfl, by kernel_rfl⟩
instance : IsOne Try.prog 100 := ⟨fun _ => by kernel_rfl, fun _ => by kernel_rfl⟩
instance : ElOf Try.prog 100 1 8 := elOf_mk (by kernel_rfl) (by decide)
instance : ZeroOf Try.prog 100 [.nilFunc] := ⟨.nilFunc, fun _ => by kernel_rfl, by kernel_rfl⟩
instance : IsOne Try.prog 101 := ⟨fun _ => by kernel_rfl, fun _ => by kernel_rfl⟩
instance : ElOf Try.prog 101 1 8 := elOf_mk (by kernel_rfl) (by decide)
instance : ZeroOf Try.prog 101 [.nilFunc] := ⟨.nilFunc, fun _ => by kernel_rfl, by kernel_rfl⟩
instance : IsOne Try.prog 102 := ⟨fun _ => by kernel_rfl, fun _ => by kernel_rfl⟩
instance : ElOf Try.prog 102 1 8 := elOf_mk (by kernel_rfl) (by decide)
instance : ZeroOf Try.prog 102 [.nilFunc] := ⟨.nilFunc, fun _ => by kernel_rfl, by kernel_rfl⟩
instance : IsOne Try.prog 103 := ⟨fun _ => by kernel_rfl, fun _ => by kernel_rfl⟩
instance : ElOf Try.prog 103 1 8 := elOf_mk (by kernel_rfl) (by decide)
instance : ZeroOf Try.prog 103 [.nilFunc] := ⟨.nilFunc, fun _ => by kernel_rfl, by kernel_rfl⟩
instance : IsOne Try.prog 104 := ⟨fun _ => by kernel_rfl, fun _ => by kernel_rfl⟩
instance : ElOf Try.prog 104 1 8 := elOf_mk (by kernel_rfl) (by decide)
instance : ZeroOf Try.prog 104 [.nilFunc] := ⟨.nilFunc, fun _ => by kernel_rfl, by kernel_rfl⟩
instance : IsOne Try.prog 105 := ⟨fun _ => by kernel_rfl, fun _ => by kernel_rfl⟩
instance : IntT Try.prog 105 .u64 := ⟨by kernel_rfl⟩
instance : ElOf Try.prog 105 1 8 := elOf_mk (by kernel_rfl) (by decide)
instance : ZeroOf Try.prog 105 [(.int .u64 0)] := ⟨(.int .u64 0), fun _ => by kernel_rfl, by kernel_rfl⟩
instance : IsOne Try.prog 106 := ⟨fun _ => by kernel_rfl, fun _ => by kernel_rfl⟩
instance : ElOf Try.prog 106 1 8 := elOf_mk (by kernel_rfl) (by decide)
instance : ZeroOf Try.prog 106 [.nilFunc] := ⟨.nilFunc, fun _ => by kernel_rfl, by kernel_rfl⟩
instance : IsOne Try.prog 107 := ⟨fun _ => by kernel_rfl, fun _ => by kernel_rfl⟩
instance : ElOf Try.prog 107 1 8 := elOf_mk (by kernel_rfl) (by decide)
instance : ZeroOf Try.prog 107 [.nilFunc] := ⟨.nilFunc, fun _ => by kernel_rfl, by kernel_rfl⟩
instance : IsOne Try.prog 109 := ⟨fun _ => by kernel_rfl, fun _ => by kernel_rfl⟩
instance : ElOf Try.prog 109 1 8 := elOf_mk (by kernel_rfl) (by decide)
instance : ZeroOf Try.prog 109 [.nilFunc] := ⟨.nilFunc, fun _ => by kernel_rfl, by kernel_rfl⟩
instance : IsOne Try.prog 110 := ⟨fun _ => by kernel_rfl, fun _ => by kernel_rfl⟩
instance : ElOf Try.prog 110 1 8 := elOf_mk (by kernel_rfl) (by decide)
instance : ZeroOf Try.prog 110 [.nilFunc] := ⟨.nilFunc, fun _ => by kernel_rfl, by kernel_rfl⟩
instance : IsOne Try.prog 111 := ⟨fun _ => by kernel_rfl, fun _ => by kernel_rfl⟩
instance : IntT Try.prog 111 .i64 := ⟨by kernel_rfl⟩
instance : ElOf Try.prog 111 1 8 := elOf_mk (by kernel_rfl) (by decide)
instance : ZeroOf Try.prog 111 [(.int .i64 0)] := ⟨(.int .i64 0), fun _ => by kernel_rfl, by kernel_rfl⟩
instance : IsOne Try.prog 113 := ⟨fun _ => by kernel_rfl, fun _ => by kernel_rfl⟩
instance : ElOf Try.prog 113 1 8 := elOf_mk (by kernel_rfl) (by decide)
instance : ZeroOf Try.prog 113 [.nilFunc] := ⟨.nilFunc, fun _ => by kernel_rfl, by kernel_rfl⟩
instance : IsOne Try.prog 114 := ⟨fun _ => by kernel_rfl, fun _ => by kernel_rfl⟩
instance : ElOf Try.prog 114 1 8 := elOf_mk (by kernel_rfl) (by decide)
instance : ZeroOf Try.prog 114 [.nilFunc] := ⟨.nilFunc, fun _ => by kernel_rfl, by kernel_rfl⟩
instance : IsOne Try.prog 115 := ⟨fun _ => by kernel_rfl, fun _ => by kernel_rfl⟩
instance : ElOf Try.prog 115 1 8 := elOf_mk (by kernel_rfl) (by decide)
instance : ZeroOf Try.prog 115 [.nilFunc] := ⟨.nilFunc, fun _ => by kernel_rfl, by kernel_rfl⟩
instance : IsOne Try.prog 117 := ⟨fun _ => by kernel_rfl, fun _ => by kernel_rfl⟩
instance : ElOf Try.prog 117 1 8 := elOf_mk (by kernel_rfl) (by decide)
instance : ZeroOf Try.prog 117 [.nilFunc] := ⟨.nilFunc, fun _ => by kernel_rfl, by kernel_rfl⟩
instance : IsOne Try.prog 118 := ⟨fun _ => by kernel_rfl, fun _ => by kernel_rfl⟩
instance : ElOf Try.prog 118 1 8 := elOf_mk (by kernel_rfl) (by decide)
instance : ZeroOf Try.prog 118 [.nilFunc] := ⟨.nilFunc, fun _ => by kernel_rfl, by kernel_rfl⟩
instance : IsOne Try.prog 119 := ⟨fun _ => by kernel_rfl, fun _ => by kernel_rfl⟩
instance : IntT Try.prog 119 .u32 := ⟨by kernel_rfl⟩
instance : ElOf Try.prog 119 1 4 := elOf_mk (by kernel_rfl) (by decide)
instance : ZeroOf Try.prog 119 [(.int .u32 0)] := ⟨(.int .u32 0), fun _ => by kernel_rfl, by kernel_rfl⟩
instance : IsOne Try.prog 120 := ⟨fun _ => by kernel_rfl, fun _ => by kernel_rfl⟩
instance : ElOf Try.prog 120 1 8 := elOf_mk (by kernel_rfl) (by decide)
instance : ZeroOf Try.prog 120 [.nilFunc] := ⟨.nilFunc, fun _ => by kernel_rfl, by kernel_rfl⟩
instance : IsOne Try.prog 121 := ⟨fun _ => by kernel_rfl, fun _ => by kernel_rfl⟩
instance : IntT Try.prog 121 .u64 := ⟨by kernel_rfl⟩
instance : ElOf Try.prog 121 1 8 := elOf_mk (by kernel_rfl) (by decide)
instance : ZeroOf Try.prog 121 [(.int .u64 0)] := ⟨(.int .u64 0), fun _ => by kernel_rfl, by kernel_rfl⟩
instance : IsOne Try.prog 122 := ⟨fun _ => by kernel_rfl, fun _ => by kernel_rfl⟩
instance : ElOf Try.prog 122 1 8 := elOf_mk (by kernel_rfl) (by decide)
instance : ZeroOf Try.prog 122 [.nilFunc] := ⟨.nilFunc, fun _ => by kernel_rfl, by kernel_rfl⟩
instance : IsOne Try.prog 123 := ⟨fun _ => by kernel_rfl, fun _ => by kernel_rfl⟩
instance : ElOf Try.prog 123 1 8 := elOf_mk (by kernel_rfl) (by decide)
instance : ZeroOf Try.prog 123 [.nilFunc] := ⟨.nilFunc, fun _ => by kernel_rfl, by kernel_rfl⟩
instance : IsOne Try.prog 125 := ⟨fun _ => by kernel_rfl, fun _ => by kernel_rfl⟩
instance : ElOf Try.prog 125 1 8 := elOf_mk (by kernel_rfl) (by decide)
instance : ZeroOf Try.prog 125 [.nilFunc] := ⟨.nilFunc, fun _ => by kernel_rfl, by kernel_rfl⟩
instance : IsOne Try.prog 126 := ⟨fun _ => by kernel_rfl, fun _ => by kernel_rfl⟩
instance : ElOf Try.prog 126 1 8 := elOf_mk (by kernel_rfl) (by decide)
instance : ZeroOf Try.prog 126 [.nilFunc] := ⟨.nilFunc, fun _ => by kernel_rfl, by kernel_rfl⟩
instance : IsOne Try.prog 127 := ⟨fun _ => by kernel_rfl, fun _ => by kernel_rfl⟩
instance : ElOf Try.prog 127 1 8 := elOf_mk (by kernel_rfl) (by decide)
instance : ZeroOf Try.prog 127 [.nilFunc] := ⟨.nilFunc, fun _ => by kernel_rfl, by kernel_rfl⟩
instance : IsOne Try.prog 128 := ⟨fun _ => by kernel_rfl, fun _ => by kernel_rfl⟩
instance : IntT Try.prog 128 .u64 := ⟨by kernel_rfl⟩
instance : ElOf Try.prog 128 1 8 := elOf_mk (by kernel_rfl) (by decide)
instance : ZeroOf Try.prog 128 [(.int .u64 0)] := ⟨(.int .u64 0), fun _ => by kernel_rfl, by kernel_rfl⟩
instance : IsOne Try.prog 129 := ⟨fun _ => by kernel_rfl, fun _ => by kernel_rfl⟩
instance : ElOf Try.prog 129 1 8 := elOf_mk (by kernel_rfl) (by decide)
instance : ZeroOf Try.prog 129 [.nilFunc] := ⟨.nilFunc, fun _ => by kernel_rfl, by kernel_rfl⟩
instance : IsOne Try.prog 130 := ⟨fun _ => by kernel_rfl, fun _ => by kernel_rfl⟩
instance : ElOf Try.prog 130 1 8 := elOf_mk (by kernel_rfl) (by decide)
instance : ZeroOf Try.prog 130 [.nilFunc] := ⟨.nilFunc, fun _ => by kernel_rfl, by kernel_rfl⟩
instance : IsOne Try.prog 131 := ⟨fun _ => by kernel_rfl, fun _ => by kernel_rfl⟩
instance : ElOf Try.prog 131 1 8 := elOf_mk (by kernel_rfl) (by decide)
instance : ZeroOf Try.prog 131 [.nilFunc] := ⟨.nilFunc, fun _ => by kernel_rfl, by kernel_rfl⟩
instance : IsOne Try.prog 132 := ⟨fun _ => by kernel_rfl, fun _ => by kernel_rfl⟩
instance : ElOf Try.prog 132 1 8 := elOf_mk (by kernel_rfl) (by decide)
instance : ZeroOf Try.prog 132 [(.pointer none)] := ⟨(.pointer none), fun _ => by kernel_rfl, by kernel_rfl⟩
instance : IsOne Try.prog 133 := ⟨fun _ => by kernel_rfl, fun _ => by kernel_rfl⟩
instance : ElOf Try.prog 133 1 8 := elOf_mk (by kernel_rfl) (by decide)
instance : ZeroOf Try.prog 133 [.nilFunc] := ⟨.nilFunc, fun _ => by kernel_rfl, by kernel_rfl⟩
instance : IsOne Try.prog 134 := ⟨fun _ => by kernel_rfl, fun _ => by kernel_rfl⟩
instance : ElOf Try.prog 134 1 8 := elOf_mk (by kernel_rfl) (by decide)
instance : ZeroOf Try.prog 134 [.nilFunc] := ⟨.nilFunc, fun _ => by kernel_rfl, by kernel_rfl⟩
instance : IsOne Try.prog 135 := ⟨fun _ => by kernel_rfl, fun _ => by kernel_rfl⟩
instance : ElOf Try.prog 135 1 8 := elOf_mk (by kernel_rfl) (by decide)
instance : ZeroOf Try.prog 135 [.nilFunc] := ⟨.nilFunc, fun _ => by kernel_rfl, by kernel_rfl⟩
instance : IsOne Try.prog 136 := ⟨fun _ => by kernel_rfl, fun _ => by kernel_rfl⟩
instance : ElOf Try.prog 136 1 8 := elOf_mk (by kernel_rfl) (by decide)
instance : ZeroOf Try.prog 136 [.nilFunc] := ⟨.nilFunc, fun _ => by kernel_rfl, by kernel_rfl⟩
instance : IsOne Try.prog 137 := ⟨fun _ => by kernel_rfl, fun _ => by kernel_rfl⟩
instance : ElOf Try.prog 137 1 8 := elOf_mk (by kernel_rfl) (by decide)
instance : ZeroOf Try.prog 137 [.nilFunc] := ⟨.nilFunc, fun _ => by kernel_rfl, by kernel_rfl⟩
instance : IsOne Try.prog 138 := ⟨fun _ => by kernel_rfl, fun _ => by kernel_rfl⟩
instance : ElOf Try.prog 138 1 8 := elOf_mk (by kernel_rfl) (by decide)
instance : ZeroOf Try.prog 138 [.nilFunc] := ⟨.nilFunc, fun _ => by kernel_rfl, by kernel_rfl⟩
instance : IsOne Try.prog 139 := ⟨fun _ => by kernel_rfl, fun _ => by kernel_rfl⟩
instance : ElOf Try.prog 139 1 8 := elOf_mk (by kernel_rfl) (by decide)
instance : ZeroOf Try.prog 139 [.nilFunc] := ⟨.nilFunc, fun _ => by kernel_rfl, by kernel_rfl⟩
instance : IsOne Try.prog 140 := ⟨fun _ => by kernel_rfl, fun _ => by kernel_rfl⟩
instance : ElOf Try.prog 140 1 8 := elOf_mk (by kernel_rfl) (by decide)
instance : ZeroOf Try.prog 140 [(.pointer none)] := ⟨(.pointer none), fun _ => by kernel_rfl, by kernel_rfl⟩
instance : IsOne Try.prog 142 := ⟨fun _ => by kernel_rfl, fun _ => by kernel_rfl⟩
instance : ElOf Try.prog 142 1 8 := elOf_mk (by kernel_rfl) (by decide)
instance : ZeroOf Try.prog 142 [.nilFunc] := ⟨.nilFunc, fun _ => by kernel_rfl, by kernel_rfl⟩
instance : IsOne Try.prog 144 := ⟨fun _ => by kernel_rfl, fun _ => by kernel_rfl⟩
instance : ElOf Try.prog 144 1 8 := elOf_mk (by kernel_rfl) (by decide)
instance : ZeroOf Try.prog 144 [.nilFunc] := ⟨.nilFunc, fun _ => by kernel_rfl, by kernel_rfl⟩
instance : IsOne Try.prog 145 := ⟨fun _ => by kernel_rfl, fun _ => by kernel_rfl⟩
instance : ElOf Try.prog 145 1 8 := elOf_mk (by kernel_rfl) (by decide)
instance : ZeroOf Try.prog 145 [.nilFunc] := ⟨.nilFunc, fun _ => by kernel_rfl, by kernel_rfl⟩
instance : IsOne Try.prog 146 := ⟨fun _ => by kernel_rfl, fun _ => by kernel_rfl⟩
instance : NotInt Try.prog 146 := ⟨.inr ⟨5, by kernel_rfl⟩⟩
instance : SlOf Try.prog 146 5 1 := ⟨by kernel_rfl, fun _ => by kernel_rfl⟩
instance : ElOf Try.prog 146 1 24 := elOf_mk (by kernel_rfl) (by decide)
instance : ZeroOf Try.prog 146 [(.slice none 0 0)] := ⟨(.slice none 0 0), fun _ => by kernel_rfl, by kernel_rfl⟩
instance : IsOne Try.prog 147 := ⟨fun _ => by kernel_rfl, fun _ => by kernel_rfl⟩
instance : NotInt Try.prog 147 := ⟨.inr ⟨150, by kernel_rfl⟩⟩
instance : SlOf Try.prog 147 150 4 := ⟨by kernel_rfl, fun _ => by kernel_rfl⟩
instance : ElOf Try.prog 147 1 24 := elOf_mk (by kernel_rfl) (by decide)
instance : ZeroOf Try.prog 147 [(.slice none 0 0)] := ⟨(.slice none 0 0), fun _ => by kernel_rfl, by kernel_rfl⟩
instance : IsOne Try.prog 148 := ⟨fun _ => by kernel_rfl, fun _ => by kernel_rfl⟩
instance : ElOf Try.prog 148 1 8 := elOf_mk (by kernel_rfl) (by decide)
instance : ZeroOf Try.prog 148 [.nilFunc] := ⟨.nilFunc, fun _ => by kernel_rfl, by kernel_rfl⟩
instance : IsAgg Try.prog 149 4 := ⟨fun _ => by kernel_rfl, fun _ => by kernel_rfl⟩
instance : FldAt Try.prog 149 0 0 := ⟨fun _ _ _ => by kernel_rfl⟩
instance : FldAt Try.prog 149 1 1 := ⟨fun _ _ _ => by kernel_rfl⟩
instance : FldAt Try.prog 149 2 2 := ⟨fun _ _ _ => by kernel_rfl⟩
instance : FldAt Try.prog 149 3 3 := ⟨fun _ _ _ => by kernel_rfl⟩
instance : ElOf Try.prog 149 4 32 := elOf_mk (by kernel_rfl) (by decide)
instance : ZeroOf Try.prog 149 [(.int .i32 0), (.int .i64 0), (.int .i64 0), (.bool false)] := ⟨(.agg #[(.int .i32 0), (.int .i64 0), (.int .i64 0), (.bool false)]), fun _ => by kernel_rfl, by kernel_rfl⟩
instance : PlacesOf Try.prog 149 [(0, 1), (1, 1), (2, 1), (3, 1)] [(.int .i32 0), (.int .i64 0), (.int .i64 0), (.bool false)] := placesOf_mk (Try.prog.fieldsOf 149) (.agg #[(.int .i32 0), (.int .i64 0), (.int .i64 0), (.bool false)]) (fun _ => by kernel_rfl) (by kernel_rfl) (by kernel_rfl) (fun _ => by kernel_rfl)
instance : IsAgg Try.prog 150 4 := ⟨fun _ => by kernel_rfl, fun _ => by kernel_rfl⟩
instance : FldAt Try.prog 150 0 0 := ⟨fun _ _ _ => by kernel_rfl⟩
instance : FldAt Try.prog 150 1 1 := ⟨fun _ _ _ => by kernel_rfl⟩
instance : FldAt Try.prog 150 2 2 := ⟨fun _ _ _ => by kernel_rfl⟩
instance : FldAt Try.prog 150 3 3 := ⟨fun _ _ _ => by kernel_rfl⟩
set_option maxRecDepth 100000 in
instance : FlatEq Try.prog 150 [.int .i32, .int .i64, .int .i64, .bool] := ⟨by kernel_rfl, .cons (by kernel_rfl) (of_decide_eq_true (by kernel_rfl)) (fun _ => by kernel_rfl) (by kernel_rfl) (.cons (by kernel_rfl) (of_decide_eq_true (by kernel_rfl)) (fun _ => by kernel_rfl) (by kernel_rfl) (.cons (by kernel_rfl) (of_decide_eq_true (by kernel_rfl)) (fun _ => by kernel_rfl) (by kernel_rfl) (.cons (by kernel_rfl) (of_decide_eq_true (by kernel_rfl)) (fun _ => by kernel_rfl) (by kernel_rfl) (.nil)))), by kernel_rfl, by kernel_rfl⟩
instance : ElOf Try.prog 150 4 32 := elOf_mk (by kernel_rfl) (by decide)
instance : ZeroOf Try.prog 150 [(.int .i32 0), (.int .i64 0), (.int .i64 0), (.bool false)] := ⟨(.agg #[(.int .i32 0), (.int .i64 0), (.int .i64 0), (.bool false)]), fun _ => by kernel_rfl, by kernel_rfl⟩
instance : PlacesOf Try.prog 150 [(0, 1), (1, 1), (2, 1), (3, 1)] [(.int .i32 0), (.int .i64 0), (.int .i64 0), (.bool false)] := placesOf_mk (Try.prog.fieldsOf 150) (.agg #[(.int .i32 0), (.int .i64 0), (.int .i64 0), (.bool false)]) (fun _ => by kernel_rfl) (by kernel_rfl) (by kernel_rfl) (fun _ => by kernel_rfl)
instance : IsOne Try.prog 151 := ⟨fun _ => by kernel_rfl, fun _ => by kernel_rfl⟩
instance : ElOf Try.prog 151 1 8 := elOf_mk (by kernel_rfl) (by decide)
instance : ZeroOf Try.prog 151 [.nilFunc] := ⟨.nilFunc, fun _ => by kernel_rfl, by kernel_rfl⟩
instance : IsAgg Try.prog 152 4 := ⟨fun _ => by kernel_rfl, fun _ => by kernel_rfl⟩
instance : FldAt Try.prog 152 0 0 := ⟨fun _ _ _ => by kernel_rfl⟩
instance : FldAt Try.prog 152 1 1 := ⟨fun _ _ _ => by kernel_rfl⟩
instance : FldAt Try.prog 152 2 2 := ⟨fun _ _ _ => by kernel_rfl⟩
instance : FldAt Try.prog 152 3 3 := ⟨fun _ _ _ => by kernel_rfl⟩
instance : ElOf Try.prog 152 4 40 := elOf_mk (by kernel_rfl) (by decide)
instance : ZeroOf Try.prog 152 [(.pointer none), (.pointer none), (.pointer none), (.string ⟨#[]⟩)] := ⟨(.agg #[(.pointer none), (.pointer none), (.pointer none), (.string ⟨#[]⟩)]), fun _ => by kernel_rfl, by kernel_rfl⟩
instance : PlacesOf Try.prog 152 [(0, 1), (1, 1), (2, 1), (3, 1)] [(.pointer none), (.pointer none), (.pointer none), (.string ⟨#[]⟩)] := placesOf_mk (Try.prog.fieldsOf 152) (.agg #[(.pointer none), (.pointer none), (.pointer none), (.string ⟨#[]⟩)]) (fun _ => by kernel_rfl) (by kernel_rfl) (by kernel_rfl) (fun _ => by kernel_rfl)
instance : IsAgg Try.prog 153 4 := ⟨fun _ => by kernel_rfl, fun _ => by kernel_rfl⟩
instance : FldAt Try.prog 153 0 0 := ⟨fun _ _ _ => by kernel_rfl⟩
instance : FldAt Try.prog 153 1 1 := ⟨fun _ _ _ => by kernel_rfl⟩
instance : FldAt Try.prog 153 2 2 := ⟨fun _ _ _ => by kernel_rfl⟩
instance : FldAt Try.prog 153 3 3 := ⟨fun _ _ _ => by kernel_rfl⟩
instance : ElOf Try.prog 153 4 40 := elOf_mk (by kernel_rfl) (by decide)
instance : ZeroOf Try.prog 153 [(.pointer none), (.pointer none), (.pointer none), (.string ⟨#[]⟩)] := ⟨(.agg #[(.pointer none), (.pointer none), (.pointer none), (.string ⟨#[]⟩)]), fun _ => by kernel_rfl, by kernel_rfl⟩
instance : PlacesOf Try.prog 153 [(0, 1), (1, 1), (2, 1), (3, 1)] [(.pointer none), (.pointer none), (.pointer none), (.string ⟨#[]⟩)] := placesOf_mk (Try.prog.fieldsOf 153) (.agg #[(.pointer none), (.pointer none), (.pointer none), (.string ⟨#[]⟩)]) (fun _ => by kernel_rfl) (by kernel_rfl) (by kernel_rfl) (fun _ => by kernel_rfl)
instance : IsOne Try.prog 157 := ⟨fun _ => by kernel_rfl, fun _ => by kernel_rfl⟩
instance : ElOf Try.prog 157 1 8 := elOf_mk (by kernel_rfl) (by decide)
instance : ZeroOf Try.prog 157 [.nilFunc] := ⟨.nilFunc, fun _ => by kernel_rfl, by kernel_rfl⟩
instance : IsOne Try.prog 158 := ⟨fun _ => by kernel_rfl, fun _ => by kernel_rfl⟩
instance : IntT Try.prog 158 .u8 := ⟨by kernel_rfl⟩
instance : ElOf Try.prog 158 1 1 := elOf_mk (by kernel_rfl) (by decide)
instance : ZeroOf Try.prog 158 [(.int .u8 0)] := ⟨(.int .u8 0), fun _ => by kernel_rfl, by kernel_rfl⟩
instance : IsOne Try.prog 159 := ⟨fun _ => by kernel_rfl, fun _ => by kernel_rfl⟩
instance : IntT Try.prog 159 .u8 := ⟨by kernel_rfl⟩
instance : ElOf Try.prog 159 1 1 := elOf_mk (by kernel_rfl) (by decide)
instance : ZeroOf Try.prog 159 [(.int .u8 0)] := ⟨(.int .u8 0), fun _ => by kernel_rfl, by kernel_rfl⟩
instance : IsOne Try.prog 160 := ⟨fun _ => by kernel_rfl, fun _ => by kernel_rfl⟩
instance : ElOf Try.prog 160 1 8 := elOf_mk (by kernel_rfl) (by decide)
instance : ZeroOf Try.prog 160 [.nilFunc] := ⟨.nilFunc, fun _ => by kernel_rfl, by kernel_rfl⟩
instance : IsOne Try.prog 161 := ⟨fun _ => by kernel_rfl, fun _ => by kernel_rfl⟩
instance : ElOf Try.prog 161 1 8 := elOf_mk (by kernel_rfl) (by decide)
instance : ZeroOf Try.prog 161 [(.pointer none)] := ⟨(.pointer none), fun _ => by kernel_rfl, by kernel_rfl⟩
instance : IsOne Try.prog 162 := ⟨fun _ => by kernel_rfl, fun _ => by kernel_rfl⟩
instance : IntT Try.prog 162 .i32 := ⟨by kernel_rfl⟩
instance : ElOf Try.prog 162 1 4 := elOf_mk (by kernel_rfl) (by decide)
instance : ZeroOf Try.prog 162 [(.int .i32 0)] := ⟨(.int .i32 0), fun _ => by kernel_rfl, by kernel_rfl⟩
instance : IsOne Try.prog 163 := ⟨fun _ => by kernel_rfl, fun _ => by kernel_rfl⟩
instance : IntT Try.prog 163 .i32 := ⟨by kernel_rfl⟩
instance : ElOf Try.prog 163 1 4 := elOf_mk (by kernel_rfl) (by decide)
instance : ZeroOf Try.prog 163 [(.int .i32 0)] := ⟨(.int .i32 0), fun _ => by kernel_rfl, by kernel_rfl⟩
instance : IsAgg Try.prog 164 11 := ⟨fun _ => by kernel_rfl, fun _ => by kernel_rfl⟩
instance : FldAt Try.prog 164 0 0 := ⟨fun _ _ _ => by kernel_rfl⟩
instance : FldAt Try.prog 164 1 1 := ⟨fun _ _ _ => by kernel_rfl⟩
instance : FldAt Try.prog 164 2 2 := ⟨fun _ _ _ => by kernel_rfl⟩
instance : FldAt Try.prog 164 3 3 := ⟨fun _ _ _ => by kernel_rfl⟩
instance : FldAt Try.prog 164 4 4 := ⟨fun _ _ _ => by kernel_rfl⟩
instance : FldAt Try.prog 164 5 5 := ⟨fun _ _ _ => by kernel_rfl⟩
instance : FldAt Try.prog 164 6 6 := ⟨fun _ _ _ => by kernel_rfl⟩
instance : FldAt Try.prog 164 7 7 := ⟨fun _ _ _ => by kernel_rfl⟩
instance : FldAt Try.prog 164 8 8 := ⟨fun _ _ _ => by kernel_rfl⟩
instance : FldAt Try.prog 164 9 9 := ⟨fun _ _ _ => by kernel_rfl⟩
instance : FldAt Try.prog 164 10 10 := ⟨fun _ _ _ => by kernel_rfl⟩
instance : ElOf Try.prog 164 11 48 := elOf_mk (by kernel_rfl) (by decide)
instance : ZeroOf Try.prog 164 [(.int .u64 0), (.int .u64 0), (.int .u32 0), (.int .u8 0), (.int .u8 0), (.int .u8 0), (.int .u8 0), .nilFunc, (.pointer none), (.int .i32 0), (.int .i32 0)] := ⟨(.agg #[(.int .u64 0), (.int .u64 0), (.int .u32 0), (.int .u8 0), (.int .u8 0), (.int .u8 0), (.int .u8 0), .nilFunc, (.pointer none), (.int .i32 0), (.int .i32 0)]), fun _ => by kernel_rfl, by kernel_rfl⟩
instance : PlacesOf Try.prog 164 [(0, 1), (1, 1), (2, 1), (3, 1), (4, 1), (5, 1), (6, 1), (7, 1), (8, 1), (9, 1), (10, 1)] [(.int .u64 0), (.int .u64 0), (.int .u32 0), (.int .u8 0), (.int .u8 0), (.int .u8 0), (.int .u8 0), .nilFunc, (.pointer none), (.int .i32 0), (.int .i32 0)] := placesOf_mk (Try.prog.fieldsOf 164) (.agg #[(.int .u64 0), (.int .u64 0), (.int .u32 0), (.int .u8 0), (.int .u8 0), (.int .u8 0), (.int .u8 0), .nilFunc, (.pointer none), (.int .i32 0), (.int .i32 0)]) (fun _ => by kernel_rfl) (by kernel_rfl) (by kernel_rfl) (fun _ => by kernel_rfl)
instance : IsAgg Try.prog 165 11 := ⟨fun _ => by kernel_rfl, fun _ => by kernel_rfl⟩
instance : FldAt Try.prog 165 0 0 := ⟨fun _ _ _ => by kernel_rfl⟩
instance : FldAt Try.prog 165 1 1 := ⟨fun _ _ _ => by kernel_rfl⟩
instance : FldAt Try.prog 165 2 2 := ⟨fun _ _ _ => by kernel_rfl⟩
instance : FldAt Try.prog 165 3 3 := ⟨fun _ _ _ => by kernel_rfl⟩
instance : FldAt Try.prog 165 4 4 := ⟨fun _ _ _ => by kernel_rfl⟩
instance : FldAt Try.prog 165 5 5 := ⟨fun _ _ _ => by kernel_rfl⟩
instance : FldAt Try.prog 165 6 6 := ⟨fun _ _ _ => by kernel_rfl⟩
instance : FldAt Try.prog 165 7 7 := ⟨fun _ _ _ => by kernel_rfl⟩
instance : FldAt Try.prog 165 8 8 := ⟨fun _ _ _ => by kernel_rfl⟩
instance : FldAt Try.prog 165 9 9 := ⟨fun _ _ _ => by kernel_rfl⟩
instance : FldAt Try.prog 165 10 10 := ⟨fun _ _ _ => by kernel_rfl⟩
instance : ElOf Try.prog 165 11 48 := elOf_mk (by kernel_rfl) (by decide)
instance : ZeroOf Try.prog 165 [(.int .u64 0), (.int .u64 0), (.int .u32 0), (.int .u8 0), (.int .u8 0), (.int .u8 0), (.int .u8 0), .nilFunc, (.pointer none), (.int .i32 0), (.int .i32 0)] := ⟨(.agg #[(.int .u64 0), (.int .u64 0), (.int .u32 0), (.int .u8 0), (.int .u8 0), (.int .u8 0), (.int .u8 0), .nilFunc, (.pointer none), (.int .i32 0), (.int .i32 0)]), fun _ => by kernel_rfl, by kernel_rfl⟩
instance : PlacesOf Try.prog 165 [(0, 1), (1, 1), (2, 1), (3, 1), (4, 1), (5, 1), (6, 1), (7, 1), (8, 1), (9, 1), (10, 1)] [(.int .u64 0), (.int .u64 0), (.int .u32 0), (.int .u8 0), (.int .u8 0), (.int .u8 0), (.int .u8 0), .nilFunc, (.pointer none), (.int .i32 0), (.int .i32 0)] := placesOf_mk (Try.prog.fieldsOf 165) (.agg #[(.int .u64 0), (.int .u64 0), (.int .u32 0), (.int .u8 0), (.int .u8 0), (.int .u8 0), (.int .u8 0), .nilFunc, (.pointer none), (.int .i32 0), (.int .i32 0)]) (fun _ => by kernel_rfl) (by kernel_rfl) (by kernel_rfl) (fun _ => by kernel_rfl)
instance : IsOne Try.prog 166 := ⟨fun _ => by kernel_rfl, fun _ => by kernel_rfl⟩
instance : ElOf Try.prog 166 1 8 := elOf_mk (by kernel_rfl) (by decide)
instance : ZeroOf Try.prog 166 [(.pointer none)] := ⟨(.pointer none), fun _ => by kernel_rfl, by kernel_rfl⟩
instance : Mixed Try.prog := ⟨by kernel_rfl⟩
instance : Ent Try.prog 3 := ⟨enters_of Try.func3 (by kernel_rfl) rfl⟩
instance : Ent Try.prog 4 := ⟨enters_of Try.func4 (by kernel_rfl) rfl⟩
instance : Ent Try.prog 5 := ⟨enters_of Try.func5 (by kernel_rfl) rfl⟩
instance : Ent Try.prog 6 := ⟨enters_of Try.func6 (by kernel_rfl) rfl⟩
instance : Ent Try.prog 7 := ⟨enters_of Try.func7 (by kernel_rfl) rfl⟩
instance : Ent Try.prog 8 := ⟨enters_of Try.func8 (by kernel_rfl) rfl⟩
instance : Ent Try.prog 9 := ⟨enters_of Try.func9 (by kernel_rfl) rfl⟩
instance : Ent Try.prog 10 := ⟨enters_of Try.func10 (by kernel_rfl) rfl⟩
instance : Ent Try.prog 11 := ⟨enters_of Try.func11 (by kernel_rfl) rfl⟩
instance : Ent Try.prog 12 := ⟨enters_of Try.func12 (by kernel_rfl) rfl⟩
instance : Ent Try.prog 13 := ⟨enters_of Try.func13 (by kernel_rfl) rfl⟩
instance : Ent Try.prog 14 := ⟨enters_of Try.func14 (by kernel_rfl) rfl⟩
instance : Ent Try.prog 15 := ⟨enters_of Try.func15 (by kernel_rfl) rfl⟩
instance : Ent Try.prog 16 := ⟨enters_of Try.func16 (by kernel_rfl) rfl⟩
instance : Ent Try.prog 17 := ⟨enters_of Try.func17 (by kernel_rfl) rfl⟩
instance : Ent Try.prog 18 := ⟨enters_of Try.func18 (by kernel_rfl) rfl⟩
instance : Ent Try.prog 19 := ⟨enters_of Try.func19 (by kernel_rfl) rfl⟩
instance : Ent Try.prog 20 := ⟨enters_of Try.func20 (by kernel_rfl) rfl⟩
instance : Ent Try.prog 21 := ⟨enters_of Try.func21 (by kernel_rfl) rfl⟩
instance : Ent Try.prog 22 := ⟨enters_of Try.func22 (by kernel_rfl) rfl⟩
instance : Ent Try.prog 23 := ⟨enters_of Try.func23 (by kernel_rfl) rfl⟩
instance : Ent Try.prog 24 := ⟨enters_of Try.func24 (by kernel_rfl) rfl⟩
instance : Ent Try.prog 25 := ⟨enters_of Try.func25 (by kernel_rfl) rfl⟩
instance : Ent Try.prog 26 := ⟨enters_of Try.func26 (by kernel_rfl) rfl⟩
instance : Ent Try.prog 27 := ⟨enters_of Try.func27 (by kernel_rfl) rfl⟩
instance : Ent Try.prog 28 := ⟨enters_of Try.func28 (by kernel_rfl) rfl⟩
instance : Ent Try.prog 29 := ⟨enters_of Try.func29 (by kernel_rfl) rfl⟩
instance : Ent Try.prog 30 := ⟨enters_of Try.func30 (by kernel_rfl) rfl⟩
instance : Ent Try.prog 31 := ⟨enters_of Try.func31 (by kernel_rfl) rfl⟩
instance : Ent Try.prog 32 := ⟨enters_of Try.func32 (by kernel_rfl) rfl⟩
instance : Ent Try.prog 33 := ⟨enters_of Try.func33 (by kernel_rfl) rfl⟩
instance : Ent Try.prog 34 := ⟨enters_of Try.func34 (by kernel_rfl) rfl⟩
instance : Ent Try.prog 35 := ⟨enters_of Try.func35 (by kernel_rfl) rfl⟩
instance : Ent Try.prog 36 := ⟨enters_of Try.func36 (by kernel_rfl) rfl⟩
instance : Ent Try.prog 37 := ⟨enters_of Try.func37 (by kernel_rfl) rfl⟩
instance : Ent Try.prog 38 := ⟨enters_of Try.func38 (by kernel_rfl) rfl⟩
instance : Ent Try.prog 39 := ⟨enters_of Try.func39 (by kernel_rfl) rfl⟩
instance : Ent Try.prog 40 := ⟨enters_of Try.func40 (by kernel_rfl) rfl⟩
instance : Ent Try.prog 41 := ⟨enters_of Try.func41 (by kernel_rfl) rfl⟩
instance : Ent Try.prog 42 := ⟨enters_of Try.func42 (by kernel_rfl) rfl⟩
instance : Ent Try.prog 43 := ⟨enters_of Try.func43 (by kernel_rfl) rfl⟩
instance : Ent Try.prog 44 := ⟨enters_of Try.func44 (by kernel_rfl) rfl⟩
instance : Ent Try.prog 45 := ⟨enters_of Try.func45 (by kernel_rfl) rfl⟩
instance : Ent Try.prog 46 := ⟨enters_of Try.func46 (by kernel_rfl) rfl⟩
instance : Ent Try.prog 47 := ⟨enters_of Try.func47 (by kernel_rfl) rfl⟩
instance : Ent Try.prog 48 := ⟨enters_of Try.func48 (by kernel_rfl) rfl⟩
instance : Ent Try.prog 49 := ⟨enters_of Try.func49 (by kernel_rfl) rfl⟩
instance : Ent Try.prog 50 := ⟨enters_of Try.func50 (by kernel_rfl) rfl⟩
instance : Ent Try.prog 51 := ⟨enters_of Try.func51 (by kernel_rfl) rfl⟩
instance : Ent Try.prog 52 := ⟨enters_of Try.func52 (by kernel_rfl) rfl⟩
instance : Ent Try.prog 53 := ⟨enters_of Try.func53 (by kernel_rfl) rfl⟩
instance : Ent Try.prog 54 := ⟨enters_of Try.func54 (by kernel_rfl) rfl⟩
instance : Ent Try.prog 55 := ⟨enters_of Try.func55 (by kernel_rfl) rfl⟩
instance : Ent Try.prog 56 := ⟨enters_of Try.func56 (by kernel_rfl) rfl⟩
instance : Ent Try.prog 57 := ⟨enters_of Try.func57 (by kernel_rfl) rfl⟩
instance : Ent Try.prog 58 := ⟨enters_of Try.func58 (by kernel_rfl) rfl⟩
instance : Ent Try.prog 59 := ⟨enters_of Try.func59 (by kernel_rfl) rfl⟩
instance : Ent Try.prog 60 := ⟨enters_of Try.func60 (by kernel_rfl) rfl⟩
instance : Ent Try.prog 61 := ⟨enters_of Try.func61 (by kernel_rfl) rfl⟩
instance : Ent Try.prog 62 := ⟨enters_of Try.func62 (by kernel_rfl) rfl⟩
instance : Ent Try.prog 63 := ⟨enters_of Try.func63 (by kernel_rfl) rfl⟩
instance : Ent Try.prog 64 := ⟨enters_of Try.func64 (by kernel_rfl) rfl⟩
instance : Ent Try.prog 65 := ⟨enters_of Try.func65 (by kernel_rfl) rfl⟩
instance : Ent Try.prog 66 := ⟨enters_of Try.func66 (by kernel_rfl) rfl⟩
instance : Ent Try.prog 67 := ⟨enters_of Try.func67 (by kernel_rfl) rfl⟩
instance : Ent Try.prog 68 := ⟨enters_of Try.func68 (by kernel_rfl) rfl⟩
instance : Ent Try.prog 69 := ⟨enters_of Try.func69 (by kernel_rfl) rfl⟩
instance : Ent Try.prog 70 := ⟨enters_of Try.func70 (by kernel_rfl) rfl⟩
instance : Ent Try.prog 71 := ⟨enters_of Try.func71 (by kernel_rfl) rfl⟩
instance : Ent Try.prog 72 := ⟨enters_of Try.func72 (by kernel_rfl) rfl⟩
instance : Ent Try.prog 73 := ⟨enters_of Try.func73 (by kernel_rfl) rfl⟩
instance : Ent Try.prog 74 := ⟨enters_of Try.func74 (by kernel_rfl) rfl⟩
instance : Ent Try.prog 75 := ⟨enters_of Try.func75 (by kernel_rfl) rfl⟩
instance : Ent Try.prog 76 := ⟨enters_of Try.func76 (by kernel_rfl) rfl⟩
instance : Ent Try.prog 77 := ⟨enters_of Try.func77 (by kernel_rfl) rfl⟩
instance : Ent Try.prog 78 := ⟨enters_of Try.func78 (by kernel_rfl) rfl⟩
instance : Ent Try.prog 79 := ⟨enters_of Try.func79 (by kernel_rfl) rfl⟩
instance : Ent Try.prog 80 := ⟨enters_of Try.func80 (by kernel_rfl) rfl⟩
instance : Ent Try.prog 81 := ⟨enters_of Try.func81 (by kernel_rfl) rfl⟩
instance : Ent Try.prog 82 := ⟨enters_of Try.func82 (by kernel_rfl) rfl⟩
instance : Ent Try.prog 83 := ⟨enters_of Try.func83 (by kernel_rfl) rfl⟩
instance : Ent Try.prog 84 := ⟨enters_of Try.func84 (by kernel_rfl) rfl⟩
instance : Ent Try.prog 85 := ⟨enters_of Try.func85 (by kernel_rfl) rfl⟩
instance : Ent Try.prog 86 := ⟨enters_of Try.func86 (by kernel_rfl) rfl⟩
instance : Ent Try.prog 87 := ⟨enters_of Try.func87 (by kernel_rfl) rfl⟩
instance : Ent Try.prog 88 := ⟨enters_of Try.func88 (by kernel_rfl) rfl⟩
instance : Ent Try.prog 89 := ⟨enters_of Try.func89 (by kernel_rfl) rfl⟩
instance : Ent Try.prog 90 := ⟨enters_of Try.func90 (by kernel_rfl) rfl⟩
instance : Ent Try.prog 91 := ⟨enters_of Try.func91 (by kernel_rfl) rfl⟩
instance : Ent Try.prog 92 := ⟨enters_of Try.func92 (by kernel_rfl) rfl⟩
instance : Ent Try.prog 93 := ⟨enters_of Try.func93 (by kernel_rfl) rfl⟩
instance : Ent Try.prog 94 := ⟨enters_of Try.func94 (by kernel_rfl) rfl⟩
instance : Ent Try.prog 95 := ⟨enters_of Try.func95 (by kernel_rfl) rfl⟩
instance : Ent Try.prog 96 := ⟨enters_of Try.func96 (by kernel_rfl) rfl⟩
instance : Ent Try.prog 97 := ⟨enters_of Try.func97 (by kernel_rfl) rfl⟩
instance : Ent Try.prog 98 := ⟨enters_of Try.func98 (by kernel_rfl) rfl⟩
instance : Ent Try.prog 99 := ⟨enters_of Try.func99 (by kernel_rfl) rfl⟩
instance : Ent Try.prog 100 := ⟨enters_of Try.func100 (by kernel_rfl) rfl⟩
instance : Ent Try.prog 101 := ⟨enters_of Try.func101 (by kernel_rfl) rfl⟩
instance : Ent Try.prog 102 := ⟨enters_of Try.func102 (by kernel_rfl) rfl⟩
instance : Ent Try.prog 103 := ⟨enters_of Try.func103 (by kernel_rfl) rfl⟩
instance : Ent Try.prog 104 := ⟨enters_of Try.func104 (by kernel_rfl) rfl⟩
end Go.Proofs.Ytchgfjclchhgmaa
namespace Go.Proofs.Ytchgfjclchhgmaa

abbrev Sp := Int × Int
/-- the order of spans: by begin, then by end -/
def ltC (a b : Sp) : Prop := a.1 < b.1 ∨ (a.1 = b.1 ∧ a.2 < b.2)
instance (a b : Sp) : Decidable (ltC a b) := by unfold ltC; exact inferInstance
theorem ltC_sto : STO ltC where
  irr a := by unfold ltC; omega
  trans a b c := by unfold ltC; omega
  tri a b := by
    unfold ltC
    by_cases h : a.1 = b.1 ∧ a.2 = b.2
    · exact .inr (.inl (Prod.ext h.1 h.2))
    · omega
def conS (a b : Sp) : Bool := decide (a.1 ≤ b.1 ∧ b.2 ≤ a.2)
/-- of a list: contains no other one -/
def keepShort (l : List Sp) (s : Sp) : Bool := l.all fun t => !(conS s t) || decide (t = s)
/-- of a list: is in no other one -/
def keepLong (l : List Sp) (s : Sp) : Bool := l.all fun t => !(conS t s) || decide (t = s)
theorem keepShort_iff {l : List Sp} {s : Sp} : keepShort l s = true ↔ ∀ t ∈ l, s.1 ≤ t.1 → t.2 ≤ s.2 → t = s := by
  unfold keepShort conS
  rw [List.all_eq_true]
  refine forall_congr' fun t => forall_congr' fun ht => ?_
  by_cases h : t = s
  · simp [h]
  · simp [h]; omega
theorem keepLong_iff {l : List Sp} {s : Sp} : keepLong l s = true ↔ ∀ t ∈ l, t.1 ≤ s.1 → s.2 ≤ t.2 → t = s := by
  unfold keepLong conS
  rw [List.all_eq_true]
  refine forall_congr' fun t => forall_congr' fun ht => ?_
  by_cases h : t = s
  · simp [h]
  · simp [h]; omega
/-- two places of an ascending list -/
theorem asc_at {l : List Sp} (h : l.Pairwise ltC) {i j : Nat} {s t : Sp} (hs : l[i]? = some s) (ht : l[j]? = some t) (hij : i < j) : ltC s t := by
  obtain ⟨hi, rfl⟩ := List.getElem?_eq_some_iff.1 hs
  obtain ⟨hj, rfl⟩ := List.getElem?_eq_some_iff.1 ht
  exact List.pairwise_iff_getElem.1 h i j hi hj hij
theorem asc_le {l : List Sp} (h : l.Pairwise ltC) {i j : Nat} {s t : Sp} (hs : l[i]? = some s) (ht : l[j]? = some t) (hij : i ≤ j) : s = t ∨ ltC s t := by
  rcases Nat.lt_or_ge i j with h1 | h1
  · exact .inr (asc_at h hs ht h1)
  · have : i = j := by omega
    subst this; rw [hs] at ht; exact .inl (by injection ht)

/-! ### shortest: from the last one on -/
/-- the first one with its begin -/
def isFirst (l : List Sp) (j : Nat) (t : Sp) : Prop := l[j]? = some t ∧ (j = 0 ∨ ∀ u, l[j - 1]? = some u → u.1 ≠ t.1)
/-- of the first ones from place i on, least is the least end (−1: none) -/
def LeastOk (l : List Sp) (i : Nat) (least : Int) : Prop :=
  (least = -1 ∧ ∀ j t, i ≤ j → ¬ isFirst l j t) ∨ (0 < least ∧ (∃ j t, i ≤ j ∧ isFirst l j t ∧ t.2 = least) ∧ ∀ j t, i ≤ j → isFirst l j t → least ≤ t.2)
theorem first_of {l : List Sp} (h : l.Pairwise ltC) : ∀ (j : Nat) (t : Sp), l[j]? = some t → ∃ j' u, j' ≤ j ∧ isFirst l j' u ∧ u.1 = t.1 ∧ u.2 ≤ t.2
  | 0, t, ht => ⟨0, t, Nat.le_refl _, ⟨ht, .inl rfl⟩, rfl, Int.le_refl _⟩
  | j + 1, t, ht => by
    obtain ⟨v, hv⟩ : ∃ v, l[j]? = some v := ⟨_, List.getElem?_eq_getElem (by have := (List.getElem?_eq_some_iff.1 ht).1; omega)⟩
    by_cases e : v.1 = t.1
    · obtain ⟨j', u, h1, h2, h3, h4⟩ := first_of h j v hv
      have h5 := asc_at h hv ht (by omega)
      unfold ltC at h5
      exact ⟨j', u, by omega, h2, by omega, by omega⟩
    · refine ⟨j + 1, t, Nat.le_refl _, ⟨ht, .inr fun u hu => ?_⟩, rfl, Int.le_refl _⟩
      rw [Nat.add_sub_cancel, hv] at hu
      injection hu with hu
      rw [← hu]; exact e
theorem LeastOk.init (l : List Sp) : LeastOk l l.length (-1) := by
  refine .inl ⟨rfl, fun j t hj hf => ?_⟩
  have := (List.getElem?_eq_some_iff.1 hf.1).1
  omega
theorem LeastOk.skip {l : List Sp} (h : l.Pairwise ltC) {i : Nat} {s t : Sp} {least : Int} (hs : l[i + 1]? = some s) (ht : l[i]? = some t) (e : t.1 = s.1) (hl : LeastOk l (i + 2) least) : keepShort l s = false ∧ LeastOk l (i + 1) least := by
  constructor
  · rw [Bool.eq_false_iff]
    intro hk
    have h1 := asc_at h ht hs (by omega)
    have := keepShort_iff.1 hk t (List.mem_of_getElem? ht) (by omega) (by unfold ltC at h1; omega)
    rw [this] at h1
    exact ltC_sto.irr s h1
  · have hn : ∀ j u, i + 1 ≤ j → isFirst l j u → i + 2 ≤ j := by
      intro j u hj hf
      by_cases hji : j = i + 1
      · subst hji
        exfalso
        rcases hf.2 with h0 | h0
        · omega
        · have hu : u = s := by have := hf.1; rw [hs] at this; injection this with this; exact this.symm
          subst hu
          exact h0 t ht e
      · omega
    rcases hl with ⟨h1, h2⟩ | ⟨h1, ⟨j, u, h2, h3, h4⟩, h5⟩
    · exact .inl ⟨h1, fun j u hj hf => h2 j u (hn j u hj hf) hf⟩
    · exact .inr ⟨h1, ⟨j, u, by omega, h3, h4⟩, fun j u hj hf => h5 j u (hn j u hj hf) hf⟩
theorem LeastOk.keep {l : List Sp} (h : l.Pairwise ltC) (hv : ∀ s ∈ l, 0 ≤ s.1 ∧ s.1 < s.2) {i : Nat} {s : Sp} {least : Int} (hf : isFirst l i s) (hl : LeastOk l (i + 1) least) (hk : least < 0 ∨ s.2 < least) : keepShort l s = true ∧ LeastOk l i s.2 := by
  have hs := hf.1
  constructor
  · refine keepShort_iff.2 fun t ht h1 h2 => ?_
    obtain ⟨j, hj, rfl⟩ := List.mem_iff_getElem.1 ht
    have hjs : l[j]? = some l[j] := List.getElem?_eq_getElem hj
    generalize l[j] = t at *
    rcases Nat.lt_trichotomy j i with h3 | h3 | h3
    · exfalso
      have h4 := asc_at h hjs hs h3
      unfold ltC at h4
      rcases hf.2 with h5 | h5
      · omega
      · obtain ⟨v, hvv⟩ : ∃ v, l[i - 1]? = some v := ⟨_, List.getElem?_eq_getElem (by have := (List.getElem?_eq_some_iff.1 hs).1; omega)⟩
        have h6 := asc_le h hjs hvv (by omega)
        have h7 := asc_at h hvv hs (by omega)
        have h8 := h5 v hvv
        unfold ltC at h6 h7
        rcases h6 with rfl | h6
        · omega
        · omega
    · subst h3
      rw [hs] at hjs; injection hjs with e; exact e.symm
    · exfalso
      have h4 := asc_at h hs hjs h3
      obtain ⟨j', u, k1, k2, k3, k4⟩ := first_of h j t hjs
      have hij : i + 1 ≤ j' := by
        by_cases hle : j' ≤ i
        · have h5 := asc_le h k2.1 hs hle
          unfold ltC at h4 h5
          rcases h5 with rfl | h5
          · omega
          · omega
        · omega
      rcases hl with ⟨l1, l2⟩ | ⟨l1, _, l3⟩
      · exact l2 j' u hij k2
      · have := l3 j' u hij k2
        omega
  · refine .inr ⟨by have := hv s (List.mem_of_getElem? hs); omega, ⟨i, s, Nat.le_refl _, hf, rfl⟩, fun j t hj ht => ?_⟩
    by_cases hji : j = i
    · subst hji
      have := ht.1; rw [hs] at this; injection this with this; rw [this]; exact Int.le_refl _
    · rcases hl with ⟨l1, l2⟩ | ⟨l1, _, l3⟩
      · exact absurd ht (l2 j t (by omega))
      · have := l3 j t (by omega) ht
        omega
theorem LeastOk.drop {l : List Sp} (h : l.Pairwise ltC) {i : Nat} {s : Sp} {least : Int} (hf : isFirst l i s) (hl : LeastOk l (i + 1) least) (hk : ¬ (least < 0 ∨ s.2 < least)) : keepShort l s = false ∧ LeastOk l i least := by
  rcases hl with ⟨l1, _⟩ | ⟨l1, ⟨j, t, l2, l3, l4⟩, l5⟩
  · omega
  · have h4 := asc_at h hf.1 l3.1 (by omega)
    constructor
    · rw [Bool.eq_false_iff]
      intro hkk
      have := keepShort_iff.1 hkk t (List.mem_of_getElem? l3.1) (by unfold ltC at h4; omega) (by omega)
      rw [this] at h4
      exact ltC_sto.irr s h4
    · refine .inr ⟨l1, ⟨j, t, by omega, l3, l4⟩, fun j' u hj hu => ?_⟩
      by_cases hji : j' = i
      · subst hji
        have := hu.1; rw [hf.1] at this; injection this with this; rw [← this]; omega
      · exact l5 j' u (by omega) hu

/-! ### longest: from the first one on -/
/-- the last one with its begin -/
def isLast (l : List Sp) (j : Nat) (t : Sp) : Prop := l[j]? = some t ∧ ∀ u, l[j + 1]? = some u → u.1 ≠ t.1
def MostOk (l : List Sp) (i : Nat) (most : Int) : Prop :=
  (most = -1 ∧ ∀ j t, j < i → ¬ isLast l j t) ∨ (0 < most ∧ (∃ j t, j < i ∧ isLast l j t ∧ t.2 = most) ∧ ∀ j t, j < i → isLast l j t → t.2 ≤ most)
theorem last_of {l : List Sp} (h : l.Pairwise ltC) : ∀ (n j : Nat) (t : Sp), l.length - j = n → l[j]? = some t → ∃ j' u, j ≤ j' ∧ isLast l j' u ∧ u.1 = t.1 ∧ t.2 ≤ u.2
  | 0, j, t, hn, ht => by have := (List.getElem?_eq_some_iff.1 ht).1; omega
  | n + 1, j, t, hn, ht => by
    cases hv : l[j + 1]? with
    | none => exact ⟨j, t, Nat.le_refl _, ⟨ht, fun u hu => by rw [hv] at hu; cases hu⟩, rfl, Int.le_refl _⟩
    | some v =>
      by_cases e : v.1 = t.1
      · obtain ⟨j', u, h1, h2, h3, h4⟩ := last_of h n (j + 1) v (by omega) hv
        have h5 := asc_at h ht hv (by omega)
        unfold ltC at h5
        exact ⟨j', u, by omega, h2, by omega, by omega⟩
      · exact ⟨j, t, Nat.le_refl _, ⟨ht, fun u hu => by rw [hv] at hu; injection hu with hu; rw [← hu]; exact e⟩, rfl, Int.le_refl _⟩
theorem MostOk.init (l : List Sp) : MostOk l 0 (-1) := .inl ⟨rfl, fun j t hj => by omega⟩
theorem MostOk.skip {l : List Sp} (h : l.Pairwise ltC) {i : Nat} {s t : Sp} {most : Int} (hs : l[i]? = some s) (ht : l[i + 1]? = some t) (e : t.1 = s.1) (hl : MostOk l i most) : keepLong l s = false ∧ MostOk l (i + 1) most := by
  constructor
  · rw [Bool.eq_false_iff]
    intro hk
    have h1 := asc_at h hs ht (by omega)
    have := keepLong_iff.1 hk t (List.mem_of_getElem? ht) (by omega) (by unfold ltC at h1; omega)
    rw [this] at h1
    exact ltC_sto.irr s h1
  · have hn : ∀ j u, j < i + 1 → isLast l j u → j < i := by
      intro j u hj hf
      by_cases hji : j = i
      · subst hji
        exfalso
        have hu : u = s := by have := hf.1; rw [hs] at this; injection this with this; exact this.symm
        subst hu
        exact hf.2 t ht e
      · omega
    rcases hl with ⟨h1, h2⟩ | ⟨h1, ⟨j, u, h2, h3, h4⟩, h5⟩
    · exact .inl ⟨h1, fun j u hj hf => h2 j u (hn j u hj hf) hf⟩
    · exact .inr ⟨h1, ⟨j, u, by omega, h3, h4⟩, fun j u hj hf => h5 j u (hn j u hj hf) hf⟩
theorem MostOk.keep {l : List Sp} (h : l.Pairwise ltC) (hv : ∀ s ∈ l, 0 ≤ s.1 ∧ s.1 < s.2) {i : Nat} {s : Sp} {most : Int} (hf : isLast l i s) (hl : MostOk l i most) (hk : most < s.2) : keepLong l s = true ∧ MostOk l (i + 1) s.2 := by
  have hs := hf.1
  constructor
  · refine keepLong_iff.2 fun t ht h1 h2 => ?_
    obtain ⟨j, hj, rfl⟩ := List.mem_iff_getElem.1 ht
    have hjs : l[j]? = some l[j] := List.getElem?_eq_getElem hj
    generalize l[j] = t at *
    rcases Nat.lt_trichotomy j i with h3 | h3 | h3
    · exfalso
      have h4 := asc_at h hjs hs h3
      obtain ⟨j', u, k1, k2, k3, k4⟩ := last_of h _ j t rfl hjs
      unfold ltC at h4
      have hij : j' < i := by
        by_cases hle : i ≤ j'
        · have h5 := asc_le h hs k2.1 hle
          unfold ltC at h5
          rcases h5 with rfl | h5
          · omega
          · omega
        · omega
      rcases hl with ⟨l1, l2⟩ | ⟨l1, _, l3⟩
      · exact l2 j' u hij k2
      · have := l3 j' u hij k2
        omega
    · subst h3
      rw [hs] at hjs; injection hjs with e; exact e.symm
    · exfalso
      have h4 := asc_at h hs hjs h3
      unfold ltC at h4
      obtain ⟨v, hvv⟩ : ∃ v, l[i + 1]? = some v := ⟨_, List.getElem?_eq_getElem (by omega)⟩
      have h6 := asc_at h hs hvv (by omega)
      have h7 := asc_le h hvv hjs (by omega)
      have h8 := hf.2 v hvv
      unfold ltC at h6 h7
      rcases h7 with rfl | h7
      · omega
      · omega
  · refine .inr ⟨by have := hv s (List.mem_of_getElem? hs); omega, ⟨i, s, by omega, hf, rfl⟩, fun j t hj ht => ?_⟩
    by_cases hji : j = i
    · subst hji
      have := ht.1; rw [hs] at this; injection this with this; rw [this]; exact Int.le_refl _
    · rcases hl with ⟨l1, l2⟩ | ⟨l1, _, l3⟩
      · exact absurd ht (l2 j t (by omega))
      · have := l3 j t (by omega) ht
        omega
theorem MostOk.drop {l : List Sp} (h : l.Pairwise ltC) (hv : ∀ s ∈ l, 0 ≤ s.1 ∧ s.1 < s.2) {i : Nat} {s : Sp} {most : Int} (hf : isLast l i s) (hl : MostOk l i most) (hk : ¬ most < s.2) : keepLong l s = false ∧ MostOk l (i + 1) most := by
  have hsv := hv s (List.mem_of_getElem? hf.1)
  rcases hl with ⟨l1, _⟩ | ⟨l1, ⟨j, t, l2, l3, l4⟩, l5⟩
  · omega
  · have h4 := asc_at h l3.1 hf.1 l2
    constructor
    · rw [Bool.eq_false_iff]
      intro hkk
      have := keepLong_iff.1 hkk t (List.mem_of_getElem? l3.1) (by unfold ltC at h4; omega) (by omega)
      rw [this] at h4
      exact ltC_sto.irr s h4
    · refine .inr ⟨l1, ⟨j, t, by omega, l3, l4⟩, fun j' u hj hu => ?_⟩
      by_cases hji : j' = i
      · subst hji
        have := hu.1; rw [hf.1] at this; injection this with this; rw [← this]; omega
      · exact l5 j' u (by omega) hu

/-! ### traditional -/
def tradF (p : Int) : List Sp → List Sp
  | [] => []
  | s :: r => if s.1 < p ∨ (r.head?.map (·.1)) = some s.1 then tradF p r else s :: tradF s.2 r
theorem tradF_sub (p : Int) : ∀ l : List Sp, (tradF p l).Sublist l
  | [] => List.Sublist.slnil
  | s :: r => by
    unfold tradF
    split
    · exact (tradF_sub p r).cons s
    · exact (tradF_sub s.2 r).cons_cons s
theorem tradF_low (p : Int) : ∀ l : List Sp, (∀ s ∈ l, s.1 < s.2) → ∀ s ∈ tradF p l, p ≤ s.1
  | [], _, s, hs => by simp [tradF] at hs
  | t :: r, hv, s, hs => by
    have hv' : ∀ s ∈ r, s.1 < s.2 := fun s h => hv s (List.mem_cons_of_mem _ h)
    unfold tradF at hs
    split at hs
    · exact tradF_low p r hv' s hs
    · rename_i hc
      rcases List.mem_cons.1 hs with rfl | h
      · omega
      · have := tradF_low t.2 r hv' s h
        have := hv t List.mem_cons_self
        omega
theorem tradF_apart (p : Int) : ∀ l : List Sp, (∀ s ∈ l, s.1 < s.2) → (tradF p l).Pairwise (fun a b => a.2 ≤ b.1)
  | [], _ => by simp [tradF]
  | t :: r, hv => by
    have hv' : ∀ s ∈ r, s.1 < s.2 := fun s h => hv s (List.mem_cons_of_mem _ h)
    unfold tradF
    split
    · exact tradF_apart p r hv'
    · exact List.pairwise_cons.2 ⟨fun s hs => tradF_low t.2 r hv' s hs, tradF_apart t.2 r hv'⟩
theorem tradF_skip (p : Int) : ∀ a r : List Sp, (∀ s ∈ a, s.1 < p) → tradF p (a ++ r) = tradF p r
  | [], r, _ => rfl
  | s :: a, r, h => by
    rw [List.cons_append, tradF, if_pos (.inl (h s List.mem_cons_self))]
    exact tradF_skip p a r fun s hs => h s (List.mem_cons_of_mem _ hs)
/-- the reference: the first begin from p on, and of its spans the longest -/
def bstep (p : Int) (b s : Sp) : Sp := if p ≤ s.1 ∧ (b.1 = -1 ∨ s.1 < b.1 ∨ (s.1 = b.1 ∧ b.2 < s.2)) then s else b
def bestG (p : Int) : List Sp → Option Sp
  | [] => none
  | s :: r => if s.1 < p ∨ (r.head?.map (·.1)) = some s.1 then bestG p r else some s
theorem best_from (p : Int) : ∀ (l : List Sp) (b : Sp), (b :: l).Pairwise ltC → p ≤ b.1 → 0 ≤ b.1 → some (l.foldl (bstep p) b) = bestG p (b :: l)
  | [], b, _, hp, _ => by
    rw [bestG, if_neg (by simp; omega)]; rfl
  | s :: r, b, h, hp, h0 => by
    have h1 := List.pairwise_cons.1 h
    have h2 := List.pairwise_cons.1 h1.2
    have hbs := h1.1 s List.mem_cons_self
    rw [List.foldl_cons]
    by_cases e : s.1 = b.1
    · have hst : bstep p b s = s := by unfold bstep; unfold ltC at hbs; rw [if_pos (by omega)]
      rw [hst, best_from p r s h1.2 (by omega) (by omega)]
      conv => rhs; rw [bestG]
      rw [if_pos (.inr (by simp [e]))]
    · have hlt : b.1 < s.1 := by unfold ltC at hbs; omega
      have hst : bstep p b s = b := by unfold bstep; rw [if_neg (by omega)]
      rw [hst, best_from p r b (List.pairwise_cons.2 ⟨fun x hx => h1.1 x (List.mem_cons_of_mem _ hx), h2.2⟩) hp h0]
      rw [bestG, if_neg, bestG, if_neg]
      · simp; omega
      · rintro (h3 | h3)
        · omega
        · cases r with
          | nil => simp at h3
          | cons x r' =>
            simp at h3
            have := h2.1 x List.mem_cons_self
            unfold ltC at this; omega
theorem best_all (p : Int) (hp : 0 ≤ p) : ∀ (l : List Sp), l.Pairwise ltC → l.foldl (bstep p) (-1, 0) = (bestG p l).getD (-1, 0)
  | [], _ => rfl
  | s :: r, h => by
    have h1 := List.pairwise_cons.1 h
    rw [List.foldl_cons]
    by_cases hs : s.1 < p
    · have hst : bstep p (-1, 0) s = (-1, 0) := by unfold bstep; rw [if_neg (by omega)]
      rw [hst, best_all p hp r h1.2, bestG, if_pos (.inl hs)]
    · have hst : bstep p (-1, 0) s = s := by unfold bstep; rw [if_pos ⟨by omega, .inl rfl⟩]
      rw [hst, ← best_from p r s h (by omega) (by omega)]; rfl
theorem trad_best (p : Int) : ∀ (l : List Sp), l.Pairwise ltC → (∀ s ∈ l, s.1 < s.2) → match bestG p l with
    | none => tradF p l = []
    | some b => b ∈ l ∧ p ≤ b.1 ∧ tradF p l = b :: tradF b.2 l
  | [], _, _ => rfl
  | s :: r, h, hv => by
    have h1 := List.pairwise_cons.1 h
    have hv' : ∀ s ∈ r, s.1 < s.2 := fun s h => hv s (List.mem_cons_of_mem _ h)
    have ih := trad_best p r h1.2 hv'
    rw [bestG]
    by_cases hc : s.1 < p ∨ (r.head?.map (·.1)) = some s.1
    · rw [if_pos hc]
      have e : tradF p (s :: r) = tradF p r := by rw [tradF, if_pos hc]
      rw [e]
      cases hb : bestG p r with
      | none => rw [hb] at ih; exact ih
      | some b =>
        rw [hb] at ih
        obtain ⟨i1, i2, i3⟩ := ih
        refine ⟨List.mem_cons_of_mem _ i1, i2, ?_⟩
        rw [i3]
        have hsb := h1.1 b i1
        have hbv := hv' b i1
        have := tradF_skip b.2 [s] r (by intro x hx; obtain rfl := List.mem_singleton.1 hx; unfold ltC at hsb; omega)
        rw [List.singleton_append] at this
        rw [this]
    · rw [if_neg hc]
      refine ⟨List.mem_cons_self, by omega, ?_⟩
      have hsv := hv s List.mem_cons_self
      have := tradF_skip s.2 [s] r (by intro x hx; obtain rfl := List.mem_singleton.1 hx; exact hsv)
      rw [List.singleton_append] at this
      rw [this, tradF, if_neg hc]
/-- what a strategy chooses of an ascending list -/
def chosenL (k : Int) (l : List Sp) : List Sp := if k = 1 then l.filter (keepShort l) else if k = 2 then l.filter (keepLong l) else if k = 3 then tradF 0 l else l
theorem chosen_sub (k : Int) (l : List Sp) : (chosenL k l).Sublist l := by
  unfold chosenL
  split
  · exact List.filter_sublist
  · split
    · exact List.filter_sublist
    · split
      · exact tradF_sub 0 l
      · exact List.Sublist.refl l

/-! ### consequences -/
theorem tradF_id (p : Int) : ∀ l : List Sp, (∀ s ∈ l, s.1 < s.2) → l.Pairwise (fun a b => a.2 ≤ b.1) → (∀ s ∈ l, p ≤ s.1) → tradF p l = l
  | [], _, _, _ => rfl
  | s :: r, hv, h, hp => by
    have h1 := List.pairwise_cons.1 h
    have hsv := hv s List.mem_cons_self
    have hps := hp s List.mem_cons_self
    rw [tradF, if_neg]
    · rw [tradF_id s.2 r (fun s hs => hv s (List.mem_cons_of_mem _ hs)) h1.2 h1.1]
    · rintro (h3 | h3)
      · omega
      · cases r with
        | nil => simp at h3
        | cons x r' =>
          simp at h3
          have := h1.1 x List.mem_cons_self
          omega
theorem chosen_idem (k : Int) (l : List Sp) (hv : ∀ s ∈ l, 0 ≤ s.1 ∧ s.1 < s.2) : chosenL k (chosenL k l) = chosenL k l := by
  unfold chosenL
  by_cases k1 : k = 1
  · simp only [if_pos k1]
    refine List.filter_eq_self.2 fun s hs => ?_
    have := (List.mem_filter.1 hs).2
    rw [keepShort_iff] at this ⊢
    exact fun t ht => this t (List.mem_filter.1 ht).1
  · by_cases k2 : k = 2
    · simp only [if_neg k1, if_pos k2]
      refine List.filter_eq_self.2 fun s hs => ?_
      have := (List.mem_filter.1 hs).2
      rw [keepLong_iff] at this ⊢
      exact fun t ht => this t (List.mem_filter.1 ht).1
    · by_cases k3 : k = 3
      · simp only [if_neg k1, if_neg k2, if_pos k3]
        refine tradF_id 0 _ (fun s hs => (hv s ((tradF_sub 0 l).subset hs)).2) (tradF_apart 0 l fun s hs => (hv s hs).2) fun s hs => (hv s ((tradF_sub 0 l).subset hs)).1
      · simp only [if_neg k1, if_neg k2, if_neg k3]
theorem has_short (l : List Sp) (hv : ∀ s ∈ l, s.1 < s.2) : ∀ (n : Nat) (s : Sp), s ∈ l → (s.2 - s.1).toNat = n → ∃ t ∈ l, keepShort l t = true ∧ s.1 ≤ t.1 ∧ t.2 ≤ s.2 := by
  intro n
  induction n using Nat.strongRecOn with
  | _ n ih =>
    intro s hs hn
    cases hk : keepShort l s with
    | true => exact ⟨s, hs, hk, Int.le_refl _, Int.le_refl _⟩
    | false =>
      have : ¬ ∀ t ∈ l, s.1 ≤ t.1 → t.2 ≤ s.2 → t = s := fun h => by rw [keepShort_iff.2 h] at hk; cases hk
      have : ∃ t, t ∈ l ∧ s.1 ≤ t.1 ∧ t.2 ≤ s.2 ∧ t ≠ s := by
        apply Classical.byContradiction
        intro hno
        exact this fun t ht h1 h2 => Classical.byContradiction fun hne => hno ⟨t, ht, h1, h2, hne⟩
      obtain ⟨t, ht, h1, h2, h3⟩ := this
      have htv := hv t ht
      have hne : ¬ (t.1 = s.1 ∧ t.2 = s.2) := fun h => h3 (Prod.ext h.1 h.2)
      obtain ⟨u, hu, u1, u2, u3⟩ := ih (t.2 - t.1).toNat (by omega) t ht rfl
      exact ⟨u, hu, u1, by omega, by omega⟩
theorem countP_lt {α : Type} {p q : α → Bool} {x : α} : ∀ (l : List α), (∀ y ∈ l, p y = true → q y = true) → x ∈ l → p x = false → q x = true → l.countP p < l.countP q
  | [], _, hx, _, _ => by cases hx
  | y :: l, h, hx, h1, h2 => by
    have hm : l.countP p ≤ l.countP q := List.countP_mono_left fun z hz => h z (List.mem_cons_of_mem _ hz)
    rw [List.countP_cons, List.countP_cons]
    rcases List.mem_cons.1 hx with rfl | hx
    · rw [h1, h2]; simp; omega
    · have := countP_lt l (fun z hz => h z (List.mem_cons_of_mem _ hz)) hx h1 h2
      have hy := h y List.mem_cons_self
      cases hp : p y with
      | true => rw [hy hp]; simp; omega
      | false => cases q y <;> simp <;> omega
theorem has_long (l : List Sp) : ∀ (n : Nat) (s : Sp), s ∈ l → l.countP (fun u => conS u s) = n → ∃ t ∈ l, keepLong l t = true ∧ t.1 ≤ s.1 ∧ s.2 ≤ t.2 := by
  intro n
  induction n using Nat.strongRecOn with
  | _ n ih =>
    intro s hs hn
    cases hk : keepLong l s with
    | true => exact ⟨s, hs, hk, Int.le_refl _, Int.le_refl _⟩
    | false =>
      have : ¬ ∀ t ∈ l, t.1 ≤ s.1 → s.2 ≤ t.2 → t = s := fun h => by rw [keepLong_iff.2 h] at hk; cases hk
      have : ∃ t, t ∈ l ∧ t.1 ≤ s.1 ∧ s.2 ≤ t.2 ∧ t ≠ s := by
        apply Classical.byContradiction
        intro hno
        exact this fun t ht h1 h2 => Classical.byContradiction fun hne => hno ⟨t, ht, h1, h2, hne⟩
      obtain ⟨t, ht, h1, h2, h3⟩ := this
      have hne : ¬ (t.1 = s.1 ∧ t.2 = s.2) := fun h => h3 (Prod.ext h.1 h.2)
      have hlt : l.countP (fun u => conS u t) < n := by
        rw [← hn]
        refine countP_lt (x := s) l (fun y _ hy => ?_) hs ?_ ?_
        · have := of_decide_eq_true hy
          exact decide_eq_true (by omega)
        · exact decide_eq_false (by omega)
        · exact decide_eq_true (by omega)
      obtain ⟨u, hu, u1, u2, u3⟩ := ih _ hlt t ht rfl
      exact ⟨u, hu, u1, by omega, by omega⟩
theorem trad_over (p : Int) : ∀ (l : List Sp), l.Pairwise ltC → (∀ s ∈ l, s.1 < s.2) → ∀ s ∈ l, s.1 < p ∨ ∃ t ∈ tradF p l, t.1 ≤ s.1 ∧ s.1 < t.2
  | [], _, _, s, hs => by cases hs
  | x :: r, h, hv, s, hs => by
    have h1 := List.pairwise_cons.1 h
    have hv' : ∀ s ∈ r, s.1 < s.2 := fun s h => hv s (List.mem_cons_of_mem _ h)
    rw [tradF]
    by_cases hc : x.1 < p ∨ (r.head?.map (·.1)) = some x.1
    · rw [if_pos hc]
      rcases List.mem_cons.1 hs with rfl | hs
      · rcases hc with hc | hc
        · exact .inl hc
        · cases r with
          | nil => simp at hc
          | cons y r' =>
            simp at hc
            rcases trad_over p (y :: r') h1.2 hv' y List.mem_cons_self with h2 | ⟨t, ht, t1, t2⟩
            · left; omega
            · exact .inr ⟨t, ht, by omega, by omega⟩
      · exact trad_over p r h1.2 hv' s hs
    · rw [if_neg hc]
      have hxv := hv x List.mem_cons_self
      rcases List.mem_cons.1 hs with rfl | hs
      · exact .inr ⟨s, List.mem_cons_self, Int.le_refl _, hxv⟩
      · have hxs := h1.1 s hs
        unfold ltC at hxs
        rcases trad_over x.2 r h1.2 hv' s hs with h2 | ⟨t, ht, t1, t2⟩
        · exact .inr ⟨x, List.mem_cons_self, by omega, h2⟩
        · exact .inr ⟨t, List.mem_cons_of_mem _ ht, t1, t2⟩
theorem chosen_ne (k : Int) (l : List Sp) (h : l.Pairwise ltC) (hv : ∀ s ∈ l, 0 ≤ s.1 ∧ s.1 < s.2) (hn : l ≠ []) : chosenL k l ≠ [] := by
  obtain ⟨s, hs⟩ := List.exists_mem_of_ne_nil l hn
  unfold chosenL
  by_cases k1 : k = 1
  · rw [if_pos k1]
    obtain ⟨t, ht, h1, _⟩ := has_short l (fun s hs => (hv s hs).2) _ s hs rfl
    exact List.ne_nil_of_mem (List.mem_filter.2 ⟨ht, h1⟩)
  · rw [if_neg k1]
    by_cases k2 : k = 2
    · rw [if_pos k2]
      obtain ⟨t, ht, h1, _⟩ := has_long l _ s hs rfl
      exact List.ne_nil_of_mem (List.mem_filter.2 ⟨ht, h1⟩)
    · rw [if_neg k2]
      by_cases k3 : k = 3
      · rw [if_pos k3]
        rcases trad_over 0 l h (fun s hs => (hv s hs).2) s hs with h1 | ⟨t, ht, _⟩
        · have := hv s hs; omega
        · exact List.ne_nil_of_mem ht
      · rw [if_neg k3]; exact hn
theorem tradF_from (p : Int) (h0 : 0 ≤ p) : ∀ l : List Sp, (∀ s ∈ l, p ≤ s.1) → tradF p l = tradF 0 l
  | [], _ => rfl
  | s :: r, h => by
    have hs := h s List.mem_cons_self
    rw [tradF, tradF]
    by_cases hc : (r.head?.map (·.1)) = some s.1
    · rw [if_pos (.inr hc), if_pos (.inr hc)]
      exact tradF_from p h0 r fun s hs => h s (List.mem_cons_of_mem _ hs)
    · rw [if_neg (by rintro (h1 | h1); omega; exact hc h1), if_neg (by rintro (h1 | h1); omega; exact hc h1)]
theorem tradF_app (b : List Sp) : ∀ (a : List Sp) (p : Int), 0 ≤ p → (∀ s ∈ a, 0 ≤ s.1 ∧ s.1 < s.2) → (∀ t ∈ b, p ≤ t.1) → (∀ s ∈ a, ∀ t ∈ b, s.2 ≤ t.1) → tradF p (a ++ b) = tradF p a ++ tradF 0 b
  | [], p, h0, _, hb, _ => by rw [List.nil_append, tradF, List.nil_append]; exact tradF_from p h0 b hb
  | s :: r, p, h0, hv, hb, hab => by
    have hsv := hv s List.mem_cons_self
    have hv' : ∀ s ∈ r, 0 ≤ s.1 ∧ s.1 < s.2 := fun s h => hv s (List.mem_cons_of_mem _ h)
    have hab' : ∀ s ∈ r, ∀ t ∈ b, s.2 ≤ t.1 := fun s h => hab s (List.mem_cons_of_mem _ h)
    have hh : ((r ++ b).head?.map (·.1)) = some s.1 ↔ (r.head?.map (·.1)) = some s.1 := by
      cases r with
      | cons x r' => simp
      | nil =>
        cases b with
        | nil => simp
        | cons y b' =>
          have := hab s List.mem_cons_self y List.mem_cons_self
          simp; omega
    rw [List.cons_append, tradF, tradF]
    by_cases hc : s.1 < p ∨ (r.head?.map (·.1)) = some s.1
    · rw [if_pos hc, if_pos (by rw [hh]; exact hc)]
      exact tradF_app b r p h0 hv' hb hab'
    · rw [if_neg hc, if_neg (by rw [hh]; exact hc), List.cons_append]
      rw [tradF_app b r s.2 (by omega) hv' (fun t ht => hab s List.mem_cons_self t ht) hab']
theorem chosen_app (k : Int) (a b : List Sp) (hv : ∀ s ∈ a, 0 ≤ s.1 ∧ s.1 < s.2) (hv' : ∀ s ∈ b, 0 ≤ s.1 ∧ s.1 < s.2) (h : ∀ s ∈ a, ∀ t ∈ b, s.2 ≤ t.1) : chosenL k (a ++ b) = chosenL k a ++ chosenL k b := by
  unfold chosenL
  by_cases k1 : k = 1
  · simp only [if_pos k1]
    rw [List.filter_append]
    congr 1
    · refine List.filter_congr fun s hs => ?_
      rw [Bool.eq_iff_iff, keepShort_iff, keepShort_iff]
      refine ⟨fun h1 t ht => h1 t (List.mem_append_left _ ht), fun h1 t ht h2 h3 => ?_⟩
      rcases List.mem_append.1 ht with ht | ht
      · exact h1 t ht h2 h3
      · have := h s hs t ht; have := hv' t ht; omega
    · refine List.filter_congr fun s hs => ?_
      rw [Bool.eq_iff_iff, keepShort_iff, keepShort_iff]
      refine ⟨fun h1 t ht => h1 t (List.mem_append_right _ ht), fun h1 t ht h2 h3 => ?_⟩
      rcases List.mem_append.1 ht with ht | ht
      · have := h t ht s hs; have := hv t ht; omega
      · exact h1 t ht h2 h3
  · by_cases k2 : k = 2
    · simp only [if_neg k1, if_pos k2]
      rw [List.filter_append]
      congr 1
      · refine List.filter_congr fun s hs => ?_
        rw [Bool.eq_iff_iff, keepLong_iff, keepLong_iff]
        refine ⟨fun h1 t ht => h1 t (List.mem_append_left _ ht), fun h1 t ht h2 h3 => ?_⟩
        rcases List.mem_append.1 ht with ht | ht
        · exact h1 t ht h2 h3
        · have := h s hs t ht; have := hv s hs; omega
      · refine List.filter_congr fun s hs => ?_
        rw [Bool.eq_iff_iff, keepLong_iff, keepLong_iff]
        refine ⟨fun h1 t ht => h1 t (List.mem_append_right _ ht), fun h1 t ht h2 h3 => ?_⟩
        rcases List.mem_append.1 ht with ht | ht
        · have := h t ht s hs; have := hv' s hs; omega
        · exact h1 t ht h2 h3
    · by_cases k3 : k = 3
      · simp only [if_neg k1, if_neg k2, if_pos k3]
        exact tradF_app b a 0 (Int.le_refl _) hv (fun t ht => (hv' t ht).1) h
      · simp only [if_neg k1, if_neg k2, if_neg k3]
end Go.Proofs.Ytchgfjclchhgmaa
namespace Go.Proofs.Ytchgfjclchhgmaa

/-- the order of lists of integers: by the first difference; a beginning comes first -/
def cmpL : List Int → List Int → Int
  | [], [] => 0
  | [], _ :: _ => -1
  | _ :: _, [] => 1
  | a :: l, b :: m => if a < b then -1 else if b < a then 1 else cmpL l m
theorem cmpL_eq : ∀ a b : List Int, cmpL a b = 0 ↔ a = b
  | [], [] => by simp [cmpL]
  | [], _ :: _ => by simp [cmpL]
  | _ :: _, [] => by simp [cmpL]
  | a :: l, b :: m => by
    rw [cmpL, List.cons.injEq]
    by_cases h1 : a < b
    · rw [if_pos h1]; omega
    · rw [if_neg h1]
      by_cases h2 : b < a
      · rw [if_pos h2]; omega
      · rw [if_neg h2, cmpL_eq l m]
        constructor
        · intro h; exact ⟨by omega, h⟩
        · intro h; exact h.2
theorem cmpL_neg : ∀ a b : List Int, cmpL b a = - cmpL a b
  | [], [] => rfl
  | [], _ :: _ => rfl
  | _ :: _, [] => rfl
  | a :: l, b :: m => by
    rw [cmpL, cmpL]
    by_cases h1 : a < b
    · rw [if_pos h1, if_neg (by omega), if_pos h1]; rfl
    · by_cases h2 : b < a
      · rw [if_pos h2, if_neg h1, if_pos h2]
      · rw [if_neg h2, if_neg h1, if_neg h1, if_neg h2, cmpL_neg l m]
theorem cmpL_trans : ∀ a b c : List Int, cmpL a b < 0 → cmpL b c < 0 → cmpL a c < 0
  | [], [], _, h, _ => by simp [cmpL] at h
  | [], _ :: _, [], _, h => by simp [cmpL] at h
  | [], _ :: _, _ :: _, _, _ => by simp [cmpL]
  | _ :: _, [], _, h, _ => by simp [cmpL] at h
  | _ :: _, _ :: _, [], _, h => by simp [cmpL] at h
  | a :: l, b :: m, c :: n, h1, h2 => by
    rw [cmpL] at h1 h2 ⊢
    by_cases ha : a < b
    · by_cases hb : b < c
      · rw [if_pos (by omega)]; omega
      · rw [if_neg hb] at h2
        by_cases hb2 : c < b
        · rw [if_pos hb2] at h2; omega
        · rw [if_pos (by omega)]; omega
    · rw [if_neg ha] at h1
      by_cases ha2 : b < a
      · rw [if_pos ha2] at h1; omega
      · rw [if_neg ha2] at h1
        by_cases hb : b < c
        · rw [if_pos (by omega)]; omega
        · rw [if_neg hb] at h2
          by_cases hb2 : c < b
          · rw [if_pos hb2] at h2; omega
          · rw [if_neg hb2] at h2
            rw [if_neg (by omega), if_neg (by omega)]
            exact cmpL_trans l m n h1 h2
theorem cmpL_range : ∀ a b : List Int, cmpL a b = -1 ∨ cmpL a b = 0 ∨ cmpL a b = 1
  | [], [] => by simp [cmpL]
  | [], _ :: _ => by simp [cmpL]
  | _ :: _, [] => by simp [cmpL]
  | a :: l, b :: m => by
    rw [cmpL]
    split
    · simp
    · split
      · simp
      · exact cmpL_range l m
def ltK (a b : List Int) : Prop := cmpL a b < 0
theorem ltK_sto : STO ltK where
  irr a := by unfold ltK; rw [(cmpL_eq a a).2 rfl]; omega
  trans a b c := cmpL_trans a b c
  tri a b := by
    unfold ltK
    rw [cmpL_neg a b]
    have h := cmpL_range a b
    have he := cmpL_eq a b
    rcases h with h | h | h
    · left; omega
    · exact .inr (.inl (he.1 h))
    · right; right; omega
end Go.Proofs.Ytchgfjclchhgmaa
namespace Go.Proofs.Ytchgfjclchhgmaa

section
variable {α κ : Type} [DecidableEq κ] (key : α → κ) (lt : κ → κ → Prop) [DecidableRel lt]
def insB : List α → α → List α
  | [], s => [s]
  | x :: t, s => if lt (key x) (key s) then x :: insB t s else if key x = key s then x :: t else s :: x :: t
theorem insB_len (l : List α) (s : α) : (insB key lt l s).length ≤ l.length + 1 := by
  induction l with
  | nil => simp [insB]
  | cons x t ih =>
    rw [insB]
    split
    · simp only [List.length_cons]; omega
    · split <;> simp
theorem insB_sub (s : α) : ∀ (l : List α) (x : α), x ∈ insB key lt l s → x ∈ l ∨ x = s
  | [], x, h => by simp [insB] at h; exact .inr h
  | y :: t, x, h => by
    rw [insB] at h
    split at h
    · rcases List.mem_cons.1 h with rfl | h
      · exact .inl List.mem_cons_self
      · rcases insB_sub s t x h with h | h
        · exact .inl (List.mem_cons_of_mem _ h)
        · exact .inr h
    · split at h
      · exact .inl h
      · rcases List.mem_cons.1 h with rfl | h
        · exact .inr rfl
        · exact .inl h
theorem insB_key (s : α) : ∀ (l : List α) (k : κ), k ∈ (insB key lt l s).map key ↔ k ∈ l.map key ∨ k = key s
  | [], k => by simp [insB]
  | y :: t, k => by
    rw [insB]
    split
    · rw [List.map_cons, List.mem_cons, insB_key s t k, List.map_cons, List.mem_cons, or_assoc]
    · split
      · next h =>
        constructor
        · exact .inl
        · rintro (h1 | rfl)
          · exact h1
          · rw [← h]; exact List.mem_cons_self
      · rw [List.map_cons, List.mem_cons]
        constructor
        · rintro (h | h)
          · exact .inr h
          · exact .inl h
        · rintro (h | h)
          · exact .inr h
          · exact .inl h
theorem insB_sorted (hs : STO lt) (s : α) : ∀ l : List α, l.Pairwise (fun a b => lt (key a) (key b)) → (insB key lt l s).Pairwise (fun a b => lt (key a) (key b))
  | [], _ => by simp [insB]
  | y :: t, h => by
    have h' := List.pairwise_cons.1 h
    rw [insB]
    by_cases hy : lt (key y) (key s)
    · rw [if_pos hy, List.pairwise_cons]
      refine ⟨fun x hx => ?_, insB_sorted hs s t h'.2⟩
      rcases insB_sub key lt s t x hx with h1 | rfl
      · exact h'.1 x h1
      · exact hy
    · rw [if_neg hy]
      by_cases h2 : key y = key s
      · rw [if_pos h2]; exact h
      · rw [if_neg h2, List.pairwise_cons]
        have hsy : lt (key s) (key y) := by
          rcases hs.tri (key y) (key s) with h3 | h3 | h3
          · exact absurd h3 hy
          · exact absurd h3 h2
          · exact h3
        refine ⟨fun x hx => ?_, h⟩
        rcases List.mem_cons.1 hx with rfl | h3
        · exact hsy
        · exact hs.trans _ _ _ hsy (h'.1 x h3)
theorem insB_cut (s : α) : ∀ (l : List α) (k : Nat), k ≤ l.length → (∀ x ∈ l.take k, lt (key x) (key s)) → insB key lt l s = l.take k ++ insB key lt (l.drop k) s
  | l, 0, _, _ => by simp
  | [], k + 1, h, _ => by simp at h
  | x :: t, k + 1, h, hp => by
    rw [List.take_succ_cons, List.drop_succ_cons, insB, if_pos (hp x (by simp)), insB_cut s t k (by simpa using h) (fun y hy => hp y (by simp [hy]))]; rfl
/-- all behind k are greater, the one ahead is smaller -/
theorem insB_new (hs : STO lt) {l : List α} {s : α} {k : Nat} (hk : k ≤ l.length) (h : l.Pairwise (fun a b => lt (key a) (key b))) (hd : ∀ x ∈ l.drop k, lt (key s) (key x)) (ht : k = 0 ∨ ∀ x, l[k - 1]? = some x → lt (key x) (key s)) :
    insB key lt l s = l.take k ++ s :: l.drop k := by
  have htake : ∀ x ∈ l.take k, lt (key x) (key s) := by
    rcases ht with rfl | ht
    · simp
    · intro x hx
      obtain ⟨j, hj, rfl⟩ := List.getElem_of_mem hx
      rw [List.length_take] at hj
      rw [List.getElem_take]
      have hkl : k - 1 < l.length := by omega
      have hlast := ht _ (List.getElem?_eq_getElem hkl)
      rcases Nat.lt_or_ge j (k - 1) with h1 | h1
      · exact hs.trans _ _ _ (List.pairwise_iff_getElem.1 h j (k - 1) (by omega) hkl h1) hlast
      · have : j = k - 1 := by omega
        subst this; exact hlast
  rw [insB_cut key lt s l k hk htake]
  congr 1
  cases hdr : l.drop k with
  | nil => rfl
  | cons x t =>
    have hx : lt (key s) (key x) := hd x (by rw [hdr]; exact List.mem_cons_self)
    rw [insB, if_neg (fun h1 => hs.irr _ (hs.trans _ _ _ hx h1)), if_neg]
    intro e
    rw [e] at hx
    exact hs.irr _ hx
theorem insB_old (hs : STO lt) {s : α} : ∀ {l : List α} {x : α}, l.Pairwise (fun a b => lt (key a) (key b)) → x ∈ l → key x = key s → insB key lt l s = l
  | [], x, _, hx, _ => by simp at hx
  | y :: t, x, h, hx, e => by
    have h' := List.pairwise_cons.1 h
    rw [insB]
    rcases List.mem_cons.1 hx with rfl | hx
    · rw [if_neg (by rw [e]; exact hs.irr _), if_pos e]
    · have := h'.1 x hx
      rw [e] at this
      rw [if_pos this, insB_old hs h'.2 hx e]
end
instance (a b : List Int) : Decidable (ltK a b) := by unfold ltK; exact inferInstance
/-! ### spans -/
abbrev insC (l : List Sp) (s : Sp) : List Sp := insB (fun s : Sp => s) ltC l s
theorem foldInsC (l : List Sp) : ∀ acc : List Sp, acc.Pairwise ltC → (l.foldl insC acc).Pairwise ltC ∧ ∀ x, x ∈ l.foldl insC acc ↔ x ∈ acc ∨ x ∈ l := by
  induction l with
  | nil => intro acc h; exact ⟨h, fun x => by simp⟩
  | cons s t ih =>
    intro acc h
    obtain ⟨h1, h2⟩ := ih (insC acc s) (insB_sorted _ _ ltC_sto s acc h)
    refine ⟨h1, fun x => ?_⟩
    have hk := insB_key (fun s : Sp => s) ltC s acc x
    simp only [List.map_id'] at hk
    rw [List.foldl_cons, h2 x, hk, List.mem_cons, or_assoc]
theorem refSpans_sorted (l : List Sp) : (l.foldl insC []).Pairwise ltC := (foldInsC l [] List.Pairwise.nil).1
theorem refSpans_mem (l : List Sp) (x : Sp) : x ∈ l.foldl insC [] ↔ x ∈ l := by
  rw [(foldInsC l [] List.Pairwise.nil).2 x]; simp
theorem foldInsC_len (l : List Sp) : ∀ acc : List Sp, (l.foldl insC acc).length ≤ acc.length + l.length := by
  induction l with
  | nil => intro acc; simp
  | cons s t ih =>
    intro acc
    have h1 := ih (insC acc s)
    have h2 : (insC acc s).length ≤ acc.length + 1 := insB_len (fun s : Sp => s) ltC acc s
    rw [List.foldl_cons, List.length_cons]; omega
end Go.Proofs.Ytchgfjclchhgmaa
namespace Go.Proofs.Ytchgfjclchhgmaa
open Go.RowKit

structure Mt where
  b : Int
  e : Int
  v : Value
  ls : List Int
def spm (m : Mt) : Sp := (m.b, m.e)
def keyM (m : Mt) : List Int := m.b :: m.e :: m.ls
theorem spm_of_key {m n : Mt} (h : keyM m = keyM n) : spm m = spm n := by
  unfold keyM at h
  injection h with h1 h
  injection h with h2 h
  exact Prod.ext h1 h2
def okS (s : Sp) : Prop := 0 ≤ s.1 ∧ s.1 < s.2
instance (s : Sp) : Decidable (okS s) := by unfold okS; exact inferInstance
def ascM (l : List Mt) : Prop := l.Pairwise fun a b => ltK (keyM a) (keyM b)
theorem ltK_trans {a b c : List Int} (h1 : ltK a b) (h2 : ltK b c) : ltK a c := ltK_sto.trans a b c h1 h2
/-- neighbours in order: all in order -/
theorem ascM_of_adj : ∀ l : List Mt, (∀ (i : Nat) (a b : Mt), l[i]? = some a → l[i + 1]? = some b → ltK (keyM a) (keyM b)) → ascM l
  | [], _ => List.Pairwise.nil
  | [x], _ => List.pairwise_singleton _ _
  | x :: y :: t, h => by
    have ht : ascM (y :: t) := ascM_of_adj (y :: t) fun i a b ha hb => h (i + 1) a b ha hb
    have hxy : ltK (keyM x) (keyM y) := h 0 x y rfl rfl
    unfold ascM at *
    rw [List.pairwise_cons]
    refine ⟨fun z hz => ?_, ht⟩
    rcases List.mem_cons.1 hz with rfl | hz
    · exact hxy
    · exact ltK_trans hxy ((List.pairwise_cons.1 ht).1 z hz)
theorem ascM_adj {l : List Mt} (h : ascM l) {i : Nat} {a b : Mt} (ha : l[i]? = some a) (hb : l[i + 1]? = some b) : ltK (keyM a) (keyM b) := by
  obtain ⟨h1, rfl⟩ := List.getElem?_eq_some_iff.1 ha
  obtain ⟨h2, rfl⟩ := List.getElem?_eq_some_iff.1 hb
  exact List.pairwise_iff_getElem.1 h i (i + 1) h1 h2 (by omega)
theorem ascM_iff {l m : List Mt} (h : l.map keyM = m.map keyM) : ascM l ↔ ascM m := by
  unfold ascM
  rw [← List.pairwise_map (f := keyM) (R := ltK), ← List.pairwise_map (f := keyM) (R := ltK), h]
instance (l : List Mt) : Decidable (ascM l) := by unfold ascM; exact inferInstance
/-- the error of a call of Choose -/
def errM (k : Int) (l : List Mt) (ea er eo : Int) : Int := if k < 0 ∨ 3 < k then ea else if ¬ ∀ m ∈ l, okS (spm m) then er else if ¬ ascM l then eo else 0
def goodM (k : Int) (l : List Mt) : Prop := (0 ≤ k ∧ k ≤ 3) ∧ (∀ m ∈ l, okS (spm m)) ∧ ascM l
instance (k : Int) (l : List Mt) : Decidable (goodM k l) := by unfold goodM; exact inferInstance
def pickM (c : List Sp) (l : List Mt) : List Mt := l.filter fun m => decide (spm m ∈ c)
def keepR (k : Int) (l : List Sp) (s : Sp) : Bool := l.all fun t => !((decide (k = 1) && conS s t) || (decide (k = 2) && conS t s)) || decide (t = s)
theorem keepR1 (l : List Sp) : keepR 1 l = keepShort l := by funext s; simp [keepR, keepShort]
theorem keepR2 (l : List Sp) : keepR 2 l = keepLong l := by funext s; simp [keepR, keepLong]
theorem keepR0 {k : Int} (h1 : k ≠ 1) (h2 : k ≠ 2) (l : List Sp) (s : Sp) : keepR k l s = true := by simp [keepR, h1, h2]
theorem chosen_ref (k : Int) (l : List Sp) (h : k ≠ 3) : chosenL k l = l.filter (keepR k l) := by
  unfold chosenL
  by_cases h1 : k = 1
  · subst h1; rw [if_pos rfl, keepR1]
  · rw [if_neg h1]
    by_cases h2 : k = 2
    · subst h2; rw [if_pos rfl, keepR2]
    · rw [if_neg h2, if_neg h]
      exact (List.filter_eq_self.2 fun s _ => keepR0 h1 h2 l s).symm
theorem chosen3 (l : List Sp) : chosenL 3 l = tradF 0 l := rfl
end Go.Proofs.Ytchgfjclchhgmaa
namespace Go.Proofs.Ytchgfjclchhgmaa
open Go.RowKit

def spansOf (l : List Sp) : List Sp := l.foldl insC []
theorem spansOf_sorted (l : List Sp) : (spansOf l).Pairwise ltC := refSpans_sorted l
theorem spansOf_mem (l : List Sp) (x : Sp) : x ∈ spansOf l ↔ x ∈ l := refSpans_mem l x
theorem spansOf_len (l : List Sp) : (spansOf l).length ≤ l.length := by
  have : (l.foldl insC []).length ≤ ([] : List Sp).length + l.length := foldInsC_len l []
  unfold spansOf
  simpa using this
theorem spansOf_eq {l m : List Sp} (hs : m.Pairwise ltC) (h : ∀ x, x ∈ m ↔ x ∈ l) : spansOf l = m :=
  sorted_ext ltC_sto _ _ (spansOf_sorted l) hs fun x => by rw [spansOf_mem, h]
def spM (l : List Mt) : List Sp := spansOf (l.map spm)
theorem spM_mem {l : List Mt} {s : Sp} : s ∈ spM l ↔ ∃ m ∈ l, spm m = s := by unfold spM; rw [spansOf_mem, List.mem_map]
theorem spM_sorted (l : List Mt) : (spM l).Pairwise ltC := spansOf_sorted _
theorem spM_len (l : List Mt) : (spM l).length ≤ l.length := by have := spansOf_len (l.map spm); rw [List.length_map] at this; exact this
theorem spM_ok {l : List Mt} (h : ∀ m ∈ l, okS (spm m)) : ∀ s ∈ spM l, 0 ≤ s.1 ∧ s.1 < s.2 := by
  intro s hs
  obtain ⟨m, hm, rfl⟩ := spM_mem.1 hs
  exact h m hm
theorem map_spm {l m : List Mt} (h : l.map keyM = m.map keyM) : l.map spm = m.map spm := by
  have h2 : ∀ l : List Mt, l.map spm = (l.map keyM).map (fun k => match k with | b :: e :: _ => (b, e) | _ => (0, 0)) := by
    intro l; rw [List.map_map]; rfl
  rw [h2 l, h2 m, h]
theorem spM_key {l m : List Mt} (h : l.map keyM = m.map keyM) : spM l = spM m := by unfold spM; rw [map_spm h]
theorem pick_key (c : List Sp) {l m : List Mt} (h : l.map keyM = m.map keyM) : (pickM c l).map keyM = (pickM c m).map keyM := by
  have h2 : ∀ l : List Mt, (pickM c l).map keyM = (l.map keyM).filter (fun k => decide ((match k with | b :: e :: _ => (b, e) | _ => ((0, 0) : Sp)) ∈ c)) := by
    intro l; rw [List.filter_map]; rfl
  rw [h2 l, h2 m, h]
theorem ok_key {l m : List Mt} (h : l.map keyM = m.map keyM) (hl : ∀ x ∈ l, okS (spm x)) : ∀ x ∈ m, okS (spm x) := by
  intro x hx
  have : spm x ∈ l.map spm := by rw [map_spm h]; exact List.mem_map.2 ⟨x, hx, rfl⟩
  obtain ⟨y, hy, e⟩ := List.mem_map.1 this
  rw [← e]; exact hl y hy
theorem good_key {k : Int} {l m : List Mt} (h : l.map keyM = m.map keyM) : goodM k l ↔ goodM k m :=
  ⟨fun ⟨h1, h2, h3⟩ => ⟨h1, ok_key h h2, (ascM_iff h).1 h3⟩, fun ⟨h1, h2, h3⟩ => ⟨h1, ok_key h.symm h2, (ascM_iff h).2 h3⟩⟩
/-- what Choose returns for a list in order -/
def chooseM (k : Int) (l : List Mt) : List Mt := pickM (chosenL k (spM l)) l
theorem choose_key (k : Int) {l m : List Mt} (h : l.map keyM = m.map keyM) : (chooseM k l).map keyM = (chooseM k m).map keyM := by
  unfold chooseM; rw [spM_key h]; exact pick_key _ h
theorem choose_sub (k : Int) (l : List Mt) : (chooseM k l).Sublist l := List.filter_sublist
theorem choose_good {k j : Int} {l : List Mt} (h : goodM k l) (hj : 0 ≤ j ∧ j ≤ 3) : goodM j (chooseM k l) :=
  ⟨hj, fun m hm => h.2.1 m ((choose_sub k l).subset hm), h.2.2.sublist (choose_sub k l)⟩
theorem choose_spans (k : Int) (l : List Mt) : spM (chooseM k l) = chosenL k (spM l) := by
  refine spansOf_eq ((spM_sorted l).sublist (chosen_sub k _)) fun s => ?_
  rw [List.mem_map]
  constructor
  · intro h
    obtain ⟨m, hm, rfl⟩ := spM_mem.1 ((chosen_sub k _).subset h)
    exact ⟨m, List.mem_filter.2 ⟨hm, by simpa using h⟩, rfl⟩
  · rintro ⟨m, hm, rfl⟩
    simpa using (List.mem_filter.1 hm).2
theorem choose_twice {k : Int} {l : List Mt} (h : ∀ m ∈ l, okS (spm m)) : chooseM k (chooseM k l) = chooseM k l := by
  unfold chooseM
  rw [show spM (pickM (chosenL k (spM l)) l) = chosenL k (spM l) from choose_spans k l, chosen_idem k _ (spM_ok h)]
  exact List.filter_eq_self.2 fun m hm => (List.mem_filter.1 hm).2
theorem choose_ne {k : Int} {l : List Mt} (h : ∀ m ∈ l, okS (spm m)) : 0 < (chooseM k l).length ↔ 0 < l.length := by
  constructor
  · intro h1; exact Nat.lt_of_lt_of_le h1 (choose_sub k l).length_le
  · intro h1
    obtain ⟨m, hm⟩ := List.exists_mem_of_length_pos h1
    have hne : spM l ≠ [] := List.ne_nil_of_mem (spM_mem.2 ⟨m, hm, rfl⟩)
    have := chosen_ne k (spM l) (spM_sorted l) (spM_ok h) hne
    obtain ⟨s, hs⟩ := List.exists_mem_of_ne_nil _ this
    obtain ⟨x, hx, rfl⟩ := spM_mem.1 ((chosen_sub k _).subset hs)
    exact List.length_pos_of_mem (List.mem_filter.2 ⟨hx, by simpa using hs⟩)
theorem choose_in (k : Int) (l : List Mt) {m : Mt} (hm : m ∈ l) : spm m ∈ (chooseM k l).map spm ↔ m ∈ chooseM k l := by
  constructor
  · intro h
    obtain ⟨n, hn, e⟩ := List.mem_map.1 h
    refine List.mem_filter.2 ⟨hm, ?_⟩
    rw [← e]; exact (List.mem_filter.1 hn).2
  · intro h; exact List.mem_map.2 ⟨m, h, rfl⟩
/-- the matches whose spans occur among the chosen -/
theorem choose_back (k : Int) (l : List Mt) : l.filter (fun m => decide (spm m ∈ (chooseM k l).map spm)) = chooseM k l := by
  conv => rhs; unfold chooseM pickM
  refine List.filter_congr fun m hm => ?_
  rw [decide_eq_decide, choose_in k l hm, chooseM, pickM, List.mem_filter]
  simp [hm]
theorem short_apart {l : List Mt} {s t : Sp} (hs : s ∈ chosenL 1 (spM l)) (ht : t ∈ chosenL 1 (spM l)) (hn : t ≠ s) : ¬ (s.1 ≤ t.1 ∧ t.2 ≤ s.2) := by
  intro ⟨h1, h2⟩
  unfold chosenL at hs ht
  rw [if_pos rfl] at hs ht
  exact hn (keepShort_iff.1 (List.mem_filter.1 hs).2 t (List.mem_filter.1 ht).1 h1 h2)
theorem long_apart {l : List Mt} {s t : Sp} (hs : s ∈ chosenL 2 (spM l)) (ht : t ∈ chosenL 2 (spM l)) (hn : t ≠ s) : ¬ (s.1 ≤ t.1 ∧ t.2 ≤ s.2) := by
  intro ⟨h1, h2⟩
  unfold chosenL at hs ht
  rw [if_neg (by omega), if_pos rfl] at hs ht
  exact hn (keepLong_iff.1 (List.mem_filter.1 ht).2 s (List.mem_filter.1 hs).1 h1 h2).symm
theorem short_in {l : List Mt} (h : ∀ m ∈ l, okS (spm m)) {m : Mt} (hm : m ∈ l) : ∃ t ∈ chosenL 1 (spM l), m.b ≤ t.1 ∧ t.2 ≤ m.e := by
  obtain ⟨t, h1, h2, h3⟩ := has_short (spM l) (fun s hs => (spM_ok h s hs).2) _ (spm m) (spM_mem.2 ⟨m, hm, rfl⟩) rfl
  exact ⟨t, by unfold chosenL; rw [if_pos rfl]; exact List.mem_filter.2 ⟨h1, h2⟩, h3⟩
theorem long_out {l : List Mt} {m : Mt} (hm : m ∈ l) : ∃ t ∈ chosenL 2 (spM l), t.1 ≤ m.b ∧ m.e ≤ t.2 := by
  obtain ⟨t, h1, h2, h3⟩ := has_long (spM l) _ (spm m) (spM_mem.2 ⟨m, hm, rfl⟩) rfl
  exact ⟨t, by unfold chosenL; rw [if_neg (by omega), if_pos rfl]; exact List.mem_filter.2 ⟨h1, h2⟩, h3⟩
theorem trad_apart {l : List Mt} (h : ∀ m ∈ l, okS (spm m)) {i : Nat} {s t : Sp} (hs : (chosenL 3 (spM l))[i]? = some s) (ht : (chosenL 3 (spM l))[i + 1]? = some t) : s.2 ≤ t.1 := by
  have := tradF_apart 0 (spM l) (fun s hs => (spM_ok h s hs).2)
  rw [chosen3] at hs ht
  obtain ⟨h1, rfl⟩ := List.getElem?_eq_some_iff.1 hs
  obtain ⟨h2, rfl⟩ := List.getElem?_eq_some_iff.1 ht
  exact List.pairwise_iff_getElem.1 this i (i + 1) h1 h2 (by omega)
theorem trad_some {l : List Mt} (h : ∀ m ∈ l, okS (spm m)) {m : Mt} (hm : m ∈ l) : ∃ t ∈ chosenL 3 (spM l), t.1 < m.e ∧ m.b < t.2 := by
  have hk := h m hm
  unfold okS at hk
  rcases trad_over 0 (spM l) (spM_sorted l) (fun s hs => (spM_ok h s hs).2) (spm m) (spM_mem.2 ⟨m, hm, rfl⟩) with h1 | ⟨t, h1, h2, h3⟩
  · exact absurd hk.1 (by omega)
  · have h2' : t.1 ≤ m.b := h2
    have hk' : m.b < m.e := hk.2
    exact ⟨t, by rw [chosen3]; exact h1, by omega, h3⟩
/-! ### two lists apart -/
theorem spM_app {x y : List Mt} (h : ∀ a ∈ x, ∀ c ∈ y, a.b < c.b) : spM (x ++ y) = spM x ++ spM y := by
  refine spansOf_eq ?_ fun s => ?_
  · rw [List.pairwise_append]
    refine ⟨spM_sorted x, spM_sorted y, fun a ha c hc => ?_⟩
    obtain ⟨m, hm, rfl⟩ := spM_mem.1 ha
    obtain ⟨n, hn, rfl⟩ := spM_mem.1 hc
    exact .inl (h m hm n hn)
  · rw [List.mem_append, List.map_append, List.mem_append, spM_mem, spM_mem, List.mem_map, List.mem_map]
theorem choose_app {k : Int} {x y : List Mt} (hx : ∀ m ∈ x, okS (spm m)) (hy : ∀ m ∈ y, okS (spm m)) (h : ∀ a ∈ x, ∀ c ∈ y, a.e ≤ c.b) : chooseM k (x ++ y) = chooseM k x ++ chooseM k y := by
  have hb : ∀ a ∈ x, ∀ c ∈ y, a.b < c.b := fun a ha c hc => by
    have h1 := h a ha c hc
    have h2 : a.b < a.e := (hx a ha).2
    omega
  unfold chooseM
  rw [spM_app hb, chosen_app k _ _ (spM_ok hx) (spM_ok hy)]
  · unfold pickM
    rw [List.filter_append]
    congr 1
    · refine List.filter_congr fun m hm => ?_
      rw [decide_eq_decide, List.mem_append]
      refine ⟨fun h1 => h1.resolve_right fun h2 => ?_, .inl⟩
      obtain ⟨n, hn, e⟩ := spM_mem.1 ((chosen_sub k _).subset h2)
      have := hb m hm n hn
      have e1 : n.b = m.b := congrArg Prod.fst e
      omega
    · refine List.filter_congr fun m hm => ?_
      rw [decide_eq_decide, List.mem_append]
      refine ⟨fun h1 => h1.resolve_left fun h2 => ?_, .inr⟩
      obtain ⟨n, hn, e⟩ := spM_mem.1 ((chosen_sub k _).subset h2)
      have := hb n hn m hm
      have e1 : n.b = m.b := congrArg Prod.fst e
      omega
  · intro s hs t ht
    obtain ⟨m, hm, rfl⟩ := spM_mem.1 hs
    obtain ⟨n, hn, rfl⟩ := spM_mem.1 ht
    exact h m hm n hn
end Go.Proofs.Ytchgfjclchhgmaa
