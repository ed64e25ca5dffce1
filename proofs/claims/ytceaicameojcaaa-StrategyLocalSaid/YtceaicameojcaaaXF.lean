/- Facts on the types and functions of the program, by program. -/
import Derived.Test.YtceaicameojcaaaXO
import Derived.Test.YtceaicameojcaaaXE
import Derived.Test.YtceaicameojcaaaProg
namespace Go.Proofs.Ytceaicameojcaaa

instance : IsOne Try.prog 1 := ⟨fun _ => by kernel_rfl, fun _ => by kernel_rfl⟩
instance : ElOf Try.prog 1 1 8 := elOf_mk (by kernel_rfl) (by decide)
instance : ZeroOf Try.prog 1 [.nilFunc] := ⟨.nilFunc, fun _ => by kernel_rfl, by kernel_rfl⟩
instance : IsOne Try.prog 2 := ⟨fun _ => by kernel_rfl, fun _ => by kernel_rfl⟩
instance : IntT Try.prog 2 .i64 := ⟨by kernel_rfl⟩
instance : ElOf Try.prog 2 1 8 := elOf_mk (by kernel_rfl) (by decide)
instance : ZeroOf Try.prog 2 [(.int .i64 0)] := ⟨(.int .i64 0), fun _ => by kernel_rfl, by kernel_rfl⟩
instance : IsOne Try.prog 3 := ⟨fun _ => by kernel_rfl, fun _ => by kernel_rfl⟩
instance : IntT Try.prog 3 .i64 := ⟨by kernel_rfl⟩
instance : ElOf Try.prog 3 1 8 := elOf_mk (by kernel_rfl) (by decide)
instance : ZeroOf Try.prog 3 [(.int .i64 0)] := ⟨(.int .i64 0), fun _ => by kernel_rfl, by kernel_rfl⟩
instance : IsOne Try.prog 4 := ⟨fun _ => by kernel_rfl, fun _ => by kernel_rfl⟩
instance : BoolT Try.prog 4 := ⟨by kernel_rfl⟩
instance : ElOf Try.prog 4 1 1 := elOf_mk (by kernel_rfl) (by decide)
instance : ZeroOf Try.prog 4 [(.bool false)] := ⟨(.bool false), fun _ => by kernel_rfl, by kernel_rfl⟩
instance : IsOne Try.prog 5 := ⟨fun _ => by kernel_rfl, fun _ => by kernel_rfl⟩
instance : IntT Try.prog 5 .u8 := ⟨by kernel_rfl⟩
instance : ElOf Try.prog 5 1 1 := elOf_mk (by kernel_rfl) (by decide)
instance : ZeroOf Try.prog 5 [(.int .u8 0)] := ⟨(.int .u8 0), fun _ => by kernel_rfl, by kernel_rfl⟩
instance : IsOne Try.prog 6 := ⟨fun _ => by kernel_rfl, fun _ => by kernel_rfl⟩
instance : IntT Try.prog 6 .u8 := ⟨by kernel_rfl⟩
instance : ElOf Try.prog 6 1 1 := elOf_mk (by kernel_rfl) (by decide)
instance : ZeroOf Try.prog 6 [(.int .u8 0)] := ⟨(.int .u8 0), fun _ => by kernel_rfl, by kernel_rfl⟩
instance : IsAgg Try.prog 7 4 := ⟨fun _ => by kernel_rfl, fun _ => by kernel_rfl⟩
instance : FldAt Try.prog 7 0 0 := ⟨fun _ _ _ => by kernel_rfl⟩
instance : FldAt Try.prog 7 1 1 := ⟨fun _ _ _ => by kernel_rfl⟩
instance : FldAt Try.prog 7 2 2 := ⟨fun _ _ _ => by kernel_rfl⟩
instance : FldAt Try.prog 7 3 3 := ⟨fun _ _ _ => by kernel_rfl⟩
instance : ElOf Try.prog 7 4 24 := elOf_mk (by kernel_rfl) (by decide)
instance : ZeroOf Try.prog 7 [(.int .i64 0), (.int .i64 0), (.bool false), (.int .u8 0)] := ⟨(.agg #[(.int .i64 0), (.int .i64 0), (.bool false), (.int .u8 0)]), fun _ => by kernel_rfl, by kernel_rfl⟩
instance : PlacesOf Try.prog 7 [(0, 1), (1, 1), (2, 1), (3, 1)] [(.int .i64 0), (.int .i64 0), (.bool false), (.int .u8 0)] := placesOf_mk (Try.prog.fieldsOf 7) (.agg #[(.int .i64 0), (.int .i64 0), (.bool false), (.int .u8 0)]) (fun _ => by kernel_rfl) (by kernel_rfl) (by kernel_rfl) (fun _ => by kernel_rfl)
instance : IsAgg Try.prog 8 4 := ⟨fun _ => by kernel_rfl, fun _ => by kernel_rfl⟩
instance : FldAt Try.prog 8 0 0 := ⟨fun _ _ _ => by kernel_rfl⟩
instance : FldAt Try.prog 8 1 1 := ⟨fun _ _ _ => by kernel_rfl⟩
instance : FldAt Try.prog 8 2 2 := ⟨fun _ _ _ => by kernel_rfl⟩
instance : FldAt Try.prog 8 3 3 := ⟨fun _ _ _ => by kernel_rfl⟩
instance : ElOf Try.prog 8 4 24 := elOf_mk (by kernel_rfl) (by decide)
instance : ZeroOf Try.prog 8 [(.int .i64 0), (.int .i64 0), (.bool false), (.int .u8 0)] := ⟨(.agg #[(.int .i64 0), (.int .i64 0), (.bool false), (.int .u8 0)]), fun _ => by kernel_rfl, by kernel_rfl⟩
instance : PlacesOf Try.prog 8 [(0, 1), (1, 1), (2, 1), (3, 1)] [(.int .i64 0), (.int .i64 0), (.bool false), (.int .u8 0)] := placesOf_mk (Try.prog.fieldsOf 8) (.agg #[(.int .i64 0), (.int .i64 0), (.bool false), (.int .u8 0)]) (fun _ => by kernel_rfl) (by kernel_rfl) (by kernel_rfl) (fun _ => by kernel_rfl)
instance : IsOne Try.prog 9 := ⟨fun _ => by kernel_rfl, fun _ => by kernel_rfl⟩
instance : NotInt Try.prog 9 := ⟨.inl (by kernel_rfl)⟩
instance : StrT Try.prog 9 := ⟨by kernel_rfl⟩
instance : ElOf Try.prog 9 1 16 := elOf_mk (by kernel_rfl) (by decide)
instance : ZeroOf Try.prog 9 [(.string ⟨#[]⟩)] := ⟨(.string ⟨#[]⟩), fun _ => by kernel_rfl, by kernel_rfl⟩
instance : IsOne Try.prog 10 := ⟨fun _ => by kernel_rfl, fun _ => by kernel_rfl⟩
instance : NotInt Try.prog 10 := ⟨.inl (by kernel_rfl)⟩
instance : StrT Try.prog 10 := ⟨by kernel_rfl⟩
instance : ElOf Try.prog 10 1 16 := elOf_mk (by kernel_rfl) (by decide)
instance : ZeroOf Try.prog 10 [(.string ⟨#[]⟩)] := ⟨(.string ⟨#[]⟩), fun _ => by kernel_rfl, by kernel_rfl⟩
instance : IsOne Try.prog 11 := ⟨fun _ => by kernel_rfl, fun _ => by kernel_rfl⟩
instance : NotInt Try.prog 11 := ⟨.inl (by kernel_rfl)⟩
instance : StrT Try.prog 11 := ⟨by kernel_rfl⟩
instance : ElOf Try.prog 11 1 16 := elOf_mk (by kernel_rfl) (by decide)
instance : ZeroOf Try.prog 11 [(.string ⟨#[]⟩)] := ⟨(.string ⟨#[]⟩), fun _ => by kernel_rfl, by kernel_rfl⟩
instance : IsOne Try.prog 12 := ⟨fun _ => by kernel_rfl, fun _ => by kernel_rfl⟩
instance : IntT Try.prog 12 .u64 := ⟨by kernel_rfl⟩
instance : ElOf Try.prog 12 1 8 := elOf_mk (by kernel_rfl) (by decide)
instance : ZeroOf Try.prog 12 [(.int .u64 0)] := ⟨(.int .u64 0), fun _ => by kernel_rfl, by kernel_rfl⟩
instance : IsAgg Try.prog 13 2 := ⟨fun _ => by kernel_rfl, fun _ => by kernel_rfl⟩
instance : FldAt Try.prog 13 0 0 := ⟨fun _ _ _ => by kernel_rfl⟩
instance : FldAt Try.prog 13 1 1 := ⟨fun _ _ _ => by kernel_rfl⟩
instance : ElOf Try.prog 13 2 24 := elOf_mk (by kernel_rfl) (by decide)
instance : ZeroOf Try.prog 13 [(.string ⟨#[]⟩), (.int .u64 0)] := ⟨(.agg #[(.string ⟨#[]⟩), (.int .u64 0)]), fun _ => by kernel_rfl, by kernel_rfl⟩
instance : PlacesOf Try.prog 13 [(0, 1), (1, 1)] [(.string ⟨#[]⟩), (.int .u64 0)] := placesOf_mk (Try.prog.fieldsOf 13) (.agg #[(.string ⟨#[]⟩), (.int .u64 0)]) (fun _ => by kernel_rfl) (by kernel_rfl) (by kernel_rfl) (fun _ => by kernel_rfl)
instance : IsAgg Try.prog 14 2 := ⟨fun _ => by kernel_rfl, fun _ => by kernel_rfl⟩
instance : FldAt Try.prog 14 0 0 := ⟨fun _ _ _ => by kernel_rfl⟩
instance : FldAt Try.prog 14 1 1 := ⟨fun _ _ _ => by kernel_rfl⟩
instance : ElOf Try.prog 14 2 24 := elOf_mk (by kernel_rfl) (by decide)
instance : ZeroOf Try.prog 14 [(.string ⟨#[]⟩), (.int .u64 0)] := ⟨(.agg #[(.string ⟨#[]⟩), (.int .u64 0)]), fun _ => by kernel_rfl, by kernel_rfl⟩
instance : PlacesOf Try.prog 14 [(0, 1), (1, 1)] [(.string ⟨#[]⟩), (.int .u64 0)] := placesOf_mk (Try.prog.fieldsOf 14) (.agg #[(.string ⟨#[]⟩), (.int .u64 0)]) (fun _ => by kernel_rfl) (by kernel_rfl) (by kernel_rfl) (fun _ => by kernel_rfl)
instance : IsOne Try.prog 15 := ⟨fun _ => by kernel_rfl, fun _ => by kernel_rfl⟩
instance : ElOf Try.prog 15 1 8 := elOf_mk (by kernel_rfl) (by decide)
instance : ZeroOf Try.prog 15 [(.pointer none)] := ⟨(.pointer none), fun _ => by kernel_rfl, by kernel_rfl⟩
instance : IsOne Try.prog 16 := ⟨fun _ => by kernel_rfl, fun _ => by kernel_rfl⟩
instance : ElOf Try.prog 16 1 8 := elOf_mk (by kernel_rfl) (by decide)
instance : ZeroOf Try.prog 16 [(.pointer none)] := ⟨(.pointer none), fun _ => by kernel_rfl, by kernel_rfl⟩
instance : IsOne Try.prog 17 := ⟨fun _ => by kernel_rfl, fun _ => by kernel_rfl⟩
instance : ElOf Try.prog 17 1 8 := elOf_mk (by kernel_rfl) (by decide)
instance : ZeroOf Try.prog 17 [(.pointer none)] := ⟨(.pointer none), fun _ => by kernel_rfl, by kernel_rfl⟩
instance : IsAgg Try.prog 18 1 := ⟨fun _ => by kernel_rfl, fun _ => by kernel_rfl⟩
instance : FldAt Try.prog 18 0 0 := ⟨fun _ _ _ => by kernel_rfl⟩
instance : ElOf Try.prog 18 1 8 := elOf_mk (by kernel_rfl) (by decide)
instance : ZeroOf Try.prog 18 [(.pointer none)] := ⟨(.agg #[(.pointer none)]), fun _ => by kernel_rfl, by kernel_rfl⟩
instance : PlacesOf Try.prog 18 [(0, 1)] [(.pointer none)] := placesOf_mk (Try.prog.fieldsOf 18) (.agg #[(.pointer none)]) (fun _ => by kernel_rfl) (by kernel_rfl) (by kernel_rfl) (fun _ => by kernel_rfl)
instance : IsAgg Try.prog 19 1 := ⟨fun _ => by kernel_rfl, fun _ => by kernel_rfl⟩
instance : FldAt Try.prog 19 0 0 := ⟨fun _ _ _ => by kernel_rfl⟩
instance : ElOf Try.prog 19 1 8 := elOf_mk (by kernel_rfl) (by decide)
instance : ZeroOf Try.prog 19 [(.pointer none)] := ⟨(.agg #[(.pointer none)]), fun _ => by kernel_rfl, by kernel_rfl⟩
instance : PlacesOf Try.prog 19 [(0, 1)] [(.pointer none)] := placesOf_mk (Try.prog.fieldsOf 19) (.agg #[(.pointer none)]) (fun _ => by kernel_rfl) (by kernel_rfl) (by kernel_rfl) (fun _ => by kernel_rfl)
instance : IsOne Try.prog 20 := ⟨fun _ => by kernel_rfl, fun _ => by kernel_rfl⟩
instance : ElOf Try.prog 20 1 16 := elOf_mk (by kernel_rfl) (by decide)
instance : ZeroOf Try.prog 20 [.nilIface] := ⟨.nilIface, fun _ => by kernel_rfl, by kernel_rfl⟩
instance : IsOne Try.prog 21 := ⟨fun _ => by kernel_rfl, fun _ => by kernel_rfl⟩
instance : IntT Try.prog 21 .i32 := ⟨by kernel_rfl⟩
instance : ElOf Try.prog 21 1 4 := elOf_mk (by kernel_rfl) (by decide)
instance : ZeroOf Try.prog 21 [(.int .i32 0)] := ⟨(.int .i32 0), fun _ => by kernel_rfl, by kernel_rfl⟩
instance : IsOne Try.prog 22 := ⟨fun _ => by kernel_rfl, fun _ => by kernel_rfl⟩
instance : NotInt Try.prog 22 := ⟨.inr ⟨3, by kernel_rfl⟩⟩
instance : SlOf Try.prog 22 3 1 := ⟨by kernel_rfl, fun _ => by kernel_rfl⟩
instance : ElOf Try.prog 22 1 24 := elOf_mk (by kernel_rfl) (by decide)
instance : ZeroOf Try.prog 22 [(.slice none 0 0)] := ⟨(.slice none 0 0), fun _ => by kernel_rfl, by kernel_rfl⟩
instance : IsOne Try.prog 23 := ⟨fun _ => by kernel_rfl, fun _ => by kernel_rfl⟩
instance : NotInt Try.prog 23 := ⟨.inr ⟨38, by kernel_rfl⟩⟩
instance : SlOf Try.prog 23 38 3 := ⟨by kernel_rfl, fun _ => by kernel_rfl⟩
instance : ElOf Try.prog 23 1 24 := elOf_mk (by kernel_rfl) (by decide)
instance : ZeroOf Try.prog 23 [(.slice none 0 0)] := ⟨(.slice none 0 0), fun _ => by kernel_rfl, by kernel_rfl⟩
instance : IsOne Try.prog 24 := ⟨fun _ => by kernel_rfl, fun _ => by kernel_rfl⟩
instance : ElOf Try.prog 24 1 8 := elOf_mk (by kernel_rfl) (by decide)
instance : ZeroOf Try.prog 24 [.nilFunc] := ⟨.nilFunc, fun _ => by kernel_rfl, by kernel_rfl⟩
instance : IsOne Try.prog 25 := ⟨fun _ => by kernel_rfl, fun _ => by kernel_rfl⟩
instance : ElOf Try.prog 25 1 8 := elOf_mk (by kernel_rfl) (by decide)
instance : ZeroOf Try.prog 25 [.nilFunc] := ⟨.nilFunc, fun _ => by kernel_rfl, by kernel_rfl⟩
instance : IsOne Try.prog 26 := ⟨fun _ => by kernel_rfl, fun _ => by kernel_rfl⟩
instance : IntT Try.prog 26 .i64 := ⟨by kernel_rfl⟩
instance : ElOf Try.prog 26 1 8 := elOf_mk (by kernel_rfl) (by decide)
instance : ZeroOf Try.prog 26 [(.int .i64 0)] := ⟨(.int .i64 0), fun _ => by kernel_rfl, by kernel_rfl⟩
instance : IsOne Try.prog 28 := ⟨fun _ => by kernel_rfl, fun _ => by kernel_rfl⟩
instance : ElOf Try.prog 28 1 8 := elOf_mk (by kernel_rfl) (by decide)
instance : ZeroOf Try.prog 28 [.nilFunc] := ⟨.nilFunc, fun _ => by kernel_rfl, by kernel_rfl⟩
instance : IsOne Try.prog 29 := ⟨fun _ => by kernel_rfl, fun _ => by kernel_rfl⟩
instance : ElOf Try.prog 29 1 8 := elOf_mk (by kernel_rfl) (by decide)
instance : ZeroOf Try.prog 29 [.nilFunc] := ⟨.nilFunc, fun _ => by kernel_rfl, by kernel_rfl⟩
instance : IsOne Try.prog 30 := ⟨fun _ => by kernel_rfl, fun _ => by kernel_rfl⟩
instance : ElOf Try.prog 30 1 8 := elOf_mk (by kernel_rfl) (by decide)
instance : ZeroOf Try.prog 30 [.nilFunc] := ⟨.nilFunc, fun _ => by kernel_rfl, by kernel_rfl⟩
instance : IsOne Try.prog 31 := ⟨fun _ => by kernel_rfl, fun _ => by kernel_rfl⟩
instance : NotInt Try.prog 31 := ⟨.inr ⟨40, by kernel_rfl⟩⟩
instance : SlOf Try.prog 31 40 2 := ⟨by kernel_rfl, fun _ => by kernel_rfl⟩
instance : ElOf Try.prog 31 1 24 := elOf_mk (by kernel_rfl) (by decide)
instance : ZeroOf Try.prog 31 [(.slice none 0 0)] := ⟨(.slice none 0 0), fun _ => by kernel_rfl, by kernel_rfl⟩
instance : IsOne Try.prog 32 := ⟨fun _ => by kernel_rfl, fun _ => by kernel_rfl⟩
instance : ElOf Try.prog 32 1 8 := elOf_mk (by kernel_rfl) (by decide)
instance : ZeroOf Try.prog 32 [.nilFunc] := ⟨.nilFunc, fun _ => by kernel_rfl, by kernel_rfl⟩
instance : IsOne Try.prog 33 := ⟨fun _ => by kernel_rfl, fun _ => by kernel_rfl⟩
instance : ElOf Try.prog 33 1 8 := elOf_mk (by kernel_rfl) (by decide)
instance : ZeroOf Try.prog 33 [.nilFunc] := ⟨.nilFunc, fun _ => by kernel_rfl, by kernel_rfl⟩
instance : IsOne Try.prog 34 := ⟨fun _ => by kernel_rfl, fun _ => by kernel_rfl⟩
instance : ElOf Try.prog 34 1 8 := elOf_mk (by kernel_rfl) (by decide)
instance : ZeroOf Try.prog 34 [.nilFunc] := ⟨.nilFunc, fun _ => by kernel_rfl, by kernel_rfl⟩
instance : IsOne Try.prog 35 := ⟨fun _ => by kernel_rfl, fun _ => by kernel_rfl⟩
instance : ElOf Try.prog 35 1 8 := elOf_mk (by kernel_rfl) (by decide)
instance : ZeroOf Try.prog 35 [.nilFunc] := ⟨.nilFunc, fun _ => by kernel_rfl, by kernel_rfl⟩
instance : IsOne Try.prog 36 := ⟨fun _ => by kernel_rfl, fun _ => by kernel_rfl⟩
instance : ElOf Try.prog 36 1 8 := elOf_mk (by kernel_rfl) (by decide)
instance : ZeroOf Try.prog 36 [(.map none)] := ⟨(.map none), fun _ => by kernel_rfl, by kernel_rfl⟩
instance : IsAgg Try.prog 37 3 := ⟨fun _ => by kernel_rfl, fun _ => by kernel_rfl⟩
instance : FldAt Try.prog 37 0 0 := ⟨fun _ _ _ => by kernel_rfl⟩
instance : FldAt Try.prog 37 1 1 := ⟨fun _ _ _ => by kernel_rfl⟩
instance : FldAt Try.prog 37 2 2 := ⟨fun _ _ _ => by kernel_rfl⟩
instance : ElOf Try.prog 37 3 40 := elOf_mk (by kernel_rfl) (by decide)
instance : ZeroOf Try.prog 37 [(.int .i64 0), (.int .i64 0), (.slice none 0 0)] := ⟨(.agg #[(.int .i64 0), (.int .i64 0), (.slice none 0 0)]), fun _ => by kernel_rfl, by kernel_rfl⟩
instance : PlacesOf Try.prog 37 [(0, 1), (1, 1), (2, 1)] [(.int .i64 0), (.int .i64 0), (.slice none 0 0)] := placesOf_mk (Try.prog.fieldsOf 37) (.agg #[(.int .i64 0), (.int .i64 0), (.slice none 0 0)]) (fun _ => by kernel_rfl) (by kernel_rfl) (by kernel_rfl) (fun _ => by kernel_rfl)
instance : IsAgg Try.prog 38 3 := ⟨fun _ => by kernel_rfl, fun _ => by kernel_rfl⟩
instance : FldAt Try.prog 38 0 0 := ⟨fun _ _ _ => by kernel_rfl⟩
instance : FldAt Try.prog 38 1 1 := ⟨fun _ _ _ => by kernel_rfl⟩
instance : FldAt Try.prog 38 2 2 := ⟨fun _ _ _ => by kernel_rfl⟩
instance : ElOf Try.prog 38 3 40 := elOf_mk (by kernel_rfl) (by decide)
instance : ZeroOf Try.prog 38 [(.int .i64 0), (.int .i64 0), (.slice none 0 0)] := ⟨(.agg #[(.int .i64 0), (.int .i64 0), (.slice none 0 0)]), fun _ => by kernel_rfl, by kernel_rfl⟩
instance : PlacesOf Try.prog 38 [(0, 1), (1, 1), (2, 1)] [(.int .i64 0), (.int .i64 0), (.slice none 0 0)] := placesOf_mk (Try.prog.fieldsOf 38) (.agg #[(.int .i64 0), (.int .i64 0), (.slice none 0 0)]) (fun _ => by kernel_rfl) (by kernel_rfl) (by kernel_rfl) (fun _ => by kernel_rfl)
instance : IsAgg Try.prog 39 2 := ⟨fun _ => by kernel_rfl, fun _ => by kernel_rfl⟩
instance : FldAt Try.prog 39 0 0 := ⟨fun _ _ _ => by kernel_rfl⟩
instance : FldAt Try.prog 39 1 1 := ⟨fun _ _ _ => by kernel_rfl⟩
instance : ElOf Try.prog 39 2 16 := elOf_mk (by kernel_rfl) (by decide)
instance : ZeroOf Try.prog 39 [(.int .i64 0), (.int .i64 0)] := ⟨(.agg #[(.int .i64 0), (.int .i64 0)]), fun _ => by kernel_rfl, by kernel_rfl⟩
instance : PlacesOf Try.prog 39 [(0, 1), (1, 1)] [(.int .i64 0), (.int .i64 0)] := placesOf_mk (Try.prog.fieldsOf 39) (.agg #[(.int .i64 0), (.int .i64 0)]) (fun _ => by kernel_rfl) (by kernel_rfl) (by kernel_rfl) (fun _ => by kernel_rfl)
instance : IsAgg Try.prog 40 2 := ⟨fun _ => by kernel_rfl, fun _ => by kernel_rfl⟩
instance : FldAt Try.prog 40 0 0 := ⟨fun _ _ _ => by kernel_rfl⟩
instance : FldAt Try.prog 40 1 1 := ⟨fun _ _ _ => by kernel_rfl⟩
instance : FlatEq Try.prog 40 [.int .i64, .int .i64] := ⟨by kernel_rfl, .cons (by kernel_rfl) (of_decide_eq_true (by kernel_rfl)) (fun _ => by kernel_rfl) (by kernel_rfl) (.cons (by kernel_rfl) (of_decide_eq_true (by kernel_rfl)) (fun _ => by kernel_rfl) (by kernel_rfl) (.nil)), by kernel_rfl, by kernel_rfl⟩
instance : ElOf Try.prog 40 2 16 := elOf_mk (by kernel_rfl) (by decide)
instance : ZeroOf Try.prog 40 [(.int .i64 0), (.int .i64 0)] := ⟨(.agg #[(.int .i64 0), (.int .i64 0)]), fun _ => by kernel_rfl, by kernel_rfl⟩
instance : PlacesOf Try.prog 40 [(0, 1), (1, 1)] [(.int .i64 0), (.int .i64 0)] := placesOf_mk (Try.prog.fieldsOf 40) (.agg #[(.int .i64 0), (.int .i64 0)]) (fun _ => by kernel_rfl) (by kernel_rfl) (by kernel_rfl) (fun _ => by kernel_rfl)
instance : IsOne Try.prog 41 := ⟨fun _ => by kernel_rfl, fun _ => by kernel_rfl⟩
instance : ElOf Try.prog 41 1 8 := elOf_mk (by kernel_rfl) (by decide)
instance : ZeroOf Try.prog 41 [.nilFunc] := ⟨.nilFunc, fun _ => by kernel_rfl, by kernel_rfl⟩
instance : IsOne Try.prog 42 := ⟨fun _ => by kernel_rfl, fun _ => by kernel_rfl⟩
instance : NotInt Try.prog 42 := ⟨.inr ⟨31, by kernel_rfl⟩⟩
instance : SlOf Try.prog 42 31 1 := ⟨by kernel_rfl, fun _ => by kernel_rfl⟩
instance : ElOf Try.prog 42 1 24 := elOf_mk (by kernel_rfl) (by decide)
instance : ZeroOf Try.prog 42 [(.slice none 0 0)] := ⟨(.slice none 0 0), fun _ => by kernel_rfl, by kernel_rfl⟩
instance : IsOne Try.prog 43 := ⟨fun _ => by kernel_rfl, fun _ => by kernel_rfl⟩
instance : ElOf Try.prog 43 1 8 := elOf_mk (by kernel_rfl) (by decide)
instance : ZeroOf Try.prog 43 [.nilFunc] := ⟨.nilFunc, fun _ => by kernel_rfl, by kernel_rfl⟩
instance : IsOne Try.prog 44 := ⟨fun _ => by kernel_rfl, fun _ => by kernel_rfl⟩
instance : ElOf Try.prog 44 1 8 := elOf_mk (by kernel_rfl) (by decide)
instance : ZeroOf Try.prog 44 [.nilFunc] := ⟨.nilFunc, fun _ => by kernel_rfl, by kernel_rfl⟩
instance : IsOne Try.prog 45 := ⟨fun _ => by kernel_rfl, fun _ => by kernel_rfl⟩
instance : ElOf Try.prog 45 1 8 := elOf_mk (by kernel_rfl) (by decide)
instance : ZeroOf Try.prog 45 [.nilFunc] := ⟨.nilFunc, fun _ => by kernel_rfl, by kernel_rfl⟩
instance : IsOne Try.prog 46 := ⟨fun _ => by kernel_rfl, fun _ => by kernel_rfl⟩
instance : ElOf Try.prog 46 1 8 := elOf_mk (by kernel_rfl) (by decide)
instance : ZeroOf Try.prog 46 [(.pointer none)] := ⟨(.pointer none), fun _ => by kernel_rfl, by kernel_rfl⟩
instance : IsOne Try.prog 47 := ⟨fun _ => by kernel_rfl, fun _ => by kernel_rfl⟩
instance : ElOf Try.prog 47 1 8 := elOf_mk (by kernel_rfl) (by decide)
instance : ZeroOf Try.prog 47 [.nilFunc] := ⟨.nilFunc, fun _ => by kernel_rfl, by kernel_rfl⟩
instance : IsOne Try.prog 48 := ⟨fun _ => by kernel_rfl, fun _ => by kernel_rfl⟩
instance : ElOf Try.prog 48 1 8 := elOf_mk (by kernel_rfl) (by decide)
instance : ZeroOf Try.prog 48 [.nilFunc] := ⟨.nilFunc, fun _ => by kernel_rfl, by kernel_rfl⟩
instance : IsOne Try.prog 49 := ⟨fun _ => by kernel_rfl, fun _ => by kernel_rfl⟩
instance : NotInt Try.prog 49 := ⟨.inr ⟨40, by kernel_rfl⟩⟩
instance : SlOf Try.prog 49 40 2 := ⟨by kernel_rfl, fun _ => by kernel_rfl⟩
instance : ElOf Try.prog 49 1 24 := elOf_mk (by kernel_rfl) (by decide)
instance : ZeroOf Try.prog 49 [(.slice none 0 0)] := ⟨(.slice none 0 0), fun _ => by kernel_rfl, by kernel_rfl⟩
instance : IsOne Try.prog 50 := ⟨fun _ => by kernel_rfl, fun _ => by kernel_rfl⟩
instance : ElOf Try.prog 50 1 8 := elOf_mk (by kernel_rfl) (by decide)
instance : ZeroOf Try.prog 50 [.nilFunc] := ⟨.nilFunc, fun _ => by kernel_rfl, by kernel_rfl⟩
instance : IsOne Try.prog 51 := ⟨fun _ => by kernel_rfl, fun _ => by kernel_rfl⟩
instance : NotInt Try.prog 51 := ⟨.inr ⟨50, by kernel_rfl⟩⟩
instance : SlOf Try.prog 51 50 1 := ⟨by kernel_rfl, fun _ => by kernel_rfl⟩
instance : ElOf Try.prog 51 1 24 := elOf_mk (by kernel_rfl) (by decide)
instance : ZeroOf Try.prog 51 [(.slice none 0 0)] := ⟨(.slice none 0 0), fun _ => by kernel_rfl, by kernel_rfl⟩
instance : IsOne Try.prog 53 := ⟨fun _ => by kernel_rfl, fun _ => by kernel_rfl⟩
instance : ElOf Try.prog 53 1 8 := elOf_mk (by kernel_rfl) (by decide)
instance : ZeroOf Try.prog 53 [.nilFunc] := ⟨.nilFunc, fun _ => by kernel_rfl, by kernel_rfl⟩
instance : IsOne Try.prog 54 := ⟨fun _ => by kernel_rfl, fun _ => by kernel_rfl⟩
instance : ElOf Try.prog 54 1 8 := elOf_mk (by kernel_rfl) (by decide)
instance : ZeroOf Try.prog 54 [.nilFunc] := ⟨.nilFunc, fun _ => by kernel_rfl, by kernel_rfl⟩
instance : IsOne Try.prog 55 := ⟨fun _ => by kernel_rfl, fun _ => by kernel_rfl⟩
instance : ElOf Try.prog 55 1 8 := elOf_mk (by kernel_rfl) (by decide)
instance : ZeroOf Try.prog 55 [.nilFunc] := ⟨.nilFunc, fun _ => by kernel_rfl, by kernel_rfl⟩
instance : IsOne Try.prog 56 := ⟨fun _ => by kernel_rfl, fun _ => by kernel_rfl⟩
instance : ElOf Try.prog 56 1 8 := elOf_mk (by kernel_rfl) (by decide)
instance : ZeroOf Try.prog 56 [.nilFunc] := ⟨.nilFunc, fun _ => by kernel_rfl, by kernel_rfl⟩
instance : IsOne Try.prog 57 := ⟨fun _ => by kernel_rfl, fun _ => by kernel_rfl⟩
instance : ElOf Try.prog 57 1 8 := elOf_mk (by kernel_rfl) (by decide)
instance : ZeroOf Try.prog 57 [.nilFunc] := ⟨.nilFunc, fun _ => by kernel_rfl, by kernel_rfl⟩
instance : IsOne Try.prog 58 := ⟨fun _ => by kernel_rfl, fun _ => by kernel_rfl⟩
instance : ElOf Try.prog 58 1 8 := elOf_mk (by kernel_rfl) (by decide)
instance : ZeroOf Try.prog 58 [.nilFunc] := ⟨.nilFunc, fun _ => by kernel_rfl, by kernel_rfl⟩
instance : IsOne Try.prog 59 := ⟨fun _ => by kernel_rfl, fun _ => by kernel_rfl⟩
instance : ElOf Try.prog 59 1 8 := elOf_mk (by kernel_rfl) (by decide)
instance : ZeroOf Try.prog 59 [.nilFunc] := ⟨.nilFunc, fun _ => by kernel_rfl, by kernel_rfl⟩
instance : IsOne Try.prog 60 := ⟨fun _ => by kernel_rfl, fun _ => by kernel_rfl⟩
instance : ElOf Try.prog 60 1 8 := elOf_mk (by kernel_rfl) (by decide)
instance : ZeroOf Try.prog 60 [.nilFunc] := ⟨.nilFunc, fun _ => by kernel_rfl, by kernel_rfl⟩
instance : IsOne Try.prog 61 := ⟨fun _ => by kernel_rfl, fun _ => by kernel_rfl⟩
instance : ElOf Try.prog 61 1 8 := elOf_mk (by kernel_rfl) (by decide)
instance : ZeroOf Try.prog 61 [.nilFunc] := ⟨.nilFunc, fun _ => by kernel_rfl, by kernel_rfl⟩
instance : IsOne Try.prog 62 := ⟨fun _ => by kernel_rfl, fun _ => by kernel_rfl⟩
instance : ElOf Try.prog 62 1 8 := elOf_mk (by kernel_rfl) (by decide)
instance : ZeroOf Try.prog 62 [.nilFunc] := ⟨.nilFunc, fun _ => by kernel_rfl, by kernel_rfl⟩
instance : IsOne Try.prog 63 := ⟨fun _ => by kernel_rfl, fun _ => by kernel_rfl⟩
instance : ElOf Try.prog 63 1 8 := elOf_mk (by kernel_rfl) (by decide)
instance : ZeroOf Try.prog 63 [.nilFunc] := ⟨.nilFunc, fun _ => by kernel_rfl, by kernel_rfl⟩
instance : IsAgg Try.prog 64 2 := ⟨fun _ => by kernel_rfl, fun _ => by kernel_rfl⟩
instance : FldAt Try.prog 64 0 0 := ⟨fun _ _ _ => by kernel_rfl⟩
instance : FldAt Try.prog 64 1 1 := ⟨fun _ _ _ => by kernel_rfl⟩
instance : ElOf Try.prog 64 2 32 := elOf_mk (by kernel_rfl) (by decide)
instance : ZeroOf Try.prog 64 [(.slice none 0 0), (.int .i64 0)] := ⟨(.agg #[(.slice none 0 0), (.int .i64 0)]), fun _ => by kernel_rfl, by kernel_rfl⟩
instance : PlacesOf Try.prog 64 [(0, 1), (1, 1)] [(.slice none 0 0), (.int .i64 0)] := placesOf_mk (Try.prog.fieldsOf 64) (.agg #[(.slice none 0 0), (.int .i64 0)]) (fun _ => by kernel_rfl) (by kernel_rfl) (by kernel_rfl) (fun _ => by kernel_rfl)
instance : IsAgg Try.prog 65 2 := ⟨fun _ => by kernel_rfl, fun _ => by kernel_rfl⟩
instance : FldAt Try.prog 65 0 0 := ⟨fun _ _ _ => by kernel_rfl⟩
instance : FldAt Try.prog 65 1 1 := ⟨fun _ _ _ => by kernel_rfl⟩
instance : ElOf Try.prog 65 2 32 := elOf_mk (by kernel_rfl) (by decide)
instance : ZeroOf Try.prog 65 [(.slice none 0 0), (.int .i64 0)] := ⟨(.agg #[(.slice none 0 0), (.int .i64 0)]), fun _ => by kernel_rfl, by kernel_rfl⟩
instance : PlacesOf Try.prog 65 [(0, 1), (1, 1)] [(.slice none 0 0), (.int .i64 0)] := placesOf_mk (Try.prog.fieldsOf 65) (.agg #[(.slice none 0 0), (.int .i64 0)]) (fun _ => by kernel_rfl) (by kernel_rfl) (by kernel_rfl) (fun _ => by kernel_rfl)
instance : IsOne Try.prog 66 := ⟨fun _ => by kernel_rfl, fun _ => by kernel_rfl⟩
instance : ElOf Try.prog 66 1 8 := elOf_mk (by kernel_rfl) (by decide)
instance : ZeroOf Try.prog 66 [.nilFunc] := ⟨.nilFunc, fun _ => by kernel_rfl, by kernel_rfl⟩
instance : IsOne Try.prog 67 := ⟨fun _ => by kernel_rfl, fun _ => by kernel_rfl⟩
instance : IntT Try.prog 67 .u64 := ⟨by kernel_rfl⟩
instance : ElOf Try.prog 67 1 8 := elOf_mk (by kernel_rfl) (by decide)
instance : ZeroOf Try.prog 67 [(.int .u64 0)] := ⟨(.int .u64 0), fun _ => by kernel_rfl, by kernel_rfl⟩
instance : IsOne Try.prog 68 := ⟨fun _ => by kernel_rfl, fun _ => by kernel_rfl⟩
instance : ElOf Try.prog 68 1 8 := elOf_mk (by kernel_rfl) (by decide)
instance : ZeroOf Try.prog 68 [.nilFunc] := ⟨.nilFunc, fun _ => by kernel_rfl, by kernel_rfl⟩
instance : IsOne Try.prog 69 := ⟨fun _ => by kernel_rfl, fun _ => by kernel_rfl⟩
instance : ElOf Try.prog 69 1 8 := elOf_mk (by kernel_rfl) (by decide)
instance : ZeroOf Try.prog 69 [.nilFunc] := ⟨.nilFunc, fun _ => by kernel_rfl, by kernel_rfl⟩
instance : IsOne Try.prog 70 := ⟨fun _ => by kernel_rfl, fun _ => by kernel_rfl⟩
instance : ElOf Try.prog 70 1 8 := elOf_mk (by kernel_rfl) (by decide)
instance : ZeroOf Try.prog 70 [.nilFunc] := ⟨.nilFunc, fun _ => by kernel_rfl, by kernel_rfl⟩
instance : IsOne Try.prog 71 := ⟨fun _ => by kernel_rfl, fun _ => by kernel_rfl⟩
instance : ElOf Try.prog 71 1 8 := elOf_mk (by kernel_rfl) (by decide)
instance : ZeroOf Try.prog 71 [.nilFunc] := ⟨.nilFunc, fun _ => by kernel_rfl, by kernel_rfl⟩
instance : IsOne Try.prog 72 := ⟨fun _ => by kernel_rfl, fun _ => by kernel_rfl⟩
instance : IntT Try.prog 72 .i64 := ⟨by kernel_rfl⟩
instance : ElOf Try.prog 72 1 8 := elOf_mk (by kernel_rfl) (by decide)
instance : ZeroOf Try.prog 72 [(.int .i64 0)] := ⟨(.int .i64 0), fun _ => by kernel_rfl, by kernel_rfl⟩
instance : IsOne Try.prog 74 := ⟨fun _ => by kernel_rfl, fun _ => by kernel_rfl⟩
instance : ElOf Try.prog 74 1 8 := elOf_mk (by kernel_rfl) (by decide)
instance : ZeroOf Try.prog 74 [.nilFunc] := ⟨.nilFunc, fun _ => by kernel_rfl, by kernel_rfl⟩
instance : IsOne Try.prog 75 := ⟨fun _ => by kernel_rfl, fun _ => by kernel_rfl⟩
instance : ElOf Try.prog 75 1 8 := elOf_mk (by kernel_rfl) (by decide)
instance : ZeroOf Try.prog 75 [.nilFunc] := ⟨.nilFunc, fun _ => by kernel_rfl, by kernel_rfl⟩
instance : IsOne Try.prog 76 := ⟨fun _ => by kernel_rfl, fun _ => by kernel_rfl⟩
instance : ElOf Try.prog 76 1 8 := elOf_mk (by kernel_rfl) (by decide)
instance : ZeroOf Try.prog 76 [.nilFunc] := ⟨.nilFunc, fun _ => by kernel_rfl, by kernel_rfl⟩
instance : IsOne Try.prog 77 := ⟨fun _ => by kernel_rfl, fun _ => by kernel_rfl⟩
instance : ElOf Try.prog 77 1 8 := elOf_mk (by kernel_rfl) (by decide)
instance : ZeroOf Try.prog 77 [.nilFunc] := ⟨.nilFunc, fun _ => by kernel_rfl, by kernel_rfl⟩
instance : IsOne Try.prog 78 := ⟨fun _ => by kernel_rfl, fun _ => by kernel_rfl⟩
instance : ElOf Try.prog 78 1 8 := elOf_mk (by kernel_rfl) (by decide)
instance : ZeroOf Try.prog 78 [.nilFunc] := ⟨.nilFunc, fun _ => by kernel_rfl, by kernel_rfl⟩
instance : IsOne Try.prog 79 := ⟨fun _ => by kernel_rfl, fun _ => by kernel_rfl⟩
instance : IntT Try.prog 79 .u32 := ⟨by kernel_rfl⟩
instance : ElOf Try.prog 79 1 4 := elOf_mk (by kernel_rfl) (by decide)
instance : ZeroOf Try.prog 79 [(.int .u32 0)] := ⟨(.int .u32 0), fun _ => by kernel_rfl, by kernel_rfl⟩
instance : IsOne Try.prog 80 := ⟨fun _ => by kernel_rfl, fun _ => by kernel_rfl⟩
instance : ElOf Try.prog 80 1 8 := elOf_mk (by kernel_rfl) (by decide)
instance : ZeroOf Try.prog 80 [.nilFunc] := ⟨.nilFunc, fun _ => by kernel_rfl, by kernel_rfl⟩
instance : IsOne Try.prog 81 := ⟨fun _ => by kernel_rfl, fun _ => by kernel_rfl⟩
instance : IntT Try.prog 81 .u64 := ⟨by kernel_rfl⟩
instance : ElOf Try.prog 81 1 8 := elOf_mk (by kernel_rfl) (by decide)
instance : ZeroOf Try.prog 81 [(.int .u64 0)] := ⟨(.int .u64 0), fun _ => by kernel_rfl, by kernel_rfl⟩
instance : IsOne Try.prog 82 := ⟨fun _ => by kernel_rfl, fun _ => by kernel_rfl⟩
instance : IntT Try.prog 82 .u64 := ⟨by kernel_rfl⟩
instance : ElOf Try.prog 82 1 8 := elOf_mk (by kernel_rfl) (by decide)
instance : ZeroOf Try.prog 82 [(.int .u64 0)] := ⟨(.int .u64 0), fun _ => by kernel_rfl, by kernel_rfl⟩
instance : IsOne Try.prog 83 := ⟨fun _ => by kernel_rfl, fun _ => by kernel_rfl⟩
instance : ElOf Try.prog 83 1 8 := elOf_mk (by kernel_rfl) (by decide)
instance : ZeroOf Try.prog 83 [.nilFunc] := ⟨.nilFunc, fun _ => by kernel_rfl, by kernel_rfl⟩
instance : IsOne Try.prog 84 := ⟨fun _ => by kernel_rfl, fun _ => by kernel_rfl⟩
instance : ElOf Try.prog 84 1 8 := elOf_mk (by kernel_rfl) (by decide)
instance : ZeroOf Try.prog 84 [.nilFunc] := ⟨.nilFunc, fun _ => by kernel_rfl, by kernel_rfl⟩
instance : IsOne Try.prog 85 := ⟨fun _ => by kernel_rfl, fun _ => by kernel_rfl⟩
instance : ElOf Try.prog 85 1 8 := elOf_mk (by kernel_rfl) (by decide)
instance : ZeroOf Try.prog 85 [.nilFunc] := ⟨.nilFunc, fun _ => by kernel_rfl, by kernel_rfl⟩
instance : IsOne Try.prog 86 := ⟨fun _ => by kernel_rfl, fun _ => by kernel_rfl⟩
instance : ElOf Try.prog 86 1 8 := elOf_mk (by kernel_rfl) (by decide)
instance : ZeroOf Try.prog 86 [(.pointer none)] := ⟨(.pointer none), fun _ => by kernel_rfl, by kernel_rfl⟩
instance : IsOne Try.prog 87 := ⟨fun _ => by kernel_rfl, fun _ => by kernel_rfl⟩
instance : ElOf Try.prog 87 1 8 := elOf_mk (by kernel_rfl) (by decide)
instance : ZeroOf Try.prog 87 [.nilFunc] := ⟨.nilFunc, fun _ => by kernel_rfl, by kernel_rfl⟩
instance : IsOne Try.prog 88 := ⟨fun _ => by kernel_rfl, fun _ => by kernel_rfl⟩
instance : ElOf Try.prog 88 1 8 := elOf_mk (by kernel_rfl) (by decide)
instance : ZeroOf Try.prog 88 [(.pointer none)] := ⟨(.pointer none), fun _ => by kernel_rfl, by kernel_rfl⟩
instance : IsOne Try.prog 90 := ⟨fun _ => by kernel_rfl, fun _ => by kernel_rfl⟩
instance : ElOf Try.prog 90 1 8 := elOf_mk (by kernel_rfl) (by decide)
instance : ZeroOf Try.prog 90 [.nilFunc] := ⟨.nilFunc, fun _ => by kernel_rfl, by kernel_rfl⟩
instance : IsOne Try.prog 91 := ⟨fun _ => by kernel_rfl, fun _ => by kernel_rfl⟩
instance : ElOf Try.prog 91 1 8 := elOf_mk (by kernel_rfl) (by decide)
instance : ZeroOf Try.prog 91 [.nilFunc] := ⟨.nilFunc, fun _ => by kernel_rfl, by kernel_rfl⟩
instance : IsAgg Try.prog 92 4 := ⟨fun _ => by kernel_rfl, fun _ => by kernel_rfl⟩
instance : FldAt Try.prog 92 0 0 := ⟨fun _ _ _ => by kernel_rfl⟩
instance : FldAt Try.prog 92 1 1 := ⟨fun _ _ _ => by kernel_rfl⟩
instance : FldAt Try.prog 92 2 2 := ⟨fun _ _ _ => by kernel_rfl⟩
instance : FldAt Try.prog 92 3 3 := ⟨fun _ _ _ => by kernel_rfl⟩
instance : ElOf Try.prog 92 4 40 := elOf_mk (by kernel_rfl) (by decide)
instance : ZeroOf Try.prog 92 [(.pointer none), (.pointer none), (.pointer none), (.string ⟨#[]⟩)] := ⟨(.agg #[(.pointer none), (.pointer none), (.pointer none), (.string ⟨#[]⟩)]), fun _ => by kernel_rfl, by kernel_rfl⟩
instance : PlacesOf Try.prog 92 [(0, 1), (1, 1), (2, 1), (3, 1)] [(.pointer none), (.pointer none), (.pointer none), (.string ⟨#[]⟩)] := placesOf_mk (Try.prog.fieldsOf 92) (.agg #[(.pointer none), (.pointer none), (.pointer none), (.string ⟨#[]⟩)]) (fun _ => by kernel_rfl) (by kernel_rfl) (by kernel_rfl) (fun _ => by kernel_rfl)
instance : IsAgg Try.prog 93 4 := ⟨fun _ => by kernel_rfl, fun _ => by kernel_rfl⟩
instance : FldAt Try.prog 93 0 0 := ⟨fun _ _ _ => by kernel_rfl⟩
instance : FldAt Try.prog 93 1 1 := ⟨fun _ _ _ => by kernel_rfl⟩
instance : FldAt Try.prog 93 2 2 := ⟨fun _ _ _ => by kernel_rfl⟩
instance : FldAt Try.prog 93 3 3 := ⟨fun _ _ _ => by kernel_rfl⟩
instance : ElOf Try.prog 93 4 40 := elOf_mk (by kernel_rfl) (by decide)
instance : ZeroOf Try.prog 93 [(.pointer none), (.pointer none), (.pointer none), (.string ⟨#[]⟩)] := ⟨(.agg #[(.pointer none), (.pointer none), (.pointer none), (.string ⟨#[]⟩)]), fun _ => by kernel_rfl, by kernel_rfl⟩
instance : PlacesOf Try.prog 93 [(0, 1), (1, 1), (2, 1), (3, 1)] [(.pointer none), (.pointer none), (.pointer none), (.string ⟨#[]⟩)] := placesOf_mk (Try.prog.fieldsOf 93) (.agg #[(.pointer none), (.pointer none), (.pointer none), (.string ⟨#[]⟩)]) (fun _ => by kernel_rfl) (by kernel_rfl) (by kernel_rfl) (fun _ => by kernel_rfl)
instance : IsOne Try.prog 97 := ⟨fun _ => by kernel_rfl, fun _ => by kernel_rfl⟩
instance : ElOf Try.prog 97 1 8 := elOf_mk (by kernel_rfl) (by decide)
instance : ZeroOf Try.prog 97 [.nilFunc] := ⟨.nilFunc, fun _ => by kernel_rfl, by kernel_rfl⟩
instance : IsOne Try.prog 98 := ⟨fun _ => by kernel_rfl, fun _ => by kernel_rfl⟩
instance : IntT Try.prog 98 .u8 := ⟨by kernel_rfl⟩
instance : ElOf Try.prog 98 1 1 := elOf_mk (by kernel_rfl) (by decide)
instance : ZeroOf Try.prog 98 [(.int .u8 0)] := ⟨(.int .u8 0), fun _ => by kernel_rfl, by kernel_rfl⟩
instance : IsOne Try.prog 99 := ⟨fun _ => by kernel_rfl, fun _ => by kernel_rfl⟩
instance : IntT Try.prog 99 .u8 := ⟨by kernel_rfl⟩
instance : ElOf Try.prog 99 1 1 := elOf_mk (by kernel_rfl) (by decide)
instance : ZeroOf Try.prog 99 [(.int .u8 0)] := ⟨(.int .u8 0), fun _ => by kernel_rfl, by kernel_rfl⟩
instance : IsOne Try.prog 100 := ⟨fun _ => by kernel_rfl, fun _ => by kernel_rfl⟩
instance : ElOf Try.prog 100 1 8 := elOf_mk (by kernel_rfl) (by decide)
instance : ZeroOf Try.prog 100 [.nilFunc] := ⟨.nilFunc, fun _ => by kernel_rfl, by kernel_rfl⟩
instance : IsOne Try.prog 101 := ⟨fun _ => by kernel_rfl, fun _ => by kernel_rfl⟩
instance : ElOf Try.prog 101 1 8 := elOf_mk (by kernel_rfl) (by decide)
instance : ZeroOf Try.prog 101 [(.pointer none)] := ⟨(.pointer none), fun _ => by kernel_rfl, by kernel_rfl⟩
instance : IsOne Try.prog 102 := ⟨fun _ => by kernel_rfl, fun _ => by kernel_rfl⟩
instance : IntT Try.prog 102 .i32 := ⟨by kernel_rfl⟩
instance : ElOf Try.prog 102 1 4 := elOf_mk (by kernel_rfl) (by decide)
instance : ZeroOf Try.prog 102 [(.int .i32 0)] := ⟨(.int .i32 0), fun _ => by kernel_rfl, by kernel_rfl⟩
instance : IsOne Try.prog 103 := ⟨fun _ => by kernel_rfl, fun _ => by kernel_rfl⟩
instance : IntT Try.prog 103 .i32 := ⟨by kernel_rfl⟩
instance : ElOf Try.prog 103 1 4 := elOf_mk (by kernel_rfl) (by decide)
instance : ZeroOf Try.prog 103 [(.int .i32 0)] := ⟨(.int .i32 0), fun _ => by kernel_rfl, by kernel_rfl⟩
instance : IsAgg Try.prog 104 11 := ⟨fun _ => by kernel_rfl, fun _ => by kernel_rfl⟩
instance : FldAt Try.prog 104 0 0 := ⟨fun _ _ _ => by kernel_rfl⟩
instance : FldAt Try.prog 104 1 1 := ⟨fun _ _ _ => by kernel_rfl⟩
instance : FldAt Try.prog 104 2 2 := ⟨fun _ _ _ => by kernel_rfl⟩
instance : FldAt Try.prog 104 3 3 := ⟨fun _ _ _ => by kernel_rfl⟩
instance : FldAt Try.prog 104 4 4 := ⟨fun _ _ _ => by kernel_rfl⟩
instance : FldAt Try.prog 104 5 5 := ⟨fun _ _ _ => by kernel_rfl⟩
instance : FldAt Try.prog 104 6 6 := ⟨fun _ _ _ => by kernel_rfl⟩
instance : FldAt Try.prog 104 7 7 := ⟨fun _ _ _ => by kernel_rfl⟩
instance : FldAt Try.prog 104 8 8 := ⟨fun _ _ _ => by kernel_rfl⟩
instance : FldAt Try.prog 104 9 9 := ⟨fun _ _ _ => by kernel_rfl⟩
instance : FldAt Try.prog 104 10 10 := ⟨fun _ _ _ => by kernel_rfl⟩
instance : ElOf Try.prog 104 11 48 := elOf_mk (by kernel_rfl) (by decide)
instance : ZeroOf Try.prog 104 [(.int .u64 0), (.int .u64 0), (.int .u32 0), (.int .u8 0), (.int .u8 0), (.int .u8 0), (.int .u8 0), .nilFunc, (.pointer none), (.int .i32 0), (.int .i32 0)] := ⟨(.agg #[(.int .u64 0), (.int .u64 0), (.int .u32 0), (.int .u8 0), (.int .u8 0), (.int .u8 0), (.int .u8 0), .nilFunc, (.pointer none), (.int .i32 0), (.int .i32 0)]), fun _ => by kernel_rfl, by kernel_rfl⟩
instance : PlacesOf Try.prog 104 [(0, 1), (1, 1), (2, 1), (3, 1), (4, 1), (5, 1), (6, 1), (7, 1), (8, 1), (9, 1), (10, 1)] [(.int .u64 0), (.int .u64 0), (.int .u32 0), (.int .u8 0), (.int .u8 0), (.int .u8 0), (.int .u8 0), .nilFunc, (.pointer none), (.int .i32 0), (.int .i32 0)] := placesOf_mk (Try.prog.fieldsOf 104) (.agg #[(.int .u64 0), (.int .u64 0), (.int .u32 0), (.int .u8 0), (.int .u8 0), (.int .u8 0), (.int .u8 0), .nilFunc, (.pointer none), (.int .i32 0), (.int .i32 0)]) (fun _ => by kernel_rfl) (by kernel_rfl) (by kernel_rfl) (fun _ => by kernel_rfl)
instance : IsAgg Try.prog 105 11 := ⟨fun _ => by kernel_rfl, fun _ => by kernel_rfl⟩
instance : FldAt Try.prog 105 0 0 := ⟨fun _ _ _ => by kernel_rfl⟩
instance : FldAt Try.prog 105 1 1 := ⟨fun _ _ _ => by kernel_rfl⟩
instance : FldAt Try.prog 105 2 2 := ⟨fun _ _ _ => by kernel_rfl⟩
instance : FldAt Try.prog 105 3 3 := ⟨fun _ _ _ => by kernel_rfl⟩
instance : FldAt Try.prog 105 4 4 := ⟨fun _ _ _ => by kernel_rfl⟩
instance : FldAt Try.prog 105 5 5 := ⟨fun _ _ _ => by kernel_rfl⟩
instance : FldAt Try.prog 105 6 6 := ⟨fun _ _ _ => by kernel_rfl⟩
instance : FldAt Try.prog 105 7 7 := ⟨fun _ _ _ => by kernel_rfl⟩
instance : FldAt Try.prog 105 8 8 := ⟨fun _ _ _ => by kernel_rfl⟩
instance : FldAt Try.prog 105 9 9 := ⟨fun _ _ _ => by kernel_rfl⟩
instance : FldAt Try.prog 105 10 10 := ⟨fun _ _ _ => by kernel_rfl⟩
instance : ElOf Try.prog 105 11 48 := elOf_mk (by kernel_rfl) (by decide)
instance : ZeroOf Try.prog 105 [(.int .u64 0), (.int .u64 0), (.int .u32 0), (.int .u8 0), (.int .u8 0), (.int .u8 0), (.int .u8 0), .nilFunc, (.pointer none), (.int .i32 0), (.int .i32 0)] := ⟨(.agg #[(.int .u64 0), (.int .u64 0), (.int .u32 0), (.int .u8 0), (.int .u8 0), (.int .u8 0), (.int .u8 0), .nilFunc, (.pointer none), (.int .i32 0), (.int .i32 0)]), fun _ => by kernel_rfl, by kernel_rfl⟩
instance : PlacesOf Try.prog 105 [(0, 1), (1, 1), (2, 1), (3, 1), (4, 1), (5, 1), (6, 1), (7, 1), (8, 1), (9, 1), (10, 1)] [(.int .u64 0), (.int .u64 0), (.int .u32 0), (.int .u8 0), (.int .u8 0), (.int .u8 0), (.int .u8 0), .nilFunc, (.pointer none), (.int .i32 0), (.int .i32 0)] := placesOf_mk (Try.prog.fieldsOf 105) (.agg #[(.int .u64 0), (.int .u64 0), (.int .u32 0), (.int .u8 0), (.int .u8 0), (.int .u8 0), (.int .u8 0), .nilFunc, (.pointer none), (.int .i32 0), (.int .i32 0)]) (fun _ => by kernel_rfl) (by kernel_rfl) (by kernel_rfl) (fun _ => by kernel_rfl)
instance : IsOne Try.prog 106 := ⟨fun _ => by kernel_rfl, fun _ => by kernel_rfl⟩
instance : ElOf Try.prog 106 1 8 := elOf_mk (by kernel_rfl) (by decide)
instance : ZeroOf Try.prog 106 [.nilFunc] := ⟨.nilFunc, fun _ => by kernel_rfl, by kernel_rfl⟩
instance : IsOne Try.prog 107 := ⟨fun _ => by kernel_rfl, fun _ => by kernel_rfl⟩
instance : ElOf Try.prog 107 1 8 := elOf_mk (by kernel_rfl) (by decide)
instance : ZeroOf Try.prog 107 [(.pointer none)] := ⟨(.pointer none), fun _ => by kernel_rfl, by kernel_rfl⟩
instance : Mixed Try.prog := ⟨by kernel_rfl⟩
instance : Ent Try.prog 3 := ⟨enters_of Try.func3 (by kernel_rfl) rfl⟩
instance : Ent Try.prog 4 := ⟨enters_of Try.func4 (by kernel_rfl) rfl⟩
instance : Ent Try.prog 5 := ⟨enters_of Try.func5 (by kernel_rfl) rfl⟩
instance : Ent Try.prog 6 := ⟨enters_of Try.func6 (by kernel_rfl) rfl⟩
instance : Ent Try.prog 7 := ⟨enters_of Try.func7 (by kernel_rfl) rfl⟩
instance : Ent Try.prog 8 := ⟨enters_of Try.func8 (by kernel_rfl) rfl⟩
instance : Ent Try.prog 9 := ⟨enters_of Try.func9 (by kernel_rfl) rfl⟩
instance : Ent Try.prog 10 := ⟨enters_of Try.func10 (by kernel_rfl) rfl⟩
instance : Ent Try.prog 11 := ⟨enters_of Try.func11 (by kernel_rfl) rfl⟩
instance : Ent Try.prog 12 := ⟨enters_of Try.func12 (by kernel_rfl) rfl⟩
instance : Ent Try.prog 13 := ⟨enters_of Try.func13 (by kernel_rfl) rfl⟩
instance : Ent Try.prog 14 := ⟨enters_of Try.func14 (by kernel_rfl) rfl⟩
instance : Ent Try.prog 15 := ⟨enters_of Try.func15 (by kernel_rfl) rfl⟩
instance : Ent Try.prog 16 := ⟨enters_of Try.func16 (by kernel_rfl) rfl⟩
instance : Ent Try.prog 17 := ⟨enters_of Try.func17 (by kernel_rfl) rfl⟩
instance : Ent Try.prog 18 := ⟨enters_of Try.func18 (by kernel_rfl) rfl⟩
instance : Ent Try.prog 19 := ⟨enters_of Try.func19 (by kernel_rfl) rfl⟩
instance : Ent Try.prog 20 := ⟨enters_of Try.func20 (by kernel_rfl) rfl⟩
instance : Ent Try.prog 21 := ⟨enters_of Try.func21 (by kernel_rfl) rfl⟩
instance : Ent Try.prog 22 := ⟨enters_of Try.func22 (by kernel_rfl) rfl⟩
instance : Ent Try.prog 23 := ⟨enters_of Try.func23 (by kernel_rfl) rfl⟩
instance : Ent Try.prog 24 := ⟨enters_of Try.func24 (by kernel_rfl) rfl⟩
instance : Ent Try.prog 25 := ⟨enters_of Try.func25 (by kernel_rfl) rfl⟩
instance : Ent Try.prog 26 := ⟨enters_of Try.func26 (by kernel_rfl) rfl⟩
instance : Ent Try.prog 27 := ⟨enters_of Try.func27 (by kernel_rfl) rfl⟩
instance : Ent Try.prog 28 := ⟨enters_of Try.func28 (by kernel_rfl) rfl⟩
instance : Ent Try.prog 29 := ⟨enters_of Try.func29 (by kernel_rfl) rfl⟩
instance : Ent Try.prog 30 := ⟨enters_of Try.func30 (by kernel_rfl) rfl⟩
instance : Ent Try.prog 31 := ⟨enters_of Try.func31 (by kernel_rfl) rfl⟩
instance : Ent Try.prog 32 := ⟨enters_of Try.func32 (by kernel_rfl) rfl⟩
instance : Ent Try.prog 33 := ⟨enters_of Try.func33 (by kernel_rfl) rfl⟩
instance : Ent Try.prog 34 := ⟨enters_of Try.func34 (by kernel_rfl) rfl⟩
instance : Ent Try.prog 35 := ⟨enters_of Try.func35 (by kernel_rfl) rfl⟩
instance : Ent Try.prog 36 := ⟨enters_of Try.func36 (by kernel_rfl) rfl⟩
instance : Ent Try.prog 37 := ⟨enters_of Try.func37 (by kernel_rfl) rfl⟩
instance : Ent Try.prog 38 := ⟨enters_of Try.func38 (by kernel_rfl) rfl⟩
instance : Ent Try.prog 39 := ⟨enters_of Try.func39 (by kernel_rfl) rfl⟩
instance : Ent Try.prog 40 := ⟨enters_of Try.func40 (by kernel_rfl) rfl⟩
instance : Ent Try.prog 41 := ⟨enters_of Try.func41 (by kernel_rfl) rfl⟩
instance : Ent Try.prog 42 := ⟨enters_of Try.func42 (by kernel_rfl) rfl⟩
instance : Ent Try.prog 43 := ⟨enters_of Try.func43 (by kernel_rfl) rfl⟩
instance : Ent Try.prog 44 := ⟨enters_of Try.func44 (by kernel_rfl) rfl⟩
instance : Ent Try.prog 45 := ⟨enters_of Try.func45 (by kernel_rfl) rfl⟩
instance : Ent Try.prog 46 := ⟨enters_of Try.func46 (by kernel_rfl) rfl⟩
instance : Ent Try.prog 47 := ⟨enters_of Try.func47 (by kernel_rfl) rfl⟩
instance : Ent Try.prog 48 := ⟨enters_of Try.func48 (by kernel_rfl) rfl⟩
instance : Ent Try.prog 49 := ⟨enters_of Try.func49 (by kernel_rfl) rfl⟩
instance : Ent Try.prog 50 := ⟨enters_of Try.func50 (by kernel_rfl) rfl⟩
instance : Ent Try.prog 51 := ⟨enters_of Try.func51 (by kernel_rfl) rfl⟩
instance : Ent Try.prog 52 := ⟨enters_of Try.func52 (by kernel_rfl) rfl⟩
instance : Ent Try.prog 53 := ⟨enters_of Try.func53 (by kernel_rfl) rfl⟩
instance : Ent Try.prog 54 := ⟨enters_of Try.func54 (by kernel_rfl) rfl⟩
instance : Ent Try.prog 55 := ⟨enters_of Try.func55 (by kernel_rfl) rfl⟩
instance : Ent Try.prog 56 := ⟨enters_of Try.func56 (by kernel_rfl) rfl⟩
instance : Ent Try.prog 57 := ⟨enters_of Try.func57 (by kernel_rfl) rfl⟩
instance : Ent Try.prog 58 := ⟨enters_of Try.func58 (by kernel_rfl) rfl⟩
instance : Ent Try.prog 59 := ⟨enters_of Try.func59 (by kernel_rfl) rfl⟩
end Go.Proofs.Ytceaicameojcaaa
