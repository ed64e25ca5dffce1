/- Facts on the types and functions of the program, by program. -/
import Derived.Test.YtapakgncdmmmaaaXO
import Derived.Test.YtapakgncdmmmaaaXE
import Derived.Test.YtapakgncdmmmaaaProg
namespace Go.Proofs.Ytapakgncdmmmaaa

instance : IsOne Try.prog 1 := ⟨fun _ => by kernel_rfl, fun _ => by kernel_rfl⟩
instance : ElOf Try.prog 1 1 8 := elOf_mk (by kernel_rfl) (by decide)
instance : ZeroOf Try.prog 1 [.nilFunc] := ⟨.nilFunc, fun _ => by kernel_rfl, by kernel_rfl⟩
instance : IsOne Try.prog 2 := ⟨fun _ => by kernel_rfl, fun _ => by kernel_rfl⟩
instance : IntT Try.prog 2 .i64 := ⟨by kernel_rfl⟩
instance : ElOf Try.prog 2 1 8 := elOf_mk (by kernel_rfl) (by decide)
instance : ZeroOf Try.prog 2 [(.int .i64 0)] := ⟨(.int .i64 0), fun _ => by kernel_rfl, by kernel_rfl⟩
instance : IsOne Try.prog 3 := ⟨fun _ => by kernel_rfl, fun _ => by kernel_rfl⟩
instance : IntT Try.prog 3 .i64 := ⟨by kernel_rfl⟩
instance : ElOf Try.prog 3 1 8 := elOf_mk (by kernel_rfl) (by decide)
instance : ZeroOf Try.prog 3 [(.int .i64 0)] := ⟨(.int .i64 0), fun _ => by kernel_rfl, by kernel_rfl⟩
instance : IsOne Try.prog 4 := ⟨fun _ => by kernel_rfl, fun _ => by kernel_rfl⟩
instance : BoolT Try.prog 4 := ⟨by kernel_rfl⟩
instance : ElOf Try.prog 4 1 1 := elOf_mk (by kernel_rfl) (by decide)
instance : ZeroOf Try.prog 4 [(.bool false)] := ⟨(.bool false), fun _ => by kernel_rfl, by kernel_rfl⟩
instance : IsOne Try.prog 5 := ⟨fun _ => by kernel_rfl, fun _ => by kernel_rfl⟩
instance : IntT Try.prog 5 .u8 := ⟨by kernel_rfl⟩
instance : ElOf Try.prog 5 1 1 := elOf_mk (by kernel_rfl) (by decide)
instance : ZeroOf Try.prog 5 [(.int .u8 0)] := ⟨(.int .u8 0), fun _ => by kernel_rfl, by kernel_rfl⟩
instance : IsOne Try.prog 6 := ⟨fun _ => by kernel_rfl, fun _ => by kernel_rfl⟩
instance : IntT Try.prog 6 .u8 := ⟨by kernel_rfl⟩
instance : ElOf Try.prog 6 1 1 := elOf_mk (by kernel_rfl) (by decide)
instance : ZeroOf Try.prog 6 [(.int .u8 0)] := ⟨(.int .u8 0), fun _ => by kernel_rfl, by kernel_rfl⟩
instance : IsAgg Try.prog 7 4 := ⟨fun _ => by kernel_rfl, fun _ => by kernel_rfl⟩
instance : FldAt Try.prog 7 0 0 := ⟨fun _ _ _ => by kernel_rfl⟩
instance : FldAt Try.prog 7 1 1 := ⟨fun _ _ _ => by kernel_rfl⟩
instance : FldAt Try.prog 7 2 2 := ⟨fun _ _ _ => by kernel_rfl⟩
instance : FldAt Try.prog 7 3 3 := ⟨fun _ _ _ => by kernel_rfl⟩
instance : ElOf Try.prog 7 4 24 := elOf_mk (by kernel_rfl) (by decide)
instance : ZeroOf Try.prog 7 [(.int .i64 0), (.int .i64 0), (.bool false), (.int .u8 0)] := ⟨(.agg #[(.int .i64 0), (.int .i64 0), (.bool false), (.int .u8 0)]), fun _ => by kernel_rfl, by kernel_rfl⟩
instance : PlacesOf Try.prog 7 [(0, 1), (1, 1), (2, 1), (3, 1)] [(.int .i64 0), (.int .i64 0), (.bool false), (.int .u8 0)] := placesOf_mk (Try.prog.fieldsOf 7) (.agg #[(.int .i64 0), (.int .i64 0), (.bool false), (.int .u8 0)]) (fun _ => by kernel_rfl) (by kernel_rfl) (by kernel_rfl) (fun _ => by kernel_rfl)
instance : IsAgg Try.prog 8 4 := ⟨fun _ => by kernel_rfl, fun _ => by kernel_rfl⟩
instance : FldAt Try.prog 8 0 0 := ⟨fun _ _ _ => by kernel_rfl⟩
instance : FldAt Try.prog 8 1 1 := ⟨fun _ _ _ => by kernel_rfl⟩
instance : FldAt Try.prog 8 2 2 := ⟨fun _ _ _ => by kernel_rfl⟩
instance : FldAt Try.prog 8 3 3 := ⟨fun _ _ _ => by kernel_rfl⟩
instance : ElOf Try.prog 8 4 24 := elOf_mk (by kernel_rfl) (by decide)
instance : ZeroOf Try.prog 8 [(.int .i64 0), (.int .i64 0), (.bool false), (.int .u8 0)] := ⟨(.agg #[(.int .i64 0), (.int .i64 0), (.bool false), (.int .u8 0)]), fun _ => by kernel_rfl, by kernel_rfl⟩
instance : PlacesOf Try.prog 8 [(0, 1), (1, 1), (2, 1), (3, 1)] [(.int .i64 0), (.int .i64 0), (.bool false), (.int .u8 0)] := placesOf_mk (Try.prog.fieldsOf 8) (.agg #[(.int .i64 0), (.int .i64 0), (.bool false), (.int .u8 0)]) (fun _ => by kernel_rfl) (by kernel_rfl) (by kernel_rfl) (fun _ => by kernel_rfl)
instance : IsOne Try.prog 9 := ⟨fun _ => by kernel_rfl, fun _ => by kernel_rfl⟩
instance : NotInt Try.prog 9 := ⟨.inl (by kernel_rfl)⟩
instance : StrT Try.prog 9 := ⟨by kernel_rfl⟩
instance : ElOf Try.prog 9 1 16 := elOf_mk (by kernel_rfl) (by decide)
instance : ZeroOf Try.prog 9 [(.string ⟨#[]⟩)] := ⟨(.string ⟨#[]⟩), fun _ => by kernel_rfl, by kernel_rfl⟩
instance : IsOne Try.prog 10 := ⟨fun _ => by kernel_rfl, fun _ => by kernel_rfl⟩
instance : NotInt Try.prog 10 := ⟨.inl (by kernel_rfl)⟩
instance : StrT Try.prog 10 := ⟨by kernel_rfl⟩
instance : ElOf Try.prog 10 1 16 := elOf_mk (by kernel_rfl) (by decide)
instance : ZeroOf Try.prog 10 [(.string ⟨#[]⟩)] := ⟨(.string ⟨#[]⟩), fun _ => by kernel_rfl, by kernel_rfl⟩
instance : IsOne Try.prog 11 := ⟨fun _ => by kernel_rfl, fun _ => by kernel_rfl⟩
instance : NotInt Try.prog 11 := ⟨.inl (by kernel_rfl)⟩
instance : StrT Try.prog 11 := ⟨by kernel_rfl⟩
instance : ElOf Try.prog 11 1 16 := elOf_mk (by kernel_rfl) (by decide)
instance : ZeroOf Try.prog 11 [(.string ⟨#[]⟩)] := ⟨(.string ⟨#[]⟩), fun _ => by kernel_rfl, by kernel_rfl⟩
instance : IsOne Try.prog 12 := ⟨fun _ => by kernel_rfl, fun _ => by kernel_rfl⟩
instance : IntT Try.prog 12 .u64 := ⟨by kernel_rfl⟩
instance : ElOf Try.prog 12 1 8 := elOf_mk (by kernel_rfl) (by decide)
instance : ZeroOf Try.prog 12 [(.int .u64 0)] := ⟨(.int .u64 0), fun _ => by kernel_rfl, by kernel_rfl⟩
instance : IsAgg Try.prog 13 2 := ⟨fun _ => by kernel_rfl, fun _ => by kernel_rfl⟩
instance : FldAt Try.prog 13 0 0 := ⟨fun _ _ _ => by kernel_rfl⟩
instance : FldAt Try.prog 13 1 1 := ⟨fun _ _ _ => by kernel_rfl⟩
instance : ElOf Try.prog 13 2 24 := elOf_mk (by kernel_rfl) (by decide)
instance : ZeroOf Try.prog 13 [(.string ⟨#[]⟩), (.int .u64 0)] := ⟨(.agg #[(.string ⟨#[]⟩), (.int .u64 0)]), fun _ => by kernel_rfl, by kernel_rfl⟩
instance : PlacesOf Try.prog 13 [(0, 1), (1, 1)] [(.string ⟨#[]⟩), (.int .u64 0)] := placesOf_mk (Try.prog.fieldsOf 13) (.agg #[(.string ⟨#[]⟩), (.int .u64 0)]) (fun _ => by kernel_rfl) (by kernel_rfl) (by kernel_rfl) (fun _ => by kernel_rfl)
instance : IsAgg Try.prog 14 2 := ⟨fun _ => by kernel_rfl, fun _ => by kernel_rfl⟩
instance : FldAt Try.prog 14 0 0 := ⟨fun _ _ _ => by kernel_rfl⟩
instance : FldAt Try.prog 14 1 1 := ⟨fun _ _ _ => by kernel_rfl⟩
instance : ElOf Try.prog 14 2 24 := elOf_mk (by kernel_rfl) (by decide)
instance : ZeroOf Try.prog 14 [(.string ⟨#[]⟩), (.int .u64 0)] := ⟨(.agg #[(.string ⟨#[]⟩), (.int .u64 0)]), fun _ => by kernel_rfl, by kernel_rfl⟩
instance : PlacesOf Try.prog 14 [(0, 1), (1, 1)] [(.string ⟨#[]⟩), (.int .u64 0)] := placesOf_mk (Try.prog.fieldsOf 14) (.agg #[(.string ⟨#[]⟩), (.int .u64 0)]) (fun _ => by kernel_rfl) (by kernel_rfl) (by kernel_rfl) (fun _ => by kernel_rfl)
instance : IsOne Try.prog 15 := ⟨fun _ => by kernel_rfl, fun _ => by kernel_rfl⟩
instance : ElOf Try.prog 15 1 8 := elOf_mk (by kernel_rfl) (by decide)
instance : ZeroOf Try.prog 15 [(.pointer none)] := ⟨(.pointer none), fun _ => by kernel_rfl, by kernel_rfl⟩
instance : IsOne Try.prog 16 := ⟨fun _ => by kernel_rfl, fun _ => by kernel_rfl⟩
instance : ElOf Try.prog 16 1 8 := elOf_mk (by kernel_rfl) (by decide)
instance : ZeroOf Try.prog 16 [(.pointer none)] := ⟨(.pointer none), fun _ => by kernel_rfl, by kernel_rfl⟩
instance : IsOne Try.prog 17 := ⟨fun _ => by kernel_rfl, fun _ => by kernel_rfl⟩
instance : ElOf Try.prog 17 1 8 := elOf_mk (by kernel_rfl) (by decide)
instance : ZeroOf Try.prog 17 [(.pointer none)] := ⟨(.pointer none), fun _ => by kernel_rfl, by kernel_rfl⟩
instance : IsAgg Try.prog 18 1 := ⟨fun _ => by kernel_rfl, fun _ => by kernel_rfl⟩
instance : FldAt Try.prog 18 0 0 := ⟨fun _ _ _ => by kernel_rfl⟩
instance : ElOf Try.prog 18 1 8 := elOf_mk (by kernel_rfl) (by decide)
instance : ZeroOf Try.prog 18 [(.pointer none)] := ⟨(.agg #[(.pointer none)]), fun _ => by kernel_rfl, by kernel_rfl⟩
instance : PlacesOf Try.prog 18 [(0, 1)] [(.pointer none)] := placesOf_mk (Try.prog.fieldsOf 18) (.agg #[(.pointer none)]) (fun _ => by kernel_rfl) (by kernel_rfl) (by kernel_rfl) (fun _ => by kernel_rfl)
instance : IsAgg Try.prog 19 1 := ⟨fun _ => by kernel_rfl, fun _ => by kernel_rfl⟩
instance : FldAt Try.prog 19 0 0 := ⟨fun _ _ _ => by kernel_rfl⟩
instance : ElOf Try.prog 19 1 8 := elOf_mk (by kernel_rfl) (by decide)
instance : ZeroOf Try.prog 19 [(.pointer none)] := ⟨(.agg #[(.pointer none)]), fun _ => by kernel_rfl, by kernel_rfl⟩
instance : PlacesOf Try.prog 19 [(0, 1)] [(.pointer none)] := placesOf_mk (Try.prog.fieldsOf 19) (.agg #[(.pointer none)]) (fun _ => by kernel_rfl) (by kernel_rfl) (by kernel_rfl) (fun _ => by kernel_rfl)
instance : IsOne Try.prog 20 := ⟨fun _ => by kernel_rfl, fun _ => by kernel_rfl⟩
instance : ElOf Try.prog 20 1 16 := elOf_mk (by kernel_rfl) (by decide)
instance : ZeroOf Try.prog 20 [.nilIface] := ⟨.nilIface, fun _ => by kernel_rfl, by kernel_rfl⟩
instance : IsOne Try.prog 21 := ⟨fun _ => by kernel_rfl, fun _ => by kernel_rfl⟩
instance : IntT Try.prog 21 .i32 := ⟨by kernel_rfl⟩
instance : ElOf Try.prog 21 1 4 := elOf_mk (by kernel_rfl) (by decide)
instance : ZeroOf Try.prog 21 [(.int .i32 0)] := ⟨(.int .i32 0), fun _ => by kernel_rfl, by kernel_rfl⟩
instance : IsAgg Try.prog 22 2 := ⟨fun _ => by kernel_rfl, fun _ => by kernel_rfl⟩
instance : FldAt Try.prog 22 0 0 := ⟨fun _ _ _ => by kernel_rfl⟩
instance : FldAt Try.prog 22 1 1 := ⟨fun _ _ _ => by kernel_rfl⟩
instance : ElOf Try.prog 22 2 16 := elOf_mk (by kernel_rfl) (by decide)
instance : ZeroOf Try.prog 22 [(.int .i64 0), (.int .i64 0)] := ⟨(.agg #[(.int .i64 0), (.int .i64 0)]), fun _ => by kernel_rfl, by kernel_rfl⟩
instance : PlacesOf Try.prog 22 [(0, 1), (1, 1)] [(.int .i64 0), (.int .i64 0)] := placesOf_mk (Try.prog.fieldsOf 22) (.agg #[(.int .i64 0), (.int .i64 0)]) (fun _ => by kernel_rfl) (by kernel_rfl) (by kernel_rfl) (fun _ => by kernel_rfl)
instance : IsAgg Try.prog 23 2 := ⟨fun _ => by kernel_rfl, fun _ => by kernel_rfl⟩
instance : FldAt Try.prog 23 0 0 := ⟨fun _ _ _ => by kernel_rfl⟩
instance : FldAt Try.prog 23 1 1 := ⟨fun _ _ _ => by kernel_rfl⟩
instance : FlatEq Try.prog 23 [.int .i64, .int .i64] := ⟨by kernel_rfl, .cons (by kernel_rfl) (of_decide_eq_true (by kernel_rfl)) (fun _ => by kernel_rfl) (by kernel_rfl) (.cons (by kernel_rfl) (of_decide_eq_true (by kernel_rfl)) (fun _ => by kernel_rfl) (by kernel_rfl) (.nil)), by kernel_rfl, by kernel_rfl⟩
instance : ElOf Try.prog 23 2 16 := elOf_mk (by kernel_rfl) (by decide)
instance : ZeroOf Try.prog 23 [(.int .i64 0), (.int .i64 0)] := ⟨(.agg #[(.int .i64 0), (.int .i64 0)]), fun _ => by kernel_rfl, by kernel_rfl⟩
instance : PlacesOf Try.prog 23 [(0, 1), (1, 1)] [(.int .i64 0), (.int .i64 0)] := placesOf_mk (Try.prog.fieldsOf 23) (.agg #[(.int .i64 0), (.int .i64 0)]) (fun _ => by kernel_rfl) (by kernel_rfl) (by kernel_rfl) (fun _ => by kernel_rfl)
instance : IsOne Try.prog 24 := ⟨fun _ => by kernel_rfl, fun _ => by kernel_rfl⟩
instance : ElOf Try.prog 24 1 8 := elOf_mk (by kernel_rfl) (by decide)
instance : ZeroOf Try.prog 24 [.nilFunc] := ⟨.nilFunc, fun _ => by kernel_rfl, by kernel_rfl⟩
instance : IsOne Try.prog 25 := ⟨fun _ => by kernel_rfl, fun _ => by kernel_rfl⟩
instance : ElOf Try.prog 25 1 8 := elOf_mk (by kernel_rfl) (by decide)
instance : ZeroOf Try.prog 25 [.nilFunc] := ⟨.nilFunc, fun _ => by kernel_rfl, by kernel_rfl⟩
instance : IsOne Try.prog 26 := ⟨fun _ => by kernel_rfl, fun _ => by kernel_rfl⟩
instance : ElOf Try.prog 26 1 8 := elOf_mk (by kernel_rfl) (by decide)
instance : ZeroOf Try.prog 26 [.nilFunc] := ⟨.nilFunc, fun _ => by kernel_rfl, by kernel_rfl⟩
instance : IsOne Try.prog 27 := ⟨fun _ => by kernel_rfl, fun _ => by kernel_rfl⟩
instance : ElOf Try.prog 27 1 8 := elOf_mk (by kernel_rfl) (by decide)
instance : ZeroOf Try.prog 27 [.nilFunc] := ⟨.nilFunc, fun _ => by kernel_rfl, by kernel_rfl⟩
instance : IsOne Try.prog 28 := ⟨fun _ => by kernel_rfl, fun _ => by kernel_rfl⟩
instance : NotInt Try.prog 28 := ⟨.inr ⟨23, by kernel_rfl⟩⟩
instance : SlOf Try.prog 28 23 2 := ⟨by kernel_rfl, fun _ => by kernel_rfl⟩
instance : ElOf Try.prog 28 1 24 := elOf_mk (by kernel_rfl) (by decide)
instance : ZeroOf Try.prog 28 [(.slice none 0 0)] := ⟨(.slice none 0 0), fun _ => by kernel_rfl, by kernel_rfl⟩
instance : IsOne Try.prog 29 := ⟨fun _ => by kernel_rfl, fun _ => by kernel_rfl⟩
instance : ElOf Try.prog 29 1 8 := elOf_mk (by kernel_rfl) (by decide)
instance : ZeroOf Try.prog 29 [.nilFunc] := ⟨.nilFunc, fun _ => by kernel_rfl, by kernel_rfl⟩
instance : IsOne Try.prog 30 := ⟨fun _ => by kernel_rfl, fun _ => by kernel_rfl⟩
instance : IntT Try.prog 30 .i64 := ⟨by kernel_rfl⟩
instance : ElOf Try.prog 30 1 8 := elOf_mk (by kernel_rfl) (by decide)
instance : ZeroOf Try.prog 30 [(.int .i64 0)] := ⟨(.int .i64 0), fun _ => by kernel_rfl, by kernel_rfl⟩
instance : IsOne Try.prog 32 := ⟨fun _ => by kernel_rfl, fun _ => by kernel_rfl⟩
instance : ElOf Try.prog 32 1 8 := elOf_mk (by kernel_rfl) (by decide)
instance : ZeroOf Try.prog 32 [.nilFunc] := ⟨.nilFunc, fun _ => by kernel_rfl, by kernel_rfl⟩
instance : IsOne Try.prog 33 := ⟨fun _ => by kernel_rfl, fun _ => by kernel_rfl⟩
instance : ElOf Try.prog 33 1 8 := elOf_mk (by kernel_rfl) (by decide)
instance : ZeroOf Try.prog 33 [.nilFunc] := ⟨.nilFunc, fun _ => by kernel_rfl, by kernel_rfl⟩
instance : IsOne Try.prog 34 := ⟨fun _ => by kernel_rfl, fun _ => by kernel_rfl⟩
instance : ElOf Try.prog 34 1 8 := elOf_mk (by kernel_rfl) (by decide)
instance : ZeroOf Try.prog 34 [.nilFunc] := ⟨.nilFunc, fun _ => by kernel_rfl, by kernel_rfl⟩
instance : IsOne Try.prog 35 := ⟨fun _ => by kernel_rfl, fun _ => by kernel_rfl⟩
instance : ElOf Try.prog 35 1 8 := elOf_mk (by kernel_rfl) (by decide)
instance : ZeroOf Try.prog 35 [.nilFunc] := ⟨.nilFunc, fun _ => by kernel_rfl, by kernel_rfl⟩
instance : IsOne Try.prog 36 := ⟨fun _ => by kernel_rfl, fun _ => by kernel_rfl⟩
instance : ElOf Try.prog 36 1 8 := elOf_mk (by kernel_rfl) (by decide)
instance : ZeroOf Try.prog 36 [.nilFunc] := ⟨.nilFunc, fun _ => by kernel_rfl, by kernel_rfl⟩
instance : IsOne Try.prog 37 := ⟨fun _ => by kernel_rfl, fun _ => by kernel_rfl⟩
instance : ElOf Try.prog 37 1 8 := elOf_mk (by kernel_rfl) (by decide)
instance : ZeroOf Try.prog 37 [.nilFunc] := ⟨.nilFunc, fun _ => by kernel_rfl, by kernel_rfl⟩
instance : IsOne Try.prog 38 := ⟨fun _ => by kernel_rfl, fun _ => by kernel_rfl⟩
instance : ElOf Try.prog 38 1 8 := elOf_mk (by kernel_rfl) (by decide)
instance : ZeroOf Try.prog 38 [.nilFunc] := ⟨.nilFunc, fun _ => by kernel_rfl, by kernel_rfl⟩
instance : IsOne Try.prog 39 := ⟨fun _ => by kernel_rfl, fun _ => by kernel_rfl⟩
instance : ElOf Try.prog 39 1 8 := elOf_mk (by kernel_rfl) (by decide)
instance : ZeroOf Try.prog 39 [.nilFunc] := ⟨.nilFunc, fun _ => by kernel_rfl, by kernel_rfl⟩
instance : IsOne Try.prog 40 := ⟨fun _ => by kernel_rfl, fun _ => by kernel_rfl⟩
instance : ElOf Try.prog 40 1 8 := elOf_mk (by kernel_rfl) (by decide)
instance : ZeroOf Try.prog 40 [.nilFunc] := ⟨.nilFunc, fun _ => by kernel_rfl, by kernel_rfl⟩
instance : IsOne Try.prog 41 := ⟨fun _ => by kernel_rfl, fun _ => by kernel_rfl⟩
instance : ElOf Try.prog 41 1 8 := elOf_mk (by kernel_rfl) (by decide)
instance : ZeroOf Try.prog 41 [.nilFunc] := ⟨.nilFunc, fun _ => by kernel_rfl, by kernel_rfl⟩
instance : IsOne Try.prog 42 := ⟨fun _ => by kernel_rfl, fun _ => by kernel_rfl⟩
instance : NotInt Try.prog 42 := ⟨.inr ⟨28, by kernel_rfl⟩⟩
instance : SlOf Try.prog 42 28 1 := ⟨by kernel_rfl, fun _ => by kernel_rfl⟩
instance : ElOf Try.prog 42 1 24 := elOf_mk (by kernel_rfl) (by decide)
instance : ZeroOf Try.prog 42 [(.slice none 0 0)] := ⟨(.slice none 0 0), fun _ => by kernel_rfl, by kernel_rfl⟩
instance : IsOne Try.prog 43 := ⟨fun _ => by kernel_rfl, fun _ => by kernel_rfl⟩
instance : ElOf Try.prog 43 1 8 := elOf_mk (by kernel_rfl) (by decide)
instance : ZeroOf Try.prog 43 [.nilFunc] := ⟨.nilFunc, fun _ => by kernel_rfl, by kernel_rfl⟩
instance : IsOne Try.prog 44 := ⟨fun _ => by kernel_rfl, fun _ => by kernel_rfl⟩
instance : ElOf Try.prog 44 1 8 := elOf_mk (by kernel_rfl) (by decide)
instance : ZeroOf Try.prog 44 [.nilFunc] := ⟨.nilFunc, fun _ => by kernel_rfl, by kernel_rfl⟩
instance : IsOne Try.prog 45 := ⟨fun _ => by kernel_rfl, fun _ => by kernel_rfl⟩
instance : ElOf Try.prog 45 1 8 := elOf_mk (by kernel_rfl) (by decide)
instance : ZeroOf Try.prog 45 [.nilFunc] := ⟨.nilFunc, fun _ => by kernel_rfl, by kernel_rfl⟩
instance : IsOne Try.prog 46 := ⟨fun _ => by kernel_rfl, fun _ => by kernel_rfl⟩
instance : ElOf Try.prog 46 1 8 := elOf_mk (by kernel_rfl) (by decide)
instance : ZeroOf Try.prog 46 [.nilFunc] := ⟨.nilFunc, fun _ => by kernel_rfl, by kernel_rfl⟩
instance : IsOne Try.prog 47 := ⟨fun _ => by kernel_rfl, fun _ => by kernel_rfl⟩
instance : NotInt Try.prog 47 := ⟨.inr ⟨3, by kernel_rfl⟩⟩
instance : SlOf Try.prog 47 3 1 := ⟨by kernel_rfl, fun _ => by kernel_rfl⟩
instance : ElOf Try.prog 47 1 24 := elOf_mk (by kernel_rfl) (by decide)
instance : ZeroOf Try.prog 47 [(.slice none 0 0)] := ⟨(.slice none 0 0), fun _ => by kernel_rfl, by kernel_rfl⟩
instance : IsOne Try.prog 48 := ⟨fun _ => by kernel_rfl, fun _ => by kernel_rfl⟩
instance : ElOf Try.prog 48 1 8 := elOf_mk (by kernel_rfl) (by decide)
instance : ZeroOf Try.prog 48 [.nilFunc] := ⟨.nilFunc, fun _ => by kernel_rfl, by kernel_rfl⟩
instance : IsOne Try.prog 49 := ⟨fun _ => by kernel_rfl, fun _ => by kernel_rfl⟩
instance : ElOf Try.prog 49 1 8 := elOf_mk (by kernel_rfl) (by decide)
instance : ZeroOf Try.prog 49 [.nilFunc] := ⟨.nilFunc, fun _ => by kernel_rfl, by kernel_rfl⟩
instance : IsOne Try.prog 50 := ⟨fun _ => by kernel_rfl, fun _ => by kernel_rfl⟩
instance : ElOf Try.prog 50 1 8 := elOf_mk (by kernel_rfl) (by decide)
instance : ZeroOf Try.prog 50 [.nilFunc] := ⟨.nilFunc, fun _ => by kernel_rfl, by kernel_rfl⟩
instance : IsOne Try.prog 51 := ⟨fun _ => by kernel_rfl, fun _ => by kernel_rfl⟩
instance : IntT Try.prog 51 .u64 := ⟨by kernel_rfl⟩
instance : ElOf Try.prog 51 1 8 := elOf_mk (by kernel_rfl) (by decide)
instance : ZeroOf Try.prog 51 [(.int .u64 0)] := ⟨(.int .u64 0), fun _ => by kernel_rfl, by kernel_rfl⟩
instance : IsOne Try.prog 52 := ⟨fun _ => by kernel_rfl, fun _ => by kernel_rfl⟩
instance : ElOf Try.prog 52 1 8 := elOf_mk (by kernel_rfl) (by decide)
instance : ZeroOf Try.prog 52 [.nilFunc] := ⟨.nilFunc, fun _ => by kernel_rfl, by kernel_rfl⟩
instance : IsOne Try.prog 53 := ⟨fun _ => by kernel_rfl, fun _ => by kernel_rfl⟩
instance : ElOf Try.prog 53 1 8 := elOf_mk (by kernel_rfl) (by decide)
instance : ZeroOf Try.prog 53 [.nilFunc] := ⟨.nilFunc, fun _ => by kernel_rfl, by kernel_rfl⟩
instance : IsOne Try.prog 54 := ⟨fun _ => by kernel_rfl, fun _ => by kernel_rfl⟩
instance : ElOf Try.prog 54 1 8 := elOf_mk (by kernel_rfl) (by decide)
instance : ZeroOf Try.prog 54 [.nilFunc] := ⟨.nilFunc, fun _ => by kernel_rfl, by kernel_rfl⟩
instance : IsOne Try.prog 55 := ⟨fun _ => by kernel_rfl, fun _ => by kernel_rfl⟩
instance : IntT Try.prog 55 .i64 := ⟨by kernel_rfl⟩
instance : ElOf Try.prog 55 1 8 := elOf_mk (by kernel_rfl) (by decide)
instance : ZeroOf Try.prog 55 [(.int .i64 0)] := ⟨(.int .i64 0), fun _ => by kernel_rfl, by kernel_rfl⟩
instance : IsOne Try.prog 57 := ⟨fun _ => by kernel_rfl, fun _ => by kernel_rfl⟩
instance : ElOf Try.prog 57 1 8 := elOf_mk (by kernel_rfl) (by decide)
instance : ZeroOf Try.prog 57 [.nilFunc] := ⟨.nilFunc, fun _ => by kernel_rfl, by kernel_rfl⟩
instance : IsOne Try.prog 58 := ⟨fun _ => by kernel_rfl, fun _ => by kernel_rfl⟩
instance : ElOf Try.prog 58 1 8 := elOf_mk (by kernel_rfl) (by decide)
instance : ZeroOf Try.prog 58 [.nilFunc] := ⟨.nilFunc, fun _ => by kernel_rfl, by kernel_rfl⟩
instance : IsOne Try.prog 59 := ⟨fun _ => by kernel_rfl, fun _ => by kernel_rfl⟩
instance : ElOf Try.prog 59 1 8 := elOf_mk (by kernel_rfl) (by decide)
instance : ZeroOf Try.prog 59 [.nilFunc] := ⟨.nilFunc, fun _ => by kernel_rfl, by kernel_rfl⟩
instance : IsOne Try.prog 61 := ⟨fun _ => by kernel_rfl, fun _ => by kernel_rfl⟩
instance : ElOf Try.prog 61 1 8 := elOf_mk (by kernel_rfl) (by decide)
instance : ZeroOf Try.prog 61 [.nilFunc] := ⟨.nilFunc, fun _ => by kernel_rfl, by kernel_rfl⟩
instance : IsOne Try.prog 62 := ⟨fun _ => by kernel_rfl, fun _ => by kernel_rfl⟩
instance : ElOf Try.prog 62 1 8 := elOf_mk (by kernel_rfl) (by decide)
instance : ZeroOf Try.prog 62 [.nilFunc] := ⟨.nilFunc, fun _ => by kernel_rfl, by kernel_rfl⟩
instance : IsOne Try.prog 63 := ⟨fun _ => by kernel_rfl, fun _ => by kernel_rfl⟩
instance : IntT Try.prog 63 .u32 := ⟨by kernel_rfl⟩
instance : ElOf Try.prog 63 1 4 := elOf_mk (by kernel_rfl) (by decide)
instance : ZeroOf Try.prog 63 [(.int .u32 0)] := ⟨(.int .u32 0), fun _ => by kernel_rfl, by kernel_rfl⟩
instance : IsOne Try.prog 64 := ⟨fun _ => by kernel_rfl, fun _ => by kernel_rfl⟩
instance : ElOf Try.prog 64 1 8 := elOf_mk (by kernel_rfl) (by decide)
instance : ZeroOf Try.prog 64 [.nilFunc] := ⟨.nilFunc, fun _ => by kernel_rfl, by kernel_rfl⟩
instance : IsOne Try.prog 65 := ⟨fun _ => by kernel_rfl, fun _ => by kernel_rfl⟩
instance : IntT Try.prog 65 .u64 := ⟨by kernel_rfl⟩
instance : ElOf Try.prog 65 1 8 := elOf_mk (by kernel_rfl) (by decide)
instance : ZeroOf Try.prog 65 [(.int .u64 0)] := ⟨(.int .u64 0), fun _ => by kernel_rfl, by kernel_rfl⟩
instance : IsOne Try.prog 66 := ⟨fun _ => by kernel_rfl, fun _ => by kernel_rfl⟩
instance : ElOf Try.prog 66 1 8 := elOf_mk (by kernel_rfl) (by decide)
instance : ZeroOf Try.prog 66 [.nilFunc] := ⟨.nilFunc, fun _ => by kernel_rfl, by kernel_rfl⟩
instance : IsOne Try.prog 67 := ⟨fun _ => by kernel_rfl, fun _ => by kernel_rfl⟩
instance : IntT Try.prog 67 .u64 := ⟨by kernel_rfl⟩
instance : ElOf Try.prog 67 1 8 := elOf_mk (by kernel_rfl) (by decide)
instance : ZeroOf Try.prog 67 [(.int .u64 0)] := ⟨(.int .u64 0), fun _ => by kernel_rfl, by kernel_rfl⟩
instance : IsOne Try.prog 68 := ⟨fun _ => by kernel_rfl, fun _ => by kernel_rfl⟩
instance : ElOf Try.prog 68 1 8 := elOf_mk (by kernel_rfl) (by decide)
instance : ZeroOf Try.prog 68 [.nilFunc] := ⟨.nilFunc, fun _ => by kernel_rfl, by kernel_rfl⟩
instance : IsOne Try.prog 69 := ⟨fun _ => by kernel_rfl, fun _ => by kernel_rfl⟩
instance : ElOf Try.prog 69 1 8 := elOf_mk (by kernel_rfl) (by decide)
instance : ZeroOf Try.prog 69 [.nilFunc] := ⟨.nilFunc, fun _ => by kernel_rfl, by kernel_rfl⟩
instance : IsOne Try.prog 70 := ⟨fun _ => by kernel_rfl, fun _ => by kernel_rfl⟩
instance : ElOf Try.prog 70 1 8 := elOf_mk (by kernel_rfl) (by decide)
instance : ZeroOf Try.prog 70 [.nilFunc] := ⟨.nilFunc, fun _ => by kernel_rfl, by kernel_rfl⟩
instance : IsOne Try.prog 71 := ⟨fun _ => by kernel_rfl, fun _ => by kernel_rfl⟩
instance : ElOf Try.prog 71 1 8 := elOf_mk (by kernel_rfl) (by decide)
instance : ZeroOf Try.prog 71 [(.pointer none)] := ⟨(.pointer none), fun _ => by kernel_rfl, by kernel_rfl⟩
instance : IsOne Try.prog 72 := ⟨fun _ => by kernel_rfl, fun _ => by kernel_rfl⟩
instance : ElOf Try.prog 72 1 8 := elOf_mk (by kernel_rfl) (by decide)
instance : ZeroOf Try.prog 72 [.nilFunc] := ⟨.nilFunc, fun _ => by kernel_rfl, by kernel_rfl⟩
instance : IsOne Try.prog 73 := ⟨fun _ => by kernel_rfl, fun _ => by kernel_rfl⟩
instance : ElOf Try.prog 73 1 8 := elOf_mk (by kernel_rfl) (by decide)
instance : ZeroOf Try.prog 73 [(.pointer none)] := ⟨(.pointer none), fun _ => by kernel_rfl, by kernel_rfl⟩
instance : IsOne Try.prog 75 := ⟨fun _ => by kernel_rfl, fun _ => by kernel_rfl⟩
instance : ElOf Try.prog 75 1 8 := elOf_mk (by kernel_rfl) (by decide)
instance : ZeroOf Try.prog 75 [.nilFunc] := ⟨.nilFunc, fun _ => by kernel_rfl, by kernel_rfl⟩
instance : IsOne Try.prog 76 := ⟨fun _ => by kernel_rfl, fun _ => by kernel_rfl⟩
instance : ElOf Try.prog 76 1 8 := elOf_mk (by kernel_rfl) (by decide)
instance : ZeroOf Try.prog 76 [.nilFunc] := ⟨.nilFunc, fun _ => by kernel_rfl, by kernel_rfl⟩
instance : IsAgg Try.prog 77 4 := ⟨fun _ => by kernel_rfl, fun _ => by kernel_rfl⟩
instance : FldAt Try.prog 77 0 0 := ⟨fun _ _ _ => by kernel_rfl⟩
instance : FldAt Try.prog 77 1 1 := ⟨fun _ _ _ => by kernel_rfl⟩
instance : FldAt Try.prog 77 2 2 := ⟨fun _ _ _ => by kernel_rfl⟩
instance : FldAt Try.prog 77 3 3 := ⟨fun _ _ _ => by kernel_rfl⟩
instance : ElOf Try.prog 77 4 40 := elOf_mk (by kernel_rfl) (by decide)
instance : ZeroOf Try.prog 77 [(.pointer none), (.pointer none), (.pointer none), (.string ⟨#[]⟩)] := ⟨(.agg #[(.pointer none), (.pointer none), (.pointer none), (.string ⟨#[]⟩)]), fun _ => by kernel_rfl, by kernel_rfl⟩
instance : PlacesOf Try.prog 77 [(0, 1), (1, 1), (2, 1), (3, 1)] [(.pointer none), (.pointer none), (.pointer none), (.string ⟨#[]⟩)] := placesOf_mk (Try.prog.fieldsOf 77) (.agg #[(.pointer none), (.pointer none), (.pointer none), (.string ⟨#[]⟩)]) (fun _ => by kernel_rfl) (by kernel_rfl) (by kernel_rfl) (fun _ => by kernel_rfl)
instance : IsAgg Try.prog 78 4 := ⟨fun _ => by kernel_rfl, fun _ => by kernel_rfl⟩
instance : FldAt Try.prog 78 0 0 := ⟨fun _ _ _ => by kernel_rfl⟩
instance : FldAt Try.prog 78 1 1 := ⟨fun _ _ _ => by kernel_rfl⟩
instance : FldAt Try.prog 78 2 2 := ⟨fun _ _ _ => by kernel_rfl⟩
instance : FldAt Try.prog 78 3 3 := ⟨fun _ _ _ => by kernel_rfl⟩
instance : ElOf Try.prog 78 4 40 := elOf_mk (by kernel_rfl) (by decide)
instance : ZeroOf Try.prog 78 [(.pointer none), (.pointer none), (.pointer none), (.string ⟨#[]⟩)] := ⟨(.agg #[(.pointer none), (.pointer none), (.pointer none), (.string ⟨#[]⟩)]), fun _ => by kernel_rfl, by kernel_rfl⟩
instance : PlacesOf Try.prog 78 [(0, 1), (1, 1), (2, 1), (3, 1)] [(.pointer none), (.pointer none), (.pointer none), (.string ⟨#[]⟩)] := placesOf_mk (Try.prog.fieldsOf 78) (.agg #[(.pointer none), (.pointer none), (.pointer none), (.string ⟨#[]⟩)]) (fun _ => by kernel_rfl) (by kernel_rfl) (by kernel_rfl) (fun _ => by kernel_rfl)
instance : IsOne Try.prog 82 := ⟨fun _ => by kernel_rfl, fun _ => by kernel_rfl⟩
instance : ElOf Try.prog 82 1 8 := elOf_mk (by kernel_rfl) (by decide)
instance : ZeroOf Try.prog 82 [.nilFunc] := ⟨.nilFunc, fun _ => by kernel_rfl, by kernel_rfl⟩
instance : IsOne Try.prog 83 := ⟨fun _ => by kernel_rfl, fun _ => by kernel_rfl⟩
instance : IntT Try.prog 83 .u8 := ⟨by kernel_rfl⟩
instance : ElOf Try.prog 83 1 1 := elOf_mk (by kernel_rfl) (by decide)
instance : ZeroOf Try.prog 83 [(.int .u8 0)] := ⟨(.int .u8 0), fun _ => by kernel_rfl, by kernel_rfl⟩
instance : IsOne Try.prog 84 := ⟨fun _ => by kernel_rfl, fun _ => by kernel_rfl⟩
instance : IntT Try.prog 84 .u8 := ⟨by kernel_rfl⟩
instance : ElOf Try.prog 84 1 1 := elOf_mk (by kernel_rfl) (by decide)
instance : ZeroOf Try.prog 84 [(.int .u8 0)] := ⟨(.int .u8 0), fun _ => by kernel_rfl, by kernel_rfl⟩
instance : IsOne Try.prog 85 := ⟨fun _ => by kernel_rfl, fun _ => by kernel_rfl⟩
instance : ElOf Try.prog 85 1 8 := elOf_mk (by kernel_rfl) (by decide)
instance : ZeroOf Try.prog 85 [.nilFunc] := ⟨.nilFunc, fun _ => by kernel_rfl, by kernel_rfl⟩
instance : IsOne Try.prog 86 := ⟨fun _ => by kernel_rfl, fun _ => by kernel_rfl⟩
instance : ElOf Try.prog 86 1 8 := elOf_mk (by kernel_rfl) (by decide)
instance : ZeroOf Try.prog 86 [(.pointer none)] := ⟨(.pointer none), fun _ => by kernel_rfl, by kernel_rfl⟩
instance : IsOne Try.prog 87 := ⟨fun _ => by kernel_rfl, fun _ => by kernel_rfl⟩
instance : IntT Try.prog 87 .i32 := ⟨by kernel_rfl⟩
instance : ElOf Try.prog 87 1 4 := elOf_mk (by kernel_rfl) (by decide)
instance : ZeroOf Try.prog 87 [(.int .i32 0)] := ⟨(.int .i32 0), fun _ => by kernel_rfl, by kernel_rfl⟩
instance : IsOne Try.prog 88 := ⟨fun _ => by kernel_rfl, fun _ => by kernel_rfl⟩
instance : IntT Try.prog 88 .i32 := ⟨by kernel_rfl⟩
instance : ElOf Try.prog 88 1 4 := elOf_mk (by kernel_rfl) (by decide)
instance : ZeroOf Try.prog 88 [(.int .i32 0)] := ⟨(.int .i32 0), fun _ => by kernel_rfl, by kernel_rfl⟩
instance : IsAgg Try.prog 89 11 := ⟨fun _ => by kernel_rfl, fun _ => by kernel_rfl⟩
instance : FldAt Try.prog 89 0 0 := ⟨fun _ _ _ => by kernel_rfl⟩
instance : FldAt Try.prog 89 1 1 := ⟨fun _ _ _ => by kernel_rfl⟩
instance : FldAt Try.prog 89 2 2 := ⟨fun _ _ _ => by kernel_rfl⟩
instance : FldAt Try.prog 89 3 3 := ⟨fun _ _ _ => by kernel_rfl⟩
instance : FldAt Try.prog 89 4 4 := ⟨fun _ _ _ => by kernel_rfl⟩
instance : FldAt Try.prog 89 5 5 := ⟨fun _ _ _ => by kernel_rfl⟩
instance : FldAt Try.prog 89 6 6 := ⟨fun _ _ _ => by kernel_rfl⟩
instance : FldAt Try.prog 89 7 7 := ⟨fun _ _ _ => by kernel_rfl⟩
instance : FldAt Try.prog 89 8 8 := ⟨fun _ _ _ => by kernel_rfl⟩
instance : FldAt Try.prog 89 9 9 := ⟨fun _ _ _ => by kernel_rfl⟩
instance : FldAt Try.prog 89 10 10 := ⟨fun _ _ _ => by kernel_rfl⟩
instance : ElOf Try.prog 89 11 48 := elOf_mk (by kernel_rfl) (by decide)
instance : ZeroOf Try.prog 89 [(.int .u64 0), (.int .u64 0), (.int .u32 0), (.int .u8 0), (.int .u8 0), (.int .u8 0), (.int .u8 0), .nilFunc, (.pointer none), (.int .i32 0), (.int .i32 0)] := ⟨(.agg #[(.int .u64 0), (.int .u64 0), (.int .u32 0), (.int .u8 0), (.int .u8 0), (.int .u8 0), (.int .u8 0), .nilFunc, (.pointer none), (.int .i32 0), (.int .i32 0)]), fun _ => by kernel_rfl, by kernel_rfl⟩
instance : PlacesOf Try.prog 89 [(0, 1), (1, 1), (2, 1), (3, 1), (4, 1), (5, 1), (6, 1), (7, 1), (8, 1), (9, 1), (10, 1)] [(.int .u64 0), (.int .u64 0), (.int .u32 0), (.int .u8 0), (.int .u8 0), (.int .u8 0), (.int .u8 0), .nilFunc, (.pointer none), (.int .i32 0), (.int .i32 0)] := placesOf_mk (Try.prog.fieldsOf 89) (.agg #[(.int .u64 0), (.int .u64 0), (.int .u32 0), (.int .u8 0), (.int .u8 0), (.int .u8 0), (.int .u8 0), .nilFunc, (.pointer none), (.int .i32 0), (.int .i32 0)]) (fun _ => by kernel_rfl) (by kernel_rfl) (by kernel_rfl) (fun _ => by kernel_rfl)
instance : IsAgg Try.prog 90 11 := ⟨fun _ => by kernel_rfl, fun _ => by kernel_rfl⟩
instance : FldAt Try.prog 90 0 0 := ⟨fun _ _ _ => by kernel_rfl⟩
instance : FldAt Try.prog 90 1 1 := ⟨fun _ _ _ => by kernel_rfl⟩
instance : FldAt Try.prog 90 2 2 := ⟨fun _ _ _ => by kernel_rfl⟩
instance : FldAt Try.prog 90 3 3 := ⟨fun _ _ _ => by kernel_rfl⟩
instance : FldAt Try.prog 90 4 4 := ⟨fun _ _ _ => by kernel_rfl⟩
instance : FldAt Try.prog 90 5 5 := ⟨fun _ _ _ => by kernel_rfl⟩
instance : FldAt Try.prog 90 6 6 := ⟨fun _ _ _ => by kernel_rfl⟩
instance : FldAt Try.prog 90 7 7 := ⟨fun _ _ _ => by kernel_rfl⟩
instance : FldAt Try.prog 90 8 8 := ⟨fun _ _ _ => by kernel_rfl⟩
instance : FldAt Try.prog 90 9 9 := ⟨fun _ _ _ => by kernel_rfl⟩
instance : FldAt Try.prog 90 10 10 := ⟨fun _ _ _ => by kernel_rfl⟩
instance : ElOf Try.prog 90 11 48 := elOf_mk (by kernel_rfl) (by decide)
instance : ZeroOf Try.prog 90 [(.int .u64 0), (.int .u64 0), (.int .u32 0), (.int .u8 0), (.int .u8 0), (.int .u8 0), (.int .u8 0), .nilFunc, (.pointer none), (.int .i32 0), (.int .i32 0)] := ⟨(.agg #[(.int .u64 0), (.int .u64 0), (.int .u32 0), (.int .u8 0), (.int .u8 0), (.int .u8 0), (.int .u8 0), .nilFunc, (.pointer none), (.int .i32 0), (.int .i32 0)]), fun _ => by kernel_rfl, by kernel_rfl⟩
instance : PlacesOf Try.prog 90 [(0, 1), (1, 1), (2, 1), (3, 1), (4, 1), (5, 1), (6, 1), (7, 1), (8, 1), (9, 1), (10, 1)] [(.int .u64 0), (.int .u64 0), (.int .u32 0), (.int .u8 0), (.int .u8 0), (.int .u8 0), (.int .u8 0), .nilFunc, (.pointer none), (.int .i32 0), (.int .i32 0)] := placesOf_mk (Try.prog.fieldsOf 90) (.agg #[(.int .u64 0), (.int .u64 0), (.int .u32 0), (.int .u8 0), (.int .u8 0), (.int .u8 0), (.int .u8 0), .nilFunc, (.pointer none), (.int .i32 0), (.int .i32 0)]) (fun _ => by kernel_rfl) (by kernel_rfl) (by kernel_rfl) (fun _ => by kernel_rfl)
instance : IsOne Try.prog 91 := ⟨fun _ => by kernel_rfl, fun _ => by kernel_rfl⟩
instance : ElOf Try.prog 91 1 8 := elOf_mk (by kernel_rfl) (by decide)
instance : ZeroOf Try.prog 91 [(.pointer none)] := ⟨(.pointer none), fun _ => by kernel_rfl, by kernel_rfl⟩
instance : Mixed Try.prog := ⟨by kernel_rfl⟩
instance : Ent Try.prog 3 := ⟨enters_of Try.func3 (by kernel_rfl) rfl⟩
instance : Ent Try.prog 4 := ⟨enters_of Try.func4 (by kernel_rfl) rfl⟩
instance : Ent Try.prog 5 := ⟨enters_of Try.func5 (by kernel_rfl) rfl⟩
instance : Ent Try.prog 6 := ⟨enters_of Try.func6 (by kernel_rfl) rfl⟩
instance : Ent Try.prog 7 := ⟨enters_of Try.func7 (by kernel_rfl) rfl⟩
instance : Ent Try.prog 8 := ⟨enters_of Try.func8 (by kernel_rfl) rfl⟩
instance : Ent Try.prog 9 := ⟨enters_of Try.func9 (by kernel_rfl) rfl⟩
instance : Ent Try.prog 10 := ⟨enters_of Try.func10 (by kernel_rfl) rfl⟩
instance : Ent Try.prog 11 := ⟨enters_of Try.func11 (by kernel_rfl) rfl⟩
instance : Ent Try.prog 12 := ⟨enters_of Try.func12 (by kernel_rfl) rfl⟩
instance : Ent Try.prog 13 := ⟨enters_of Try.func13 (by kernel_rfl) rfl⟩
instance : Ent Try.prog 14 := ⟨enters_of Try.func14 (by kernel_rfl) rfl⟩
instance : Ent Try.prog 15 := ⟨enters_of Try.func15 (by kernel_rfl) rfl⟩
instance : Ent Try.prog 16 := ⟨enters_of Try.func16 (by kernel_rfl) rfl⟩
instance : Ent Try.prog 17 := ⟨enters_of Try.func17 (by kernel_rfl) rfl⟩
instance : Ent Try.prog 18 := ⟨enters_of Try.func18 (by kernel_rfl) rfl⟩
instance : Ent Try.prog 19 := ⟨enters_of Try.func19 (by kernel_rfl) rfl⟩
instance : Ent Try.prog 20 := ⟨enters_of Try.func20 (by kernel_rfl) rfl⟩
instance : Ent Try.prog 21 := ⟨enters_of Try.func21 (by kernel_rfl) rfl⟩
instance : Ent Try.prog 22 := ⟨enters_of Try.func22 (by kernel_rfl) rfl⟩
instance : Ent Try.prog 23 := ⟨enters_of Try.func23 (by kernel_rfl) rfl⟩
instance : Ent Try.prog 24 := ⟨enters_of Try.func24 (by kernel_rfl) rfl⟩
instance : Ent Try.prog 25 := ⟨enters_of Try.func25 (by kernel_rfl) rfl⟩
instance : Ent Try.prog 26 := ⟨enters_of Try.func26 (by kernel_rfl) rfl⟩
instance : Ent Try.prog 27 := ⟨enters_of Try.func27 (by kernel_rfl) rfl⟩
instance : Ent Try.prog 28 := ⟨enters_of Try.func28 (by kernel_rfl) rfl⟩
instance : Ent Try.prog 29 := ⟨enters_of Try.func29 (by kernel_rfl) rfl⟩
instance : Ent Try.prog 30 := ⟨enters_of Try.func30 (by kernel_rfl) rfl⟩
instance : Ent Try.prog 31 := ⟨enters_of Try.func31 (by kernel_rfl) rfl⟩
instance : Ent Try.prog 32 := ⟨enters_of Try.func32 (by kernel_rfl) rfl⟩
instance : Ent Try.prog 33 := ⟨enters_of Try.func33 (by kernel_rfl) rfl⟩
instance : Ent Try.prog 34 := ⟨enters_of Try.func34 (by kernel_rfl) rfl⟩
instance : Ent Try.prog 35 := ⟨enters_of Try.func35 (by kernel_rfl) rfl⟩
instance : Ent Try.prog 36 := ⟨enters_of Try.func36 (by kernel_rfl) rfl⟩
instance : Ent Try.prog 37 := ⟨enters_of Try.func37 (by kernel_rfl) rfl⟩
instance : Ent Try.prog 38 := ⟨enters_of Try.func38 (by kernel_rfl) rfl⟩
instance : Ent Try.prog 39 := ⟨enters_of Try.func39 (by kernel_rfl) rfl⟩
instance : Ent Try.prog 40 := ⟨enters_of Try.func40 (by kernel_rfl) rfl⟩
instance : Ent Try.prog 41 := ⟨enters_of Try.func41 (by kernel_rfl) rfl⟩
instance : Ent Try.prog 42 := ⟨enters_of Try.func42 (by kernel_rfl) rfl⟩
instance : Ent Try.prog 43 := ⟨enters_of Try.func43 (by kernel_rfl) rfl⟩
instance : Ent Try.prog 44 := ⟨enters_of Try.func44 (by kernel_rfl) rfl⟩
instance : Ent Try.prog 45 := ⟨enters_of Try.func45 (by kernel_rfl) rfl⟩
instance : Ent Try.prog 46 := ⟨enters_of Try.func46 (by kernel_rfl) rfl⟩
instance : Ent Try.prog 47 := ⟨enters_of Try.func47 (by kernel_rfl) rfl⟩
instance : Ent Try.prog 48 := ⟨enters_of Try.func48 (by kernel_rfl) rfl⟩
instance : Ent Try.prog 49 := ⟨enters_of Try.func49 (by kernel_rfl) rfl⟩
instance : Ent Try.prog 50 := ⟨enters_of Try.func50 (by kernel_rfl) rfl⟩
instance : Ent Try.prog 51 := ⟨enters_of Try.func51 (by kernel_rfl) rfl⟩
instance : Ent Try.prog 52 := ⟨enters_of Try.func52 (by kernel_rfl) rfl⟩
instance : Ent Try.prog 53 := ⟨enters_of Try.func53 (by kernel_rfl) rfl⟩
instance : Ent Try.prog 54 := ⟨enters_of Try.func54 (by kernel_rfl) rfl⟩
instance : Ent Try.prog 55 := ⟨enters_of Try.func55 (by kernel_rfl) rfl⟩
instance : Ent Try.prog 56 := ⟨enters_of Try.func56 (by kernel_rfl) rfl⟩
instance : Ent Try.prog 57 := ⟨enters_of Try.func57 (by kernel_rfl) rfl⟩
instance : Ent Try.prog 58 := ⟨enters_of Try.func58 (by kernel_rfl) rfl⟩
instance : Ent Try.prog 59 := ⟨enters_of Try.func59 (by kernel_rfl) rfl⟩
end Go.Proofs.Ytapakgncdmmmaaa
