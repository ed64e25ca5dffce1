/- Facts on the types and functions of the program, by program.
   Plain: spans in order, and what the strategies keep of them.
   Plain: matches, their order, and the matches of chosen spans.
   Plain: insertion into an ascending list from behind.
   Plain: matches and what a strategy keeps of them.
   Plain: what the laws about strategies say of lists. -/
import Derived.Test.YtecogbhbkccblaaGreatDoorProg
import Derived.Test.YtecogbhbkccblaaGreatDoorG2
set_option linter.all false
namespace Go.Proofs.YtecogbhbkccblaaGreatDoor

instance : IsOne Tryz.prog 3 := ⟨fun _ => by kernel_rfl, fun _ => by kernel_rfl⟩
instance : IntT Tryz.prog 3 .i64 := ⟨by kernel_rfl⟩
instance : ElOf Tryz.prog 3 1 8 := elOf_mk zK zD
instance : ZeroOf Tryz.prog 3 [(.int .i64 0)] := ⟨(.int .i64 0), fun _ => by kernel_rfl, by kernel_rfl⟩
instance : IsOne Tryz.prog 4 := ⟨fun _ => by kernel_rfl, fun _ => by kernel_rfl⟩
instance : BoolT Tryz.prog 4 := ⟨by kernel_rfl⟩
instance : ElOf Tryz.prog 4 1 1 := elOf_mk zK zD
instance : ZeroOf Tryz.prog 4 [(.bool false)] := ⟨(.bool false), fun _ => by kernel_rfl, by kernel_rfl⟩
instance : IsOne Tryz.prog 5 := ⟨fun _ => by kernel_rfl, fun _ => by kernel_rfl⟩
instance : IntT Tryz.prog 5 .u8 := ⟨by kernel_rfl⟩
instance : ElOf Tryz.prog 5 1 1 := elOf_mk zK zD
instance : ZeroOf Tryz.prog 5 [(.int .u8 0)] := ⟨(.int .u8 0), fun _ => by kernel_rfl, by kernel_rfl⟩
instance : IsOne Tryz.prog 9 := ⟨fun _ => by kernel_rfl, fun _ => by kernel_rfl⟩
instance : NotInt Tryz.prog 9 := ⟨.inl zK⟩
instance : StrT Tryz.prog 9 := ⟨by kernel_rfl⟩
instance : ElOf Tryz.prog 9 1 16 := elOf_mk zK zD
instance : ZeroOf Tryz.prog 9 [(.string ⟨#[]⟩)] := ⟨(.string ⟨#[]⟩), fun _ => by kernel_rfl, by kernel_rfl⟩
instance : IsOne Tryz.prog 21 := ⟨fun _ => by kernel_rfl, fun _ => by kernel_rfl⟩
instance : IsOne Tryz.prog 22 := ⟨fun _ => by kernel_rfl, fun _ => by kernel_rfl⟩
instance : NotInt Tryz.prog 22 := ⟨.inr ⟨105, by kernel_rfl⟩⟩
instance : SlOf Tryz.prog 22 105 2 := ⟨by kernel_rfl, fun _ => by kernel_rfl⟩
instance : IsOne Tryz.prog 23 := ⟨fun _ => by kernel_rfl, fun _ => by kernel_rfl⟩
instance : NotInt Tryz.prog 23 := ⟨.inr ⟨28, by kernel_rfl⟩⟩
instance : SlOf Tryz.prog 23 28 1 := ⟨by kernel_rfl, fun _ => by kernel_rfl⟩
instance : IsOne Tryz.prog 24 := ⟨fun _ => by kernel_rfl, fun _ => by kernel_rfl⟩
instance : NotInt Tryz.prog 24 := ⟨.inr ⟨112, by kernel_rfl⟩⟩
instance : SlOf Tryz.prog 24 112 4 := ⟨by kernel_rfl, fun _ => by kernel_rfl⟩
instance : IsOne Tryz.prog 25 := ⟨fun _ => by kernel_rfl, fun _ => by kernel_rfl⟩
instance : NotInt Tryz.prog 25 := ⟨.inr ⟨110, by kernel_rfl⟩⟩
instance : SlOf Tryz.prog 25 110 4 := ⟨by kernel_rfl, fun _ => by kernel_rfl⟩
instance : IsOne Tryz.prog 26 := ⟨fun _ => by kernel_rfl, fun _ => by kernel_rfl⟩
instance : SlOf Tryz.prog 26 115 4 := ⟨by kernel_rfl, fun _ => by kernel_rfl⟩
instance : IsOne Tryz.prog 27 := ⟨fun _ => by kernel_rfl, fun _ => by kernel_rfl⟩
instance : NotInt Tryz.prog 27 := ⟨.inr ⟨3, by kernel_rfl⟩⟩
instance : SlOf Tryz.prog 27 3 1 := ⟨by kernel_rfl, fun _ => by kernel_rfl⟩
instance : ElOf Tryz.prog 27 1 24 := elOf_mk zK zD
instance : ZeroOf Tryz.prog 27 [(.slice none 0 0)] := ⟨(.slice none 0 0), fun _ => by kernel_rfl, by kernel_rfl⟩
instance : IsOne Tryz.prog 28 := ⟨fun _ => by kernel_rfl, fun _ => by kernel_rfl⟩
instance : NotInt Tryz.prog 28 := ⟨.inr ⟨9, by kernel_rfl⟩⟩
instance : SlOf Tryz.prog 28 9 1 := ⟨by kernel_rfl, fun _ => by kernel_rfl⟩
instance : ElOf Tryz.prog 28 1 24 := elOf_mk zK zD
instance : ZeroOf Tryz.prog 28 [(.slice none 0 0)] := ⟨(.slice none 0 0), fun _ => by kernel_rfl, by kernel_rfl⟩
instance : IsAgg Tryz.prog 30 7 := ⟨fun _ => by kernel_rfl, fun _ => by kernel_rfl⟩
instance : FldAt Tryz.prog 30 0 0 := ⟨fun _ _ _ => by kernel_rfl⟩
instance : FldAt Tryz.prog 30 1 1 := ⟨fun _ _ _ => by kernel_rfl⟩
instance : FldAt Tryz.prog 30 2 2 := ⟨fun _ _ _ => by kernel_rfl⟩
instance : FldAt Tryz.prog 30 3 3 := ⟨fun _ _ _ => by kernel_rfl⟩
instance : FldAt Tryz.prog 30 4 4 := ⟨fun _ _ _ => by kernel_rfl⟩
instance : FldAt Tryz.prog 30 5 5 := ⟨fun _ _ _ => by kernel_rfl⟩
instance : FldAt Tryz.prog 30 6 6 := ⟨fun _ _ _ => by kernel_rfl⟩
instance : ZeroOf Tryz.prog 30 [(.slice none 0 0), (.slice none 0 0), (.slice none 0 0), (.slice none 0 0), (.slice none 0 0), (.slice none 0 0), (.slice none 0 0)] := ⟨(.agg #[(.slice none 0 0), (.slice none 0 0), (.slice none 0 0), (.slice none 0 0), (.slice none 0 0), (.slice none 0 0), (.slice none 0 0)]), fun _ => by kernel_rfl, by kernel_rfl⟩
instance : PlacesOf Tryz.prog 30 [(0, 1), (1, 1), (2, 1), (3, 1), (4, 1), (5, 1), (6, 1)] [(.slice none 0 0), (.slice none 0 0), (.slice none 0 0), (.slice none 0 0), (.slice none 0 0), (.slice none 0 0), (.slice none 0 0)] := placesOf_mk (Tryz.prog.fieldsOf 30) (.agg #[(.slice none 0 0), (.slice none 0 0), (.slice none 0 0), (.slice none 0 0), (.slice none 0 0), (.slice none 0 0), (.slice none 0 0)]) (fun _ => by kernel_rfl) zK zK (fun _ => by kernel_rfl)
instance : IsOne Tryz.prog 33 := ⟨fun _ => by kernel_rfl, fun _ => by kernel_rfl⟩
instance : IsOne Tryz.prog 34 := ⟨fun _ => by kernel_rfl, fun _ => by kernel_rfl⟩
instance : ZeroOf Tryz.prog 34 [(.int .i64 0)] := ⟨(.int .i64 0), fun _ => by kernel_rfl, by kernel_rfl⟩
instance : IsOne Tryz.prog 42 := ⟨fun _ => by kernel_rfl, fun _ => by kernel_rfl⟩
instance : NotInt Tryz.prog 42 := ⟨.inr ⟨5, by kernel_rfl⟩⟩
instance : SlOf Tryz.prog 42 5 1 := ⟨by kernel_rfl, fun _ => by kernel_rfl⟩
instance : NotInt Tryz.prog 45 := ⟨.inr ⟨27, by kernel_rfl⟩⟩
instance : SlOf Tryz.prog 45 27 1 := ⟨by kernel_rfl, fun _ => by kernel_rfl⟩
instance : FldAt Tryz.prog 65 0 0 := ⟨fun _ _ _ => by kernel_rfl⟩
instance : FldAt Tryz.prog 65 1 1 := ⟨fun _ _ _ => by kernel_rfl⟩
instance : FldAt Tryz.prog 65 2 2 := ⟨fun _ _ _ => by kernel_rfl⟩
instance : PlacesOf Tryz.prog 65 [(0, 1), (1, 1), (2, 1)] [(.slice none 0 0), (.slice none 0 0), (.slice none 0 0)] := placesOf_mk (Tryz.prog.fieldsOf 65) (.agg #[(.slice none 0 0), (.slice none 0 0), (.slice none 0 0)]) (fun _ => by kernel_rfl) zK zK (fun _ => by kernel_rfl)
instance : IsAgg Tryz.prog 72 2 := ⟨fun _ => by kernel_rfl, fun _ => by kernel_rfl⟩
instance : FldAt Tryz.prog 72 0 0 := ⟨fun _ _ _ => by kernel_rfl⟩
instance : FldAt Tryz.prog 72 1 1 := ⟨fun _ _ _ => by kernel_rfl⟩
instance : ZeroOf Tryz.prog 72 [(.slice none 0 0), (.bool false)] := ⟨(.agg #[(.slice none 0 0), (.bool false)]), fun _ => by kernel_rfl, by kernel_rfl⟩
instance : PlacesOf Tryz.prog 72 [(0, 1), (1, 1)] [(.slice none 0 0), (.bool false)] := placesOf_mk (Tryz.prog.fieldsOf 72) (.agg #[(.slice none 0 0), (.bool false)]) (fun _ => by kernel_rfl) zK zK (fun _ => by kernel_rfl)
instance : IsOne Tryz.prog 76 := ⟨fun _ => by kernel_rfl, fun _ => by kernel_rfl⟩
instance : IntT Tryz.prog 76 .u64 := ⟨by kernel_rfl⟩
instance : ElOf Tryz.prog 76 1 8 := elOf_mk zK zD
instance : ZeroOf Tryz.prog 76 [(.int .u64 0)] := ⟨(.int .u64 0), fun _ => by kernel_rfl, by kernel_rfl⟩
instance : IsAgg Tryz.prog 80 2 := ⟨fun _ => by kernel_rfl, fun _ => by kernel_rfl⟩
instance : FldAt Tryz.prog 80 0 0 := ⟨fun _ _ _ => by kernel_rfl⟩
instance : FldAt Tryz.prog 80 1 1 := ⟨fun _ _ _ => by kernel_rfl⟩
instance : ZeroOf Tryz.prog 80 [(.slice none 0 0), (.bool false)] := ⟨(.agg #[(.slice none 0 0), (.bool false)]), fun _ => by kernel_rfl, by kernel_rfl⟩
instance : PlacesOf Tryz.prog 80 [(0, 1), (1, 1)] [(.slice none 0 0), (.bool false)] := placesOf_mk (Tryz.prog.fieldsOf 80) (.agg #[(.slice none 0 0), (.bool false)]) (fun _ => by kernel_rfl) zK zK (fun _ => by kernel_rfl)
instance : IsOne Tryz.prog 83 := ⟨fun _ => by kernel_rfl, fun _ => by kernel_rfl⟩
instance : NotInt Tryz.prog 83 := ⟨.inr ⟨89, by kernel_rfl⟩⟩
instance : SlOf Tryz.prog 83 89 2 := ⟨by kernel_rfl, fun _ => by kernel_rfl⟩
instance : FldAt Tryz.prog 85 0 0 := ⟨fun _ _ _ => by kernel_rfl⟩
instance : FldAt Tryz.prog 85 1 1 := ⟨fun _ _ _ => by kernel_rfl⟩
instance : FldAt Tryz.prog 85 2 2 := ⟨fun _ _ _ => by kernel_rfl⟩
instance : FldAt Tryz.prog 85 3 3 := ⟨fun _ _ _ => by kernel_rfl⟩
instance : PlacesOf Tryz.prog 85 [(0, 1), (1, 1), (2, 1), (3, 1)] [(.int .i64 0), (.int .i64 0), (.slice none 0 0), (.slice none 0 0)] := placesOf_mk (Tryz.prog.fieldsOf 85) (.agg #[(.int .i64 0), (.int .i64 0), (.slice none 0 0), (.slice none 0 0)]) (fun _ => by kernel_rfl) zK zK (fun _ => by kernel_rfl)
instance : FldAt Tryz.prog 89 0 0 := ⟨fun _ _ _ => by kernel_rfl⟩
instance : FldAt Tryz.prog 89 1 1 := ⟨fun _ _ _ => by kernel_rfl⟩
instance : ElOf Tryz.prog 89 2 16 := elOf_mk zK zD
instance : PlacesOf Tryz.prog 89 [(0, 1), (1, 1)] [(.int .i64 0), (.int .i64 0)] := placesOf_mk (Tryz.prog.fieldsOf 89) (.agg #[(.int .i64 0), (.int .i64 0)]) (fun _ => by kernel_rfl) zK zK (fun _ => by kernel_rfl)
instance : IsOne Tryz.prog 95 := ⟨fun _ => by kernel_rfl, fun _ => by kernel_rfl⟩
instance : NotInt Tryz.prog 95 := ⟨.inr ⟨130, by kernel_rfl⟩⟩
instance : SlOf Tryz.prog 95 130 2 := ⟨by kernel_rfl, fun _ => by kernel_rfl⟩
instance : IsAgg Tryz.prog 97 6 := ⟨fun _ => by kernel_rfl, fun _ => by kernel_rfl⟩
instance : FldAt Tryz.prog 97 0 0 := ⟨fun _ _ _ => by kernel_rfl⟩
instance : FldAt Tryz.prog 97 1 1 := ⟨fun _ _ _ => by kernel_rfl⟩
instance : FldAt Tryz.prog 97 2 2 := ⟨fun _ _ _ => by kernel_rfl⟩
instance : FldAt Tryz.prog 97 3 3 := ⟨fun _ _ _ => by kernel_rfl⟩
instance : FldAt Tryz.prog 97 4 4 := ⟨fun _ _ _ => by kernel_rfl⟩
instance : FldAt Tryz.prog 97 5 5 := ⟨fun _ _ _ => by kernel_rfl⟩
instance : ZeroOf Tryz.prog 97 [(.int .i64 0), (.int .i64 0), (.slice none 0 0), (.slice none 0 0), (.int .i64 0), (.slice none 0 0)] := ⟨(.agg #[(.int .i64 0), (.int .i64 0), (.slice none 0 0), (.slice none 0 0), (.int .i64 0), (.slice none 0 0)]), fun _ => by kernel_rfl, by kernel_rfl⟩
instance : PlacesOf Tryz.prog 97 [(0, 1), (1, 1), (2, 1), (3, 1), (4, 1), (5, 1)] [(.int .i64 0), (.int .i64 0), (.slice none 0 0), (.slice none 0 0), (.int .i64 0), (.slice none 0 0)] := placesOf_mk (Tryz.prog.fieldsOf 97) (.agg #[(.int .i64 0), (.int .i64 0), (.slice none 0 0), (.slice none 0 0), (.int .i64 0), (.slice none 0 0)]) (fun _ => by kernel_rfl) zK zK (fun _ => by kernel_rfl)
instance : IsAgg Tryz.prog 101 2 := ⟨fun _ => by kernel_rfl, fun _ => by kernel_rfl⟩
set_option maxRecDepth 100000 in
instance : FlatEq Tryz.prog 101 [.int .i64, .int .i64] := ⟨by kernel_rfl, .cons zK (of_decide_eq_true zK) (fun _ => by kernel_rfl) zK (.cons zK (of_decide_eq_true zK) (fun _ => by kernel_rfl) zK (.nil)), by kernel_rfl, by kernel_rfl⟩
instance : ZeroOf Tryz.prog 101 [(.int .i64 0), (.int .i64 0)] := ⟨(.agg #[(.int .i64 0), (.int .i64 0)]), fun _ => by kernel_rfl, by kernel_rfl⟩
instance : PlacesOf Tryz.prog 101 [(0, 1), (1, 1)] [(.int .i64 0), (.int .i64 0)] := placesOf_mk (Tryz.prog.fieldsOf 101) (.agg #[(.int .i64 0), (.int .i64 0)]) (fun _ => by kernel_rfl) zK zK (fun _ => by kernel_rfl)
instance : IsAgg Tryz.prog 105 2 := ⟨fun _ => by kernel_rfl, fun _ => by kernel_rfl⟩
instance : FldAt Tryz.prog 105 0 0 := ⟨fun _ _ _ => by kernel_rfl⟩
instance : FldAt Tryz.prog 105 1 1 := ⟨fun _ _ _ => by kernel_rfl⟩
instance : ElOf Tryz.prog 105 2 24 := elOf_mk zK zD
instance : ZeroOf Tryz.prog 105 [(.string ⟨#[]⟩), (.bool false)] := ⟨(.agg #[(.string ⟨#[]⟩), (.bool false)]), fun _ => by kernel_rfl, by kernel_rfl⟩
instance : PlacesOf Tryz.prog 105 [(0, 1), (1, 1)] [(.string ⟨#[]⟩), (.bool false)] := placesOf_mk (Tryz.prog.fieldsOf 105) (.agg #[(.string ⟨#[]⟩), (.bool false)]) (fun _ => by kernel_rfl) zK zK (fun _ => by kernel_rfl)
instance : IsOne Tryz.prog 108 := ⟨fun _ => by kernel_rfl, fun _ => by kernel_rfl⟩
instance : NotInt Tryz.prog 108 := ⟨.inr ⟨170, by kernel_rfl⟩⟩
instance : SlOf Tryz.prog 108 170 2 := ⟨by kernel_rfl, fun _ => by kernel_rfl⟩
instance : IsAgg Tryz.prog 110 4 := ⟨fun _ => by kernel_rfl, fun _ => by kernel_rfl⟩
instance : FldAt Tryz.prog 110 0 0 := ⟨fun _ _ _ => by kernel_rfl⟩
instance : FldAt Tryz.prog 110 1 1 := ⟨fun _ _ _ => by kernel_rfl⟩
instance : FldAt Tryz.prog 110 2 2 := ⟨fun _ _ _ => by kernel_rfl⟩
instance : FldAt Tryz.prog 110 3 3 := ⟨fun _ _ _ => by kernel_rfl⟩
instance : ElOf Tryz.prog 110 4 56 := elOf_mk zK zD
instance : ZeroOf Tryz.prog 110 [(.string ⟨#[]⟩), (.int .i64 0), (.int .i64 0), (.slice none 0 0)] := ⟨(.agg #[(.string ⟨#[]⟩), (.int .i64 0), (.int .i64 0), (.slice none 0 0)]), fun _ => by kernel_rfl, by kernel_rfl⟩
instance : PlacesOf Tryz.prog 110 [(0, 1), (1, 1), (2, 1), (3, 1)] [(.string ⟨#[]⟩), (.int .i64 0), (.int .i64 0), (.slice none 0 0)] := placesOf_mk (Tryz.prog.fieldsOf 110) (.agg #[(.string ⟨#[]⟩), (.int .i64 0), (.int .i64 0), (.slice none 0 0)]) (fun _ => by kernel_rfl) zK zK (fun _ => by kernel_rfl)
instance : IsAgg Tryz.prog 112 4 := ⟨fun _ => by kernel_rfl, fun _ => by kernel_rfl⟩
instance : FldAt Tryz.prog 112 0 0 := ⟨fun _ _ _ => by kernel_rfl⟩
instance : FldAt Tryz.prog 112 1 1 := ⟨fun _ _ _ => by kernel_rfl⟩
instance : FldAt Tryz.prog 112 2 2 := ⟨fun _ _ _ => by kernel_rfl⟩
instance : FldAt Tryz.prog 112 3 3 := ⟨fun _ _ _ => by kernel_rfl⟩
instance : ElOf Tryz.prog 112 4 56 := elOf_mk zK zD
instance : ZeroOf Tryz.prog 112 [(.string ⟨#[]⟩), (.int .i64 0), (.int .i64 0), (.slice none 0 0)] := ⟨(.agg #[(.string ⟨#[]⟩), (.int .i64 0), (.int .i64 0), (.slice none 0 0)]), fun _ => by kernel_rfl, by kernel_rfl⟩
instance : PlacesOf Tryz.prog 112 [(0, 1), (1, 1), (2, 1), (3, 1)] [(.string ⟨#[]⟩), (.int .i64 0), (.int .i64 0), (.slice none 0 0)] := placesOf_mk (Tryz.prog.fieldsOf 112) (.agg #[(.string ⟨#[]⟩), (.int .i64 0), (.int .i64 0), (.slice none 0 0)]) (fun _ => by kernel_rfl) zK zK (fun _ => by kernel_rfl)
instance : IsAgg Tryz.prog 115 4 := ⟨fun _ => by kernel_rfl, fun _ => by kernel_rfl⟩
instance : FldAt Tryz.prog 115 0 0 := ⟨fun _ _ _ => by kernel_rfl⟩
instance : FldAt Tryz.prog 115 1 1 := ⟨fun _ _ _ => by kernel_rfl⟩
instance : FldAt Tryz.prog 115 2 2 := ⟨fun _ _ _ => by kernel_rfl⟩
instance : FldAt Tryz.prog 115 3 3 := ⟨fun _ _ _ => by kernel_rfl⟩
instance : ZeroOf Tryz.prog 115 [(.string ⟨#[]⟩), (.int .i64 0), (.int .i64 0), (.int .i64 0)] := ⟨(.agg #[(.string ⟨#[]⟩), (.int .i64 0), (.int .i64 0), (.int .i64 0)]), fun _ => by kernel_rfl, by kernel_rfl⟩
instance : IsAgg Tryz.prog 119 3 := ⟨fun _ => by kernel_rfl, fun _ => by kernel_rfl⟩
instance : FldAt Tryz.prog 119 0 0 := ⟨fun _ _ _ => by kernel_rfl⟩
instance : FldAt Tryz.prog 119 1 1 := ⟨fun _ _ _ => by kernel_rfl⟩
instance : FldAt Tryz.prog 119 2 2 := ⟨fun _ _ _ => by kernel_rfl⟩
instance : ElOf Tryz.prog 119 3 24 := elOf_mk zK zD
instance : ZeroOf Tryz.prog 119 [(.int .i32 0), (.int .i64 0), (.int .i64 0)] := ⟨(.agg #[(.int .i32 0), (.int .i64 0), (.int .i64 0)]), fun _ => by kernel_rfl, by kernel_rfl⟩
instance : PlacesOf Tryz.prog 119 [(0, 1), (1, 1), (2, 1)] [(.int .i32 0), (.int .i64 0), (.int .i64 0)] := placesOf_mk (Tryz.prog.fieldsOf 119) (.agg #[(.int .i32 0), (.int .i64 0), (.int .i64 0)]) (fun _ => by kernel_rfl) zK zK (fun _ => by kernel_rfl)
instance : IntT Tryz.prog 122 .u64 := ⟨by kernel_rfl⟩
instance : IsAgg Tryz.prog 130 2 := ⟨fun _ => by kernel_rfl, fun _ => by kernel_rfl⟩
instance : FldAt Tryz.prog 130 0 0 := ⟨fun _ _ _ => by kernel_rfl⟩
instance : FldAt Tryz.prog 130 1 1 := ⟨fun _ _ _ => by kernel_rfl⟩
instance : ElOf Tryz.prog 130 2 32 := elOf_mk zK zD
instance : ZeroOf Tryz.prog 130 [(.slice none 0 0), (.int .i64 0)] := ⟨(.agg #[(.slice none 0 0), (.int .i64 0)]), fun _ => by kernel_rfl, by kernel_rfl⟩
instance : PlacesOf Tryz.prog 130 [(0, 1), (1, 1)] [(.slice none 0 0), (.int .i64 0)] := placesOf_mk (Tryz.prog.fieldsOf 130) (.agg #[(.slice none 0 0), (.int .i64 0)]) (fun _ => by kernel_rfl) zK zK (fun _ => by kernel_rfl)
instance : IsAgg Tryz.prog 134 4 := ⟨fun _ => by kernel_rfl, fun _ => by kernel_rfl⟩
instance : ZeroOf Tryz.prog 134 [(.int .u8 0), (.int .u8 0), (.int .u8 0), (.int .u8 0)] := ⟨(.agg #[(.int .u8 0), (.int .u8 0), (.int .u8 0), (.int .u8 0)]), fun _ => by kernel_rfl, by kernel_rfl⟩
instance : IsOne Tryz.prog 136 := ⟨fun _ => by kernel_rfl, fun _ => by kernel_rfl⟩
instance : IntT Tryz.prog 136 .u32 := ⟨by kernel_rfl⟩
instance : FldAt Tryz.prog 144 0 0 := ⟨fun _ _ _ => by kernel_rfl⟩
instance : FldAt Tryz.prog 144 1 1 := ⟨fun _ _ _ => by kernel_rfl⟩
instance : PlacesOf Tryz.prog 144 [(0, 1), (1, 1)] [(.slice none 0 0), (.int .i64 0)] := placesOf_mk (Tryz.prog.fieldsOf 144) (.agg #[(.slice none 0 0), (.int .i64 0)]) (fun _ => by kernel_rfl) zK zK (fun _ => by kernel_rfl)
instance : FldAt Tryz.prog 146 0 0 := ⟨fun _ _ _ => by kernel_rfl⟩
instance : PlacesOf Tryz.prog 146 [(0, 2)] [(.slice none 0 0), (.int .i64 0)] := placesOf_mk (Tryz.prog.fieldsOf 146) (.agg #[(.slice none 0 0), (.int .i64 0)]) (fun _ => by kernel_rfl) zK zK (fun _ => by kernel_rfl)
instance : IsAgg Tryz.prog 158 9 := ⟨fun _ => by kernel_rfl, fun _ => by kernel_rfl⟩
instance : FldAt Tryz.prog 158 0 0 := ⟨fun _ _ _ => by kernel_rfl⟩
instance : FldAt Tryz.prog 158 1 7 := ⟨fun _ _ _ => by kernel_rfl⟩
instance : FldAt Tryz.prog 158 2 8 := ⟨fun _ _ _ => by kernel_rfl⟩
instance : ZeroOf Tryz.prog 158 [(.slice none 0 0), (.slice none 0 0), (.slice none 0 0), (.slice none 0 0), (.slice none 0 0), (.slice none 0 0), (.slice none 0 0), (.slice none 0 0), (.bool false)] := ⟨(.agg #[(.slice none 0 0), (.slice none 0 0), (.slice none 0 0), (.slice none 0 0), (.slice none 0 0), (.slice none 0 0), (.slice none 0 0), (.slice none 0 0), (.bool false)]), fun _ => by kernel_rfl, by kernel_rfl⟩
instance : PlacesOf Tryz.prog 158 [(0, 7), (7, 1), (8, 1)] [(.slice none 0 0), (.slice none 0 0), (.slice none 0 0), (.slice none 0 0), (.slice none 0 0), (.slice none 0 0), (.slice none 0 0), (.slice none 0 0), (.bool false)] := placesOf_mk (Tryz.prog.fieldsOf 158) (.agg #[(.slice none 0 0), (.slice none 0 0), (.slice none 0 0), (.slice none 0 0), (.slice none 0 0), (.slice none 0 0), (.slice none 0 0), (.slice none 0 0), (.bool false)]) (fun _ => by kernel_rfl) zK zK (fun _ => by kernel_rfl)
instance : IsAgg Tryz.prog 162 2 := ⟨fun _ => by kernel_rfl, fun _ => by kernel_rfl⟩
instance : FldAt Tryz.prog 162 1 1 := ⟨fun _ _ _ => by kernel_rfl⟩
instance : ZeroOf Tryz.prog 162 [(.int .i64 0), (.int .i64 0)] := ⟨(.agg #[(.int .i64 0), (.int .i64 0)]), fun _ => by kernel_rfl, by kernel_rfl⟩
instance : PlacesOf Tryz.prog 162 [(0, 1), (1, 1)] [(.int .i64 0), (.int .i64 0)] := placesOf_mk (Tryz.prog.fieldsOf 162) (.agg #[(.int .i64 0), (.int .i64 0)]) (fun _ => by kernel_rfl) zK zK (fun _ => by kernel_rfl)
instance : IsOne Tryz.prog 166 := ⟨fun _ => by kernel_rfl, fun _ => by kernel_rfl⟩
instance : ElOf Tryz.prog 166 1 8 := elOf_mk zK zD
instance : SlOf Tryz.prog 167 166 1 := ⟨by kernel_rfl, fun _ => by kernel_rfl⟩
instance : IsAgg Tryz.prog 170 2 := ⟨fun _ => by kernel_rfl, fun _ => by kernel_rfl⟩
instance : FldAt Tryz.prog 170 0 0 := ⟨fun _ _ _ => by kernel_rfl⟩
instance : FldAt Tryz.prog 170 1 1 := ⟨fun _ _ _ => by kernel_rfl⟩
instance : ElOf Tryz.prog 170 2 32 := elOf_mk zK zD
instance : ZeroOf Tryz.prog 170 [(.string ⟨#[]⟩), (.string ⟨#[]⟩)] := ⟨(.agg #[(.string ⟨#[]⟩), (.string ⟨#[]⟩)]), fun _ => by kernel_rfl, by kernel_rfl⟩
instance : PlacesOf Tryz.prog 170 [(0, 1), (1, 1)] [(.string ⟨#[]⟩), (.string ⟨#[]⟩)] := placesOf_mk (Tryz.prog.fieldsOf 170) (.agg #[(.string ⟨#[]⟩), (.string ⟨#[]⟩)]) (fun _ => by kernel_rfl) zK zK (fun _ => by kernel_rfl)
instance : IsOne Tryz.prog 183 := ⟨fun _ => by kernel_rfl, fun _ => by kernel_rfl⟩
instance : NotInt Tryz.prog 183 := ⟨.inr ⟨119, by kernel_rfl⟩⟩
instance : SlOf Tryz.prog 183 119 3 := ⟨by kernel_rfl, fun _ => by kernel_rfl⟩
instance : ZeroOf Tryz.prog 183 [(.slice none 0 0)] := ⟨(.slice none 0 0), fun _ => by kernel_rfl, by kernel_rfl⟩
instance : IsOne Tryz.prog 189 := ⟨fun _ => by kernel_rfl, fun _ => by kernel_rfl⟩
instance : NotInt Tryz.prog 189 := ⟨.inr ⟨192, by kernel_rfl⟩⟩
instance : SlOf Tryz.prog 189 192 4 := ⟨by kernel_rfl, fun _ => by kernel_rfl⟩
instance : ElOf Tryz.prog 189 1 24 := elOf_mk zK zD
instance : IsAgg Tryz.prog 192 4 := ⟨fun _ => by kernel_rfl, fun _ => by kernel_rfl⟩
instance : FldAt Tryz.prog 192 0 0 := ⟨fun _ _ _ => by kernel_rfl⟩
instance : FldAt Tryz.prog 192 1 1 := ⟨fun _ _ _ => by kernel_rfl⟩
instance : ElOf Tryz.prog 192 4 32 := elOf_mk zK zD
instance : ZeroOf Tryz.prog 192 [(.int .i64 0), (.int .i64 0), (.int .i64 0), (.int .i64 0)] := ⟨(.agg #[(.int .i64 0), (.int .i64 0), (.int .i64 0), (.int .i64 0)]), fun _ => by kernel_rfl, by kernel_rfl⟩
instance : PlacesOf Tryz.prog 192 [(0, 1), (1, 1), (2, 1), (3, 1)] [(.int .i64 0), (.int .i64 0), (.int .i64 0), (.int .i64 0)] := placesOf_mk (Tryz.prog.fieldsOf 192) (.agg #[(.int .i64 0), (.int .i64 0), (.int .i64 0), (.int .i64 0)]) (fun _ => by kernel_rfl) zK zK (fun _ => by kernel_rfl)
instance : NotInt Tryz.prog 193 := ⟨.inr ⟨189, by kernel_rfl⟩⟩
instance : SlOf Tryz.prog 193 189 1 := ⟨by kernel_rfl, fun _ => by kernel_rfl⟩
instance : SlOf Tryz.prog 196 76 1 := ⟨by kernel_rfl, fun _ => by kernel_rfl⟩
instance : ZeroOf Tryz.prog 199 [(.int .u32 0), (.int .u32 0), (.int .u32 0), (.int .u32 0), (.int .u32 0), (.int .u32 0), (.int .u32 0), (.int .u32 0), (.int .u32 0), (.int .u32 0), (.int .u32 0), (.int .u32 0), (.int .u32 0), (.int .u32 0), (.int .u32 0), (.int .u32 0)] := ⟨(.agg #[(.int .u32 0), (.int .u32 0), (.int .u32 0), (.int .u32 0), (.int .u32 0), (.int .u32 0), (.int .u32 0), (.int .u32 0), (.int .u32 0), (.int .u32 0), (.int .u32 0), (.int .u32 0), (.int .u32 0), (.int .u32 0), (.int .u32 0), (.int .u32 0)]), fun _ => by kernel_rfl, by kernel_rfl⟩
instance : IsAgg Tryz.prog 202 2 := ⟨fun _ => by kernel_rfl, fun _ => by kernel_rfl⟩
instance : FldAt Tryz.prog 202 0 0 := ⟨fun _ _ _ => by kernel_rfl⟩
instance : FldAt Tryz.prog 202 1 1 := ⟨fun _ _ _ => by kernel_rfl⟩
instance : ZeroOf Tryz.prog 202 [(.slice none 0 0), (.bool false)] := ⟨(.agg #[(.slice none 0 0), (.bool false)]), fun _ => by kernel_rfl, by kernel_rfl⟩
instance : PlacesOf Tryz.prog 202 [(0, 1), (1, 1)] [(.slice none 0 0), (.bool false)] := placesOf_mk (Tryz.prog.fieldsOf 202) (.agg #[(.slice none 0 0), (.bool false)]) (fun _ => by kernel_rfl) zK zK (fun _ => by kernel_rfl)
instance : FldAt Tryz.prog 210 0 0 := ⟨fun _ _ _ => by kernel_rfl⟩
instance : FldAt Tryz.prog 210 1 2 := ⟨fun _ _ _ => by kernel_rfl⟩
instance : PlacesOf Tryz.prog 210 [(0, 2), (2, 1)] [(.slice none 0 0), (.int .i64 0), (.int .i64 0)] := placesOf_mk (Tryz.prog.fieldsOf 210) (.agg #[(.slice none 0 0), (.int .i64 0), (.int .i64 0)]) (fun _ => by kernel_rfl) zK zK (fun _ => by kernel_rfl)
instance : IsAgg Tryz.prog 216 3 := ⟨fun _ => by kernel_rfl, fun _ => by kernel_rfl⟩
instance : FldAt Tryz.prog 216 0 0 := ⟨fun _ _ _ => by kernel_rfl⟩
instance : FldAt Tryz.prog 216 1 1 := ⟨fun _ _ _ => by kernel_rfl⟩
instance : FldAt Tryz.prog 216 2 2 := ⟨fun _ _ _ => by kernel_rfl⟩
instance : ZeroOf Tryz.prog 216 [(.bool false), (.string ⟨#[]⟩), (.slice none 0 0)] := ⟨(.agg #[(.bool false), (.string ⟨#[]⟩), (.slice none 0 0)]), fun _ => by kernel_rfl, by kernel_rfl⟩
instance : IsOne Tryz.prog 219 := ⟨fun _ => by kernel_rfl, fun _ => by kernel_rfl⟩
instance : IsAgg Tryz.prog 221 4 := ⟨fun _ => by kernel_rfl, fun _ => by kernel_rfl⟩
instance : ZeroOf Tryz.prog 221 [.nilFunc, .nilFunc, .nilFunc, .nilFunc] := ⟨(.agg #[.nilFunc, .nilFunc, .nilFunc, .nilFunc]), fun _ => by kernel_rfl, by kernel_rfl⟩
instance : SlOf Tryz.prog 231 4 1 := ⟨by kernel_rfl, fun _ => by kernel_rfl⟩
instance : ZeroOf Tryz.prog 246 [(.int .i64 0), (.int .i64 0), (.int .i64 0), (.int .i64 0), (.int .i64 0), (.int .i64 0), (.int .i64 0), (.int .i64 0), (.int .i64 0), (.int .i64 0), (.int .i64 0), (.int .i64 0), (.int .i64 0), (.int .i64 0), (.int .i64 0), (.int .i64 0), (.int .i64 0), (.int .i64 0), (.int .i64 0), (.int .i64 0), (.int .i64 0), (.int .i64 0), (.int .i64 0), (.int .i64 0), (.int .i64 0), (.int .i64 0), (.int .i64 0), (.int .i64 0), (.int .i64 0), (.int .i64 0), (.int .i64 0), (.int .i64 0)] := ⟨(.agg #[(.int .i64 0), (.int .i64 0), (.int .i64 0), (.int .i64 0), (.int .i64 0), (.int .i64 0), (.int .i64 0), (.int .i64 0), (.int .i64 0), (.int .i64 0), (.int .i64 0), (.int .i64 0), (.int .i64 0), (.int .i64 0), (.int .i64 0), (.int .i64 0), (.int .i64 0), (.int .i64 0), (.int .i64 0), (.int .i64 0), (.int .i64 0), (.int .i64 0), (.int .i64 0), (.int .i64 0), (.int .i64 0), (.int .i64 0), (.int .i64 0), (.int .i64 0), (.int .i64 0), (.int .i64 0), (.int .i64 0), (.int .i64 0)]), fun _ => by kernel_rfl, by kernel_rfl⟩
instance : FldAt Tryz.prog 257 0 0 := ⟨fun _ _ _ => by kernel_rfl⟩
instance : FldAt Tryz.prog 257 1 16 := ⟨fun _ _ _ => by kernel_rfl⟩
instance : FldAt Tryz.prog 257 2 32 := ⟨fun _ _ _ => by kernel_rfl⟩
instance : PlacesOf Tryz.prog 257 [(0, 16), (16, 16), (32, 1)] [(.int .u64 0), (.int .u64 0), (.int .u64 0), (.int .u64 0), (.int .u64 0), (.int .u64 0), (.int .u64 0), (.int .u64 0), (.int .u64 0), (.int .u64 0), (.int .u64 0), (.int .u64 0), (.int .u64 0), (.int .u64 0), (.int .u64 0), (.int .u64 0), (.slice none 0 0), (.slice none 0 0), (.slice none 0 0), (.slice none 0 0), (.slice none 0 0), (.slice none 0 0), (.slice none 0 0), (.slice none 0 0), (.slice none 0 0), (.slice none 0 0), (.slice none 0 0), (.slice none 0 0), (.slice none 0 0), (.slice none 0 0), (.slice none 0 0), (.slice none 0 0), (.int .i64 0)] := placesOf_mk (Tryz.prog.fieldsOf 257) (.agg #[(.int .u64 0), (.int .u64 0), (.int .u64 0), (.int .u64 0), (.int .u64 0), (.int .u64 0), (.int .u64 0), (.int .u64 0), (.int .u64 0), (.int .u64 0), (.int .u64 0), (.int .u64 0), (.int .u64 0), (.int .u64 0), (.int .u64 0), (.int .u64 0), (.slice none 0 0), (.slice none 0 0), (.slice none 0 0), (.slice none 0 0), (.slice none 0 0), (.slice none 0 0), (.slice none 0 0), (.slice none 0 0), (.slice none 0 0), (.slice none 0 0), (.slice none 0 0), (.slice none 0 0), (.slice none 0 0), (.slice none 0 0), (.slice none 0 0), (.slice none 0 0), (.int .i64 0)]) (fun _ => by kernel_rfl) zK zK (fun _ => by kernel_rfl)
instance : IsAgg Tryz.prog 268 2 := ⟨fun _ => by kernel_rfl, fun _ => by kernel_rfl⟩
instance : FldAt Tryz.prog 268 0 0 := ⟨fun _ _ _ => by kernel_rfl⟩
instance : FldAt Tryz.prog 268 1 1 := ⟨fun _ _ _ => by kernel_rfl⟩
instance : ZeroOf Tryz.prog 268 [(.string ⟨#[]⟩), (.int .i64 0)] := ⟨(.agg #[(.string ⟨#[]⟩), (.int .i64 0)]), fun _ => by kernel_rfl, by kernel_rfl⟩
instance : PlacesOf Tryz.prog 268 [(0, 1), (1, 1)] [(.string ⟨#[]⟩), (.int .i64 0)] := placesOf_mk (Tryz.prog.fieldsOf 268) (.agg #[(.string ⟨#[]⟩), (.int .i64 0)]) (fun _ => by kernel_rfl) zK zK (fun _ => by kernel_rfl)
instance : NotInt Tryz.prog 300 := ⟨.inr ⟨303, by kernel_rfl⟩⟩
instance : SlOf Tryz.prog 300 303 4 := ⟨by kernel_rfl, fun _ => by kernel_rfl⟩
instance : IsAgg Tryz.prog 303 4 := ⟨fun _ => by kernel_rfl, fun _ => by kernel_rfl⟩
instance : FldAt Tryz.prog 303 0 0 := ⟨fun _ _ _ => by kernel_rfl⟩
instance : FldAt Tryz.prog 303 1 1 := ⟨fun _ _ _ => by kernel_rfl⟩
instance : FldAt Tryz.prog 303 2 2 := ⟨fun _ _ _ => by kernel_rfl⟩
instance : FldAt Tryz.prog 303 3 3 := ⟨fun _ _ _ => by kernel_rfl⟩
instance : ElOf Tryz.prog 303 4 32 := elOf_mk zK zD
instance : ZeroOf Tryz.prog 303 [(.int .i32 0), (.int .i64 0), (.int .i64 0), (.bool false)] := ⟨(.agg #[(.int .i32 0), (.int .i64 0), (.int .i64 0), (.bool false)]), fun _ => by kernel_rfl, by kernel_rfl⟩
instance : PlacesOf Tryz.prog 303 [(0, 1), (1, 1), (2, 1), (3, 1)] [(.int .i32 0), (.int .i64 0), (.int .i64 0), (.bool false)] := placesOf_mk (Tryz.prog.fieldsOf 303) (.agg #[(.int .i32 0), (.int .i64 0), (.int .i64 0), (.bool false)]) (fun _ => by kernel_rfl) zK zK (fun _ => by kernel_rfl)
instance : Mixed Tryz.prog := ⟨by kernel_rfl⟩
instance : Ent Tryz.prog 4 := ⟨enters_of Tryz.func4 zK rfl⟩
instance : Ent Tryz.prog 5 := ⟨enters_of Tryz.func5 zK rfl⟩
instance : Ent Tryz.prog 6 := ⟨enters_of Tryz.func6 zK rfl⟩
instance : Ent Tryz.prog 7 := ⟨enters_of Tryz.func7 zK rfl⟩
instance : Ent Tryz.prog 8 := ⟨enters_of Tryz.func8 zK rfl⟩
instance : Ent Tryz.prog 9 := ⟨enters_of Tryz.func9 zK rfl⟩
instance : Ent Tryz.prog 10 := ⟨enters_of Tryz.func10 zK rfl⟩
instance : Ent Tryz.prog 11 := ⟨enters_of Tryz.func11 zK rfl⟩
instance : Ent Tryz.prog 12 := ⟨enters_of Tryz.func12 zK rfl⟩
instance : Ent Tryz.prog 13 := ⟨enters_of Tryz.func13 zK rfl⟩
instance : Ent Tryz.prog 14 := ⟨enters_of Tryz.func14 zK rfl⟩
instance : Ent Tryz.prog 15 := ⟨enters_of Tryz.func15 zK rfl⟩
instance : Ent Tryz.prog 16 := ⟨enters_of Tryz.func16 zK rfl⟩
instance : Ent Tryz.prog 17 := ⟨enters_of Tryz.func17 zK rfl⟩
instance : Ent Tryz.prog 18 := ⟨enters_of Tryz.func18 zK rfl⟩
instance : Ent Tryz.prog 19 := ⟨enters_of Tryz.func19 zK rfl⟩
instance : Ent Tryz.prog 20 := ⟨enters_of Tryz.func20 zK rfl⟩
instance : Ent Tryz.prog 21 := ⟨enters_of Tryz.func21 zK rfl⟩
instance : Ent Tryz.prog 22 := ⟨enters_of Tryz.func22 zK rfl⟩
instance : Ent Tryz.prog 23 := ⟨enters_of Tryz.func23 zK rfl⟩
instance : Ent Tryz.prog 24 := ⟨enters_of Tryz.func24 zK rfl⟩
instance : Ent Tryz.prog 25 := ⟨enters_of Tryz.func25 zK rfl⟩
instance : Ent Tryz.prog 26 := ⟨enters_of Tryz.func26 zK rfl⟩
instance : Ent Tryz.prog 27 := ⟨enters_of Tryz.func27 zK rfl⟩
instance : Ent Tryz.prog 28 := ⟨enters_of Tryz.func28 zK rfl⟩
instance : Ent Tryz.prog 29 := ⟨enters_of Tryz.func29 zK rfl⟩
instance : Ent Tryz.prog 30 := ⟨enters_of Tryz.func30 zK rfl⟩
instance : Ent Tryz.prog 31 := ⟨enters_of Tryz.func31 zK rfl⟩
instance : Ent Tryz.prog 32 := ⟨enters_of Tryz.func32 zK rfl⟩
instance : Ent Tryz.prog 33 := ⟨enters_of Tryz.func33 zK rfl⟩
instance : Ent Tryz.prog 34 := ⟨enters_of Tryz.func34 zK rfl⟩
instance : Ent Tryz.prog 35 := ⟨enters_of Tryz.func35 zK rfl⟩
instance : Ent Tryz.prog 36 := ⟨enters_of Tryz.func36 zK rfl⟩
instance : Ent Tryz.prog 37 := ⟨enters_of Tryz.func37 zK rfl⟩
instance : Ent Tryz.prog 38 := ⟨enters_of Tryz.func38 zK rfl⟩
instance : Ent Tryz.prog 39 := ⟨enters_of Tryz.func39 zK rfl⟩
instance : Ent Tryz.prog 40 := ⟨enters_of Tryz.func40 zK rfl⟩
instance : Ent Tryz.prog 41 := ⟨enters_of Tryz.func41 zK rfl⟩
instance : Ent Tryz.prog 42 := ⟨enters_of Tryz.func42 zK rfl⟩
instance : Ent Tryz.prog 43 := ⟨enters_of Tryz.func43 zK rfl⟩
instance : Ent Tryz.prog 44 := ⟨enters_of Tryz.func44 zK rfl⟩
instance : Ent Tryz.prog 45 := ⟨enters_of Tryz.func45 zK rfl⟩
instance : Ent Tryz.prog 46 := ⟨enters_of Tryz.func46 zK rfl⟩
instance : Ent Tryz.prog 47 := ⟨enters_of Tryz.func47 zK rfl⟩
instance : Ent Tryz.prog 48 := ⟨enters_of Tryz.func48 zK rfl⟩
instance : Ent Tryz.prog 49 := ⟨enters_of Tryz.func49 zK rfl⟩
instance : Ent Tryz.prog 50 := ⟨enters_of Tryz.func50 zK rfl⟩
instance : Ent Tryz.prog 51 := ⟨enters_of Tryz.func51 zK rfl⟩
instance : Ent Tryz.prog 52 := ⟨enters_of Tryz.func52 zK rfl⟩
instance : Ent Tryz.prog 53 := ⟨enters_of Tryz.func53 zK rfl⟩
instance : Ent Tryz.prog 54 := ⟨enters_of Tryz.func54 zK rfl⟩
instance : Ent Tryz.prog 55 := ⟨enters_of Tryz.func55 zK rfl⟩
instance : Ent Tryz.prog 58 := ⟨enters_of Tryz.func58 zK rfl⟩
instance : Ent Tryz.prog 59 := ⟨enters_of Tryz.func59 zK rfl⟩
instance : Ent Tryz.prog 60 := ⟨enters_of Tryz.func60 zK rfl⟩
instance : Ent Tryz.prog 61 := ⟨enters_of Tryz.func61 zK rfl⟩
instance : Ent Tryz.prog 62 := ⟨enters_of Tryz.func62 zK rfl⟩
instance : Ent Tryz.prog 63 := ⟨enters_of Tryz.func63 zK rfl⟩
instance : Ent Tryz.prog 64 := ⟨enters_of Tryz.func64 zK rfl⟩
instance : Ent Tryz.prog 65 := ⟨enters_of Tryz.func65 zK rfl⟩
instance : Ent Tryz.prog 66 := ⟨enters_of Tryz.func66 zK rfl⟩
instance : Ent Tryz.prog 67 := ⟨enters_of Tryz.func67 zK rfl⟩
instance : Ent Tryz.prog 68 := ⟨enters_of Tryz.func68 zK rfl⟩
instance : Ent Tryz.prog 69 := ⟨enters_of Tryz.func69 zK rfl⟩
instance : Ent Tryz.prog 70 := ⟨enters_of Tryz.func70 zK rfl⟩
instance : Ent Tryz.prog 71 := ⟨enters_of Tryz.func71 zK rfl⟩
instance : Ent Tryz.prog 72 := ⟨enters_of Tryz.func72 zK rfl⟩
instance : Ent Tryz.prog 73 := ⟨enters_of Tryz.func73 zK rfl⟩
instance : Ent Tryz.prog 74 := ⟨enters_of Tryz.func74 zK rfl⟩
instance : Ent Tryz.prog 75 := ⟨enters_of Tryz.func75 zK rfl⟩
instance : Ent Tryz.prog 76 := ⟨enters_of Tryz.func76 zK rfl⟩
instance : Ent Tryz.prog 77 := ⟨enters_of Tryz.func77 zK rfl⟩
instance : Ent Tryz.prog 78 := ⟨enters_of Tryz.func78 zK rfl⟩
instance : Ent Tryz.prog 79 := ⟨enters_of Tryz.func79 zK rfl⟩
instance : Ent Tryz.prog 80 := ⟨enters_of Tryz.func80 zK rfl⟩
instance : Ent Tryz.prog 81 := ⟨enters_of Tryz.func81 zK rfl⟩
instance : Ent Tryz.prog 82 := ⟨enters_of Tryz.func82 zK rfl⟩
instance : Ent Tryz.prog 83 := ⟨enters_of Tryz.func83 zK rfl⟩
instance : Ent Tryz.prog 84 := ⟨enters_of Tryz.func84 zK rfl⟩
instance : Ent Tryz.prog 86 := ⟨enters_of Tryz.func86 zK rfl⟩
instance : Ent Tryz.prog 87 := ⟨enters_of Tryz.func87 zK rfl⟩
instance : Ent Tryz.prog 88 := ⟨enters_of Tryz.func88 zK rfl⟩
instance : Ent Tryz.prog 89 := ⟨enters_of Tryz.func89 zK rfl⟩
instance : Ent Tryz.prog 90 := ⟨enters_of Tryz.func90 zK rfl⟩
instance : Ent Tryz.prog 91 := ⟨enters_of Tryz.func91 zK rfl⟩
instance : Ent Tryz.prog 92 := ⟨enters_of Tryz.func92 zK rfl⟩
instance : Ent Tryz.prog 93 := ⟨enters_of Tryz.func93 zK rfl⟩
instance : Ent Tryz.prog 94 := ⟨enters_of Tryz.func94 zK rfl⟩
instance : Ent Tryz.prog 95 := ⟨enters_of Tryz.func95 zK rfl⟩
instance : Ent Tryz.prog 96 := ⟨enters_of Tryz.func96 zK rfl⟩
instance : Ent Tryz.prog 97 := ⟨enters_of Tryz.func97 zK rfl⟩
instance : Ent Tryz.prog 98 := ⟨enters_of Tryz.func98 zK rfl⟩
instance : Ent Tryz.prog 99 := ⟨enters_of Tryz.func99 zK rfl⟩
instance : Ent Tryz.prog 110 := ⟨enters_of Tryz.func110 zK rfl⟩
instance : Ent Tryz.prog 112 := ⟨enters_of Tryz.func112 zK rfl⟩
instance : Ent Tryz.prog 113 := ⟨enters_of Tryz.func113 zK rfl⟩
instance : Ent Tryz.prog 114 := ⟨enters_of Tryz.func114 zK rfl⟩
instance : Ent Tryz.prog 115 := ⟨enters_of Tryz.func115 zK rfl⟩
instance : Ent Tryz.prog 116 := ⟨enters_of Tryz.func116 zK rfl⟩
instance : Ent Tryz.prog 117 := ⟨enters_of Tryz.func117 zK rfl⟩
instance : Ent Tryz.prog 118 := ⟨enters_of Tryz.func118 zK rfl⟩
instance : Ent Tryz.prog 119 := ⟨enters_of Tryz.func119 zK rfl⟩
instance : Ent Tryz.prog 120 := ⟨enters_of Tryz.func120 zK rfl⟩
instance : Ent Tryz.prog 121 := ⟨enters_of Tryz.func121 zK rfl⟩
instance : Ent Tryz.prog 122 := ⟨enters_of Tryz.func122 zK rfl⟩
instance : Ent Tryz.prog 123 := ⟨enters_of Tryz.func123 zK rfl⟩
instance : Ent Tryz.prog 124 := ⟨enters_of Tryz.func124 zK rfl⟩
instance : Ent Tryz.prog 125 := ⟨enters_of Tryz.func125 zK rfl⟩
instance : Ent Tryz.prog 126 := ⟨enters_of Tryz.func126 zK rfl⟩
instance : Ent Tryz.prog 127 := ⟨enters_of Tryz.func127 zK rfl⟩
instance : Ent Tryz.prog 128 := ⟨enters_of Tryz.func128 zK rfl⟩
instance : Ent Tryz.prog 129 := ⟨enters_of Tryz.func129 zK rfl⟩
instance : Ent Tryz.prog 130 := ⟨enters_of Tryz.func130 zK rfl⟩
instance : Ent Tryz.prog 131 := ⟨enters_of Tryz.func131 zK rfl⟩
instance : Ent Tryz.prog 132 := ⟨enters_of Tryz.func132 zK rfl⟩
instance : Ent Tryz.prog 133 := ⟨enters_of Tryz.func133 zK rfl⟩
instance : Ent Tryz.prog 134 := ⟨enters_of Tryz.func134 zK rfl⟩
instance : Ent Tryz.prog 135 := ⟨enters_of Tryz.func135 zK rfl⟩
instance : Ent Tryz.prog 136 := ⟨enters_of Tryz.func136 zK rfl⟩
instance : Ent Tryz.prog 137 := ⟨enters_of Tryz.func137 zK rfl⟩
instance : Ent Tryz.prog 138 := ⟨enters_of Tryz.func138 zK rfl⟩
instance : Ent Tryz.prog 140 := ⟨enters_of Tryz.func140 zK rfl⟩
instance : Ent Tryz.prog 141 := ⟨enters_of Tryz.func141 zK rfl⟩
instance : Ent Tryz.prog 142 := ⟨enters_of Tryz.func142 zK rfl⟩
instance : Ent Tryz.prog 143 := ⟨enters_of Tryz.func143 zK rfl⟩
instance : Ent Tryz.prog 144 := ⟨enters_of Tryz.func144 zK rfl⟩
instance : Ent Tryz.prog 145 := ⟨enters_of Tryz.func145 zK rfl⟩
instance : Ent Tryz.prog 149 := ⟨enters_of Tryz.func149 zK rfl⟩
instance : Ent Tryz.prog 150 := ⟨enters_of Tryz.func150 zK rfl⟩
instance : Ent Tryz.prog 151 := ⟨enters_of Tryz.func151 zK rfl⟩
instance : Ent Tryz.prog 152 := ⟨enters_of Tryz.func152 zK rfl⟩
instance : Ent Tryz.prog 153 := ⟨enters_of Tryz.func153 zK rfl⟩
instance : Ent Tryz.prog 154 := ⟨enters_of Tryz.func154 zK rfl⟩
instance : Ent Tryz.prog 155 := ⟨enters_of Tryz.func155 zK rfl⟩
instance : Ent Tryz.prog 156 := ⟨enters_of Tryz.func156 zK rfl⟩
instance : Ent Tryz.prog 157 := ⟨enters_of Tryz.func157 zK rfl⟩
instance : Ent Tryz.prog 158 := ⟨enters_of Tryz.func158 zK rfl⟩
instance : Ent Tryz.prog 165 := ⟨enters_of Tryz.func165 zK rfl⟩
instance : Ent Tryz.prog 174 := ⟨enters_of Tryz.func174 zK rfl⟩
instance : Ent Tryz.prog 175 := ⟨enters_of Tryz.func175 zK rfl⟩
instance : Ent Tryz.prog 176 := ⟨enters_of Tryz.func176 zK rfl⟩
instance : Ent Tryz.prog 177 := ⟨enters_of Tryz.func177 zK rfl⟩
instance : Ent Tryz.prog 178 := ⟨enters_of Tryz.func178 zK rfl⟩
instance : Ent Tryz.prog 179 := ⟨enters_of Tryz.func179 zK rfl⟩
instance : Ent Tryz.prog 180 := ⟨enters_of Tryz.func180 zK rfl⟩
instance : Ent Tryz.prog 181 := ⟨enters_of Tryz.func181 zK rfl⟩
instance : Ent Tryz.prog 182 := ⟨enters_of Tryz.func182 zK rfl⟩
instance : Ent Tryz.prog 183 := ⟨enters_of Tryz.func183 zK rfl⟩
instance : Ent Tryz.prog 184 := ⟨enters_of Tryz.func184 zK rfl⟩
instance : Ent Tryz.prog 185 := ⟨enters_of Tryz.func185 zK rfl⟩
instance : Ent Tryz.prog 186 := ⟨enters_of Tryz.func186 zK rfl⟩
instance : Ent Tryz.prog 187 := ⟨enters_of Tryz.func187 zK rfl⟩
instance : Ent Tryz.prog 188 := ⟨enters_of Tryz.func188 zK rfl⟩
instance : Ent Tryz.prog 189 := ⟨enters_of Tryz.func189 zK rfl⟩
instance : Ent Tryz.prog 190 := ⟨enters_of Tryz.func190 zK rfl⟩
instance : Ent Tryz.prog 194 := ⟨enters_of Tryz.func194 zK rfl⟩
instance : Ent Tryz.prog 195 := ⟨enters_of Tryz.func195 zK rfl⟩
instance : Ent Tryz.prog 196 := ⟨enters_of Tryz.func196 zK rfl⟩
instance : Ent Tryz.prog 197 := ⟨enters_of Tryz.func197 zK rfl⟩
instance : Ent Tryz.prog 199 := ⟨enters_of Tryz.func199 zK rfl⟩
instance : Ent Tryz.prog 200 := ⟨enters_of Tryz.func200 zK rfl⟩
instance : Ent Tryz.prog 201 := ⟨enters_of Tryz.func201 zK rfl⟩
instance : Ent Tryz.prog 202 := ⟨enters_of Tryz.func202 zK rfl⟩
instance : Ent Tryz.prog 203 := ⟨enters_of Tryz.func203 zK rfl⟩
instance : Ent Tryz.prog 204 := ⟨enters_of Tryz.func204 zK rfl⟩
instance : Ent Tryz.prog 209 := ⟨enters_of Tryz.func209 zK rfl⟩
instance : Ent Tryz.prog 210 := ⟨enters_of Tryz.func210 zK rfl⟩
instance : Ent Tryz.prog 211 := ⟨enters_of Tryz.func211 zK rfl⟩
instance : Ent Tryz.prog 212 := ⟨enters_of Tryz.func212 zK rfl⟩
instance : Ent Tryz.prog 213 := ⟨enters_of Tryz.func213 zK rfl⟩
instance : Ent Tryz.prog 217 := ⟨enters_of Tryz.func217 zK rfl⟩
instance : Ent Tryz.prog 219 := ⟨enters_of Tryz.func219 zK rfl⟩
instance : Ent Tryz.prog 220 := ⟨enters_of Tryz.func220 zK rfl⟩
instance : Ent Tryz.prog 221 := ⟨enters_of Tryz.func221 zK rfl⟩
instance : Ent Tryz.prog 222 := ⟨enters_of Tryz.func222 zK rfl⟩
instance : Ent Tryz.prog 223 := ⟨enters_of Tryz.func223 zK rfl⟩
instance : Ent Tryz.prog 224 := ⟨enters_of Tryz.func224 zK rfl⟩
instance : Ent Tryz.prog 226 := ⟨enters_of Tryz.func226 zK rfl⟩
instance : Ent Tryz.prog 227 := ⟨enters_of Tryz.func227 zK rfl⟩
instance : Ent Tryz.prog 228 := ⟨enters_of Tryz.func228 zK rfl⟩
instance : Ent Tryz.prog 232 := ⟨enters_of Tryz.func232 zK rfl⟩
instance : Ent Tryz.prog 234 := ⟨enters_of Tryz.func234 zK rfl⟩
instance : Ent Tryz.prog 235 := ⟨enters_of Tryz.func235 zK rfl⟩
instance : Ent Tryz.prog 236 := ⟨enters_of Tryz.func236 zK rfl⟩
instance : Ent Tryz.prog 237 := ⟨enters_of Tryz.func237 zK rfl⟩
instance : Ent Tryz.prog 238 := ⟨enters_of Tryz.func238 zK rfl⟩
instance : Ent Tryz.prog 242 := ⟨enters_of Tryz.func242 zK rfl⟩
instance : Ent Tryz.prog 243 := ⟨enters_of Tryz.func243 zK rfl⟩
instance : Ent Tryz.prog 245 := ⟨enters_of Tryz.func245 zK rfl⟩
end Go.Proofs.YtecogbhbkccblaaGreatDoor
namespace Go.Proofs.YtecogbhbkccblaaGreatDoor

end Go.Proofs.YtecogbhbkccblaaGreatDoor
namespace Go.Proofs.YtecogbhbkccblaaGreatDoor

end Go.Proofs.YtecogbhbkccblaaGreatDoor
namespace Go.Proofs.YtecogbhbkccblaaGreatDoor

end Go.Proofs.YtecogbhbkccblaaGreatDoor
namespace Go.Proofs.YtecogbhbkccblaaGreatDoor
open Go.RowKit

structure Mt where
  b : Int
  e : Int
  v : Value
  ls : List Int
end Go.Proofs.YtecogbhbkccblaaGreatDoor
namespace Go.Proofs.YtecogbhbkccblaaGreatDoor
open Go.RowKit

end Go.Proofs.YtecogbhbkccblaaGreatDoor
