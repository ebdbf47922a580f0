/-
  Texts Tab PlanL ModelL of this claim, put together: what they show stands at their heads.
  Conditions: none but those that each theorem states.
-/
import Derived.Test.YtbjnbngpjdoejaaDoorQ5
namespace Go.Proofs.YtbjnbngpjdoejaaDoor
namespace Fl
instance : TyN Tryd.prog 2 1 := ⟨by kernel_rfl⟩
instance : TyV Tryd.prog 2 := ⟨by kernel_rfl⟩
instance : TyZ' Tryd.prog 2 [.int .i64 0] := ⟨by kernel_rfl, by kernel_rfl, by kernel_rfl⟩
instance : TyI Tryd.prog 2 .i64 := ⟨by kernel_rfl⟩
instance : TyN Tryd.prog 3 1 := ⟨by kernel_rfl⟩
instance : TyV Tryd.prog 3 := ⟨by kernel_rfl⟩
instance : TyZ' Tryd.prog 3 [.int .i64 0] := ⟨by kernel_rfl, by kernel_rfl, by kernel_rfl⟩
instance : TyI Tryd.prog 3 .i64 := ⟨by kernel_rfl⟩
instance : TyN Tryd.prog 4 1 := ⟨by kernel_rfl⟩
instance : TyV Tryd.prog 4 := ⟨by kernel_rfl⟩
instance : TyZ' Tryd.prog 4 [.bool false] := ⟨by kernel_rfl, by kernel_rfl, by kernel_rfl⟩
instance : TyB Tryd.prog 4 := ⟨by kernel_rfl⟩
instance : TyN Tryd.prog 5 1 := ⟨by kernel_rfl⟩
instance : TyV Tryd.prog 5 := ⟨by kernel_rfl⟩
instance : TyZ' Tryd.prog 5 [.int .u8 0] := ⟨by kernel_rfl, by kernel_rfl, by kernel_rfl⟩
instance : TyI Tryd.prog 5 .u8 := ⟨by kernel_rfl⟩
instance : TyN Tryd.prog 6 1 := ⟨by kernel_rfl⟩
instance : TyV Tryd.prog 6 := ⟨by kernel_rfl⟩
instance : TyZ' Tryd.prog 6 [.int .u8 0] := ⟨by kernel_rfl, by kernel_rfl, by kernel_rfl⟩
instance : TyI Tryd.prog 6 .u8 := ⟨by kernel_rfl⟩
instance : TyN Tryd.prog 7 4 := ⟨by kernel_rfl⟩
instance : TyA Tryd.prog 7 4 := ⟨by kernel_rfl, by kernel_rfl⟩
instance : TyZ' Tryd.prog 7 [.int .i64 0, .int .i64 0, .bool false, .int .u8 0] := ⟨by kernel_rfl, by kernel_rfl, by kernel_rfl⟩
instance : TyF Tryd.prog 7 0 0 := ⟨by kernel_rfl⟩
instance : TyF Tryd.prog 7 1 1 := ⟨by kernel_rfl⟩
instance : TyF Tryd.prog 7 2 2 := ⟨by kernel_rfl⟩
instance : TyF Tryd.prog 7 3 3 := ⟨by kernel_rfl⟩
instance : TyP Tryd.prog 7 [(0, 1), (1, 1), (2, 1), (3, 1)] := ⟨by kernel_rfl⟩
instance : TyN Tryd.prog 8 4 := ⟨by kernel_rfl⟩
instance : TyA Tryd.prog 8 4 := ⟨by kernel_rfl, by kernel_rfl⟩
instance : TyZ' Tryd.prog 8 [.int .i64 0, .int .i64 0, .bool false, .int .u8 0] := ⟨by kernel_rfl, by kernel_rfl, by kernel_rfl⟩
instance : TyF Tryd.prog 8 0 0 := ⟨by kernel_rfl⟩
instance : TyF Tryd.prog 8 1 1 := ⟨by kernel_rfl⟩
instance : TyF Tryd.prog 8 2 2 := ⟨by kernel_rfl⟩
instance : TyF Tryd.prog 8 3 3 := ⟨by kernel_rfl⟩
instance : TyP Tryd.prog 8 [(0, 1), (1, 1), (2, 1), (3, 1)] := ⟨by kernel_rfl⟩
instance : TyN Tryd.prog 9 1 := ⟨by kernel_rfl⟩
instance : TyV Tryd.prog 9 := ⟨by kernel_rfl⟩
instance : TyZ' Tryd.prog 9 [.string ⟨#[]⟩] := ⟨by kernel_rfl, by kernel_rfl, by kernel_rfl⟩
instance : TyN Tryd.prog 10 1 := ⟨by kernel_rfl⟩
instance : TyV Tryd.prog 10 := ⟨by kernel_rfl⟩
instance : TyZ' Tryd.prog 10 [.string ⟨#[]⟩] := ⟨by kernel_rfl, by kernel_rfl, by kernel_rfl⟩
instance : TyN Tryd.prog 11 1 := ⟨by kernel_rfl⟩
instance : TyV Tryd.prog 11 := ⟨by kernel_rfl⟩
instance : TyZ' Tryd.prog 11 [.string ⟨#[]⟩] := ⟨by kernel_rfl, by kernel_rfl, by kernel_rfl⟩
instance : TyN Tryd.prog 12 1 := ⟨by kernel_rfl⟩
instance : TyV Tryd.prog 12 := ⟨by kernel_rfl⟩
instance : TyZ' Tryd.prog 12 [.int .u64 0] := ⟨by kernel_rfl, by kernel_rfl, by kernel_rfl⟩
instance : TyI Tryd.prog 12 .u64 := ⟨by kernel_rfl⟩
instance : TyN Tryd.prog 13 2 := ⟨by kernel_rfl⟩
instance : TyA Tryd.prog 13 2 := ⟨by kernel_rfl, by kernel_rfl⟩
instance : TyZ' Tryd.prog 13 [.string ⟨#[]⟩, .int .u64 0] := ⟨by kernel_rfl, by kernel_rfl, by kernel_rfl⟩
instance : TyF Tryd.prog 13 0 0 := ⟨by kernel_rfl⟩
instance : TyF Tryd.prog 13 1 1 := ⟨by kernel_rfl⟩
instance : TyP Tryd.prog 13 [(0, 1), (1, 1)] := ⟨by kernel_rfl⟩
instance : TyN Tryd.prog 14 2 := ⟨by kernel_rfl⟩
instance : TyA Tryd.prog 14 2 := ⟨by kernel_rfl, by kernel_rfl⟩
instance : TyZ' Tryd.prog 14 [.string ⟨#[]⟩, .int .u64 0] := ⟨by kernel_rfl, by kernel_rfl, by kernel_rfl⟩
instance : TyF Tryd.prog 14 0 0 := ⟨by kernel_rfl⟩
instance : TyF Tryd.prog 14 1 1 := ⟨by kernel_rfl⟩
instance : TyP Tryd.prog 14 [(0, 1), (1, 1)] := ⟨by kernel_rfl⟩
instance : TyN Tryd.prog 15 1 := ⟨by kernel_rfl⟩
instance : TyV Tryd.prog 15 := ⟨by kernel_rfl⟩
instance : TyZ' Tryd.prog 15 [.pointer none] := ⟨by kernel_rfl, by kernel_rfl, by kernel_rfl⟩
instance : TyN Tryd.prog 16 1 := ⟨by kernel_rfl⟩
instance : TyV Tryd.prog 16 := ⟨by kernel_rfl⟩
instance : TyZ' Tryd.prog 16 [.pointer none] := ⟨by kernel_rfl, by kernel_rfl, by kernel_rfl⟩
instance : TyN Tryd.prog 17 1 := ⟨by kernel_rfl⟩
instance : TyV Tryd.prog 17 := ⟨by kernel_rfl⟩
instance : TyZ' Tryd.prog 17 [.pointer none] := ⟨by kernel_rfl, by kernel_rfl, by kernel_rfl⟩
instance : TyN Tryd.prog 18 1 := ⟨by kernel_rfl⟩
instance : TyA Tryd.prog 18 1 := ⟨by kernel_rfl, by kernel_rfl⟩
instance : TyZ' Tryd.prog 18 [.pointer none] := ⟨by kernel_rfl, by kernel_rfl, by kernel_rfl⟩
instance : TyF Tryd.prog 18 0 0 := ⟨by kernel_rfl⟩
instance : TyP Tryd.prog 18 [(0, 1)] := ⟨by kernel_rfl⟩
instance : TyN Tryd.prog 19 1 := ⟨by kernel_rfl⟩
instance : TyA Tryd.prog 19 1 := ⟨by kernel_rfl, by kernel_rfl⟩
instance : TyZ' Tryd.prog 19 [.pointer none] := ⟨by kernel_rfl, by kernel_rfl, by kernel_rfl⟩
instance : TyF Tryd.prog 19 0 0 := ⟨by kernel_rfl⟩
instance : TyP Tryd.prog 19 [(0, 1)] := ⟨by kernel_rfl⟩
instance : TyN Tryd.prog 21 1 := ⟨by kernel_rfl⟩
instance : TyV Tryd.prog 21 := ⟨by kernel_rfl⟩
instance : TyZ' Tryd.prog 21 [.int .i32 0] := ⟨by kernel_rfl, by kernel_rfl, by kernel_rfl⟩
instance : TyI Tryd.prog 21 .i32 := ⟨by kernel_rfl⟩
instance : TyN Tryd.prog 23 1 := ⟨by kernel_rfl⟩
instance : TyV Tryd.prog 23 := ⟨by kernel_rfl⟩
instance : TyZ' Tryd.prog 23 [.slice none 0 0] := ⟨by kernel_rfl, by kernel_rfl, by kernel_rfl⟩
instance : TyS Tryd.prog 23 43 1 := ⟨by kernel_rfl, by kernel_rfl⟩
instance : TyE Tryd.prog 23 43 1 24 (.slice none 0 0) := ⟨⟨by kernel_rfl, by kernel_rfl, rfl, by decide, by decide⟩⟩
instance : TyN Tryd.prog 32 3 := ⟨by kernel_rfl⟩
instance : TyA Tryd.prog 32 3 := ⟨by kernel_rfl, by kernel_rfl⟩
instance : TyZ' Tryd.prog 32 [.bool false, .int .i64 0, .int .i64 0] := ⟨by kernel_rfl, by kernel_rfl, by kernel_rfl⟩
instance : TyF Tryd.prog 32 0 0 := ⟨by kernel_rfl⟩
instance : TyF Tryd.prog 32 1 1 := ⟨by kernel_rfl⟩
instance : TyF Tryd.prog 32 2 2 := ⟨by kernel_rfl⟩
instance : TyP Tryd.prog 32 [(0, 1), (1, 1), (2, 1)] := ⟨by kernel_rfl⟩
instance : TyN Tryd.prog 33 3 := ⟨by kernel_rfl⟩
instance : TyA Tryd.prog 33 3 := ⟨by kernel_rfl, by kernel_rfl⟩
instance : TyZ' Tryd.prog 33 [.bool false, .int .i64 0, .int .i64 0] := ⟨by kernel_rfl, by kernel_rfl, by kernel_rfl⟩
instance : TyF Tryd.prog 33 0 0 := ⟨by kernel_rfl⟩
instance : TyF Tryd.prog 33 1 1 := ⟨by kernel_rfl⟩
instance : TyF Tryd.prog 33 2 2 := ⟨by kernel_rfl⟩
instance : TyP Tryd.prog 33 [(0, 1), (1, 1), (2, 1)] := ⟨by kernel_rfl⟩
instance : TyN Tryd.prog 34 1 := ⟨by kernel_rfl⟩
instance : TyV Tryd.prog 34 := ⟨by kernel_rfl⟩
instance : TyZ' Tryd.prog 34 [.slice none 0 0] := ⟨by kernel_rfl, by kernel_rfl, by kernel_rfl⟩
instance : TyS Tryd.prog 34 33 3 := ⟨by kernel_rfl, by kernel_rfl⟩
instance : TyE Tryd.prog 34 33 3 24 (.agg #[.bool false, .int .i64 0, .int .i64 0]) := ⟨⟨by kernel_rfl, by kernel_rfl, rfl, by decide, by decide⟩⟩
instance : TyN Tryd.prog 35 6 := ⟨by kernel_rfl⟩
instance : TyA Tryd.prog 35 6 := ⟨by kernel_rfl, by kernel_rfl⟩
instance : TyZ' Tryd.prog 35 [.int .i64 0, .int .i64 0, .int .i64 0, .int .i64 0, .slice none 0 0, .bool false] := ⟨by kernel_rfl, by kernel_rfl, by kernel_rfl⟩
instance : TyF Tryd.prog 35 0 0 := ⟨by kernel_rfl⟩
instance : TyF Tryd.prog 35 1 1 := ⟨by kernel_rfl⟩
instance : TyF Tryd.prog 35 2 2 := ⟨by kernel_rfl⟩
instance : TyF Tryd.prog 35 3 3 := ⟨by kernel_rfl⟩
instance : TyF Tryd.prog 35 4 4 := ⟨by kernel_rfl⟩
instance : TyF Tryd.prog 35 5 5 := ⟨by kernel_rfl⟩
instance : TyP Tryd.prog 35 [(0, 1), (1, 1), (2, 1), (3, 1), (4, 1), (5, 1)] := ⟨by kernel_rfl⟩
instance : TyN Tryd.prog 36 6 := ⟨by kernel_rfl⟩
instance : TyA Tryd.prog 36 6 := ⟨by kernel_rfl, by kernel_rfl⟩
instance : TyZ' Tryd.prog 36 [.int .i64 0, .int .i64 0, .int .i64 0, .int .i64 0, .slice none 0 0, .bool false] := ⟨by kernel_rfl, by kernel_rfl, by kernel_rfl⟩
instance : TyF Tryd.prog 36 0 0 := ⟨by kernel_rfl⟩
instance : TyF Tryd.prog 36 1 1 := ⟨by kernel_rfl⟩
instance : TyF Tryd.prog 36 2 2 := ⟨by kernel_rfl⟩
instance : TyF Tryd.prog 36 3 3 := ⟨by kernel_rfl⟩
instance : TyF Tryd.prog 36 4 4 := ⟨by kernel_rfl⟩
instance : TyF Tryd.prog 36 5 5 := ⟨by kernel_rfl⟩
instance : TyP Tryd.prog 36 [(0, 1), (1, 1), (2, 1), (3, 1), (4, 1), (5, 1)] := ⟨by kernel_rfl⟩
instance : TyN Tryd.prog 38 5 := ⟨by kernel_rfl⟩
instance : TyA Tryd.prog 38 5 := ⟨by kernel_rfl, by kernel_rfl⟩
instance : TyZ' Tryd.prog 38 [.int .i64 0, .int .i64 0, .int .i64 0, .bool false, .int .i64 0] := ⟨by kernel_rfl, by kernel_rfl, by kernel_rfl⟩
instance : TyF Tryd.prog 38 0 0 := ⟨by kernel_rfl⟩
instance : TyF Tryd.prog 38 1 1 := ⟨by kernel_rfl⟩
instance : TyF Tryd.prog 38 2 2 := ⟨by kernel_rfl⟩
instance : TyF Tryd.prog 38 3 3 := ⟨by kernel_rfl⟩
instance : TyF Tryd.prog 38 4 4 := ⟨by kernel_rfl⟩
instance : TyP Tryd.prog 38 [(0, 1), (1, 1), (2, 1), (3, 1), (4, 1)] := ⟨by kernel_rfl⟩
instance : TyN Tryd.prog 39 5 := ⟨by kernel_rfl⟩
instance : TyA Tryd.prog 39 5 := ⟨by kernel_rfl, by kernel_rfl⟩
instance : TyZ' Tryd.prog 39 [.int .i64 0, .int .i64 0, .int .i64 0, .bool false, .int .i64 0] := ⟨by kernel_rfl, by kernel_rfl, by kernel_rfl⟩
instance : TyF Tryd.prog 39 0 0 := ⟨by kernel_rfl⟩
instance : TyF Tryd.prog 39 1 1 := ⟨by kernel_rfl⟩
instance : TyF Tryd.prog 39 2 2 := ⟨by kernel_rfl⟩
instance : TyF Tryd.prog 39 3 3 := ⟨by kernel_rfl⟩
instance : TyF Tryd.prog 39 4 4 := ⟨by kernel_rfl⟩
instance : TyP Tryd.prog 39 [(0, 1), (1, 1), (2, 1), (3, 1), (4, 1)] := ⟨by kernel_rfl⟩
instance : TyN Tryd.prog 43 1 := ⟨by kernel_rfl⟩
instance : TyV Tryd.prog 43 := ⟨by kernel_rfl⟩
instance : TyZ' Tryd.prog 43 [.slice none 0 0] := ⟨by kernel_rfl, by kernel_rfl, by kernel_rfl⟩
instance : TyS Tryd.prog 43 36 6 := ⟨by kernel_rfl, by kernel_rfl⟩
instance : TyE Tryd.prog 43 36 6 64 (.agg #[.int .i64 0, .int .i64 0, .int .i64 0, .int .i64 0, .slice none 0 0, .bool false]) := ⟨⟨by kernel_rfl, by kernel_rfl, rfl, by decide, by decide⟩⟩
instance : TyN Tryd.prog 46 1 := ⟨by kernel_rfl⟩
instance : TyV Tryd.prog 46 := ⟨by kernel_rfl⟩
instance : TyZ' Tryd.prog 46 [.slice none 0 0] := ⟨by kernel_rfl, by kernel_rfl, by kernel_rfl⟩
instance : TyS Tryd.prog 46 9 1 := ⟨by kernel_rfl, by kernel_rfl⟩
instance : TyE Tryd.prog 46 9 1 16 (.string ⟨#[]⟩) := ⟨⟨by kernel_rfl, by kernel_rfl, rfl, by decide, by decide⟩⟩
instance : TyN Tryd.prog 50 1 := ⟨by kernel_rfl⟩
instance : TyV Tryd.prog 50 := ⟨by kernel_rfl⟩
instance : TyZ' Tryd.prog 50 [.pointer none] := ⟨by kernel_rfl, by kernel_rfl, by kernel_rfl⟩
instance : TyN Tryd.prog 51 1 := ⟨by kernel_rfl⟩
instance : TyV Tryd.prog 51 := ⟨by kernel_rfl⟩
instance : TyZ' Tryd.prog 51 [.slice none 0 0] := ⟨by kernel_rfl, by kernel_rfl, by kernel_rfl⟩
instance : TyS Tryd.prog 51 5 1 := ⟨by kernel_rfl, by kernel_rfl⟩
instance : TyE Tryd.prog 51 5 1 1 (.int .u8 0) := ⟨⟨by kernel_rfl, by kernel_rfl, rfl, by decide, by decide⟩⟩
instance : TyN Tryd.prog 52 2 := ⟨by kernel_rfl⟩
instance : TyA Tryd.prog 52 2 := ⟨by kernel_rfl, by kernel_rfl⟩
instance : TyZ' Tryd.prog 52 [.pointer none, .slice none 0 0] := ⟨by kernel_rfl, by kernel_rfl, by kernel_rfl⟩
instance : TyF Tryd.prog 52 0 0 := ⟨by kernel_rfl⟩
instance : TyF Tryd.prog 52 1 1 := ⟨by kernel_rfl⟩
instance : TyP Tryd.prog 52 [(0, 1), (1, 1)] := ⟨by kernel_rfl⟩
instance : TyN Tryd.prog 53 2 := ⟨by kernel_rfl⟩
instance : TyA Tryd.prog 53 2 := ⟨by kernel_rfl, by kernel_rfl⟩
instance : TyZ' Tryd.prog 53 [.pointer none, .slice none 0 0] := ⟨by kernel_rfl, by kernel_rfl, by kernel_rfl⟩
instance : TyF Tryd.prog 53 0 0 := ⟨by kernel_rfl⟩
instance : TyF Tryd.prog 53 1 1 := ⟨by kernel_rfl⟩
instance : TyP Tryd.prog 53 [(0, 1), (1, 1)] := ⟨by kernel_rfl⟩
instance : TyN Tryd.prog 70 1 := ⟨by kernel_rfl⟩
instance : TyV Tryd.prog 70 := ⟨by kernel_rfl⟩
instance : TyZ' Tryd.prog 70 [.pointer none] := ⟨by kernel_rfl, by kernel_rfl, by kernel_rfl⟩
instance : TyN Tryd.prog 73 1 := ⟨by kernel_rfl⟩
instance : TyV Tryd.prog 73 := ⟨by kernel_rfl⟩
instance : TyZ' Tryd.prog 73 [.slice none 0 0] := ⟨by kernel_rfl, by kernel_rfl, by kernel_rfl⟩
instance : TyS Tryd.prog 73 3 1 := ⟨by kernel_rfl, by kernel_rfl⟩
instance : TyE Tryd.prog 73 3 1 8 (.int .i64 0) := ⟨⟨by kernel_rfl, by kernel_rfl, rfl, by decide, by decide⟩⟩
instance : TyN Tryd.prog 76 1 := ⟨by kernel_rfl⟩
instance : TyV Tryd.prog 76 := ⟨by kernel_rfl⟩
instance : TyZ' Tryd.prog 76 [.pointer none] := ⟨by kernel_rfl, by kernel_rfl, by kernel_rfl⟩
instance : TyN Tryd.prog 78 10 := ⟨by kernel_rfl⟩
instance : TyA Tryd.prog 78 10 := ⟨by kernel_rfl, by kernel_rfl⟩
instance : TyZ' Tryd.prog 78 [.string ⟨#[]⟩, .string ⟨#[]⟩, .string ⟨#[]⟩, .string ⟨#[]⟩, .string ⟨#[]⟩, .string ⟨#[]⟩, .string ⟨#[]⟩, .string ⟨#[]⟩, .string ⟨#[]⟩, .string ⟨#[]⟩] := ⟨by kernel_rfl, by kernel_rfl, by kernel_rfl⟩
instance : TyN Tryd.prog 80 8 := ⟨by kernel_rfl⟩
instance : TyA Tryd.prog 80 8 := ⟨by kernel_rfl, by kernel_rfl⟩
instance : TyZ' Tryd.prog 80 [.string ⟨#[]⟩, .string ⟨#[]⟩, .string ⟨#[]⟩, .string ⟨#[]⟩, .string ⟨#[]⟩, .string ⟨#[]⟩, .string ⟨#[]⟩, .string ⟨#[]⟩] := ⟨by kernel_rfl, by kernel_rfl, by kernel_rfl⟩
instance : TyN Tryd.prog 92 24 := ⟨by kernel_rfl⟩
instance : TyA Tryd.prog 92 24 := ⟨by kernel_rfl, by kernel_rfl⟩
instance : TyZ' Tryd.prog 92 [.int .u8 0, .int .u8 0, .int .u8 0, .int .u8 0, .int .u8 0, .int .u8 0, .int .u8 0, .int .u8 0, .int .u8 0, .int .u8 0, .int .u8 0, .int .u8 0, .int .u8 0, .int .u8 0, .int .u8 0, .int .u8 0, .int .u8 0, .int .u8 0, .int .u8 0, .int .u8 0, .int .u8 0, .int .u8 0, .int .u8 0, .int .u8 0] := ⟨by kernel_rfl, by kernel_rfl, by kernel_rfl⟩
instance : TyN Tryd.prog 93 1 := ⟨by kernel_rfl⟩
instance : TyV Tryd.prog 93 := ⟨by kernel_rfl⟩
instance : TyZ' Tryd.prog 93 [.int .u64 0] := ⟨by kernel_rfl, by kernel_rfl, by kernel_rfl⟩
instance : TyI Tryd.prog 93 .u64 := ⟨by kernel_rfl⟩
instance : TyN Tryd.prog 100 1 := ⟨by kernel_rfl⟩
instance : TyV Tryd.prog 100 := ⟨by kernel_rfl⟩
instance : TyZ' Tryd.prog 100 [.int .u64 0] := ⟨by kernel_rfl, by kernel_rfl, by kernel_rfl⟩
instance : TyI Tryd.prog 100 .u64 := ⟨by kernel_rfl⟩
instance : TyN Tryd.prog 102 1 := ⟨by kernel_rfl⟩
instance : TyV Tryd.prog 102 := ⟨by kernel_rfl⟩
instance : TyZ' Tryd.prog 102 [.int .i64 0] := ⟨by kernel_rfl, by kernel_rfl, by kernel_rfl⟩
instance : TyI Tryd.prog 102 .i64 := ⟨by kernel_rfl⟩
instance : TyN Tryd.prog 105 1 := ⟨by kernel_rfl⟩
instance : TyV Tryd.prog 105 := ⟨by kernel_rfl⟩
instance : TyZ' Tryd.prog 105 [.pointer none] := ⟨by kernel_rfl, by kernel_rfl, by kernel_rfl⟩
instance : TyN Tryd.prog 109 20 := ⟨by kernel_rfl⟩
instance : TyA Tryd.prog 109 20 := ⟨by kernel_rfl, by kernel_rfl⟩
instance : TyZ' Tryd.prog 109 [.int .u64 0, .int .u64 0, .int .u64 0, .int .u64 0, .int .u64 0, .int .u64 0, .int .u64 0, .int .u64 0, .int .u64 0, .int .u64 0, .int .u64 0, .int .u64 0, .int .u64 0, .int .u64 0, .int .u64 0, .int .u64 0, .int .u64 0, .int .u64 0, .int .u64 0, .int .u64 0] := ⟨by kernel_rfl, by kernel_rfl, by kernel_rfl⟩
instance : TyN Tryd.prog 110 1 := ⟨by kernel_rfl⟩
instance : TyV Tryd.prog 110 := ⟨by kernel_rfl⟩
instance : TyZ' Tryd.prog 110 [.int .u32 0] := ⟨by kernel_rfl, by kernel_rfl, by kernel_rfl⟩
instance : TyI Tryd.prog 110 .u32 := ⟨by kernel_rfl⟩
instance : TyN Tryd.prog 111 65 := ⟨by kernel_rfl⟩
instance : TyA Tryd.prog 111 65 := ⟨by kernel_rfl, by kernel_rfl⟩
instance : TyN Tryd.prog 120 3 := ⟨by kernel_rfl⟩
instance : TyA Tryd.prog 120 3 := ⟨by kernel_rfl, by kernel_rfl⟩
instance : TyZ' Tryd.prog 120 [.string ⟨#[]⟩, .string ⟨#[]⟩, .nilIface] := ⟨by kernel_rfl, by kernel_rfl, by kernel_rfl⟩
instance : TyF Tryd.prog 120 0 0 := ⟨by kernel_rfl⟩
instance : TyF Tryd.prog 120 1 1 := ⟨by kernel_rfl⟩
instance : TyF Tryd.prog 120 2 2 := ⟨by kernel_rfl⟩
instance : TyP Tryd.prog 120 [(0, 1), (1, 1), (2, 1)] := ⟨by kernel_rfl⟩
instance : TyN Tryd.prog 121 3 := ⟨by kernel_rfl⟩
instance : TyA Tryd.prog 121 3 := ⟨by kernel_rfl, by kernel_rfl⟩
instance : TyZ' Tryd.prog 121 [.string ⟨#[]⟩, .string ⟨#[]⟩, .nilIface] := ⟨by kernel_rfl, by kernel_rfl, by kernel_rfl⟩
instance : TyF Tryd.prog 121 0 0 := ⟨by kernel_rfl⟩
instance : TyF Tryd.prog 121 1 1 := ⟨by kernel_rfl⟩
instance : TyF Tryd.prog 121 2 2 := ⟨by kernel_rfl⟩
instance : TyP Tryd.prog 121 [(0, 1), (1, 1), (2, 1)] := ⟨by kernel_rfl⟩
instance : TyN Tryd.prog 125 1 := ⟨by kernel_rfl⟩
instance : TyV Tryd.prog 125 := ⟨by kernel_rfl⟩
instance : TyZ' Tryd.prog 125 [.pointer none] := ⟨by kernel_rfl, by kernel_rfl, by kernel_rfl⟩
instance : TyN Tryd.prog 126 1 := ⟨by kernel_rfl⟩
instance : TyA Tryd.prog 126 1 := ⟨by kernel_rfl, by kernel_rfl⟩
instance : TyZ' Tryd.prog 126 [.string ⟨#[]⟩] := ⟨by kernel_rfl, by kernel_rfl, by kernel_rfl⟩
instance : TyF Tryd.prog 126 0 0 := ⟨by kernel_rfl⟩
instance : TyP Tryd.prog 126 [(0, 1)] := ⟨by kernel_rfl⟩
instance : TyN Tryd.prog 127 1 := ⟨by kernel_rfl⟩
instance : TyA Tryd.prog 127 1 := ⟨by kernel_rfl, by kernel_rfl⟩
instance : TyZ' Tryd.prog 127 [.string ⟨#[]⟩] := ⟨by kernel_rfl, by kernel_rfl, by kernel_rfl⟩
instance : TyF Tryd.prog 127 0 0 := ⟨by kernel_rfl⟩
instance : TyP Tryd.prog 127 [(0, 1)] := ⟨by kernel_rfl⟩
instance : TyN Tryd.prog 128 32 := ⟨by kernel_rfl⟩
instance : TyA Tryd.prog 128 32 := ⟨by kernel_rfl, by kernel_rfl⟩
instance : TyZ' Tryd.prog 128 [.int .u8 0, .int .u8 0, .int .u8 0, .int .u8 0, .int .u8 0, .int .u8 0, .int .u8 0, .int .u8 0, .int .u8 0, .int .u8 0, .int .u8 0, .int .u8 0, .int .u8 0, .int .u8 0, .int .u8 0, .int .u8 0, .int .u8 0, .int .u8 0, .int .u8 0, .int .u8 0, .int .u8 0, .int .u8 0, .int .u8 0, .int .u8 0, .int .u8 0, .int .u8 0, .int .u8 0, .int .u8 0, .int .u8 0, .int .u8 0, .int .u8 0, .int .u8 0] := ⟨by kernel_rfl, by kernel_rfl, by kernel_rfl⟩
instance : TyN Tryd.prog 129 64 := ⟨by kernel_rfl⟩
instance : TyA Tryd.prog 129 64 := ⟨by kernel_rfl, by kernel_rfl⟩
instance : TyZ' Tryd.prog 129 [.int .u8 0, .int .u8 0, .int .u8 0, .int .u8 0, .int .u8 0, .int .u8 0, .int .u8 0, .int .u8 0, .int .u8 0, .int .u8 0, .int .u8 0, .int .u8 0, .int .u8 0, .int .u8 0, .int .u8 0, .int .u8 0, .int .u8 0, .int .u8 0, .int .u8 0, .int .u8 0, .int .u8 0, .int .u8 0, .int .u8 0, .int .u8 0, .int .u8 0, .int .u8 0, .int .u8 0, .int .u8 0, .int .u8 0, .int .u8 0, .int .u8 0, .int .u8 0, .int .u8 0, .int .u8 0, .int .u8 0, .int .u8 0, .int .u8 0, .int .u8 0, .int .u8 0, .int .u8 0, .int .u8 0, .int .u8 0, .int .u8 0, .int .u8 0, .int .u8 0, .int .u8 0, .int .u8 0, .int .u8 0, .int .u8 0, .int .u8 0, .int .u8 0, .int .u8 0, .int .u8 0, .int .u8 0, .int .u8 0, .int .u8 0, .int .u8 0, .int .u8 0, .int .u8 0, .int .u8 0, .int .u8 0, .int .u8 0, .int .u8 0, .int .u8 0] := ⟨by kernel_rfl, by kernel_rfl, by kernel_rfl⟩
instance : TyN Tryd.prog 130 256 := ⟨by kernel_rfl⟩
instance : TyA Tryd.prog 130 256 := ⟨by kernel_rfl, by kernel_rfl⟩
instance : TyN Tryd.prog 131 2 := ⟨by kernel_rfl⟩
instance : TyA Tryd.prog 131 2 := ⟨by kernel_rfl, by kernel_rfl⟩
instance : TyZ' Tryd.prog 131 [.int .u8 0, .int .u8 0] := ⟨by kernel_rfl, by kernel_rfl, by kernel_rfl⟩
instance : TyF Tryd.prog 131 0 0 := ⟨by kernel_rfl⟩
instance : TyF Tryd.prog 131 1 1 := ⟨by kernel_rfl⟩
instance : TyP Tryd.prog 131 [(0, 1), (1, 1)] := ⟨by kernel_rfl⟩
instance : TyN Tryd.prog 132 2 := ⟨by kernel_rfl⟩
instance : TyA Tryd.prog 132 2 := ⟨by kernel_rfl, by kernel_rfl⟩
instance : TyZ' Tryd.prog 132 [.int .u8 0, .int .u8 0] := ⟨by kernel_rfl, by kernel_rfl, by kernel_rfl⟩
instance : TyF Tryd.prog 132 0 0 := ⟨by kernel_rfl⟩
instance : TyF Tryd.prog 132 1 1 := ⟨by kernel_rfl⟩
instance : TyP Tryd.prog 132 [(0, 1), (1, 1)] := ⟨by kernel_rfl⟩
instance : TyN Tryd.prog 133 32 := ⟨by kernel_rfl⟩
instance : TyA Tryd.prog 133 32 := ⟨by kernel_rfl, by kernel_rfl⟩
instance : TyZ' Tryd.prog 133 [.int .u8 0, .int .u8 0, .int .u8 0, .int .u8 0, .int .u8 0, .int .u8 0, .int .u8 0, .int .u8 0, .int .u8 0, .int .u8 0, .int .u8 0, .int .u8 0, .int .u8 0, .int .u8 0, .int .u8 0, .int .u8 0, .int .u8 0, .int .u8 0, .int .u8 0, .int .u8 0, .int .u8 0, .int .u8 0, .int .u8 0, .int .u8 0, .int .u8 0, .int .u8 0, .int .u8 0, .int .u8 0, .int .u8 0, .int .u8 0, .int .u8 0, .int .u8 0] := ⟨by kernel_rfl, by kernel_rfl, by kernel_rfl⟩
instance : TyN Tryd.prog 134 4 := ⟨by kernel_rfl⟩
instance : TyA Tryd.prog 134 4 := ⟨by kernel_rfl, by kernel_rfl⟩
instance : TyZ' Tryd.prog 134 [.pointer none, .pointer none, .pointer none, .string ⟨#[]⟩] := ⟨by kernel_rfl, by kernel_rfl, by kernel_rfl⟩
instance : TyF Tryd.prog 134 0 0 := ⟨by kernel_rfl⟩
instance : TyF Tryd.prog 134 1 1 := ⟨by kernel_rfl⟩
instance : TyF Tryd.prog 134 2 2 := ⟨by kernel_rfl⟩
instance : TyF Tryd.prog 134 3 3 := ⟨by kernel_rfl⟩
instance : TyP Tryd.prog 134 [(0, 1), (1, 1), (2, 1), (3, 1)] := ⟨by kernel_rfl⟩
instance : TyN Tryd.prog 135 4 := ⟨by kernel_rfl⟩
instance : TyA Tryd.prog 135 4 := ⟨by kernel_rfl, by kernel_rfl⟩
instance : TyZ' Tryd.prog 135 [.pointer none, .pointer none, .pointer none, .string ⟨#[]⟩] := ⟨by kernel_rfl, by kernel_rfl, by kernel_rfl⟩
instance : TyF Tryd.prog 135 0 0 := ⟨by kernel_rfl⟩
instance : TyF Tryd.prog 135 1 1 := ⟨by kernel_rfl⟩
instance : TyF Tryd.prog 135 2 2 := ⟨by kernel_rfl⟩
instance : TyF Tryd.prog 135 3 3 := ⟨by kernel_rfl⟩
instance : TyP Tryd.prog 135 [(0, 1), (1, 1), (2, 1), (3, 1)] := ⟨by kernel_rfl⟩
instance : TyN Tryd.prog 136 0 := ⟨by kernel_rfl⟩
instance : TyA Tryd.prog 136 0 := ⟨by kernel_rfl, by kernel_rfl⟩
instance : TyZ' Tryd.prog 136 [] := ⟨by kernel_rfl, by kernel_rfl, by kernel_rfl⟩
instance : TyN Tryd.prog 137 0 := ⟨by kernel_rfl⟩
instance : TyA Tryd.prog 137 0 := ⟨by kernel_rfl, by kernel_rfl⟩
instance : TyZ' Tryd.prog 137 [] := ⟨by kernel_rfl, by kernel_rfl, by kernel_rfl⟩
instance : TyP Tryd.prog 137 [(0, 0)] := ⟨by kernel_rfl⟩
instance : TyN Tryd.prog 138 0 := ⟨by kernel_rfl⟩
instance : TyA Tryd.prog 138 0 := ⟨by kernel_rfl, by kernel_rfl⟩
instance : TyZ' Tryd.prog 138 [] := ⟨by kernel_rfl, by kernel_rfl, by kernel_rfl⟩
instance : TyP Tryd.prog 138 [(0, 0)] := ⟨by kernel_rfl⟩
instance : TyN Tryd.prog 140 1 := ⟨by kernel_rfl⟩
instance : TyV Tryd.prog 140 := ⟨by kernel_rfl⟩
instance : TyZ' Tryd.prog 140 [.int .u8 0] := ⟨by kernel_rfl, by kernel_rfl, by kernel_rfl⟩
instance : TyI Tryd.prog 140 .u8 := ⟨by kernel_rfl⟩
instance : TyN Tryd.prog 141 1 := ⟨by kernel_rfl⟩
instance : TyV Tryd.prog 141 := ⟨by kernel_rfl⟩
instance : TyZ' Tryd.prog 141 [.int .u8 0] := ⟨by kernel_rfl, by kernel_rfl, by kernel_rfl⟩
instance : TyI Tryd.prog 141 .u8 := ⟨by kernel_rfl⟩
instance : TyN Tryd.prog 143 1 := ⟨by kernel_rfl⟩
instance : TyV Tryd.prog 143 := ⟨by kernel_rfl⟩
instance : TyZ' Tryd.prog 143 [.int .i32 0] := ⟨by kernel_rfl, by kernel_rfl, by kernel_rfl⟩
instance : TyI Tryd.prog 143 .i32 := ⟨by kernel_rfl⟩
instance : TyN Tryd.prog 144 1 := ⟨by kernel_rfl⟩
instance : TyV Tryd.prog 144 := ⟨by kernel_rfl⟩
instance : TyZ' Tryd.prog 144 [.int .i32 0] := ⟨by kernel_rfl, by kernel_rfl, by kernel_rfl⟩
instance : TyI Tryd.prog 144 .i32 := ⟨by kernel_rfl⟩
instance : TyN Tryd.prog 145 11 := ⟨by kernel_rfl⟩
instance : TyA Tryd.prog 145 11 := ⟨by kernel_rfl, by kernel_rfl⟩
instance : TyZ' Tryd.prog 145 [.int .u64 0, .int .u64 0, .int .u32 0, .int .u8 0, .int .u8 0, .int .u8 0, .int .u8 0, .nilFunc, .pointer none, .int .i32 0, .int .i32 0] := ⟨by kernel_rfl, by kernel_rfl, by kernel_rfl⟩
instance : TyF Tryd.prog 145 0 0 := ⟨by kernel_rfl⟩
instance : TyF Tryd.prog 145 1 1 := ⟨by kernel_rfl⟩
instance : TyF Tryd.prog 145 2 2 := ⟨by kernel_rfl⟩
instance : TyF Tryd.prog 145 3 3 := ⟨by kernel_rfl⟩
instance : TyF Tryd.prog 145 4 4 := ⟨by kernel_rfl⟩
instance : TyF Tryd.prog 145 5 5 := ⟨by kernel_rfl⟩
instance : TyF Tryd.prog 145 6 6 := ⟨by kernel_rfl⟩
instance : TyF Tryd.prog 145 8 8 := ⟨by kernel_rfl⟩
instance : TyF Tryd.prog 145 9 9 := ⟨by kernel_rfl⟩
instance : TyF Tryd.prog 145 10 10 := ⟨by kernel_rfl⟩
instance : TyN Tryd.prog 146 11 := ⟨by kernel_rfl⟩
instance : TyA Tryd.prog 146 11 := ⟨by kernel_rfl, by kernel_rfl⟩
instance : TyZ' Tryd.prog 146 [.int .u64 0, .int .u64 0, .int .u32 0, .int .u8 0, .int .u8 0, .int .u8 0, .int .u8 0, .nilFunc, .pointer none, .int .i32 0, .int .i32 0] := ⟨by kernel_rfl, by kernel_rfl, by kernel_rfl⟩
instance : TyF Tryd.prog 146 0 0 := ⟨by kernel_rfl⟩
instance : TyF Tryd.prog 146 1 1 := ⟨by kernel_rfl⟩
instance : TyF Tryd.prog 146 2 2 := ⟨by kernel_rfl⟩
instance : TyF Tryd.prog 146 3 3 := ⟨by kernel_rfl⟩
instance : TyF Tryd.prog 146 4 4 := ⟨by kernel_rfl⟩
instance : TyF Tryd.prog 146 5 5 := ⟨by kernel_rfl⟩
instance : TyF Tryd.prog 146 6 6 := ⟨by kernel_rfl⟩
instance : TyF Tryd.prog 146 8 8 := ⟨by kernel_rfl⟩
instance : TyF Tryd.prog 146 9 9 := ⟨by kernel_rfl⟩
instance : TyF Tryd.prog 146 10 10 := ⟨by kernel_rfl⟩
instance : TyC Tryd.prog 3 := ⟨by kernel_rfl⟩
instance : TyC Tryd.prog 4 := ⟨by kernel_rfl⟩
instance : TyC Tryd.prog 5 := ⟨by kernel_rfl⟩
instance : TyC Tryd.prog 6 := ⟨by kernel_rfl⟩
instance : TyC Tryd.prog 7 := ⟨by kernel_rfl⟩
instance : TyC Tryd.prog 8 := ⟨by kernel_rfl⟩
instance : TyC Tryd.prog 9 := ⟨by kernel_rfl⟩
instance : TyC Tryd.prog 10 := ⟨by kernel_rfl⟩
instance : TyC Tryd.prog 11 := ⟨by kernel_rfl⟩
instance : TyC Tryd.prog 12 := ⟨by kernel_rfl⟩
instance : TyC Tryd.prog 13 := ⟨by kernel_rfl⟩
instance : TyC Tryd.prog 14 := ⟨by kernel_rfl⟩
instance : TyC Tryd.prog 15 := ⟨by kernel_rfl⟩
instance : TyC Tryd.prog 16 := ⟨by kernel_rfl⟩
instance : TyC Tryd.prog 17 := ⟨by kernel_rfl⟩
instance : TyC Tryd.prog 18 := ⟨by kernel_rfl⟩
instance : TyC Tryd.prog 19 := ⟨by kernel_rfl⟩
instance : TyC Tryd.prog 20 := ⟨by kernel_rfl⟩
instance : TyC Tryd.prog 21 := ⟨by kernel_rfl⟩
instance : TyC Tryd.prog 22 := ⟨by kernel_rfl⟩
instance : TyC Tryd.prog 23 := ⟨by kernel_rfl⟩
instance : TyC Tryd.prog 24 := ⟨by kernel_rfl⟩
instance : TyC Tryd.prog 25 := ⟨by kernel_rfl⟩
instance : TyC Tryd.prog 26 := ⟨by kernel_rfl⟩
instance : TyC Tryd.prog 27 := ⟨by kernel_rfl⟩
instance : TyC Tryd.prog 28 := ⟨by kernel_rfl⟩
instance : TyC Tryd.prog 29 := ⟨by kernel_rfl⟩
instance : TyC Tryd.prog 30 := ⟨by kernel_rfl⟩
instance : TyC Tryd.prog 31 := ⟨by kernel_rfl⟩
instance : TyC Tryd.prog 32 := ⟨by kernel_rfl⟩
instance : TyC Tryd.prog 33 := ⟨by kernel_rfl⟩
instance : TyC Tryd.prog 34 := ⟨by kernel_rfl⟩
instance : TyC Tryd.prog 35 := ⟨by kernel_rfl⟩
instance : TyC Tryd.prog 36 := ⟨by kernel_rfl⟩
instance : TyC Tryd.prog 37 := ⟨by kernel_rfl⟩
instance : TyC Tryd.prog 38 := ⟨by kernel_rfl⟩
instance : TyC Tryd.prog 39 := ⟨by kernel_rfl⟩
instance : TyC Tryd.prog 40 := ⟨by kernel_rfl⟩
instance : TyC Tryd.prog 41 := ⟨by kernel_rfl⟩
instance : TyC Tryd.prog 42 := ⟨by kernel_rfl⟩
instance : TyC Tryd.prog 43 := ⟨by kernel_rfl⟩
instance : TyC Tryd.prog 44 := ⟨by kernel_rfl⟩
instance : TyC Tryd.prog 45 := ⟨by kernel_rfl⟩
instance : TyC Tryd.prog 46 := ⟨by kernel_rfl⟩
instance : TyC Tryd.prog 47 := ⟨by kernel_rfl⟩
instance : TyC Tryd.prog 48 := ⟨by kernel_rfl⟩
instance : TyC Tryd.prog 49 := ⟨by kernel_rfl⟩
instance : TyC Tryd.prog 51 := ⟨by kernel_rfl⟩
instance : TyC Tryd.prog 52 := ⟨by kernel_rfl⟩
instance : TyC Tryd.prog 53 := ⟨by kernel_rfl⟩
instance : TyC Tryd.prog 54 := ⟨by kernel_rfl⟩
instance : TyC Tryd.prog 55 := ⟨by kernel_rfl⟩
instance : TyC Tryd.prog 56 := ⟨by kernel_rfl⟩
instance : TyC Tryd.prog 57 := ⟨by kernel_rfl⟩
instance : TyC Tryd.prog 58 := ⟨by kernel_rfl⟩
instance : TyC Tryd.prog 59 := ⟨by kernel_rfl⟩
instance : TyC Tryd.prog 60 := ⟨by kernel_rfl⟩
instance : TyC Tryd.prog 61 := ⟨by kernel_rfl⟩
instance : TyC Tryd.prog 62 := ⟨by kernel_rfl⟩
instance : TyC Tryd.prog 64 := ⟨by kernel_rfl⟩
instance : TyC Tryd.prog 65 := ⟨by kernel_rfl⟩
instance : TyC Tryd.prog 66 := ⟨by kernel_rfl⟩
instance : TyC Tryd.prog 67 := ⟨by kernel_rfl⟩
instance : TyC Tryd.prog 68 := ⟨by kernel_rfl⟩
instance : TyC Tryd.prog 69 := ⟨by kernel_rfl⟩
instance : TyC Tryd.prog 70 := ⟨by kernel_rfl⟩
instance : TyC Tryd.prog 71 := ⟨by kernel_rfl⟩
instance : TyC Tryd.prog 72 := ⟨by kernel_rfl⟩
instance : TyC Tryd.prog 73 := ⟨by kernel_rfl⟩
instance : TyC Tryd.prog 74 := ⟨by kernel_rfl⟩
instance : TyC Tryd.prog 75 := ⟨by kernel_rfl⟩
instance : TyC Tryd.prog 76 := ⟨by kernel_rfl⟩
instance : TyC Tryd.prog 77 := ⟨by kernel_rfl⟩
instance : TyC Tryd.prog 78 := ⟨by kernel_rfl⟩
instance : TyC Tryd.prog 80 := ⟨by kernel_rfl⟩
instance : TyC Tryd.prog 81 := ⟨by kernel_rfl⟩
instance : TyC Tryd.prog 82 := ⟨by kernel_rfl⟩
instance : TyC Tryd.prog 84 := ⟨by kernel_rfl⟩
instance : TyC Tryd.prog 85 := ⟨by kernel_rfl⟩
instance : TyC Tryd.prog 86 := ⟨by kernel_rfl⟩
instance : TyC Tryd.prog 87 := ⟨by kernel_rfl⟩
instance : TyC Tryd.prog 88 := ⟨by kernel_rfl⟩
instance : TyC Tryd.prog 89 := ⟨by kernel_rfl⟩
instance : TyC Tryd.prog 90 := ⟨by kernel_rfl⟩
instance : TyC Tryd.prog 91 := ⟨by kernel_rfl⟩
instance : TyC Tryd.prog 92 := ⟨by kernel_rfl⟩
instance : TyC Tryd.prog 93 := ⟨by kernel_rfl⟩
instance : TyC Tryd.prog 123 := ⟨by kernel_rfl⟩
end Fl
end Go.Proofs.YtbjnbngpjdoejaaDoor
namespace Go.Proofs.YtbjnbngpjdoejaaDoor
set_option linter.unusedVariables false
set_option linter.unusedSimpArgs false
set_option linter.unnecessarySimpa false
namespace Pn
structure Cs where
  send : Bool
  ch : Int
  v : Int
structure Op where
  kind : Int
  ch : Int
  n : Int
  v : Int
  cases : List Cs
  els : Bool
theorem Cs.ext {a b : Cs} (h1 : a.send = b.send) (h2 : a.ch = b.ch) (h3 : a.v = b.v) : a = b := by cases a; cases b; simp_all
theorem Op.ext {a b : Op} (h1 : a.kind = b.kind) (h2 : a.ch = b.ch) (h3 : a.n = b.n) (h4 : a.v = b.v) (h5 : a.cases = b.cases) (h6 : a.els = b.els) : a = b := by cases a; cases b; simp_all
instance : DecidableEq Cs := fun a b => decidable_of_iff (a.send = b.send ∧ a.ch = b.ch ∧ a.v = b.v) ⟨fun ⟨h1, h2, h3⟩ => Cs.ext h1 h2 h3, fun h => by subst h; simp⟩
instance : DecidableEq Op := fun a b => decidable_of_iff (a.kind = b.kind ∧ a.ch = b.ch ∧ a.n = b.n ∧ a.v = b.v ∧ a.cases = b.cases ∧ a.els = b.els) ⟨fun ⟨h1, h2, h3, h4, h5, h6⟩ => Op.ext h1 h2 h3 h4 h5 h6, fun h => by subst h; simp⟩
instance : Inhabited Cs := ⟨⟨false, 0, 0⟩⟩
instance : Inhabited Op := ⟨⟨0, 0, 0, 0, [], false⟩⟩

def hasCh (k : Int) : Bool := decide (2 ≤ k) && decide (k ≤ 8)
def hasV (k : Int) : Bool := (k == 2) || (k == 4)
def rightCs (c : Cs) : Bool := decide (0 ≤ c.ch ∧ c.ch ≤ 8 ∧ 0 ≤ c.v ∧ c.v ≤ 255 ∧ (c.send = false → c.v = 0))
def rightOp (o : Op) : Bool := decide (1 ≤ o.kind ∧ o.kind ≤ 9 ∧ 0 ≤ o.ch ∧ o.ch ≤ 8 ∧ 0 ≤ o.n ∧ o.n ≤ 4 ∧ 0 ≤ o.v ∧ o.v ≤ 255 ∧ o.cases.length ≤ 6 ∧
  (hasCh o.kind = false → o.ch = 0) ∧ (hasV o.kind = false → o.v = 0) ∧ (o.kind ≠ 1 → o.n = 0) ∧ (o.kind ≠ 9 → o.cases = [] ∧ o.els = false) ∧ ∀ c ∈ o.cases, rightCs c = true)
def rightOps (l : List Op) : Bool := decide (l.length ≤ 16 ∧ ∀ o ∈ l, rightOp o = true)
def right (p : List (List Op)) : Bool := decide (1 ≤ p.length ∧ p.length ≤ 8 ∧ ∀ l ∈ p, rightOps l = true)

def byte (l : List Int) (i : Nat) : Int := l.getD i 0
def runTo {α : Type} (f : Nat → α × Nat) (i0 : Nat) : Nat → List α × Nat
  | 0 => ([], i0)
  | k + 1 => ((runTo f i0 k).1 ++ [(f (runTo f i0 k).2).1], (f (runTo f i0 k).2).2)
def cs1 (l : List Int) (i : Nat) : Cs × Nat :=
  (⟨byte l i % 2 == 1, byte l (i + 1) % 9, if byte l i % 2 == 1 then byte l (i + 2) else 0⟩, if byte l i % 2 == 1 then i + 3 else i + 2)
def one (l : List Int) (i : Nat) : Op × Nat :=
  if byte l i % 9 = 0 then (⟨1, 0, byte l (i + 1) % 5, 0, [], false⟩, i + 2)
  else if byte l i % 9 = 1 ∨ byte l i % 9 = 3 then (⟨byte l i % 9 + 1, byte l (i + 1) % 9, 0, byte l (i + 2), [], false⟩, i + 3)
  else if byte l i % 9 = 8 then (⟨9, 0, 0, 0, (runTo (cs1 l) (i + 3) (byte l (i + 1) % 7).toNat).1, byte l (i + 2) % 2 == 1⟩, (runTo (cs1 l) (i + 3) (byte l (i + 1) % 7).toNat).2)
  else (⟨byte l i % 9 + 1, byte l (i + 1) % 9, 0, 0, [], false⟩, i + 2)
def ops (l : List Int) (i : Nat) : List Op × Nat := runTo (one l) (i + 1) (byte l i % 17).toNat
def dec (l : List Int) : List (List Op) × Nat := runTo (ops l) 1 (byte l 0 % 8 + 1).toNat

def flag (b : Bool) : Int := if b then 1 else 0
def encCs (c : Cs) : List Int := flag c.send :: c.ch :: (if c.send then [c.v] else [])
def encOp (o : Op) : List Int :=
  (o.kind - 1) :: ((if hasCh o.kind then [o.ch] else []) ++ (if o.kind == 1 then [o.n] else []) ++ (if hasV o.kind then [o.v] else []) ++
    (if o.kind == 9 then (o.cases.length : Int) :: flag o.els :: o.cases.flatMap encCs else []))
def encOps (l : List Op) : List Int := (l.length : Int) :: l.flatMap encOp
def enc (p : List (List Op)) : List Int := ((p.length : Int) - 1) :: p.flatMap encOps

/-! laws -/
theorem byte_range {l : List Int} (h : ∀ x ∈ l, 0 ≤ x ∧ x ≤ 255) (i : Nat) : 0 ≤ byte l i ∧ byte l i ≤ 255 := by
  unfold byte
  by_cases hi : i < l.length
  · simp only [List.getD, List.getElem?_eq_getElem hi, Option.getD_some]; exact h _ (List.getElem_mem hi)
  · simp [List.getD, List.getElem?_eq_none (show l.length ≤ i by omega)]
section
variable {α : Type} {f : Nat → α × Nat}
theorem runTo_len (i0 : Nat) : ∀ k, (runTo f i0 k).1.length = k
  | 0 => rfl
  | k + 1 => by unfold runTo; rw [List.length_append, runTo_len i0 k]; rfl
theorem runTo_all {P : α → Prop} (h : ∀ i, P (f i).1) (i0 : Nat) : ∀ k, ∀ x ∈ (runTo f i0 k).1, P x
  | 0 => by simp [runTo]
  | k + 1 => by
    intro x hx
    unfold runTo at hx
    rcases List.mem_append.1 hx with hx | hx
    · exact runTo_all h i0 k x hx
    · simp at hx; subst hx; exact h _
theorem runTo_size {e : α → List Int} (h : ∀ i, (f i).2 = i + (e (f i).1).length) (i0 : Nat) : ∀ k, (runTo f i0 k).2 = i0 + ((runTo f i0 k).1.flatMap e).length
  | 0 => by simp [runTo]
  | k + 1 => by
    unfold runTo
    rw [h, runTo_size h i0 k, List.flatMap_append, List.length_append]
    simp; omega
theorem runTo_le (h : ∀ i, i ≤ (f i).2) (i0 : Nat) : ∀ k, i0 ≤ (runTo f i0 k).2
  | 0 => Nat.le_refl _
  | k + 1 => Nat.le_trans (runTo_le h i0 k) (h _)
theorem runTo_ge {m : Nat} (h : ∀ i, (f i).2 ≤ i + m) (i0 : Nat) : ∀ k, (runTo f i0 k).2 ≤ i0 + k * m
  | 0 => by simp [runTo]
  | k + 1 => by
    have h1 := runTo_ge h i0 k
    have h2 := h (runTo f i0 k).2
    show (f (runTo f i0 k).2).2 ≤ _
    rw [Nat.add_mul]; omega
end
theorem runTo_enc {α : Type} (F : List Int → Nat → α × Nat) (e : α → List Int) (xs : List α)
    (h : ∀ x ∈ xs, ∀ pre post, F (pre ++ (e x ++ post)) pre.length = (x, pre.length + (e x).length)) (pre post : List Int) :
    runTo (F (pre ++ (xs.flatMap e ++ post))) pre.length xs.length = (xs, pre.length + (xs.flatMap e).length) := by
  have key : ∀ k, k ≤ xs.length → runTo (F (pre ++ (xs.flatMap e ++ post))) pre.length k = (xs.take k, pre.length + ((xs.take k).flatMap e).length) := by
    intro k
    induction k with
    | zero => intro _; simp [runTo]
    | succ k ih =>
      intro hk
      have hlt : k < xs.length := by omega
      have e1 : pre ++ (xs.flatMap e ++ post) = (pre ++ (xs.take k).flatMap e) ++ (e xs[k] ++ ((xs.drop (k + 1)).flatMap e ++ post)) := by
        have h1 : xs = xs.take k ++ xs[k] :: xs.drop (k + 1) := by rw [← List.drop_eq_getElem_cons hlt, List.take_append_drop]
        have h2 : xs.flatMap e = (xs.take k ++ xs[k] :: xs.drop (k + 1)).flatMap e := congrArg (List.flatMap e) h1
        rw [h2, List.flatMap_append, List.flatMap_cons]; simp only [List.append_assoc]
      unfold runTo
      rw [ih (by omega)]
      have h3 := h xs[k] (List.getElem_mem hlt) (pre ++ (xs.take k).flatMap e) ((xs.drop (k + 1)).flatMap e ++ post)
      rw [← e1, List.length_append] at h3
      rw [h3, List.take_succ_eq_append_getElem hlt, List.flatMap_append, List.length_append]
      simp [Nat.add_assoc]
  have := key xs.length (Nat.le_refl _)
  rwa [List.take_length] at this

theorem byte_at (pre : List Int) (x : Int) (post : List Int) : byte (pre ++ x :: post) pre.length = x := by simp [byte]
theorem byte_at1 (pre : List Int) (x y : Int) (post : List Int) : byte (pre ++ x :: y :: post) (pre.length + 1) = y := by
  have := byte_at (pre ++ [x]) y post
  simpa using this
theorem byte_at2 (pre : List Int) (x y z : Int) (post : List Int) : byte (pre ++ x :: y :: z :: post) (pre.length + 2) = z := by
  have := byte_at (pre ++ [x, y]) z post
  simpa using this

theorem cs1_size (l : List Int) (i : Nat) : (cs1 l i).2 = i + (encCs (cs1 l i).1).length := by
  unfold cs1 encCs
  split <;> simp_all
theorem cs1_right {l : List Int} (h : ∀ x ∈ l, 0 ≤ x ∧ x ≤ 255) (i : Nat) : rightCs (cs1 l i).1 = true := by
  have h2 := byte_range h (i + 2)
  unfold cs1 rightCs
  rw [decide_eq_true_iff]
  refine ⟨by simp; omega, by simp; omega, ?_, ?_, fun e => ?_⟩
  · simp only; split <;> omega
  · simp only; split <;> omega
  · simp only at e ⊢; rw [e]; rfl
theorem cs1_enc (c : Cs) (hr : rightCs c = true) (pre post : List Int) : cs1 (pre ++ (encCs c ++ post)) pre.length = (c, pre.length + (encCs c).length) := by
  unfold rightCs at hr
  rw [decide_eq_true_iff] at hr
  obtain ⟨h1, h2, h3, h4, h5⟩ := hr
  obtain ⟨s, ch, v⟩ := c
  simp only at h1 h2 h3 h4 h5
  have hm : ch % 9 = ch := Int.emod_eq_of_lt h1 (by omega)
  cases s with
  | true =>
    have e : pre ++ (encCs ⟨true, ch, v⟩ ++ post) = pre ++ 1 :: ch :: v :: post := by simp [encCs, flag]
    unfold cs1
    rw [e, byte_at, byte_at1, byte_at2, hm]
    simp [encCs]
  | false =>
    have hv := h5 rfl
    subst hv
    have e : pre ++ (encCs ⟨false, ch, 0⟩ ++ post) = pre ++ 0 :: ch :: post := by simp [encCs, flag]
    unfold cs1
    rw [e, byte_at, byte_at1, hm]
    simp [encCs]

theorem one_size {l : List Int} (h : ∀ x ∈ l, 0 ≤ x ∧ x ≤ 255) (i : Nat) : (one l i).2 = i + (encOp (one l i).1).length := by
  have h1 := byte_range h i
  have hm := Int.emod_nonneg (byte l i) (show (9 : Int) ≠ 0 by omega)
  have hm2 := Int.emod_lt_of_pos (byte l i) (show (0 : Int) < 9 by omega)
  unfold one
  split
  · simp [encOp, hasCh, hasV]
  · split
    · rename_i h3
      rcases h3 with h3 | h3 <;> simp [h3, encOp, hasCh, hasV]
    · split
      · have hl := runTo_len (f := cs1 l) (i + 3) (byte l (i + 1) % 7).toNat
        simp [encOp, hasCh, hasV]
        rw [runTo_size (cs1_size l)]
        simp [List.length_flatMap]; omega
      · rename_i a b c
        have hk1 : (byte l i % 9 + 1 == 1) = false := by simp; omega
        have hk9 : (byte l i % 9 + 1 == 9) = false := by simp; omega
        have hc : hasCh (byte l i % 9 + 1) = true := by simp [hasCh]; omega
        have hv : hasV (byte l i % 9 + 1) = false := by simp [hasV]; omega
        simp [encOp, hk1, hk9, hc, hv]
theorem one_right {l : List Int} (h : ∀ x ∈ l, 0 ≤ x ∧ x ≤ 255) (i : Nat) : rightOp (one l i).1 = true := by
  have h1 := byte_range h i
  have h2 := byte_range h (i + 2)
  have hm := Int.emod_nonneg (byte l i) (show (9 : Int) ≠ 0 by omega)
  have hm2 := Int.emod_lt_of_pos (byte l i) (show (0 : Int) < 9 by omega)
  have hn := Int.emod_nonneg (byte l (i + 1)) (show (9 : Int) ≠ 0 by omega)
  have hn2 := Int.emod_lt_of_pos (byte l (i + 1)) (show (0 : Int) < 9 by omega)
  have hp := Int.emod_nonneg (byte l (i + 1)) (show (5 : Int) ≠ 0 by omega)
  have hp2 := Int.emod_lt_of_pos (byte l (i + 1)) (show (0 : Int) < 5 by omega)
  have hq := Int.emod_nonneg (byte l (i + 1)) (show (7 : Int) ≠ 0 by omega)
  have hq2 := Int.emod_lt_of_pos (byte l (i + 1)) (show (0 : Int) < 7 by omega)
  unfold one rightOp
  rw [decide_eq_true_iff]
  split
  · simp [hasCh, hasV]; omega
  · split
    · rename_i h3
      rcases h3 with h3 | h3 <;> (simp [h3, hasCh, hasV]; omega)
    · split
      · have hl := runTo_len (f := cs1 l) (i + 3) (byte l (i + 1) % 7).toNat
        have ha := runTo_all (f := cs1 l) (P := fun c => rightCs c = true) (cs1_right h) (i + 3) (byte l (i + 1) % 7).toNat
        refine ⟨by simp, by simp, by simp, by simp, by simp, by simp, by simp, by simp, by simp only; omega, by simp, by simp, by simp, by simp, ha⟩
      · simp [hasCh, hasV]; omega
theorem one_enc (o : Op) (hr : rightOp o = true) (pre post : List Int) : one (pre ++ (encOp o ++ post)) pre.length = (o, pre.length + (encOp o).length) := by
  unfold rightOp at hr
  rw [decide_eq_true_iff] at hr
  obtain ⟨a1, a2, a3, a4, a5, a6, a7, a8, a9, b1, b2, b3, b4, b5⟩ := hr
  obtain ⟨k, ch, n, v, cs, els⟩ := o
  simp only at a1 a2 a3 a4 a5 a6 a7 a8 a9 b1 b2 b3 b4 b5
  have hk : (k - 1) % 9 = k - 1 := Int.emod_eq_of_lt (by omega) (by omega)
  have hm : ch % 9 = ch := Int.emod_eq_of_lt a3 (by omega)
  have hn : n % 5 = n := Int.emod_eq_of_lt a5 (by omega)
  by_cases h1 : k = 1
  · subst h1
    obtain ⟨rfl, rfl⟩ := b4 (by omega)
    have := b1 rfl; subst this
    have := b2 rfl; subst this
    have e : pre ++ (encOp ⟨1, 0, n, 0, [], false⟩ ++ post) = pre ++ 0 :: n :: post := by simp [encOp, hasCh, hasV]
    unfold one
    rw [e, byte_at, byte_at1, hn]
    simp [encOp, hasCh, hasV]
  have hn0 := b3 h1
  subst hn0
  by_cases h2 : k = 2 ∨ k = 4
  · obtain ⟨rfl, rfl⟩ := b4 (by omega)
    have hc : hasCh k = true := by simp [hasCh]; omega
    have hv : hasV k = true := by simp [hasV]; omega
    have h9 : (k == 9) = false := by simp; omega
    have h1' : (k == 1) = false := by simp; omega
    have e : pre ++ (encOp ⟨k, ch, 0, v, [], false⟩ ++ post) = pre ++ (k - 1) :: ch :: v :: post := by simp [encOp, hc, hv, h9, h1']
    unfold one
    rw [e, byte_at, byte_at1, byte_at2, hk, hm, if_neg (by omega), if_pos (by omega)]
    simp [encOp, hc, hv, h9, h1']
  · have hv : hasV k = false := by simp [hasV]; omega
    have := b2 hv; subst this
    by_cases h9 : k = 9
    · subst h9
      have := b1 rfl; subst this
      have e : pre ++ (encOp ⟨9, 0, 0, 0, cs, els⟩ ++ post) = pre ++ 8 :: (cs.length : Int) :: flag els :: (cs.flatMap encCs ++ post) := by simp [encOp, hasCh, hasV]
      have e2 : pre ++ 8 :: (cs.length : Int) :: flag els :: (cs.flatMap encCs ++ post) = (pre ++ [8, (cs.length : Int), flag els]) ++ (cs.flatMap encCs ++ post) := by simp
      have h7 : ((cs.length : Int) % 7).toNat = cs.length := by omega
      have hfl : (flag els % 2 == 1) = els := by cases els <;> rfl
      have hr := runTo_enc cs1 encCs cs (fun c hc pre post => cs1_enc c (b5 c hc) pre post) (pre ++ [8, (cs.length : Int), flag els]) post
      rw [← e2, show (pre ++ [8, (cs.length : Int), flag els]).length = pre.length + 3 by simp] at hr
      unfold one
      rw [e, byte_at, byte_at1, byte_at2, h7, hfl, hr]
      simp [encOp, hasCh, hasV]; omega
    · obtain ⟨rfl, rfl⟩ := b4 h9
      have hc : hasCh k = true := by simp [hasCh]; omega
      have h9' : (k == 9) = false := by simp; omega
      have h1' : (k == 1) = false := by simp; omega
      have e : pre ++ (encOp ⟨k, ch, 0, 0, [], false⟩ ++ post) = pre ++ (k - 1) :: ch :: post := by simp [encOp, hc, hv, h9', h1']
      unfold one
      rw [e, byte_at, byte_at1, hk, hm, if_neg (by omega), if_neg (by omega), if_neg (by omega)]
      simp [encOp, hc, hv, h9', h1']

theorem ops_size {l : List Int} (h : ∀ x ∈ l, 0 ≤ x ∧ x ≤ 255) (i : Nat) : (ops l i).2 = i + (encOps (ops l i).1).length := by
  unfold ops encOps
  rw [runTo_size (one_size h)]
  simp; omega
theorem ops_right {l : List Int} (h : ∀ x ∈ l, 0 ≤ x ∧ x ≤ 255) (i : Nat) : rightOps (ops l i).1 = true := by
  unfold ops rightOps
  rw [decide_eq_true_iff, runTo_len]
  exact ⟨by omega, runTo_all (one_right h) _ _⟩
theorem ops_enc (x : List Op) (hr : rightOps x = true) (pre post : List Int) : ops (pre ++ (encOps x ++ post)) pre.length = (x, pre.length + (encOps x).length) := by
  unfold rightOps at hr
  rw [decide_eq_true_iff] at hr
  have e : pre ++ (encOps x ++ post) = pre ++ (x.length : Int) :: (x.flatMap encOp ++ post) := by simp [encOps]
  have e2 : pre ++ (x.length : Int) :: (x.flatMap encOp ++ post) = (pre ++ [(x.length : Int)]) ++ (x.flatMap encOp ++ post) := by simp
  have h17 : ((x.length : Int) % 17).toNat = x.length := by omega
  have h := runTo_enc one encOp x (fun o ho pre post => one_enc o (hr.2 o ho) pre post) (pre ++ [(x.length : Int)]) post
  rw [← e2, show (pre ++ [(x.length : Int)]).length = pre.length + 1 by simp] at h
  unfold ops
  rw [e, byte_at, h17, h]
  simp [encOps]; omega
theorem dec_size {l : List Int} (h : ∀ x ∈ l, 0 ≤ x ∧ x ≤ 255) : (dec l).2 = (enc (dec l).1).length := by
  unfold dec enc
  rw [runTo_size (ops_size h)]
  simp; omega
theorem dec_right {l : List Int} (h : ∀ x ∈ l, 0 ≤ x ∧ x ≤ 255) : right (dec l).1 = true := by
  unfold dec right
  rw [decide_eq_true_iff, runTo_len]
  exact ⟨by omega, by omega, runTo_all (ops_right h) _ _⟩
theorem dec_enc (p : List (List Op)) (hr : right p = true) (post : List Int) : dec (enc p ++ post) = (p, (enc p).length) := by
  unfold right at hr
  rw [decide_eq_true_iff] at hr
  obtain ⟨h1, h2, h3⟩ := hr
  have h := runTo_enc ops encOps p (fun x hx pre post => ops_enc x (h3 x hx) pre post) [(p.length : Int) - 1] post
  have e : enc p ++ post = [(p.length : Int) - 1] ++ (p.flatMap encOps ++ post) := by simp [enc]
  have e0 : byte (enc p ++ post) 0 = (p.length : Int) - 1 := by rw [e]; rfl
  have h8 : (((p.length : Int) - 1) % 8 + 1).toNat = p.length := by omega
  unfold dec
  rw [e0, h8, e]
  simp only [List.length_cons, List.length_nil, Nat.zero_add] at h
  rw [h]
  simp [enc]; omega
theorem encCs_range (c : Cs) (hr : rightCs c = true) : ∀ x ∈ encCs c, 0 ≤ x ∧ x ≤ 255 := by
  unfold rightCs at hr
  rw [decide_eq_true_iff] at hr
  intro x hx
  unfold encCs flag at hx
  simp only [List.mem_cons] at hx
  rcases hx with rfl | rfl | hx
  · split <;> omega
  · omega
  · split at hx
    · simp at hx; omega
    · simp at hx
theorem encOp_range (o : Op) (hr : rightOp o = true) : ∀ x ∈ encOp o, 0 ≤ x ∧ x ≤ 255 := by
  unfold rightOp at hr
  rw [decide_eq_true_iff] at hr
  obtain ⟨a1, a2, a3, a4, a5, a6, a7, a8, a9, b1, b2, b3, b4, b5⟩ := hr
  intro x hx
  unfold encOp at hx
  simp only [List.mem_cons, List.mem_append] at hx
  rcases hx with rfl | ((hx | hx) | hx) | hx
  · omega
  · split at hx
    · simp at hx; omega
    · simp at hx
  · split at hx
    · simp at hx; omega
    · simp at hx
  · split at hx
    · simp at hx; omega
    · simp at hx
  · split at hx
    · simp only [List.mem_cons] at hx
      rcases hx with rfl | rfl | hx
      · omega
      · unfold flag; split <;> omega
      · obtain ⟨c, hc, hx⟩ := List.mem_flatMap.1 hx
        exact encCs_range c (b5 c hc) x hx
    · simp at hx
theorem enc_range (p : List (List Op)) (hr : right p = true) : ∀ x ∈ enc p, 0 ≤ x ∧ x ≤ 255 := by
  unfold right at hr
  rw [decide_eq_true_iff] at hr
  obtain ⟨h1, h2, h3⟩ := hr
  intro x hx
  unfold enc at hx
  rcases List.mem_cons.1 hx with rfl | hx
  · omega
  · obtain ⟨l, hl, hx⟩ := List.mem_flatMap.1 hx
    have h4 := h3 l hl
    unfold rightOps at h4
    rw [decide_eq_true_iff] at h4
    unfold encOps at hx
    rcases List.mem_cons.1 hx with rfl | hx
    · omega
    · obtain ⟨o, ho, hx⟩ := List.mem_flatMap.1 hx
      exact encOp_range o (h4.2 o ho) x hx
end Pn
end Go.Proofs.YtbjnbngpjdoejaaDoor
namespace Go.Proofs.YtbjnbngpjdoejaaDoor
set_option linter.unusedVariables false
set_option linter.unusedSimpArgs false
set_option linter.unnecessarySimpa false
namespace Md
structure Ch where
  cap : Int
  buf : List Int
  closed : Bool
structure St where
  chans : List Ch
  waits : Int → Option Pn.Op
structure Sd where
  ch : Int
  send : Bool
  v : Int
structure Res where
  code : Int
  cs : Int
  v : Int
  ok : Bool
  n : Int
def noSide : Sd := ⟨0, false, 0⟩
def noRes : Res := ⟨0, 0, 0, false, 0⟩
def side (o : Pn.Op) (i : Int) : Option Sd :=
  if (o.kind = 2 ∨ o.kind = 4) ∧ i = -1 then some ⟨o.ch, true, o.v⟩
  else if (o.kind = 3 ∨ o.kind = 5) ∧ i = -1 then some ⟨o.ch, false, 0⟩
  else if o.kind = 9 ∧ 0 ≤ i then (o.cases[i.toNat]?).map (fun c => ⟨c.ch, c.send, c.v⟩)
  else none
def anyUpto (o : Pn.Op) (p : Int → Sd → Bool) : Nat → Bool
  | 0 => false
  | k + 1 => anyUpto o p k || (match side o ((k : Int) - 1) with | some s => p ((k : Int) - 1) s | none => false)
def any (o : Pn.Op) (p : Int → Sd → Bool) : Bool := anyUpto o p (o.cases.length + 1)
def chan (l : List Ch) (ch : Int) : Option Ch := if 1 ≤ ch then l[(ch - 1).toNat]? else none
def Another (st : St) (g ch : Int) (sends : Bool) : Prop := ∃ h o, st.waits h = some o ∧ h ≠ g ∧ any o (fun _ s => s.ch == ch && s.send == sends) = true
noncomputable def another (st : St) (g ch : Int) (sends : Bool) : Bool := by classical exact decide (Another st g ch sends)
noncomputable def may (st : St) (g : Int) (s : Sd) : Bool :=
  match chan st.chans s.ch with
  | none => false
  | some c => c.closed || (s.send && decide ((c.buf.length : Int) < c.cap)) || (!s.send && decide (0 < c.buf.length)) || (decide (c.cap = 0) && another st g s.ch (!s.send))
noncomputable def mayAt (st : St) (g : Int) (o : Pn.Op) (i : Int) : Bool := match side o i with | some s => may st g s | none => false
noncomputable def anyMay (st : St) (g : Int) (o : Pn.Op) : Bool := any o (fun _ s => may st g s)
def putChan (l : List Ch) (ch : Int) (c : Ch) : List Ch := l.set (ch - 1).toNat c
def makes (l : List Ch) (room : Int) : List Ch × Res :=
  if 8 ≤ l.length then (l, ⟨7, -1, 0, false, 0⟩) else (l ++ [⟨room, [], false⟩], ⟨1, -1, 0, true, (l.length : Int) + 1⟩)
def looks (l : List Ch) (o : Pn.Op) : Res :=
  match chan l o.ch with
  | none => ⟨1, -1, 0, true, 0⟩
  | some c => ⟨1, -1, 0, true, if o.kind = 7 then (c.buf.length : Int) else c.cap⟩
def closes (l : List Ch) (ch : Int) : List Ch × Res :=
  match chan l ch with
  | none => (l, ⟨5, -1, 0, false, 0⟩)
  | some c => if c.closed = true then (l, ⟨4, -1, 0, false, 0⟩) else (putChan l ch ⟨c.cap, c.buf, true⟩, ⟨1, -1, 0, true, 0⟩)
def does (l : List Ch) (o : Pn.Op) (i : Int) : List Ch × Option Res :=
  match side o i with
  | none => (l, none)
  | some s =>
    match chan l s.ch with
    | none => (l, none)
    | some c =>
      if s.send = true then
        (if c.closed = true then (l, some ⟨3, i, 0, false, 0⟩)
         else if (c.buf.length : Int) < c.cap then (putChan l s.ch ⟨c.cap, c.buf ++ [s.v], c.closed⟩, some ⟨1, i, 0, true, 0⟩)
         else (l, none))
      else
        (if 0 < c.buf.length then (putChan l s.ch ⟨c.cap, c.buf.drop 1, c.closed⟩, some ⟨1, i, c.buf.getD 0 0, true, 0⟩)
         else if c.closed = true then (l, some ⟨1, i, 0, false, 0⟩)
         else (l, none))
def fires (l : List Ch) (o : Pn.Op) (i : Int) : List Ch × Option Res :=
  if o.kind = 1 then ((makes l o.n).1, some (makes l o.n).2)
  else if o.kind = 7 ∨ o.kind = 8 then (l, some (looks l o))
  else if o.kind = 6 then ((closes l o.ch).1, some (closes l o.ch).2)
  else does l o i
def drops (f : Int → Option Pn.Op) (g : Int) : Int → Option Pn.Op := fun c => if c = g then none else f c
def fire (st : St) (g : Int) (o : Pn.Op) (i : Int) : St × Option Res :=
  match fires st.chans o i with
  | (l, some r) => (⟨l, drops st.waits g⟩, some r)
  | (_, none) => (st, none)
def begins (o : Pn.Op) : Bool := decide (o.kind = 2 ∨ o.kind = 3 ∨ (o.kind = 9 ∧ o.els = false))
def tries (o : Pn.Op) : Bool := decide (o.kind = 4 ∨ o.kind = 5 ∨ (o.kind = 9 ∧ o.els = true))
noncomputable def no (st : St) (g : Int) (o : Pn.Op) : Bool := tries o && !anyMay st g o
noncomputable def wait (st : St) (g : Int) (o : Pn.Op) : St × Bool :=
  if begins o = true ∧ any o (fun _ s => (chan st.chans s.ch).isSome) = true ∧ st.waits g = none ∧ anyMay st g o = false then (⟨st.chans, fun c => if c = g then some o else st.waits c⟩, true)
  else (st, false)
theorem side_case {o : Pn.Op} {i : Int} (h : o.kind = 9) (hi : 0 ≤ i) : side o i = (o.cases[i.toNat]?).map (fun c => ⟨c.ch, c.send, c.v⟩) := by
  unfold side
  rw [if_neg (by omega), if_neg (by omega), if_pos ⟨h, hi⟩]
theorem chan_none {l : List Ch} {ch : Int} (h : ch < 1 ∨ (l.length : Int) < ch) : chan l ch = none := by
  unfold chan
  split
  · exact List.getElem?_eq_none (by omega)
  · rfl
theorem chan_some {l : List Ch} {ch : Int} (h : 1 ≤ ch) (h2 : ch ≤ (l.length : Int)) : ∃ c, chan l ch = some c ∧ l[(ch - 1).toNat]? = some c := by
  unfold chan
  rw [if_pos h]
  exact ⟨_, List.getElem?_eq_getElem (by omega), List.getElem?_eq_getElem (by omega)⟩
end Md
end Go.Proofs.YtbjnbngpjdoejaaDoor
