/-
  Shades: the types of this seat's program (printed by a program of ours).
-/
import Derived.Test.YtincpceccfoldaaChecked
import Derived.Test.YtincpceccfoldaaShade5
namespace Go.Proofs.Ytincpceccfoldaa
open Go.RowKit
theorem eqt2 (d : Nat) : EqT Try.prog (d + 1) 2 false [.int .i64 0] := eqt_int d 0 (by kernel_rfl)
theorem ty2 : TyOk Try.prog 2 ⟨1, 8, .int .i64, [.int .i64 0], false⟩ := ⟨info_of (by kernel_rfl), (by kernel_rfl : Try.prog.underlying 2 = some (.int .i64)), fun h => by cases h⟩
theorem eqt3 (d : Nat) : EqT Try.prog (d + 1) 3 false [.int .i64 0] := eqt_int d 0 (by kernel_rfl)
theorem ty3 : TyOk Try.prog 3 ⟨1, 8, .int .i64, [.int .i64 0], false⟩ := ⟨info_of (by kernel_rfl), (by kernel_rfl : Try.prog.underlying 3 = some (.int .i64)), fun h => by cases h⟩
theorem eqt4 (d : Nat) : EqT Try.prog (d + 1) 4 false [.bool false] := eqt_bool d false (by kernel_rfl)
theorem ty4 : TyOk Try.prog 4 ⟨1, 1, .bool, [.bool false], false⟩ := ⟨info_of (by kernel_rfl), (by kernel_rfl : Try.prog.underlying 4 = some (.bool)), fun h => by cases h⟩
theorem ty5 : TyOk Try.prog 5 ⟨1, 1, .int .u8, [.int .u8 0], false⟩ := ⟨info_of (by kernel_rfl), (by kernel_rfl : Try.prog.underlying 5 = some (.int .u8)), fun h => by cases h⟩
theorem eqt9 (d : Nat) : EqT Try.prog (d + 1) 9 false [.string ⟨#[]⟩] := eqt_str d _ (by kernel_rfl)
theorem ty9 : TyOk Try.prog 9 ⟨1, 16, .str, [.string ⟨#[]⟩], false⟩ := ⟨info_of (by kernel_rfl), (by kernel_rfl : Try.prog.underlying 9 = some (.string)), fun h => by cases h⟩
theorem ty12 : TyOk Try.prog 12 ⟨1, 8, .int .u64, [.int .u64 0], false⟩ := ⟨info_of (by kernel_rfl), (by kernel_rfl : Try.prog.underlying 12 = some (.int .u64)), fun h => by cases h⟩
theorem ty13 : TyOk Try.prog 13 ⟨2, 24, .st [(0, 9), (1, 12)], [.string ⟨#[]⟩, .int .u64 0], false⟩ := ⟨info_of (by kernel_rfl), (fields_of (by kernel_rfl)), fun h => by cases h⟩
theorem ty21 : TyOk Try.prog 21 ⟨1, 4, .int .i32, [.int .i32 0], false⟩ := ⟨info_of (by kernel_rfl), (by kernel_rfl : Try.prog.underlying 21 = some (.int .i32)), fun h => by cases h⟩
theorem eqt22 (d : Nat) : EqT Try.prog (d + 2) 22 true [.int .i64 0, .string ⟨#[]⟩, .bool false] := eqt_struct (d := d + 1) Try.underlying22 (by kernel_rfl) (.cons (i := ⟨1, 8, .int .i64, [.int .i64 0], false⟩) rfl (by decide) ty3 rfl (by simp [Ty.agg]) (eqt3 (d + 0)) (.cons (i := ⟨1, 16, .str, [.string ⟨#[]⟩], false⟩) rfl (by decide) ty9 rfl (by simp [Ty.agg]) (eqt9 (d + 0)) (.cons (i := ⟨1, 1, .bool, [.bool false], false⟩) rfl (by decide) ty4 rfl (by simp [Ty.agg]) (eqt4 (d + 0)) (.nil))))
theorem ty22 : TyOk Try.prog 22 ⟨3, 32, .st [(0, 3), (1, 9), (2, 4)], [.int .i64 0, .string ⟨#[]⟩, .bool false], true⟩ := ⟨info_of (by kernel_rfl), (fields_of (by kernel_rfl)), fun _ => ⟨by kernel_rfl, fun xs ys b w => eqt22 9998 xs ys b w⟩⟩
theorem eqt23 (d : Nat) : EqT Try.prog (d + 2) 23 true [.int .i64 0, .string ⟨#[]⟩, .bool false] := eqt_struct (d := d + 1) Try.underlying23 (by kernel_rfl) (.cons (i := ⟨1, 8, .int .i64, [.int .i64 0], false⟩) rfl (by decide) ty3 rfl (by simp [Ty.agg]) (eqt3 (d + 0)) (.cons (i := ⟨1, 16, .str, [.string ⟨#[]⟩], false⟩) rfl (by decide) ty9 rfl (by simp [Ty.agg]) (eqt9 (d + 0)) (.cons (i := ⟨1, 1, .bool, [.bool false], false⟩) rfl (by decide) ty4 rfl (by simp [Ty.agg]) (eqt4 (d + 0)) (.nil))))
theorem ty23 : TyOk Try.prog 23 ⟨3, 32, .st [(0, 3), (1, 9), (2, 4)], [.int .i64 0, .string ⟨#[]⟩, .bool false], true⟩ := ⟨info_of (by kernel_rfl), (fields_of (by kernel_rfl)), fun _ => ⟨by kernel_rfl, fun xs ys b w => eqt23 9998 xs ys b w⟩⟩
theorem eqt24 (d : Nat) : EqT Try.prog (d + 2) 24 true [.int .i64 0, .int .i64 0, .string ⟨#[]⟩] := eqt_struct (d := d + 1) Try.underlying24 (by kernel_rfl) (.cons (i := ⟨1, 8, .int .i64, [.int .i64 0], false⟩) rfl (by decide) ty3 rfl (by simp [Ty.agg]) (eqt3 (d + 0)) (.cons (i := ⟨1, 8, .int .i64, [.int .i64 0], false⟩) rfl (by decide) ty3 rfl (by simp [Ty.agg]) (eqt3 (d + 0)) (.cons (i := ⟨1, 16, .str, [.string ⟨#[]⟩], false⟩) rfl (by decide) ty9 rfl (by simp [Ty.agg]) (eqt9 (d + 0)) (.nil))))
theorem ty24 : TyOk Try.prog 24 ⟨3, 32, .st [(0, 3), (1, 3), (2, 9)], [.int .i64 0, .int .i64 0, .string ⟨#[]⟩], true⟩ := ⟨info_of (by kernel_rfl), (fields_of (by kernel_rfl)), fun _ => ⟨by kernel_rfl, fun xs ys b w => eqt24 9998 xs ys b w⟩⟩
theorem eqt25 (d : Nat) : EqT Try.prog (d + 2) 25 true [.int .i64 0, .int .i64 0, .string ⟨#[]⟩] := eqt_struct (d := d + 1) Try.underlying25 (by kernel_rfl) (.cons (i := ⟨1, 8, .int .i64, [.int .i64 0], false⟩) rfl (by decide) ty3 rfl (by simp [Ty.agg]) (eqt3 (d + 0)) (.cons (i := ⟨1, 8, .int .i64, [.int .i64 0], false⟩) rfl (by decide) ty3 rfl (by simp [Ty.agg]) (eqt3 (d + 0)) (.cons (i := ⟨1, 16, .str, [.string ⟨#[]⟩], false⟩) rfl (by decide) ty9 rfl (by simp [Ty.agg]) (eqt9 (d + 0)) (.nil))))
theorem ty25 : TyOk Try.prog 25 ⟨3, 32, .st [(0, 3), (1, 3), (2, 9)], [.int .i64 0, .int .i64 0, .string ⟨#[]⟩], true⟩ := ⟨info_of (by kernel_rfl), (fields_of (by kernel_rfl)), fun _ => ⟨by kernel_rfl, fun xs ys b w => eqt25 9998 xs ys b w⟩⟩
theorem eqt26 (d : Nat) : EqT Try.prog (d + 3) 26 true [.int .i64 0, .int .i64 0, .int .i64 0, .string ⟨#[]⟩, .int .i64 0, .string ⟨#[]⟩, .bool false] := eqt_struct (d := d + 2) Try.underlying26 (by kernel_rfl) (.cons (i := ⟨1, 8, .int .i64, [.int .i64 0], false⟩) rfl (by decide) ty3 rfl (by simp [Ty.agg]) (eqt3 (d + 1)) (.cons (i := ⟨3, 32, .st [(0, 3), (1, 3), (2, 9)], [.int .i64 0, .int .i64 0, .string ⟨#[]⟩], true⟩) rfl (by decide) ty25 rfl (by simp [Ty.agg]) (eqt25 (d + 0)) (.cons (i := ⟨3, 32, .st [(0, 3), (1, 9), (2, 4)], [.int .i64 0, .string ⟨#[]⟩, .bool false], true⟩) rfl (by decide) ty23 rfl (by simp [Ty.agg]) (eqt23 (d + 0)) (.nil))))
theorem ty26 : TyOk Try.prog 26 ⟨7, 72, .st [(0, 3), (1, 25), (4, 23)], [.int .i64 0, .int .i64 0, .int .i64 0, .string ⟨#[]⟩, .int .i64 0, .string ⟨#[]⟩, .bool false], true⟩ := ⟨info_of (by kernel_rfl), (fields_of (by kernel_rfl)), fun _ => ⟨by kernel_rfl, fun xs ys b w => eqt26 9997 xs ys b w⟩⟩
theorem eqt27 (d : Nat) : EqT Try.prog (d + 3) 27 true [.int .i64 0, .int .i64 0, .int .i64 0, .string ⟨#[]⟩, .int .i64 0, .string ⟨#[]⟩, .bool false] := eqt_struct (d := d + 2) Try.underlying27 (by kernel_rfl) (.cons (i := ⟨1, 8, .int .i64, [.int .i64 0], false⟩) rfl (by decide) ty3 rfl (by simp [Ty.agg]) (eqt3 (d + 1)) (.cons (i := ⟨3, 32, .st [(0, 3), (1, 3), (2, 9)], [.int .i64 0, .int .i64 0, .string ⟨#[]⟩], true⟩) rfl (by decide) ty25 rfl (by simp [Ty.agg]) (eqt25 (d + 0)) (.cons (i := ⟨3, 32, .st [(0, 3), (1, 9), (2, 4)], [.int .i64 0, .string ⟨#[]⟩, .bool false], true⟩) rfl (by decide) ty23 rfl (by simp [Ty.agg]) (eqt23 (d + 0)) (.nil))))
theorem ty27 : TyOk Try.prog 27 ⟨7, 72, .st [(0, 3), (1, 25), (4, 23)], [.int .i64 0, .int .i64 0, .int .i64 0, .string ⟨#[]⟩, .int .i64 0, .string ⟨#[]⟩, .bool false], true⟩ := ⟨info_of (by kernel_rfl), (fields_of (by kernel_rfl)), fun _ => ⟨by kernel_rfl, fun xs ys b w => eqt27 9997 xs ys b w⟩⟩
theorem ty28 : TyOk Try.prog 28 ⟨1, 24, .sl 99, [.slice none 0 0], false⟩ := ⟨info_of (by kernel_rfl), (by kernel_rfl : Try.prog.underlying 28 = some (.slice 99)), fun h => by cases h⟩
theorem ty29 : TyOk Try.prog 29 ⟨1, 24, .sl 99, [.slice none 0 0], false⟩ := ⟨info_of (by kernel_rfl), (by kernel_rfl : Try.prog.underlying 29 = some (.slice 99)), fun h => by cases h⟩
theorem ty30 : TyOk Try.prog 30 ⟨1, 24, .sl 52, [.slice none 0 0], false⟩ := ⟨info_of (by kernel_rfl), (by kernel_rfl : Try.prog.underlying 30 = some (.slice 52)), fun h => by cases h⟩
theorem ty31 : TyOk Try.prog 31 ⟨1, 24, .sl 34, [.slice none 0 0], false⟩ := ⟨info_of (by kernel_rfl), (by kernel_rfl : Try.prog.underlying 31 = some (.slice 34)), fun h => by cases h⟩
theorem ty32 : TyOk Try.prog 32 ⟨1, 24, .sl 62, [.slice none 0 0], false⟩ := ⟨info_of (by kernel_rfl), (by kernel_rfl : Try.prog.underlying 32 = some (.slice 62)), fun h => by cases h⟩
theorem ty33 : TyOk Try.prog 33 ⟨7, 128, .st [(0, 9), (1, 4), (2, 3), (3, 29), (4, 30), (5, 31), (6, 32)], [.string ⟨#[]⟩, .bool false, .int .i64 0, .slice none 0 0, .slice none 0 0, .slice none 0 0, .slice none 0 0], false⟩ := ⟨info_of (by kernel_rfl), (fields_of (by kernel_rfl)), fun h => by cases h⟩
theorem ty34 : TyOk Try.prog 34 ⟨7, 128, .st [(0, 9), (1, 4), (2, 3), (3, 29), (4, 30), (5, 31), (6, 32)], [.string ⟨#[]⟩, .bool false, .int .i64 0, .slice none 0 0, .slice none 0 0, .slice none 0 0, .slice none 0 0], false⟩ := ⟨info_of (by kernel_rfl), (fields_of (by kernel_rfl)), fun h => by cases h⟩
theorem eqt35 (d : Nat) : EqT Try.prog (d + 1) 35 false [.int .i64 0] := eqt_int d 0 (by kernel_rfl)
theorem ty35 : TyOk Try.prog 35 ⟨1, 8, .int .i64, [.int .i64 0], false⟩ := ⟨info_of (by kernel_rfl), (by kernel_rfl : Try.prog.underlying 35 = some (.int .i64)), fun h => by cases h⟩
theorem ty37 : TyOk Try.prog 37 ⟨1, 24, .sl 27, [.slice none 0 0], false⟩ := ⟨info_of (by kernel_rfl), (by kernel_rfl : Try.prog.underlying 37 = some (.slice 27)), fun h => by cases h⟩
theorem ty51 : TyOk Try.prog 51 ⟨5, 96, .st [(0, 9), (1, 4), (2, 29), (3, 37), (4, 32)], [.string ⟨#[]⟩, .bool false, .slice none 0 0, .slice none 0 0, .slice none 0 0], false⟩ := ⟨info_of (by kernel_rfl), (fields_of (by kernel_rfl)), fun h => by cases h⟩
theorem ty52 : TyOk Try.prog 52 ⟨5, 96, .st [(0, 9), (1, 4), (2, 29), (3, 37), (4, 32)], [.string ⟨#[]⟩, .bool false, .slice none 0 0, .slice none 0 0, .slice none 0 0], false⟩ := ⟨info_of (by kernel_rfl), (fields_of (by kernel_rfl)), fun h => by cases h⟩
theorem ty55 : TyOk Try.prog 55 ⟨1, 24, .sl 5, [.slice none 0 0], false⟩ := ⟨info_of (by kernel_rfl), (by kernel_rfl : Try.prog.underlying 55 = some (.slice 5)), fun h => by cases h⟩
theorem ty57 : TyOk Try.prog 57 ⟨1, 8, .ptr, [.pointer none], false⟩ := ⟨info_of (by kernel_rfl), (ptr_of (by kernel_rfl)), fun h => by cases h⟩
theorem eqt61 (d : Nat) : EqT Try.prog (d + 2) 61 true [.int .i64 0, .int .i64 0, .string ⟨#[]⟩] := eqt_struct (d := d + 1) Try.underlying61 (by kernel_rfl) (.cons (i := ⟨1, 8, .int .i64, [.int .i64 0], false⟩) rfl (by decide) ty3 rfl (by simp [Ty.agg]) (eqt3 (d + 0)) (.cons (i := ⟨1, 8, .int .i64, [.int .i64 0], false⟩) rfl (by decide) ty3 rfl (by simp [Ty.agg]) (eqt3 (d + 0)) (.cons (i := ⟨1, 16, .str, [.string ⟨#[]⟩], false⟩) rfl (by decide) ty9 rfl (by simp [Ty.agg]) (eqt9 (d + 0)) (.nil))))
theorem ty61 : TyOk Try.prog 61 ⟨3, 32, .st [(0, 3), (1, 3), (2, 9)], [.int .i64 0, .int .i64 0, .string ⟨#[]⟩], true⟩ := ⟨info_of (by kernel_rfl), (fields_of (by kernel_rfl)), fun _ => ⟨by kernel_rfl, fun xs ys b w => eqt61 9998 xs ys b w⟩⟩
theorem eqt62 (d : Nat) : EqT Try.prog (d + 2) 62 true [.int .i64 0, .int .i64 0, .string ⟨#[]⟩] := eqt_struct (d := d + 1) Try.underlying62 (by kernel_rfl) (.cons (i := ⟨1, 8, .int .i64, [.int .i64 0], false⟩) rfl (by decide) ty3 rfl (by simp [Ty.agg]) (eqt3 (d + 0)) (.cons (i := ⟨1, 8, .int .i64, [.int .i64 0], false⟩) rfl (by decide) ty3 rfl (by simp [Ty.agg]) (eqt3 (d + 0)) (.cons (i := ⟨1, 16, .str, [.string ⟨#[]⟩], false⟩) rfl (by decide) ty9 rfl (by simp [Ty.agg]) (eqt9 (d + 0)) (.nil))))
theorem ty62 : TyOk Try.prog 62 ⟨3, 32, .st [(0, 3), (1, 3), (2, 9)], [.int .i64 0, .int .i64 0, .string ⟨#[]⟩], true⟩ := ⟨info_of (by kernel_rfl), (fields_of (by kernel_rfl)), fun _ => ⟨by kernel_rfl, fun xs ys b w => eqt62 9998 xs ys b w⟩⟩
theorem ty71 : TyOk Try.prog 71 ⟨1, 24, .sl 25, [.slice none 0 0], false⟩ := ⟨info_of (by kernel_rfl), (by kernel_rfl : Try.prog.underlying 71 = some (.slice 25)), fun h => by cases h⟩
theorem ty72 : TyOk Try.prog 72 ⟨3, 48, .st [(0, 3), (1, 9), (2, 71)], [.int .i64 0, .string ⟨#[]⟩, .slice none 0 0], false⟩ := ⟨info_of (by kernel_rfl), (fields_of (by kernel_rfl)), fun h => by cases h⟩
theorem ty73 : TyOk Try.prog 73 ⟨3, 48, .st [(0, 3), (1, 9), (2, 71)], [.int .i64 0, .string ⟨#[]⟩, .slice none 0 0], false⟩ := ⟨info_of (by kernel_rfl), (fields_of (by kernel_rfl)), fun h => by cases h⟩
theorem ty74 : TyOk Try.prog 74 ⟨1, 24, .sl 73, [.slice none 0 0], false⟩ := ⟨info_of (by kernel_rfl), (by kernel_rfl : Try.prog.underlying 74 = some (.slice 73)), fun h => by cases h⟩
theorem ty80 : TyOk Try.prog 80 ⟨1, 24, .sl 4, [.slice none 0 0], false⟩ := ⟨info_of (by kernel_rfl), (by kernel_rfl : Try.prog.underlying 80 = some (.slice 4)), fun h => by cases h⟩
theorem ty83 : TyOk Try.prog 83 ⟨1, 8, .ptr, [.pointer none], false⟩ := ⟨info_of (by kernel_rfl), (ptr_of (by kernel_rfl)), fun h => by cases h⟩
theorem ty84 : TyOk Try.prog 84 ⟨1, 8, .mp 9 133, [.map none], false⟩ := ⟨info_of (by kernel_rfl), (by kernel_rfl : Try.prog.underlying 84 = some (.map 9 133)), fun h => by cases h⟩
theorem ty85 : TyOk Try.prog 85 ⟨2, 16, .st [(0, 84), (1, 3)], [.map none, .int .i64 0], false⟩ := ⟨info_of (by kernel_rfl), (fields_of (by kernel_rfl)), fun h => by cases h⟩
theorem ty86 : TyOk Try.prog 86 ⟨2, 16, .st [(0, 84), (1, 3)], [.map none, .int .i64 0], false⟩ := ⟨info_of (by kernel_rfl), (fields_of (by kernel_rfl)), fun h => by cases h⟩
theorem ty88 : TyOk Try.prog 88 ⟨1, 8, .ptr, [.pointer none], false⟩ := ⟨info_of (by kernel_rfl), (ptr_of (by kernel_rfl)), fun h => by cases h⟩
theorem eqt89 (d : Nat) : EqT Try.prog (d + 2) 89 true [.int .i64 0] := eqt_struct (d := d + 1) Try.underlying89 (by kernel_rfl) (.cons (i := ⟨1, 8, .int .i64, [.int .i64 0], false⟩) rfl (by decide) ty3 rfl (by simp [Ty.agg]) (eqt3 (d + 0)) (.nil))
theorem ty89 : TyOk Try.prog 89 ⟨1, 8, .st [(0, 3)], [.int .i64 0], true⟩ := ⟨info_of (by kernel_rfl), (fields_of (by kernel_rfl)), fun _ => ⟨by kernel_rfl, fun xs ys b w => eqt89 9998 xs ys b w⟩⟩
theorem eqt90 (d : Nat) : EqT Try.prog (d + 2) 90 true [.int .i64 0] := eqt_struct (d := d + 1) Try.underlying90 (by kernel_rfl) (.cons (i := ⟨1, 8, .int .i64, [.int .i64 0], false⟩) rfl (by decide) ty3 rfl (by simp [Ty.agg]) (eqt3 (d + 0)) (.nil))
theorem ty90 : TyOk Try.prog 90 ⟨1, 8, .st [(0, 3)], [.int .i64 0], true⟩ := ⟨info_of (by kernel_rfl), (fields_of (by kernel_rfl)), fun _ => ⟨by kernel_rfl, fun xs ys b w => eqt90 9998 xs ys b w⟩⟩
theorem ty92 : TyOk Try.prog 92 ⟨1, 8, .ptr, [.pointer none], false⟩ := ⟨info_of (by kernel_rfl), (ptr_of (by kernel_rfl)), fun h => by cases h⟩
theorem ty93 : TyOk Try.prog 93 ⟨1, 24, .sl 9, [.slice none 0 0], false⟩ := ⟨info_of (by kernel_rfl), (by kernel_rfl : Try.prog.underlying 93 = some (.slice 9)), fun h => by cases h⟩
theorem ty94 : TyOk Try.prog 94 ⟨2, 32, .st [(0, 93), (1, 3)], [.slice none 0 0, .int .i64 0], false⟩ := ⟨info_of (by kernel_rfl), (fields_of (by kernel_rfl)), fun h => by cases h⟩
theorem ty95 : TyOk Try.prog 95 ⟨2, 32, .st [(0, 93), (1, 3)], [.slice none 0 0, .int .i64 0], false⟩ := ⟨info_of (by kernel_rfl), (fields_of (by kernel_rfl)), fun h => by cases h⟩
theorem ty99 : TyOk Try.prog 99 ⟨1, 24, .sl 101, [.slice none 0 0], false⟩ := ⟨info_of (by kernel_rfl), (by kernel_rfl : Try.prog.underlying 99 = some (.slice 101)), fun h => by cases h⟩
theorem ty101 : TyOk Try.prog 101 ⟨1, 24, .sl 103, [.slice none 0 0], false⟩ := ⟨info_of (by kernel_rfl), (by kernel_rfl : Try.prog.underlying 101 = some (.slice 103)), fun h => by cases h⟩
theorem eqt102 (d : Nat) : EqT Try.prog (d + 3) 102 true [.int .i64 0, .string ⟨#[]⟩, .bool false, .int .i64 0, .int .i64 0, .int .i64 0, .string ⟨#[]⟩] := eqt_struct (d := d + 2) Try.underlying102 (by kernel_rfl) (.cons (i := ⟨3, 32, .st [(0, 3), (1, 9), (2, 4)], [.int .i64 0, .string ⟨#[]⟩, .bool false], true⟩) rfl (by decide) ty23 rfl (by simp [Ty.agg]) (eqt23 (d + 0)) (.cons (i := ⟨1, 8, .int .i64, [.int .i64 0], false⟩) rfl (by decide) ty3 rfl (by simp [Ty.agg]) (eqt3 (d + 1)) (.cons (i := ⟨3, 32, .st [(0, 3), (1, 3), (2, 9)], [.int .i64 0, .int .i64 0, .string ⟨#[]⟩], true⟩) rfl (by decide) ty25 rfl (by simp [Ty.agg]) (eqt25 (d + 0)) (.nil))))
theorem ty102 : TyOk Try.prog 102 ⟨7, 72, .st [(0, 23), (3, 3), (4, 25)], [.int .i64 0, .string ⟨#[]⟩, .bool false, .int .i64 0, .int .i64 0, .int .i64 0, .string ⟨#[]⟩], true⟩ := ⟨info_of (by kernel_rfl), (fields_of (by kernel_rfl)), fun _ => ⟨by kernel_rfl, fun xs ys b w => eqt102 9997 xs ys b w⟩⟩
theorem eqt103 (d : Nat) : EqT Try.prog (d + 3) 103 true [.int .i64 0, .string ⟨#[]⟩, .bool false, .int .i64 0, .int .i64 0, .int .i64 0, .string ⟨#[]⟩] := eqt_struct (d := d + 2) Try.underlying103 (by kernel_rfl) (.cons (i := ⟨3, 32, .st [(0, 3), (1, 9), (2, 4)], [.int .i64 0, .string ⟨#[]⟩, .bool false], true⟩) rfl (by decide) ty23 rfl (by simp [Ty.agg]) (eqt23 (d + 0)) (.cons (i := ⟨1, 8, .int .i64, [.int .i64 0], false⟩) rfl (by decide) ty3 rfl (by simp [Ty.agg]) (eqt3 (d + 1)) (.cons (i := ⟨3, 32, .st [(0, 3), (1, 3), (2, 9)], [.int .i64 0, .int .i64 0, .string ⟨#[]⟩], true⟩) rfl (by decide) ty25 rfl (by simp [Ty.agg]) (eqt25 (d + 0)) (.nil))))
theorem ty103 : TyOk Try.prog 103 ⟨7, 72, .st [(0, 23), (3, 3), (4, 25)], [.int .i64 0, .string ⟨#[]⟩, .bool false, .int .i64 0, .int .i64 0, .int .i64 0, .string ⟨#[]⟩], true⟩ := ⟨info_of (by kernel_rfl), (fields_of (by kernel_rfl)), fun _ => ⟨by kernel_rfl, fun xs ys b w => eqt103 9997 xs ys b w⟩⟩
theorem ty106 : TyOk Try.prog 106 ⟨1, 24, .sl 109, [.slice none 0 0], false⟩ := ⟨info_of (by kernel_rfl), (by kernel_rfl : Try.prog.underlying 106 = some (.slice 109)), fun h => by cases h⟩
theorem ty108 : TyOk Try.prog 108 ⟨5, 64, .st [(0, 71), (1, 25), (4, 35)], [.slice none 0 0, .int .i64 0, .int .i64 0, .string ⟨#[]⟩, .int .i64 0], false⟩ := ⟨info_of (by kernel_rfl), (fields_of (by kernel_rfl)), fun h => by cases h⟩
theorem ty109 : TyOk Try.prog 109 ⟨5, 64, .st [(0, 71), (1, 25), (4, 35)], [.slice none 0 0, .int .i64 0, .int .i64 0, .string ⟨#[]⟩, .int .i64 0], false⟩ := ⟨info_of (by kernel_rfl), (fields_of (by kernel_rfl)), fun h => by cases h⟩
theorem ty133 : TyOk Try.prog 133 ⟨0, 0, .st [], [], false⟩ := ⟨info_of (by kernel_rfl), (fields_of (by kernel_rfl)), fun h => by cases h⟩
theorem ty146 : TyOk Try.prog 146 ⟨1, 4, .int .u32, [.int .u32 0], false⟩ := ⟨info_of (by kernel_rfl), (by kernel_rfl : Try.prog.underlying 146 = some (.int .u32)), fun h => by cases h⟩
theorem ty150 : TyOk Try.prog 150 ⟨1, 8, .ptr, [.pointer none], false⟩ := ⟨info_of (by kernel_rfl), (ptr_of (by kernel_rfl)), fun h => by cases h⟩
def TTab : TT := [(2, ⟨1, 8, .int .i64, [.int .i64 0], false⟩),
  (3, ⟨1, 8, .int .i64, [.int .i64 0], false⟩),
  (4, ⟨1, 1, .bool, [.bool false], false⟩),
  (9, ⟨1, 16, .str, [.string ⟨#[]⟩], false⟩),
  (35, ⟨1, 8, .int .i64, [.int .i64 0], false⟩),
  (5, ⟨1, 1, .int .u8, [.int .u8 0], false⟩),
  (12, ⟨1, 8, .int .u64, [.int .u64 0], false⟩),
  (13, ⟨2, 24, .st [(0, 9), (1, 12)], [.string ⟨#[]⟩, .int .u64 0], false⟩),
  (21, ⟨1, 4, .int .i32, [.int .i32 0], false⟩),
  (22, ⟨3, 32, .st [(0, 3), (1, 9), (2, 4)], [.int .i64 0, .string ⟨#[]⟩, .bool false], true⟩),
  (23, ⟨3, 32, .st [(0, 3), (1, 9), (2, 4)], [.int .i64 0, .string ⟨#[]⟩, .bool false], true⟩),
  (24, ⟨3, 32, .st [(0, 3), (1, 3), (2, 9)], [.int .i64 0, .int .i64 0, .string ⟨#[]⟩], true⟩),
  (25, ⟨3, 32, .st [(0, 3), (1, 3), (2, 9)], [.int .i64 0, .int .i64 0, .string ⟨#[]⟩], true⟩),
  (26, ⟨7, 72, .st [(0, 3), (1, 25), (4, 23)], [.int .i64 0, .int .i64 0, .int .i64 0, .string ⟨#[]⟩, .int .i64 0, .string ⟨#[]⟩, .bool false], true⟩),
  (27, ⟨7, 72, .st [(0, 3), (1, 25), (4, 23)], [.int .i64 0, .int .i64 0, .int .i64 0, .string ⟨#[]⟩, .int .i64 0, .string ⟨#[]⟩, .bool false], true⟩),
  (28, ⟨1, 24, .sl 99, [.slice none 0 0], false⟩),
  (29, ⟨1, 24, .sl 99, [.slice none 0 0], false⟩),
  (30, ⟨1, 24, .sl 52, [.slice none 0 0], false⟩),
  (31, ⟨1, 24, .sl 34, [.slice none 0 0], false⟩),
  (32, ⟨1, 24, .sl 62, [.slice none 0 0], false⟩),
  (33, ⟨7, 128, .st [(0, 9), (1, 4), (2, 3), (3, 29), (4, 30), (5, 31), (6, 32)], [.string ⟨#[]⟩, .bool false, .int .i64 0, .slice none 0 0, .slice none 0 0, .slice none 0 0, .slice none 0 0], false⟩),
  (34, ⟨7, 128, .st [(0, 9), (1, 4), (2, 3), (3, 29), (4, 30), (5, 31), (6, 32)], [.string ⟨#[]⟩, .bool false, .int .i64 0, .slice none 0 0, .slice none 0 0, .slice none 0 0, .slice none 0 0], false⟩),
  (37, ⟨1, 24, .sl 27, [.slice none 0 0], false⟩),
  (51, ⟨5, 96, .st [(0, 9), (1, 4), (2, 29), (3, 37), (4, 32)], [.string ⟨#[]⟩, .bool false, .slice none 0 0, .slice none 0 0, .slice none 0 0], false⟩),
  (52, ⟨5, 96, .st [(0, 9), (1, 4), (2, 29), (3, 37), (4, 32)], [.string ⟨#[]⟩, .bool false, .slice none 0 0, .slice none 0 0, .slice none 0 0], false⟩),
  (55, ⟨1, 24, .sl 5, [.slice none 0 0], false⟩),
  (57, ⟨1, 8, .ptr, [.pointer none], false⟩),
  (61, ⟨3, 32, .st [(0, 3), (1, 3), (2, 9)], [.int .i64 0, .int .i64 0, .string ⟨#[]⟩], true⟩),
  (62, ⟨3, 32, .st [(0, 3), (1, 3), (2, 9)], [.int .i64 0, .int .i64 0, .string ⟨#[]⟩], true⟩),
  (71, ⟨1, 24, .sl 25, [.slice none 0 0], false⟩),
  (72, ⟨3, 48, .st [(0, 3), (1, 9), (2, 71)], [.int .i64 0, .string ⟨#[]⟩, .slice none 0 0], false⟩),
  (73, ⟨3, 48, .st [(0, 3), (1, 9), (2, 71)], [.int .i64 0, .string ⟨#[]⟩, .slice none 0 0], false⟩),
  (74, ⟨1, 24, .sl 73, [.slice none 0 0], false⟩),
  (80, ⟨1, 24, .sl 4, [.slice none 0 0], false⟩),
  (83, ⟨1, 8, .ptr, [.pointer none], false⟩),
  (84, ⟨1, 8, .mp 9 133, [.map none], false⟩),
  (85, ⟨2, 16, .st [(0, 84), (1, 3)], [.map none, .int .i64 0], false⟩),
  (86, ⟨2, 16, .st [(0, 84), (1, 3)], [.map none, .int .i64 0], false⟩),
  (88, ⟨1, 8, .ptr, [.pointer none], false⟩),
  (89, ⟨1, 8, .st [(0, 3)], [.int .i64 0], true⟩),
  (90, ⟨1, 8, .st [(0, 3)], [.int .i64 0], true⟩),
  (92, ⟨1, 8, .ptr, [.pointer none], false⟩),
  (93, ⟨1, 24, .sl 9, [.slice none 0 0], false⟩),
  (94, ⟨2, 32, .st [(0, 93), (1, 3)], [.slice none 0 0, .int .i64 0], false⟩),
  (95, ⟨2, 32, .st [(0, 93), (1, 3)], [.slice none 0 0, .int .i64 0], false⟩),
  (99, ⟨1, 24, .sl 101, [.slice none 0 0], false⟩),
  (101, ⟨1, 24, .sl 103, [.slice none 0 0], false⟩),
  (102, ⟨7, 72, .st [(0, 23), (3, 3), (4, 25)], [.int .i64 0, .string ⟨#[]⟩, .bool false, .int .i64 0, .int .i64 0, .int .i64 0, .string ⟨#[]⟩], true⟩),
  (103, ⟨7, 72, .st [(0, 23), (3, 3), (4, 25)], [.int .i64 0, .string ⟨#[]⟩, .bool false, .int .i64 0, .int .i64 0, .int .i64 0, .string ⟨#[]⟩], true⟩),
  (106, ⟨1, 24, .sl 109, [.slice none 0 0], false⟩),
  (108, ⟨5, 64, .st [(0, 71), (1, 25), (4, 35)], [.slice none 0 0, .int .i64 0, .int .i64 0, .string ⟨#[]⟩, .int .i64 0], false⟩),
  (109, ⟨5, 64, .st [(0, 71), (1, 25), (4, 35)], [.slice none 0 0, .int .i64 0, .int .i64 0, .string ⟨#[]⟩, .int .i64 0], false⟩),
  (133, ⟨0, 0, .st [], [], false⟩),
  (146, ⟨1, 4, .int .u32, [.int .u32 0], false⟩),
  (150, ⟨1, 8, .ptr, [.pointer none], false⟩)]
theorem ttab_ok : TypesOk Try.prog TTab :=
  typesOk_cons ty2 <| typesOk_cons ty3 <| typesOk_cons ty4 <| typesOk_cons ty9 <| typesOk_cons ty35 <| typesOk_cons ty5 <| typesOk_cons ty12 <| typesOk_cons ty13 <| typesOk_cons ty21 <| typesOk_cons ty22 <| typesOk_cons ty23 <| typesOk_cons ty24 <| typesOk_cons ty25 <| typesOk_cons ty26 <| typesOk_cons ty27 <| typesOk_cons ty28 <| typesOk_cons ty29 <| typesOk_cons ty30 <| typesOk_cons ty31 <| typesOk_cons ty32 <| typesOk_cons ty33 <| typesOk_cons ty34 <| typesOk_cons ty37 <| typesOk_cons ty51 <| typesOk_cons ty52 <| typesOk_cons ty55 <| typesOk_cons ty57 <| typesOk_cons ty61 <| typesOk_cons ty62 <| typesOk_cons ty71 <| typesOk_cons ty72 <| typesOk_cons ty73 <| typesOk_cons ty74 <| typesOk_cons ty80 <| typesOk_cons ty83 <| typesOk_cons ty84 <| typesOk_cons ty85 <| typesOk_cons ty86 <| typesOk_cons ty88 <| typesOk_cons ty89 <| typesOk_cons ty90 <| typesOk_cons ty92 <| typesOk_cons ty93 <| typesOk_cons ty94 <| typesOk_cons ty95 <| typesOk_cons ty99 <| typesOk_cons ty101 <| typesOk_cons ty102 <| typesOk_cons ty103 <| typesOk_cons ty106 <| typesOk_cons ty108 <| typesOk_cons ty109 <| typesOk_cons ty133 <| typesOk_cons ty146 <| typesOk_cons ty150 <| typesOk_nil
end Go.Proofs.Ytincpceccfoldaa
