/-
  Shades: the types of this seat's program (printed by a program of ours).
-/
import Derived.Test.YtnienipaicckmaaChecked
import Derived.Test.YtnienipaicckmaaShade4
namespace Go.Proofs.Ytnienipaicckmaa
open Go.RowKit
theorem eqt2 (d : Nat) : EqT Try.prog (d + 1) 2 false [.int .i64 0] := eqt_int d 0 (by kernel_rfl)
theorem ty2 : TyOk Try.prog 2 ⟨1, 8, .int .i64, [.int .i64 0], false⟩ := ⟨info_of (by kernel_rfl), (by kernel_rfl : Try.prog.underlying 2 = some (.int .i64)), fun h => by cases h⟩
theorem eqt3 (d : Nat) : EqT Try.prog (d + 1) 3 false [.int .i64 0] := eqt_int d 0 (by kernel_rfl)
theorem ty3 : TyOk Try.prog 3 ⟨1, 8, .int .i64, [.int .i64 0], false⟩ := ⟨info_of (by kernel_rfl), (by kernel_rfl : Try.prog.underlying 3 = some (.int .i64)), fun h => by cases h⟩
theorem eqt4 (d : Nat) : EqT Try.prog (d + 1) 4 false [.bool false] := eqt_bool d false (by kernel_rfl)
theorem ty4 : TyOk Try.prog 4 ⟨1, 1, .bool, [.bool false], false⟩ := ⟨info_of (by kernel_rfl), (by kernel_rfl : Try.prog.underlying 4 = some (.bool)), fun h => by cases h⟩
theorem ty5 : TyOk Try.prog 5 ⟨1, 1, .int .u8, [.int .u8 0], false⟩ := ⟨info_of (by kernel_rfl), (by kernel_rfl : Try.prog.underlying 5 = some (.int .u8)), fun h => by cases h⟩
theorem eqt9 (d : Nat) : EqT Try.prog (d + 1) 9 false [.string ⟨#[]⟩] := eqt_str d _ (by kernel_rfl)
theorem ty9 : TyOk Try.prog 9 ⟨1, 16, .str, [.string ⟨#[]⟩], false⟩ := ⟨info_of (by kernel_rfl), (by kernel_rfl : Try.prog.underlying 9 = some (.string)), fun h => by cases h⟩
theorem ty12 : TyOk Try.prog 12 ⟨1, 8, .int .u64, [.int .u64 0], false⟩ := ⟨info_of (by kernel_rfl), (by kernel_rfl : Try.prog.underlying 12 = some (.int .u64)), fun h => by cases h⟩
theorem ty13 : TyOk Try.prog 13 ⟨2, 24, .st [(0, 9), (1, 12)], [.string ⟨#[]⟩, .int .u64 0], false⟩ := ⟨info_of (by kernel_rfl), (fields_of (by kernel_rfl)), fun h => by cases h⟩
theorem ty21 : TyOk Try.prog 21 ⟨1, 4, .int .i32, [.int .i32 0], false⟩ := ⟨info_of (by kernel_rfl), (by kernel_rfl : Try.prog.underlying 21 = some (.int .i32)), fun h => by cases h⟩
theorem eqt22 (d : Nat) : EqT Try.prog (d + 2) 22 true [.int .i64 0, .string ⟨#[]⟩, .bool false] := eqt_struct (d := d + 1) Try.underlying22 (by kernel_rfl) (.cons (i := ⟨1, 8, .int .i64, [.int .i64 0], false⟩) rfl (by decide) ty3 rfl (by simp [Ty.agg]) (eqt3 (d + 0)) (.cons (i := ⟨1, 16, .str, [.string ⟨#[]⟩], false⟩) rfl (by decide) ty9 rfl (by simp [Ty.agg]) (eqt9 (d + 0)) (.cons (i := ⟨1, 1, .bool, [.bool false], false⟩) rfl (by decide) ty4 rfl (by simp [Ty.agg]) (eqt4 (d + 0)) (.nil))))
theorem ty22 : TyOk Try.prog 22 ⟨3, 32, .st [(0, 3), (1, 9), (2, 4)], [.int .i64 0, .string ⟨#[]⟩, .bool false], true⟩ := ⟨info_of (by kernel_rfl), (fields_of (by kernel_rfl)), fun _ => ⟨by kernel_rfl, fun xs ys b w => eqt22 9998 xs ys b w⟩⟩
theorem eqt23 (d : Nat) : EqT Try.prog (d + 2) 23 true [.int .i64 0, .string ⟨#[]⟩, .bool false] := eqt_struct (d := d + 1) Try.underlying23 (by kernel_rfl) (.cons (i := ⟨1, 8, .int .i64, [.int .i64 0], false⟩) rfl (by decide) ty3 rfl (by simp [Ty.agg]) (eqt3 (d + 0)) (.cons (i := ⟨1, 16, .str, [.string ⟨#[]⟩], false⟩) rfl (by decide) ty9 rfl (by simp [Ty.agg]) (eqt9 (d + 0)) (.cons (i := ⟨1, 1, .bool, [.bool false], false⟩) rfl (by decide) ty4 rfl (by simp [Ty.agg]) (eqt4 (d + 0)) (.nil))))
theorem ty23 : TyOk Try.prog 23 ⟨3, 32, .st [(0, 3), (1, 9), (2, 4)], [.int .i64 0, .string ⟨#[]⟩, .bool false], true⟩ := ⟨info_of (by kernel_rfl), (fields_of (by kernel_rfl)), fun _ => ⟨by kernel_rfl, fun xs ys b w => eqt23 9998 xs ys b w⟩⟩
theorem eqt24 (d : Nat) : EqT Try.prog (d + 2) 24 true [.int .i64 0, .int .i64 0, .string ⟨#[]⟩] := eqt_struct (d := d + 1) Try.underlying24 (by kernel_rfl) (.cons (i := ⟨1, 8, .int .i64, [.int .i64 0], false⟩) rfl (by decide) ty3 rfl (by simp [Ty.agg]) (eqt3 (d + 0)) (.cons (i := ⟨1, 8, .int .i64, [.int .i64 0], false⟩) rfl (by decide) ty3 rfl (by simp [Ty.agg]) (eqt3 (d + 0)) (.cons (i := ⟨1, 16, .str, [.string ⟨#[]⟩], false⟩) rfl (by decide) ty9 rfl (by simp [Ty.agg]) (eqt9 (d + 0)) (.nil))))
theorem ty24 : TyOk Try.prog 24 ⟨3, 32, .st [(0, 3), (1, 3), (2, 9)], [.int .i64 0, .int .i64 0, .string ⟨#[]⟩], true⟩ := ⟨info_of (by kernel_rfl), (fields_of (by kernel_rfl)), fun _ => ⟨by kernel_rfl, fun xs ys b w => eqt24 9998 xs ys b w⟩⟩
theorem eqt25 (d : Nat) : EqT Try.prog (d + 2) 25 true [.int .i64 0, .int .i64 0, .string ⟨#[]⟩] := eqt_struct (d := d + 1) Try.underlying25 (by kernel_rfl) (.cons (i := ⟨1, 8, .int .i64, [.int .i64 0], false⟩) rfl (by decide) ty3 rfl (by simp [Ty.agg]) (eqt3 (d + 0)) (.cons (i := ⟨1, 8, .int .i64, [.int .i64 0], false⟩) rfl (by decide) ty3 rfl (by simp [Ty.agg]) (eqt3 (d + 0)) (.cons (i := ⟨1, 16, .str, [.string ⟨#[]⟩], false⟩) rfl (by decide) ty9 rfl (by simp [Ty.agg]) (eqt9 (d + 0)) (.nil))))
theorem ty25 : TyOk Try.prog 25 ⟨3, 32, .st [(0, 3), (1, 3), (2, 9)], [.int .i64 0, .int .i64 0, .string ⟨#[]⟩], true⟩ := ⟨info_of (by kernel_rfl), (fields_of (by kernel_rfl)), fun _ => ⟨by kernel_rfl, fun xs ys b w => eqt25 9998 xs ys b w⟩⟩
theorem eqt27 (d : Nat) : EqT Try.prog (d + 3) 27 true [.int .i64 0, .string ⟨#[]⟩, .bool false, .int .i64 0, .int .i64 0, .int .i64 0, .string ⟨#[]⟩] := eqt_struct (d := d + 2) Try.underlying27 (by kernel_rfl) (.cons (i := ⟨3, 32, .st [(0, 3), (1, 9), (2, 4)], [.int .i64 0, .string ⟨#[]⟩, .bool false], true⟩) rfl (by decide) ty23 rfl (by simp [Ty.agg]) (eqt23 (d + 0)) (.cons (i := ⟨1, 8, .int .i64, [.int .i64 0], false⟩) rfl (by decide) ty3 rfl (by simp [Ty.agg]) (eqt3 (d + 1)) (.cons (i := ⟨3, 32, .st [(0, 3), (1, 3), (2, 9)], [.int .i64 0, .int .i64 0, .string ⟨#[]⟩], true⟩) rfl (by decide) ty25 rfl (by simp [Ty.agg]) (eqt25 (d + 0)) (.nil))))
theorem ty27 : TyOk Try.prog 27 ⟨7, 72, .st [(0, 23), (3, 3), (4, 25)], [.int .i64 0, .string ⟨#[]⟩, .bool false, .int .i64 0, .int .i64 0, .int .i64 0, .string ⟨#[]⟩], true⟩ := ⟨info_of (by kernel_rfl), (fields_of (by kernel_rfl)), fun _ => ⟨by kernel_rfl, fun xs ys b w => eqt27 9997 xs ys b w⟩⟩
theorem eqt28 (d : Nat) : EqT Try.prog (d + 3) 28 true [.int .i64 0, .string ⟨#[]⟩, .bool false, .int .i64 0, .int .i64 0, .int .i64 0, .string ⟨#[]⟩] := eqt_struct (d := d + 2) Try.underlying28 (by kernel_rfl) (.cons (i := ⟨3, 32, .st [(0, 3), (1, 9), (2, 4)], [.int .i64 0, .string ⟨#[]⟩, .bool false], true⟩) rfl (by decide) ty23 rfl (by simp [Ty.agg]) (eqt23 (d + 0)) (.cons (i := ⟨1, 8, .int .i64, [.int .i64 0], false⟩) rfl (by decide) ty3 rfl (by simp [Ty.agg]) (eqt3 (d + 1)) (.cons (i := ⟨3, 32, .st [(0, 3), (1, 3), (2, 9)], [.int .i64 0, .int .i64 0, .string ⟨#[]⟩], true⟩) rfl (by decide) ty25 rfl (by simp [Ty.agg]) (eqt25 (d + 0)) (.nil))))
theorem ty28 : TyOk Try.prog 28 ⟨7, 72, .st [(0, 23), (3, 3), (4, 25)], [.int .i64 0, .string ⟨#[]⟩, .bool false, .int .i64 0, .int .i64 0, .int .i64 0, .string ⟨#[]⟩], true⟩ := ⟨info_of (by kernel_rfl), (fields_of (by kernel_rfl)), fun _ => ⟨by kernel_rfl, fun xs ys b w => eqt28 9997 xs ys b w⟩⟩
theorem ty30 : TyOk Try.prog 30 ⟨1, 24, .sl 64, [.slice none 0 0], false⟩ := ⟨info_of (by kernel_rfl), (by kernel_rfl : Try.prog.underlying 30 = some (.slice 64)), fun h => by cases h⟩
theorem ty33 : TyOk Try.prog 33 ⟨1, 24, .sl 3, [.slice none 0 0], false⟩ := ⟨info_of (by kernel_rfl), (by kernel_rfl : Try.prog.underlying 33 = some (.slice 3)), fun h => by cases h⟩
theorem ty35 : TyOk Try.prog 35 ⟨1, 24, .sl 25, [.slice none 0 0], false⟩ := ⟨info_of (by kernel_rfl), (by kernel_rfl : Try.prog.underlying 35 = some (.slice 25)), fun h => by cases h⟩
theorem ty37 : TyOk Try.prog 37 ⟨1, 24, .sl 41, [.slice none 0 0], false⟩ := ⟨info_of (by kernel_rfl), (by kernel_rfl : Try.prog.underlying 37 = some (.slice 41)), fun h => by cases h⟩
theorem ty38 : TyOk Try.prog 38 ⟨1, 24, .sl 41, [.slice none 0 0], false⟩ := ⟨info_of (by kernel_rfl), (by kernel_rfl : Try.prog.underlying 38 = some (.slice 41)), fun h => by cases h⟩
theorem ty40 : TyOk Try.prog 40 ⟨1, 24, .sl 28, [.slice none 0 0], false⟩ := ⟨info_of (by kernel_rfl), (by kernel_rfl : Try.prog.underlying 40 = some (.slice 28)), fun h => by cases h⟩
theorem ty41 : TyOk Try.prog 41 ⟨1, 24, .sl 40, [.slice none 0 0], false⟩ := ⟨info_of (by kernel_rfl), (by kernel_rfl : Try.prog.underlying 41 = some (.slice 40)), fun h => by cases h⟩
theorem eqt48 (d : Nat) : EqT Try.prog (d + 1) 48 false [.int .i64 0] := eqt_int d 0 (by kernel_rfl)
theorem ty48 : TyOk Try.prog 48 ⟨1, 8, .int .i64, [.int .i64 0], false⟩ := ⟨info_of (by kernel_rfl), (by kernel_rfl : Try.prog.underlying 48 = some (.int .i64)), fun h => by cases h⟩
theorem ty63 : TyOk Try.prog 63 ⟨3, 48, .st [(0, 3), (1, 9), (2, 35)], [.int .i64 0, .string ⟨#[]⟩, .slice none 0 0], false⟩ := ⟨info_of (by kernel_rfl), (fields_of (by kernel_rfl)), fun h => by cases h⟩
theorem ty64 : TyOk Try.prog 64 ⟨3, 48, .st [(0, 3), (1, 9), (2, 35)], [.int .i64 0, .string ⟨#[]⟩, .slice none 0 0], false⟩ := ⟨info_of (by kernel_rfl), (fields_of (by kernel_rfl)), fun h => by cases h⟩
theorem ty73 : TyOk Try.prog 73 ⟨1, 24, .sl 100, [.slice none 0 0], false⟩ := ⟨info_of (by kernel_rfl), (by kernel_rfl : Try.prog.underlying 73 = some (.slice 100)), fun h => by cases h⟩
theorem ty74 : TyOk Try.prog 74 ⟨1, 24, .sl 77, [.slice none 0 0], false⟩ := ⟨info_of (by kernel_rfl), (by kernel_rfl : Try.prog.underlying 74 = some (.slice 77)), fun h => by cases h⟩
theorem ty75 : TyOk Try.prog 75 ⟨1, 24, .sl 104, [.slice none 0 0], false⟩ := ⟨info_of (by kernel_rfl), (by kernel_rfl : Try.prog.underlying 75 = some (.slice 104)), fun h => by cases h⟩
theorem ty76 : TyOk Try.prog 76 ⟨7, 128, .st [(0, 9), (1, 4), (2, 3), (3, 38), (4, 73), (5, 74), (6, 75)], [.string ⟨#[]⟩, .bool false, .int .i64 0, .slice none 0 0, .slice none 0 0, .slice none 0 0, .slice none 0 0], false⟩ := ⟨info_of (by kernel_rfl), (fields_of (by kernel_rfl)), fun h => by cases h⟩
theorem ty77 : TyOk Try.prog 77 ⟨7, 128, .st [(0, 9), (1, 4), (2, 3), (3, 38), (4, 73), (5, 74), (6, 75)], [.string ⟨#[]⟩, .bool false, .int .i64 0, .slice none 0 0, .slice none 0 0, .slice none 0 0, .slice none 0 0], false⟩ := ⟨info_of (by kernel_rfl), (fields_of (by kernel_rfl)), fun h => by cases h⟩
theorem ty78 : TyOk Try.prog 78 ⟨1, 8, .ptr, [.pointer none], false⟩ := ⟨info_of (by kernel_rfl), (ptr_of (by kernel_rfl)), fun h => by cases h⟩
theorem eqt79 (d : Nat) : EqT Try.prog (d + 2) 79 true [.int .i64 0] := eqt_struct (d := d + 1) Try.underlying79 (by kernel_rfl) (.cons (i := ⟨1, 8, .int .i64, [.int .i64 0], false⟩) rfl (by decide) ty3 rfl (by simp [Ty.agg]) (eqt3 (d + 0)) (.nil))
theorem ty79 : TyOk Try.prog 79 ⟨1, 8, .st [(0, 3)], [.int .i64 0], true⟩ := ⟨info_of (by kernel_rfl), (fields_of (by kernel_rfl)), fun _ => ⟨by kernel_rfl, fun xs ys b w => eqt79 9998 xs ys b w⟩⟩
theorem eqt80 (d : Nat) : EqT Try.prog (d + 2) 80 true [.int .i64 0] := eqt_struct (d := d + 1) Try.underlying80 (by kernel_rfl) (.cons (i := ⟨1, 8, .int .i64, [.int .i64 0], false⟩) rfl (by decide) ty3 rfl (by simp [Ty.agg]) (eqt3 (d + 0)) (.nil))
theorem ty80 : TyOk Try.prog 80 ⟨1, 8, .st [(0, 3)], [.int .i64 0], true⟩ := ⟨info_of (by kernel_rfl), (fields_of (by kernel_rfl)), fun _ => ⟨by kernel_rfl, fun xs ys b w => eqt80 9998 xs ys b w⟩⟩
theorem ty98 : TyOk Try.prog 98 ⟨1, 24, .sl 102, [.slice none 0 0], false⟩ := ⟨info_of (by kernel_rfl), (by kernel_rfl : Try.prog.underlying 98 = some (.slice 102)), fun h => by cases h⟩
theorem ty99 : TyOk Try.prog 99 ⟨5, 96, .st [(0, 9), (1, 4), (2, 38), (3, 98), (4, 75)], [.string ⟨#[]⟩, .bool false, .slice none 0 0, .slice none 0 0, .slice none 0 0], false⟩ := ⟨info_of (by kernel_rfl), (fields_of (by kernel_rfl)), fun h => by cases h⟩
theorem ty100 : TyOk Try.prog 100 ⟨5, 96, .st [(0, 9), (1, 4), (2, 38), (3, 98), (4, 75)], [.string ⟨#[]⟩, .bool false, .slice none 0 0, .slice none 0 0, .slice none 0 0], false⟩ := ⟨info_of (by kernel_rfl), (fields_of (by kernel_rfl)), fun h => by cases h⟩
theorem eqt101 (d : Nat) : EqT Try.prog (d + 3) 101 true [.int .i64 0, .int .i64 0, .int .i64 0, .string ⟨#[]⟩, .int .i64 0, .string ⟨#[]⟩, .bool false] := eqt_struct (d := d + 2) Try.underlying101 (by kernel_rfl) (.cons (i := ⟨1, 8, .int .i64, [.int .i64 0], false⟩) rfl (by decide) ty3 rfl (by simp [Ty.agg]) (eqt3 (d + 1)) (.cons (i := ⟨3, 32, .st [(0, 3), (1, 3), (2, 9)], [.int .i64 0, .int .i64 0, .string ⟨#[]⟩], true⟩) rfl (by decide) ty25 rfl (by simp [Ty.agg]) (eqt25 (d + 0)) (.cons (i := ⟨3, 32, .st [(0, 3), (1, 9), (2, 4)], [.int .i64 0, .string ⟨#[]⟩, .bool false], true⟩) rfl (by decide) ty23 rfl (by simp [Ty.agg]) (eqt23 (d + 0)) (.nil))))
theorem ty101 : TyOk Try.prog 101 ⟨7, 72, .st [(0, 3), (1, 25), (4, 23)], [.int .i64 0, .int .i64 0, .int .i64 0, .string ⟨#[]⟩, .int .i64 0, .string ⟨#[]⟩, .bool false], true⟩ := ⟨info_of (by kernel_rfl), (fields_of (by kernel_rfl)), fun _ => ⟨by kernel_rfl, fun xs ys b w => eqt101 9997 xs ys b w⟩⟩
theorem eqt102 (d : Nat) : EqT Try.prog (d + 3) 102 true [.int .i64 0, .int .i64 0, .int .i64 0, .string ⟨#[]⟩, .int .i64 0, .string ⟨#[]⟩, .bool false] := eqt_struct (d := d + 2) Try.underlying102 (by kernel_rfl) (.cons (i := ⟨1, 8, .int .i64, [.int .i64 0], false⟩) rfl (by decide) ty3 rfl (by simp [Ty.agg]) (eqt3 (d + 1)) (.cons (i := ⟨3, 32, .st [(0, 3), (1, 3), (2, 9)], [.int .i64 0, .int .i64 0, .string ⟨#[]⟩], true⟩) rfl (by decide) ty25 rfl (by simp [Ty.agg]) (eqt25 (d + 0)) (.cons (i := ⟨3, 32, .st [(0, 3), (1, 9), (2, 4)], [.int .i64 0, .string ⟨#[]⟩, .bool false], true⟩) rfl (by decide) ty23 rfl (by simp [Ty.agg]) (eqt23 (d + 0)) (.nil))))
theorem ty102 : TyOk Try.prog 102 ⟨7, 72, .st [(0, 3), (1, 25), (4, 23)], [.int .i64 0, .int .i64 0, .int .i64 0, .string ⟨#[]⟩, .int .i64 0, .string ⟨#[]⟩, .bool false], true⟩ := ⟨info_of (by kernel_rfl), (fields_of (by kernel_rfl)), fun _ => ⟨by kernel_rfl, fun xs ys b w => eqt102 9997 xs ys b w⟩⟩
theorem eqt103 (d : Nat) : EqT Try.prog (d + 2) 103 true [.int .i64 0, .int .i64 0, .string ⟨#[]⟩] := eqt_struct (d := d + 1) Try.underlying103 (by kernel_rfl) (.cons (i := ⟨1, 8, .int .i64, [.int .i64 0], false⟩) rfl (by decide) ty3 rfl (by simp [Ty.agg]) (eqt3 (d + 0)) (.cons (i := ⟨1, 8, .int .i64, [.int .i64 0], false⟩) rfl (by decide) ty3 rfl (by simp [Ty.agg]) (eqt3 (d + 0)) (.cons (i := ⟨1, 16, .str, [.string ⟨#[]⟩], false⟩) rfl (by decide) ty9 rfl (by simp [Ty.agg]) (eqt9 (d + 0)) (.nil))))
theorem ty103 : TyOk Try.prog 103 ⟨3, 32, .st [(0, 3), (1, 3), (2, 9)], [.int .i64 0, .int .i64 0, .string ⟨#[]⟩], true⟩ := ⟨info_of (by kernel_rfl), (fields_of (by kernel_rfl)), fun _ => ⟨by kernel_rfl, fun xs ys b w => eqt103 9998 xs ys b w⟩⟩
theorem eqt104 (d : Nat) : EqT Try.prog (d + 2) 104 true [.int .i64 0, .int .i64 0, .string ⟨#[]⟩] := eqt_struct (d := d + 1) Try.underlying104 (by kernel_rfl) (.cons (i := ⟨1, 8, .int .i64, [.int .i64 0], false⟩) rfl (by decide) ty3 rfl (by simp [Ty.agg]) (eqt3 (d + 0)) (.cons (i := ⟨1, 8, .int .i64, [.int .i64 0], false⟩) rfl (by decide) ty3 rfl (by simp [Ty.agg]) (eqt3 (d + 0)) (.cons (i := ⟨1, 16, .str, [.string ⟨#[]⟩], false⟩) rfl (by decide) ty9 rfl (by simp [Ty.agg]) (eqt9 (d + 0)) (.nil))))
theorem ty104 : TyOk Try.prog 104 ⟨3, 32, .st [(0, 3), (1, 3), (2, 9)], [.int .i64 0, .int .i64 0, .string ⟨#[]⟩], true⟩ := ⟨info_of (by kernel_rfl), (fields_of (by kernel_rfl)), fun _ => ⟨by kernel_rfl, fun xs ys b w => eqt104 9998 xs ys b w⟩⟩
theorem ty112 : TyOk Try.prog 112 ⟨1, 4, .int .u32, [.int .u32 0], false⟩ := ⟨info_of (by kernel_rfl), (by kernel_rfl : Try.prog.underlying 112 = some (.int .u32)), fun h => by cases h⟩
theorem ty116 : TyOk Try.prog 116 ⟨1, 8, .ptr, [.pointer none], false⟩ := ⟨info_of (by kernel_rfl), (ptr_of (by kernel_rfl)), fun h => by cases h⟩
def TTab : TT := [(2, ⟨1, 8, .int .i64, [.int .i64 0], false⟩),
  (3, ⟨1, 8, .int .i64, [.int .i64 0], false⟩),
  (4, ⟨1, 1, .bool, [.bool false], false⟩),
  (9, ⟨1, 16, .str, [.string ⟨#[]⟩], false⟩),
  (48, ⟨1, 8, .int .i64, [.int .i64 0], false⟩),
  (5, ⟨1, 1, .int .u8, [.int .u8 0], false⟩),
  (12, ⟨1, 8, .int .u64, [.int .u64 0], false⟩),
  (13, ⟨2, 24, .st [(0, 9), (1, 12)], [.string ⟨#[]⟩, .int .u64 0], false⟩),
  (21, ⟨1, 4, .int .i32, [.int .i32 0], false⟩),
  (22, ⟨3, 32, .st [(0, 3), (1, 9), (2, 4)], [.int .i64 0, .string ⟨#[]⟩, .bool false], true⟩),
  (23, ⟨3, 32, .st [(0, 3), (1, 9), (2, 4)], [.int .i64 0, .string ⟨#[]⟩, .bool false], true⟩),
  (24, ⟨3, 32, .st [(0, 3), (1, 3), (2, 9)], [.int .i64 0, .int .i64 0, .string ⟨#[]⟩], true⟩),
  (25, ⟨3, 32, .st [(0, 3), (1, 3), (2, 9)], [.int .i64 0, .int .i64 0, .string ⟨#[]⟩], true⟩),
  (27, ⟨7, 72, .st [(0, 23), (3, 3), (4, 25)], [.int .i64 0, .string ⟨#[]⟩, .bool false, .int .i64 0, .int .i64 0, .int .i64 0, .string ⟨#[]⟩], true⟩),
  (28, ⟨7, 72, .st [(0, 23), (3, 3), (4, 25)], [.int .i64 0, .string ⟨#[]⟩, .bool false, .int .i64 0, .int .i64 0, .int .i64 0, .string ⟨#[]⟩], true⟩),
  (30, ⟨1, 24, .sl 64, [.slice none 0 0], false⟩),
  (33, ⟨1, 24, .sl 3, [.slice none 0 0], false⟩),
  (35, ⟨1, 24, .sl 25, [.slice none 0 0], false⟩),
  (37, ⟨1, 24, .sl 41, [.slice none 0 0], false⟩),
  (38, ⟨1, 24, .sl 41, [.slice none 0 0], false⟩),
  (40, ⟨1, 24, .sl 28, [.slice none 0 0], false⟩),
  (41, ⟨1, 24, .sl 40, [.slice none 0 0], false⟩),
  (63, ⟨3, 48, .st [(0, 3), (1, 9), (2, 35)], [.int .i64 0, .string ⟨#[]⟩, .slice none 0 0], false⟩),
  (64, ⟨3, 48, .st [(0, 3), (1, 9), (2, 35)], [.int .i64 0, .string ⟨#[]⟩, .slice none 0 0], false⟩),
  (73, ⟨1, 24, .sl 100, [.slice none 0 0], false⟩),
  (74, ⟨1, 24, .sl 77, [.slice none 0 0], false⟩),
  (75, ⟨1, 24, .sl 104, [.slice none 0 0], false⟩),
  (76, ⟨7, 128, .st [(0, 9), (1, 4), (2, 3), (3, 38), (4, 73), (5, 74), (6, 75)], [.string ⟨#[]⟩, .bool false, .int .i64 0, .slice none 0 0, .slice none 0 0, .slice none 0 0, .slice none 0 0], false⟩),
  (77, ⟨7, 128, .st [(0, 9), (1, 4), (2, 3), (3, 38), (4, 73), (5, 74), (6, 75)], [.string ⟨#[]⟩, .bool false, .int .i64 0, .slice none 0 0, .slice none 0 0, .slice none 0 0, .slice none 0 0], false⟩),
  (78, ⟨1, 8, .ptr, [.pointer none], false⟩),
  (79, ⟨1, 8, .st [(0, 3)], [.int .i64 0], true⟩),
  (80, ⟨1, 8, .st [(0, 3)], [.int .i64 0], true⟩),
  (98, ⟨1, 24, .sl 102, [.slice none 0 0], false⟩),
  (99, ⟨5, 96, .st [(0, 9), (1, 4), (2, 38), (3, 98), (4, 75)], [.string ⟨#[]⟩, .bool false, .slice none 0 0, .slice none 0 0, .slice none 0 0], false⟩),
  (100, ⟨5, 96, .st [(0, 9), (1, 4), (2, 38), (3, 98), (4, 75)], [.string ⟨#[]⟩, .bool false, .slice none 0 0, .slice none 0 0, .slice none 0 0], false⟩),
  (101, ⟨7, 72, .st [(0, 3), (1, 25), (4, 23)], [.int .i64 0, .int .i64 0, .int .i64 0, .string ⟨#[]⟩, .int .i64 0, .string ⟨#[]⟩, .bool false], true⟩),
  (102, ⟨7, 72, .st [(0, 3), (1, 25), (4, 23)], [.int .i64 0, .int .i64 0, .int .i64 0, .string ⟨#[]⟩, .int .i64 0, .string ⟨#[]⟩, .bool false], true⟩),
  (103, ⟨3, 32, .st [(0, 3), (1, 3), (2, 9)], [.int .i64 0, .int .i64 0, .string ⟨#[]⟩], true⟩),
  (104, ⟨3, 32, .st [(0, 3), (1, 3), (2, 9)], [.int .i64 0, .int .i64 0, .string ⟨#[]⟩], true⟩),
  (112, ⟨1, 4, .int .u32, [.int .u32 0], false⟩),
  (116, ⟨1, 8, .ptr, [.pointer none], false⟩)]
theorem ttab_ok : TypesOk Try.prog TTab :=
  typesOk_cons ty2 <| typesOk_cons ty3 <| typesOk_cons ty4 <| typesOk_cons ty9 <| typesOk_cons ty48 <| typesOk_cons ty5 <| typesOk_cons ty12 <| typesOk_cons ty13 <| typesOk_cons ty21 <| typesOk_cons ty22 <| typesOk_cons ty23 <| typesOk_cons ty24 <| typesOk_cons ty25 <| typesOk_cons ty27 <| typesOk_cons ty28 <| typesOk_cons ty30 <| typesOk_cons ty33 <| typesOk_cons ty35 <| typesOk_cons ty37 <| typesOk_cons ty38 <| typesOk_cons ty40 <| typesOk_cons ty41 <| typesOk_cons ty63 <| typesOk_cons ty64 <| typesOk_cons ty73 <| typesOk_cons ty74 <| typesOk_cons ty75 <| typesOk_cons ty76 <| typesOk_cons ty77 <| typesOk_cons ty78 <| typesOk_cons ty79 <| typesOk_cons ty80 <| typesOk_cons ty98 <| typesOk_cons ty99 <| typesOk_cons ty100 <| typesOk_cons ty101 <| typesOk_cons ty102 <| typesOk_cons ty103 <| typesOk_cons ty104 <| typesOk_cons ty112 <| typesOk_cons ty116 <| typesOk_nil
end Go.Proofs.Ytnienipaicckmaa
