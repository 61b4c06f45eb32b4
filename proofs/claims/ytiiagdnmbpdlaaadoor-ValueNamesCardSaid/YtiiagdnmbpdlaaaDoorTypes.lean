/-
  Shades: the types of this seat's program (printed by a program of ours).
-/
import Derived.Test.YtiiagdnmbpdlaaaDoorChecked
import Derived.Test.YtiiagdnmbpdlaaaDoorShade5
namespace Go.Proofs.YtiiagdnmbpdlaaaDoor
open Go.RowKit
theorem eqt2 (d : Nat) : EqT Tryd.prog (d + 1) 2 false [.int .i64 0] := eqt_int d 0 (by kernel_rfl)
theorem ty2 : TyOk Tryd.prog 2 ⟨1, 8, .int .i64, [.int .i64 0], false⟩ := ⟨info_of (by kernel_rfl), (by kernel_rfl : Tryd.prog.underlying 2 = some (.int .i64)), fun h => by cases h⟩
theorem eqt3 (d : Nat) : EqT Tryd.prog (d + 1) 3 false [.int .i64 0] := eqt_int d 0 (by kernel_rfl)
theorem ty3 : TyOk Tryd.prog 3 ⟨1, 8, .int .i64, [.int .i64 0], false⟩ := ⟨info_of (by kernel_rfl), (by kernel_rfl : Tryd.prog.underlying 3 = some (.int .i64)), fun h => by cases h⟩
theorem eqt4 (d : Nat) : EqT Tryd.prog (d + 1) 4 false [.bool false] := eqt_bool d false (by kernel_rfl)
theorem ty4 : TyOk Tryd.prog 4 ⟨1, 1, .bool, [.bool false], false⟩ := ⟨info_of (by kernel_rfl), (by kernel_rfl : Tryd.prog.underlying 4 = some (.bool)), fun h => by cases h⟩
theorem ty5 : TyOk Tryd.prog 5 ⟨1, 1, .int .u8, [.int .u8 0], false⟩ := ⟨info_of (by kernel_rfl), (by kernel_rfl : Tryd.prog.underlying 5 = some (.int .u8)), fun h => by cases h⟩
theorem eqt9 (d : Nat) : EqT Tryd.prog (d + 1) 9 false [.string ⟨#[]⟩] := eqt_str d _ (by kernel_rfl)
theorem ty9 : TyOk Tryd.prog 9 ⟨1, 16, .str, [.string ⟨#[]⟩], false⟩ := ⟨info_of (by kernel_rfl), (by kernel_rfl : Tryd.prog.underlying 9 = some (.string)), fun h => by cases h⟩
theorem ty12 : TyOk Tryd.prog 12 ⟨1, 8, .int .u64, [.int .u64 0], false⟩ := ⟨info_of (by kernel_rfl), (by kernel_rfl : Tryd.prog.underlying 12 = some (.int .u64)), fun h => by cases h⟩
theorem ty13 : TyOk Tryd.prog 13 ⟨2, 24, .st [(0, 9), (1, 12)], [.string ⟨#[]⟩, .int .u64 0], false⟩ := ⟨info_of (by kernel_rfl), (fields_of (by kernel_rfl)), fun h => by cases h⟩
theorem ty20 : TyOk Tryd.prog 20 ⟨1, 16, .ifc, [.nilIface], false⟩ := ⟨info_of (by kernel_rfl), (ifc_of (by kernel_rfl)), fun h => by cases h⟩
theorem ty21 : TyOk Tryd.prog 21 ⟨1, 4, .int .i32, [.int .i32 0], false⟩ := ⟨info_of (by kernel_rfl), (by kernel_rfl : Tryd.prog.underlying 21 = some (.int .i32)), fun h => by cases h⟩
theorem eqt22 (d : Nat) : EqT Tryd.prog (d + 1) 22 false [.int .i64 0] := eqt_int d 0 (by kernel_rfl)
theorem ty22 : TyOk Tryd.prog 22 ⟨1, 8, .int .i64, [.int .i64 0], false⟩ := ⟨info_of (by kernel_rfl), (by kernel_rfl : Tryd.prog.underlying 22 = some (.int .i64)), fun h => by cases h⟩
theorem eqt25 (d : Nat) : EqT Tryd.prog (d + 2) 25 true [.int .i64 0, .int .i64 0, .string ⟨#[]⟩] := eqt_struct (d := d + 1) Tryd.underlying25 (by kernel_rfl) (.cons (i := ⟨1, 8, .int .i64, [.int .i64 0], false⟩) rfl (by decide) ty3 rfl (by simp [Ty.agg]) (eqt3 (d + 0)) (.cons (i := ⟨1, 8, .int .i64, [.int .i64 0], false⟩) rfl (by decide) ty3 rfl (by simp [Ty.agg]) (eqt3 (d + 0)) (.cons (i := ⟨1, 16, .str, [.string ⟨#[]⟩], false⟩) rfl (by decide) ty9 rfl (by simp [Ty.agg]) (eqt9 (d + 0)) (.nil))))
theorem ty25 : TyOk Tryd.prog 25 ⟨3, 32, .st [(0, 3), (1, 3), (2, 9)], [.int .i64 0, .int .i64 0, .string ⟨#[]⟩], true⟩ := ⟨info_of (by kernel_rfl), (fields_of (by kernel_rfl)), fun _ => ⟨by kernel_rfl, fun xs ys b w => eqt25 9998 xs ys b w⟩⟩
theorem eqt26 (d : Nat) : EqT Tryd.prog (d + 2) 26 true [.int .i64 0, .int .i64 0, .string ⟨#[]⟩] := eqt_struct (d := d + 1) Tryd.underlying26 (by kernel_rfl) (.cons (i := ⟨1, 8, .int .i64, [.int .i64 0], false⟩) rfl (by decide) ty3 rfl (by simp [Ty.agg]) (eqt3 (d + 0)) (.cons (i := ⟨1, 8, .int .i64, [.int .i64 0], false⟩) rfl (by decide) ty3 rfl (by simp [Ty.agg]) (eqt3 (d + 0)) (.cons (i := ⟨1, 16, .str, [.string ⟨#[]⟩], false⟩) rfl (by decide) ty9 rfl (by simp [Ty.agg]) (eqt9 (d + 0)) (.nil))))
theorem ty26 : TyOk Tryd.prog 26 ⟨3, 32, .st [(0, 3), (1, 3), (2, 9)], [.int .i64 0, .int .i64 0, .string ⟨#[]⟩], true⟩ := ⟨info_of (by kernel_rfl), (fields_of (by kernel_rfl)), fun _ => ⟨by kernel_rfl, fun xs ys b w => eqt26 9998 xs ys b w⟩⟩
theorem ty30 : TyOk Tryd.prog 30 ⟨1, 24, .sl 34, [.slice none 0 0], false⟩ := ⟨info_of (by kernel_rfl), (by kernel_rfl : Tryd.prog.underlying 30 = some (.slice 34)), fun h => by cases h⟩
theorem eqt33 (d : Nat) : EqT Tryd.prog (d + 2) 33 true [.int .i64 0, .int .i64 0, .int .i64 0, .string ⟨#[]⟩] := eqt_struct (d := d + 1) Tryd.underlying33 (by kernel_rfl) (.cons (i := ⟨1, 8, .int .i64, [.int .i64 0], false⟩) rfl (by decide) ty3 rfl (by simp [Ty.agg]) (eqt3 (d + 0)) (.cons (i := ⟨1, 8, .int .i64, [.int .i64 0], false⟩) rfl (by decide) ty3 rfl (by simp [Ty.agg]) (eqt3 (d + 0)) (.cons (i := ⟨1, 8, .int .i64, [.int .i64 0], false⟩) rfl (by decide) ty3 rfl (by simp [Ty.agg]) (eqt3 (d + 0)) (.cons (i := ⟨1, 16, .str, [.string ⟨#[]⟩], false⟩) rfl (by decide) ty9 rfl (by simp [Ty.agg]) (eqt9 (d + 0)) (.nil)))))
theorem ty33 : TyOk Tryd.prog 33 ⟨4, 40, .st [(0, 3), (1, 3), (2, 3), (3, 9)], [.int .i64 0, .int .i64 0, .int .i64 0, .string ⟨#[]⟩], true⟩ := ⟨info_of (by kernel_rfl), (fields_of (by kernel_rfl)), fun _ => ⟨by kernel_rfl, fun xs ys b w => eqt33 9998 xs ys b w⟩⟩
theorem eqt34 (d : Nat) : EqT Tryd.prog (d + 2) 34 true [.int .i64 0, .int .i64 0, .int .i64 0, .string ⟨#[]⟩] := eqt_struct (d := d + 1) Tryd.underlying34 (by kernel_rfl) (.cons (i := ⟨1, 8, .int .i64, [.int .i64 0], false⟩) rfl (by decide) ty3 rfl (by simp [Ty.agg]) (eqt3 (d + 0)) (.cons (i := ⟨1, 8, .int .i64, [.int .i64 0], false⟩) rfl (by decide) ty3 rfl (by simp [Ty.agg]) (eqt3 (d + 0)) (.cons (i := ⟨1, 8, .int .i64, [.int .i64 0], false⟩) rfl (by decide) ty3 rfl (by simp [Ty.agg]) (eqt3 (d + 0)) (.cons (i := ⟨1, 16, .str, [.string ⟨#[]⟩], false⟩) rfl (by decide) ty9 rfl (by simp [Ty.agg]) (eqt9 (d + 0)) (.nil)))))
theorem ty34 : TyOk Tryd.prog 34 ⟨4, 40, .st [(0, 3), (1, 3), (2, 3), (3, 9)], [.int .i64 0, .int .i64 0, .int .i64 0, .string ⟨#[]⟩], true⟩ := ⟨info_of (by kernel_rfl), (fields_of (by kernel_rfl)), fun _ => ⟨by kernel_rfl, fun xs ys b w => eqt34 9998 xs ys b w⟩⟩
theorem ty36 : TyOk Tryd.prog 36 ⟨1, 24, .sl 88, [.slice none 0 0], false⟩ := ⟨info_of (by kernel_rfl), (by kernel_rfl : Tryd.prog.underlying 36 = some (.slice 88)), fun h => by cases h⟩
theorem ty37 : TyOk Tryd.prog 37 ⟨1, 24, .sl 88, [.slice none 0 0], false⟩ := ⟨info_of (by kernel_rfl), (by kernel_rfl : Tryd.prog.underlying 37 = some (.slice 88)), fun h => by cases h⟩
theorem ty38 : TyOk Tryd.prog 38 ⟨1, 24, .sl 139, [.slice none 0 0], false⟩ := ⟨info_of (by kernel_rfl), (by kernel_rfl : Tryd.prog.underlying 38 = some (.slice 139)), fun h => by cases h⟩
theorem ty39 : TyOk Tryd.prog 39 ⟨1, 24, .sl 42, [.slice none 0 0], false⟩ := ⟨info_of (by kernel_rfl), (by kernel_rfl : Tryd.prog.underlying 39 = some (.slice 42)), fun h => by cases h⟩
theorem ty40 : TyOk Tryd.prog 40 ⟨1, 24, .sl 142, [.slice none 0 0], false⟩ := ⟨info_of (by kernel_rfl), (by kernel_rfl : Tryd.prog.underlying 40 = some (.slice 142)), fun h => by cases h⟩
theorem ty41 : TyOk Tryd.prog 41 ⟨7, 128, .st [(0, 9), (1, 4), (2, 3), (3, 37), (4, 38), (5, 39), (6, 40)], [.string ⟨#[]⟩, .bool false, .int .i64 0, .slice none 0 0, .slice none 0 0, .slice none 0 0, .slice none 0 0], false⟩ := ⟨info_of (by kernel_rfl), (fields_of (by kernel_rfl)), fun h => by cases h⟩
theorem ty42 : TyOk Tryd.prog 42 ⟨7, 128, .st [(0, 9), (1, 4), (2, 3), (3, 37), (4, 38), (5, 39), (6, 40)], [.string ⟨#[]⟩, .bool false, .int .i64 0, .slice none 0 0, .slice none 0 0, .slice none 0 0, .slice none 0 0], false⟩ := ⟨info_of (by kernel_rfl), (fields_of (by kernel_rfl)), fun h => by cases h⟩
theorem eqt45 (d : Nat) : EqT Tryd.prog (d + 2) 45 true [.int .i64 0, .string ⟨#[]⟩, .bool false] := eqt_struct (d := d + 1) Tryd.underlying45 (by kernel_rfl) (.cons (i := ⟨1, 8, .int .i64, [.int .i64 0], false⟩) rfl (by decide) ty3 rfl (by simp [Ty.agg]) (eqt3 (d + 0)) (.cons (i := ⟨1, 16, .str, [.string ⟨#[]⟩], false⟩) rfl (by decide) ty9 rfl (by simp [Ty.agg]) (eqt9 (d + 0)) (.cons (i := ⟨1, 1, .bool, [.bool false], false⟩) rfl (by decide) ty4 rfl (by simp [Ty.agg]) (eqt4 (d + 0)) (.nil))))
theorem ty45 : TyOk Tryd.prog 45 ⟨3, 32, .st [(0, 3), (1, 9), (2, 4)], [.int .i64 0, .string ⟨#[]⟩, .bool false], true⟩ := ⟨info_of (by kernel_rfl), (fields_of (by kernel_rfl)), fun _ => ⟨by kernel_rfl, fun xs ys b w => eqt45 9998 xs ys b w⟩⟩
theorem eqt46 (d : Nat) : EqT Tryd.prog (d + 2) 46 true [.int .i64 0, .string ⟨#[]⟩, .bool false] := eqt_struct (d := d + 1) Tryd.underlying46 (by kernel_rfl) (.cons (i := ⟨1, 8, .int .i64, [.int .i64 0], false⟩) rfl (by decide) ty3 rfl (by simp [Ty.agg]) (eqt3 (d + 0)) (.cons (i := ⟨1, 16, .str, [.string ⟨#[]⟩], false⟩) rfl (by decide) ty9 rfl (by simp [Ty.agg]) (eqt9 (d + 0)) (.cons (i := ⟨1, 1, .bool, [.bool false], false⟩) rfl (by decide) ty4 rfl (by simp [Ty.agg]) (eqt4 (d + 0)) (.nil))))
theorem ty46 : TyOk Tryd.prog 46 ⟨3, 32, .st [(0, 3), (1, 9), (2, 4)], [.int .i64 0, .string ⟨#[]⟩, .bool false], true⟩ := ⟨info_of (by kernel_rfl), (fields_of (by kernel_rfl)), fun _ => ⟨by kernel_rfl, fun xs ys b w => eqt46 9998 xs ys b w⟩⟩
theorem eqt47 (d : Nat) : EqT Tryd.prog (d + 3) 47 true [.int .i64 0, .string ⟨#[]⟩, .bool false, .int .i64 0, .int .i64 0, .int .i64 0, .string ⟨#[]⟩] := eqt_struct (d := d + 2) Tryd.underlying47 (by kernel_rfl) (.cons (i := ⟨3, 32, .st [(0, 3), (1, 9), (2, 4)], [.int .i64 0, .string ⟨#[]⟩, .bool false], true⟩) rfl (by decide) ty46 rfl (by simp [Ty.agg]) (eqt46 (d + 0)) (.cons (i := ⟨1, 8, .int .i64, [.int .i64 0], false⟩) rfl (by decide) ty3 rfl (by simp [Ty.agg]) (eqt3 (d + 1)) (.cons (i := ⟨3, 32, .st [(0, 3), (1, 3), (2, 9)], [.int .i64 0, .int .i64 0, .string ⟨#[]⟩], true⟩) rfl (by decide) ty26 rfl (by simp [Ty.agg]) (eqt26 (d + 0)) (.nil))))
theorem ty47 : TyOk Tryd.prog 47 ⟨7, 72, .st [(0, 46), (3, 3), (4, 26)], [.int .i64 0, .string ⟨#[]⟩, .bool false, .int .i64 0, .int .i64 0, .int .i64 0, .string ⟨#[]⟩], true⟩ := ⟨info_of (by kernel_rfl), (fields_of (by kernel_rfl)), fun _ => ⟨by kernel_rfl, fun xs ys b w => eqt47 9997 xs ys b w⟩⟩
theorem eqt48 (d : Nat) : EqT Tryd.prog (d + 3) 48 true [.int .i64 0, .string ⟨#[]⟩, .bool false, .int .i64 0, .int .i64 0, .int .i64 0, .string ⟨#[]⟩] := eqt_struct (d := d + 2) Tryd.underlying48 (by kernel_rfl) (.cons (i := ⟨3, 32, .st [(0, 3), (1, 9), (2, 4)], [.int .i64 0, .string ⟨#[]⟩, .bool false], true⟩) rfl (by decide) ty46 rfl (by simp [Ty.agg]) (eqt46 (d + 0)) (.cons (i := ⟨1, 8, .int .i64, [.int .i64 0], false⟩) rfl (by decide) ty3 rfl (by simp [Ty.agg]) (eqt3 (d + 1)) (.cons (i := ⟨3, 32, .st [(0, 3), (1, 3), (2, 9)], [.int .i64 0, .int .i64 0, .string ⟨#[]⟩], true⟩) rfl (by decide) ty26 rfl (by simp [Ty.agg]) (eqt26 (d + 0)) (.nil))))
theorem ty48 : TyOk Tryd.prog 48 ⟨7, 72, .st [(0, 46), (3, 3), (4, 26)], [.int .i64 0, .string ⟨#[]⟩, .bool false, .int .i64 0, .int .i64 0, .int .i64 0, .string ⟨#[]⟩], true⟩ := ⟨info_of (by kernel_rfl), (fields_of (by kernel_rfl)), fun _ => ⟨by kernel_rfl, fun xs ys b w => eqt48 9997 xs ys b w⟩⟩
theorem ty55 : TyOk Tryd.prog 55 ⟨1, 24, .sl 5, [.slice none 0 0], false⟩ := ⟨info_of (by kernel_rfl), (by kernel_rfl : Tryd.prog.underlying 55 = some (.slice 5)), fun h => by cases h⟩
theorem ty57 : TyOk Tryd.prog 57 ⟨1, 24, .sl 26, [.slice none 0 0], false⟩ := ⟨info_of (by kernel_rfl), (by kernel_rfl : Tryd.prog.underlying 57 = some (.slice 26)), fun h => by cases h⟩
theorem ty63 : TyOk Tryd.prog 63 ⟨1, 8, .ptr, [.pointer none], false⟩ := ⟨info_of (by kernel_rfl), (ptr_of (by kernel_rfl)), fun h => by cases h⟩
theorem ty65 : TyOk Tryd.prog 65 ⟨1, 8, .ptr, [.pointer none], false⟩ := ⟨info_of (by kernel_rfl), (ptr_of (by kernel_rfl)), fun h => by cases h⟩
theorem ty66 : TyOk Tryd.prog 66 ⟨3, 40, .st [(0, 55), (1, 3), (2, 3)], [.slice none 0 0, .int .i64 0, .int .i64 0], false⟩ := ⟨info_of (by kernel_rfl), (fields_of (by kernel_rfl)), fun h => by cases h⟩
theorem ty67 : TyOk Tryd.prog 67 ⟨3, 40, .st [(0, 55), (1, 3), (2, 3)], [.slice none 0 0, .int .i64 0, .int .i64 0], false⟩ := ⟨info_of (by kernel_rfl), (fields_of (by kernel_rfl)), fun h => by cases h⟩
theorem ty81 : TyOk Tryd.prog 81 ⟨1, 8, .ptr, [.pointer none], false⟩ := ⟨info_of (by kernel_rfl), (ptr_of (by kernel_rfl)), fun h => by cases h⟩
theorem ty82 : TyOk Tryd.prog 82 ⟨5, 56, .st [(0, 30), (1, 3), (2, 3), (3, 22), (4, 3)], [.slice none 0 0, .int .i64 0, .int .i64 0, .int .i64 0, .int .i64 0], false⟩ := ⟨info_of (by kernel_rfl), (fields_of (by kernel_rfl)), fun h => by cases h⟩
theorem ty83 : TyOk Tryd.prog 83 ⟨5, 56, .st [(0, 30), (1, 3), (2, 3), (3, 22), (4, 3)], [.slice none 0 0, .int .i64 0, .int .i64 0, .int .i64 0, .int .i64 0], false⟩ := ⟨info_of (by kernel_rfl), (fields_of (by kernel_rfl)), fun h => by cases h⟩
theorem ty88 : TyOk Tryd.prog 88 ⟨1, 24, .sl 89, [.slice none 0 0], false⟩ := ⟨info_of (by kernel_rfl), (by kernel_rfl : Tryd.prog.underlying 88 = some (.slice 89)), fun h => by cases h⟩
theorem ty89 : TyOk Tryd.prog 89 ⟨1, 24, .sl 48, [.slice none 0 0], false⟩ := ⟨info_of (by kernel_rfl), (by kernel_rfl : Tryd.prog.underlying 89 = some (.slice 48)), fun h => by cases h⟩
theorem ty91 : TyOk Tryd.prog 91 ⟨3, 40, .st [(0, 55), (1, 3), (2, 4)], [.slice none 0 0, .int .i64 0, .bool false], false⟩ := ⟨info_of (by kernel_rfl), (fields_of (by kernel_rfl)), fun h => by cases h⟩
theorem ty92 : TyOk Tryd.prog 92 ⟨3, 40, .st [(0, 55), (1, 3), (2, 4)], [.slice none 0 0, .int .i64 0, .bool false], false⟩ := ⟨info_of (by kernel_rfl), (fields_of (by kernel_rfl)), fun h => by cases h⟩
theorem ty98 : TyOk Tryd.prog 98 ⟨1, 8, .ptr, [.pointer none], false⟩ := ⟨info_of (by kernel_rfl), (ptr_of (by kernel_rfl)), fun h => by cases h⟩
theorem ty99 : TyOk Tryd.prog 99 ⟨2, 32, .st [(0, 98), (1, 55)], [.pointer none, .slice none 0 0], false⟩ := ⟨info_of (by kernel_rfl), (fields_of (by kernel_rfl)), fun h => by cases h⟩
theorem ty100 : TyOk Tryd.prog 100 ⟨2, 32, .st [(0, 98), (1, 55)], [.pointer none, .slice none 0 0], false⟩ := ⟨info_of (by kernel_rfl), (fields_of (by kernel_rfl)), fun h => by cases h⟩
theorem ty101 : TyOk Tryd.prog 101 ⟨1, 16, .ifc, [.nilIface], false⟩ := ⟨info_of (by kernel_rfl), (ifc_of (by kernel_rfl)), fun h => by cases h⟩
theorem ty102 : TyOk Tryd.prog 102 ⟨1, 16, .ifc, [.nilIface], false⟩ := ⟨info_of (by kernel_rfl), (ifc_of (by kernel_rfl)), fun h => by cases h⟩
theorem ty106 : TyOk Tryd.prog 106 ⟨1, 8, .int .u64, [.int .u64 0], false⟩ := ⟨info_of (by kernel_rfl), (by kernel_rfl : Tryd.prog.underlying 106 = some (.int .u64)), fun h => by cases h⟩
theorem ty120 : TyOk Tryd.prog 120 ⟨1, 8, .ptr, [.pointer none], false⟩ := ⟨info_of (by kernel_rfl), (ptr_of (by kernel_rfl)), fun h => by cases h⟩
theorem ty121 : TyOk Tryd.prog 121 ⟨1, 8, .mp 9 172, [.map none], false⟩ := ⟨info_of (by kernel_rfl), (by kernel_rfl : Tryd.prog.underlying 121 = some (.map 9 172)), fun h => by cases h⟩
theorem ty122 : TyOk Tryd.prog 122 ⟨2, 16, .st [(0, 121), (1, 3)], [.map none, .int .i64 0], false⟩ := ⟨info_of (by kernel_rfl), (fields_of (by kernel_rfl)), fun h => by cases h⟩
theorem ty123 : TyOk Tryd.prog 123 ⟨2, 16, .st [(0, 121), (1, 3)], [.map none, .int .i64 0], false⟩ := ⟨info_of (by kernel_rfl), (fields_of (by kernel_rfl)), fun h => by cases h⟩
theorem ty127 : TyOk Tryd.prog 127 ⟨1, 8, .int .u64, [.int .u64 0], false⟩ := ⟨info_of (by kernel_rfl), (by kernel_rfl : Tryd.prog.underlying 127 = some (.int .u64)), fun h => by cases h⟩
theorem ty129 : TyOk Tryd.prog 129 ⟨1, 8, .ptr, [.pointer none], false⟩ := ⟨info_of (by kernel_rfl), (ptr_of (by kernel_rfl)), fun h => by cases h⟩
theorem ty133 : TyOk Tryd.prog 133 ⟨1, 24, .sl 9, [.slice none 0 0], false⟩ := ⟨info_of (by kernel_rfl), (by kernel_rfl : Tryd.prog.underlying 133 = some (.slice 9)), fun h => by cases h⟩
theorem ty137 : TyOk Tryd.prog 137 ⟨1, 24, .sl 177, [.slice none 0 0], false⟩ := ⟨info_of (by kernel_rfl), (by kernel_rfl : Tryd.prog.underlying 137 = some (.slice 177)), fun h => by cases h⟩
theorem ty138 : TyOk Tryd.prog 138 ⟨5, 96, .st [(0, 9), (1, 4), (2, 37), (3, 137), (4, 40)], [.string ⟨#[]⟩, .bool false, .slice none 0 0, .slice none 0 0, .slice none 0 0], false⟩ := ⟨info_of (by kernel_rfl), (fields_of (by kernel_rfl)), fun h => by cases h⟩
theorem ty139 : TyOk Tryd.prog 139 ⟨5, 96, .st [(0, 9), (1, 4), (2, 37), (3, 137), (4, 40)], [.string ⟨#[]⟩, .bool false, .slice none 0 0, .slice none 0 0, .slice none 0 0], false⟩ := ⟨info_of (by kernel_rfl), (fields_of (by kernel_rfl)), fun h => by cases h⟩
theorem eqt141 (d : Nat) : EqT Tryd.prog (d + 2) 141 true [.int .i64 0, .int .i64 0, .string ⟨#[]⟩] := eqt_struct (d := d + 1) Tryd.underlying141 (by kernel_rfl) (.cons (i := ⟨1, 8, .int .i64, [.int .i64 0], false⟩) rfl (by decide) ty3 rfl (by simp [Ty.agg]) (eqt3 (d + 0)) (.cons (i := ⟨1, 8, .int .i64, [.int .i64 0], false⟩) rfl (by decide) ty3 rfl (by simp [Ty.agg]) (eqt3 (d + 0)) (.cons (i := ⟨1, 16, .str, [.string ⟨#[]⟩], false⟩) rfl (by decide) ty9 rfl (by simp [Ty.agg]) (eqt9 (d + 0)) (.nil))))
theorem ty141 : TyOk Tryd.prog 141 ⟨3, 32, .st [(0, 3), (1, 3), (2, 9)], [.int .i64 0, .int .i64 0, .string ⟨#[]⟩], true⟩ := ⟨info_of (by kernel_rfl), (fields_of (by kernel_rfl)), fun _ => ⟨by kernel_rfl, fun xs ys b w => eqt141 9998 xs ys b w⟩⟩
theorem eqt142 (d : Nat) : EqT Tryd.prog (d + 2) 142 true [.int .i64 0, .int .i64 0, .string ⟨#[]⟩] := eqt_struct (d := d + 1) Tryd.underlying142 (by kernel_rfl) (.cons (i := ⟨1, 8, .int .i64, [.int .i64 0], false⟩) rfl (by decide) ty3 rfl (by simp [Ty.agg]) (eqt3 (d + 0)) (.cons (i := ⟨1, 8, .int .i64, [.int .i64 0], false⟩) rfl (by decide) ty3 rfl (by simp [Ty.agg]) (eqt3 (d + 0)) (.cons (i := ⟨1, 16, .str, [.string ⟨#[]⟩], false⟩) rfl (by decide) ty9 rfl (by simp [Ty.agg]) (eqt9 (d + 0)) (.nil))))
theorem ty142 : TyOk Tryd.prog 142 ⟨3, 32, .st [(0, 3), (1, 3), (2, 9)], [.int .i64 0, .int .i64 0, .string ⟨#[]⟩], true⟩ := ⟨info_of (by kernel_rfl), (fields_of (by kernel_rfl)), fun _ => ⟨by kernel_rfl, fun xs ys b w => eqt142 9998 xs ys b w⟩⟩
theorem ty144 : TyOk Tryd.prog 144 ⟨24, 24, .arr 24 5, [.int .u8 0, .int .u8 0, .int .u8 0, .int .u8 0, .int .u8 0, .int .u8 0, .int .u8 0, .int .u8 0, .int .u8 0, .int .u8 0, .int .u8 0, .int .u8 0, .int .u8 0, .int .u8 0, .int .u8 0, .int .u8 0, .int .u8 0, .int .u8 0, .int .u8 0, .int .u8 0, .int .u8 0, .int .u8 0, .int .u8 0, .int .u8 0], false⟩ := ⟨info_of (by kernel_rfl), (by kernel_rfl : Tryd.prog.underlying 144 = some (.array 24 5)), fun h => by cases h⟩
theorem ty159 : TyOk Tryd.prog 159 ⟨20, 160, .arr 20 127, [.int .u64 0, .int .u64 0, .int .u64 0, .int .u64 0, .int .u64 0, .int .u64 0, .int .u64 0, .int .u64 0, .int .u64 0, .int .u64 0, .int .u64 0, .int .u64 0, .int .u64 0, .int .u64 0, .int .u64 0, .int .u64 0, .int .u64 0, .int .u64 0, .int .u64 0, .int .u64 0], false⟩ := ⟨info_of (by kernel_rfl), (by kernel_rfl : Tryd.prog.underlying 159 = some (.array 20 127)), fun h => by cases h⟩
theorem ty160 : TyOk Tryd.prog 160 ⟨1, 4, .int .u32, [.int .u32 0], false⟩ := ⟨info_of (by kernel_rfl), (by kernel_rfl : Tryd.prog.underlying 160 = some (.int .u32)), fun h => by cases h⟩
theorem ty161 : TyOk Tryd.prog 161 ⟨65, 65, .arr 65 5, [.int .u8 0, .int .u8 0, .int .u8 0, .int .u8 0, .int .u8 0, .int .u8 0, .int .u8 0, .int .u8 0, .int .u8 0, .int .u8 0, .int .u8 0, .int .u8 0, .int .u8 0, .int .u8 0, .int .u8 0, .int .u8 0, .int .u8 0, .int .u8 0, .int .u8 0, .int .u8 0, .int .u8 0, .int .u8 0, .int .u8 0, .int .u8 0, .int .u8 0, .int .u8 0, .int .u8 0, .int .u8 0, .int .u8 0, .int .u8 0, .int .u8 0, .int .u8 0, .int .u8 0, .int .u8 0, .int .u8 0, .int .u8 0, .int .u8 0, .int .u8 0, .int .u8 0, .int .u8 0, .int .u8 0, .int .u8 0, .int .u8 0, .int .u8 0, .int .u8 0, .int .u8 0, .int .u8 0, .int .u8 0, .int .u8 0, .int .u8 0, .int .u8 0, .int .u8 0, .int .u8 0, .int .u8 0, .int .u8 0, .int .u8 0, .int .u8 0, .int .u8 0, .int .u8 0, .int .u8 0, .int .u8 0, .int .u8 0, .int .u8 0, .int .u8 0, .int .u8 0], false⟩ := ⟨info_of (by kernel_rfl), (by kernel_rfl : Tryd.prog.underlying 161 = some (.array 65 5)), fun h => by cases h⟩
theorem ty166 : TyOk Tryd.prog 166 ⟨1, 8, .ptr, [.pointer none], false⟩ := ⟨info_of (by kernel_rfl), (ptr_of (by kernel_rfl)), fun h => by cases h⟩
theorem ty172 : TyOk Tryd.prog 172 ⟨0, 0, .st [], [], false⟩ := ⟨info_of (by kernel_rfl), (fields_of (by kernel_rfl)), fun h => by cases h⟩
theorem ty175 : TyOk Tryd.prog 175 ⟨1, 24, .sl 4, [.slice none 0 0], false⟩ := ⟨info_of (by kernel_rfl), (by kernel_rfl : Tryd.prog.underlying 175 = some (.slice 4)), fun h => by cases h⟩
theorem eqt176 (d : Nat) : EqT Tryd.prog (d + 3) 176 true [.int .i64 0, .int .i64 0, .int .i64 0, .string ⟨#[]⟩, .int .i64 0, .string ⟨#[]⟩, .bool false] := eqt_struct (d := d + 2) Tryd.underlying176 (by kernel_rfl) (.cons (i := ⟨1, 8, .int .i64, [.int .i64 0], false⟩) rfl (by decide) ty3 rfl (by simp [Ty.agg]) (eqt3 (d + 1)) (.cons (i := ⟨3, 32, .st [(0, 3), (1, 3), (2, 9)], [.int .i64 0, .int .i64 0, .string ⟨#[]⟩], true⟩) rfl (by decide) ty26 rfl (by simp [Ty.agg]) (eqt26 (d + 0)) (.cons (i := ⟨3, 32, .st [(0, 3), (1, 9), (2, 4)], [.int .i64 0, .string ⟨#[]⟩, .bool false], true⟩) rfl (by decide) ty46 rfl (by simp [Ty.agg]) (eqt46 (d + 0)) (.nil))))
theorem ty176 : TyOk Tryd.prog 176 ⟨7, 72, .st [(0, 3), (1, 26), (4, 46)], [.int .i64 0, .int .i64 0, .int .i64 0, .string ⟨#[]⟩, .int .i64 0, .string ⟨#[]⟩, .bool false], true⟩ := ⟨info_of (by kernel_rfl), (fields_of (by kernel_rfl)), fun _ => ⟨by kernel_rfl, fun xs ys b w => eqt176 9997 xs ys b w⟩⟩
theorem eqt177 (d : Nat) : EqT Tryd.prog (d + 3) 177 true [.int .i64 0, .int .i64 0, .int .i64 0, .string ⟨#[]⟩, .int .i64 0, .string ⟨#[]⟩, .bool false] := eqt_struct (d := d + 2) Tryd.underlying177 (by kernel_rfl) (.cons (i := ⟨1, 8, .int .i64, [.int .i64 0], false⟩) rfl (by decide) ty3 rfl (by simp [Ty.agg]) (eqt3 (d + 1)) (.cons (i := ⟨3, 32, .st [(0, 3), (1, 3), (2, 9)], [.int .i64 0, .int .i64 0, .string ⟨#[]⟩], true⟩) rfl (by decide) ty26 rfl (by simp [Ty.agg]) (eqt26 (d + 0)) (.cons (i := ⟨3, 32, .st [(0, 3), (1, 9), (2, 4)], [.int .i64 0, .string ⟨#[]⟩, .bool false], true⟩) rfl (by decide) ty46 rfl (by simp [Ty.agg]) (eqt46 (d + 0)) (.nil))))
theorem ty177 : TyOk Tryd.prog 177 ⟨7, 72, .st [(0, 3), (1, 26), (4, 46)], [.int .i64 0, .int .i64 0, .int .i64 0, .string ⟨#[]⟩, .int .i64 0, .string ⟨#[]⟩, .bool false], true⟩ := ⟨info_of (by kernel_rfl), (fields_of (by kernel_rfl)), fun _ => ⟨by kernel_rfl, fun xs ys b w => eqt177 9997 xs ys b w⟩⟩
theorem ty183 : TyOk Tryd.prog 183 ⟨3, 48, .st [(0, 9), (1, 9), (2, 102)], [.string ⟨#[]⟩, .string ⟨#[]⟩, .nilIface], false⟩ := ⟨info_of (by kernel_rfl), (fields_of (by kernel_rfl)), fun h => by cases h⟩
theorem ty184 : TyOk Tryd.prog 184 ⟨3, 48, .st [(0, 9), (1, 9), (2, 102)], [.string ⟨#[]⟩, .string ⟨#[]⟩, .nilIface], false⟩ := ⟨info_of (by kernel_rfl), (fields_of (by kernel_rfl)), fun h => by cases h⟩
theorem ty194 : TyOk Tryd.prog 194 ⟨32, 32, .arr 32 5, [.int .u8 0, .int .u8 0, .int .u8 0, .int .u8 0, .int .u8 0, .int .u8 0, .int .u8 0, .int .u8 0, .int .u8 0, .int .u8 0, .int .u8 0, .int .u8 0, .int .u8 0, .int .u8 0, .int .u8 0, .int .u8 0, .int .u8 0, .int .u8 0, .int .u8 0, .int .u8 0, .int .u8 0, .int .u8 0, .int .u8 0, .int .u8 0, .int .u8 0, .int .u8 0, .int .u8 0, .int .u8 0, .int .u8 0, .int .u8 0, .int .u8 0, .int .u8 0], false⟩ := ⟨info_of (by kernel_rfl), (by kernel_rfl : Tryd.prog.underlying 194 = some (.array 32 5)), fun h => by cases h⟩
theorem ty195 : TyOk Tryd.prog 195 ⟨64, 64, .arr 64 5, [.int .u8 0, .int .u8 0, .int .u8 0, .int .u8 0, .int .u8 0, .int .u8 0, .int .u8 0, .int .u8 0, .int .u8 0, .int .u8 0, .int .u8 0, .int .u8 0, .int .u8 0, .int .u8 0, .int .u8 0, .int .u8 0, .int .u8 0, .int .u8 0, .int .u8 0, .int .u8 0, .int .u8 0, .int .u8 0, .int .u8 0, .int .u8 0, .int .u8 0, .int .u8 0, .int .u8 0, .int .u8 0, .int .u8 0, .int .u8 0, .int .u8 0, .int .u8 0, .int .u8 0, .int .u8 0, .int .u8 0, .int .u8 0, .int .u8 0, .int .u8 0, .int .u8 0, .int .u8 0, .int .u8 0, .int .u8 0, .int .u8 0, .int .u8 0, .int .u8 0, .int .u8 0, .int .u8 0, .int .u8 0, .int .u8 0, .int .u8 0, .int .u8 0, .int .u8 0, .int .u8 0, .int .u8 0, .int .u8 0, .int .u8 0, .int .u8 0, .int .u8 0, .int .u8 0, .int .u8 0, .int .u8 0, .int .u8 0, .int .u8 0, .int .u8 0], false⟩ := ⟨info_of (by kernel_rfl), (by kernel_rfl : Tryd.prog.underlying 195 = some (.array 64 5)), fun h => by cases h⟩
theorem ty197 : TyOk Tryd.prog 197 ⟨1, 8, .ptr, [.pointer none], false⟩ := ⟨info_of (by kernel_rfl), (ptr_of (by kernel_rfl)), fun h => by cases h⟩
theorem eqt198 (d : Nat) : EqT Tryd.prog (d + 2) 198 true [.string ⟨#[]⟩] := eqt_struct (d := d + 1) Tryd.underlying198 (by kernel_rfl) (.cons (i := ⟨1, 16, .str, [.string ⟨#[]⟩], false⟩) rfl (by decide) ty9 rfl (by simp [Ty.agg]) (eqt9 (d + 0)) (.nil))
theorem ty198 : TyOk Tryd.prog 198 ⟨1, 16, .st [(0, 9)], [.string ⟨#[]⟩], true⟩ := ⟨info_of (by kernel_rfl), (fields_of (by kernel_rfl)), fun _ => ⟨by kernel_rfl, fun xs ys b w => eqt198 9998 xs ys b w⟩⟩
theorem eqt199 (d : Nat) : EqT Tryd.prog (d + 2) 199 true [.string ⟨#[]⟩] := eqt_struct (d := d + 1) Tryd.underlying199 (by kernel_rfl) (.cons (i := ⟨1, 16, .str, [.string ⟨#[]⟩], false⟩) rfl (by decide) ty9 rfl (by simp [Ty.agg]) (eqt9 (d + 0)) (.nil))
theorem ty199 : TyOk Tryd.prog 199 ⟨1, 16, .st [(0, 9)], [.string ⟨#[]⟩], true⟩ := ⟨info_of (by kernel_rfl), (fields_of (by kernel_rfl)), fun _ => ⟨by kernel_rfl, fun xs ys b w => eqt199 9998 xs ys b w⟩⟩
def TTab : TT := [(2, ⟨1, 8, .int .i64, [.int .i64 0], false⟩),
  (3, ⟨1, 8, .int .i64, [.int .i64 0], false⟩),
  (4, ⟨1, 1, .bool, [.bool false], false⟩),
  (9, ⟨1, 16, .str, [.string ⟨#[]⟩], false⟩),
  (22, ⟨1, 8, .int .i64, [.int .i64 0], false⟩),
  (5, ⟨1, 1, .int .u8, [.int .u8 0], false⟩),
  (12, ⟨1, 8, .int .u64, [.int .u64 0], false⟩),
  (13, ⟨2, 24, .st [(0, 9), (1, 12)], [.string ⟨#[]⟩, .int .u64 0], false⟩),
  (20, ⟨1, 16, .ifc, [.nilIface], false⟩),
  (21, ⟨1, 4, .int .i32, [.int .i32 0], false⟩),
  (25, ⟨3, 32, .st [(0, 3), (1, 3), (2, 9)], [.int .i64 0, .int .i64 0, .string ⟨#[]⟩], true⟩),
  (26, ⟨3, 32, .st [(0, 3), (1, 3), (2, 9)], [.int .i64 0, .int .i64 0, .string ⟨#[]⟩], true⟩),
  (30, ⟨1, 24, .sl 34, [.slice none 0 0], false⟩),
  (33, ⟨4, 40, .st [(0, 3), (1, 3), (2, 3), (3, 9)], [.int .i64 0, .int .i64 0, .int .i64 0, .string ⟨#[]⟩], true⟩),
  (34, ⟨4, 40, .st [(0, 3), (1, 3), (2, 3), (3, 9)], [.int .i64 0, .int .i64 0, .int .i64 0, .string ⟨#[]⟩], true⟩),
  (36, ⟨1, 24, .sl 88, [.slice none 0 0], false⟩),
  (37, ⟨1, 24, .sl 88, [.slice none 0 0], false⟩),
  (38, ⟨1, 24, .sl 139, [.slice none 0 0], false⟩),
  (39, ⟨1, 24, .sl 42, [.slice none 0 0], false⟩),
  (40, ⟨1, 24, .sl 142, [.slice none 0 0], false⟩),
  (41, ⟨7, 128, .st [(0, 9), (1, 4), (2, 3), (3, 37), (4, 38), (5, 39), (6, 40)], [.string ⟨#[]⟩, .bool false, .int .i64 0, .slice none 0 0, .slice none 0 0, .slice none 0 0, .slice none 0 0], false⟩),
  (42, ⟨7, 128, .st [(0, 9), (1, 4), (2, 3), (3, 37), (4, 38), (5, 39), (6, 40)], [.string ⟨#[]⟩, .bool false, .int .i64 0, .slice none 0 0, .slice none 0 0, .slice none 0 0, .slice none 0 0], false⟩),
  (45, ⟨3, 32, .st [(0, 3), (1, 9), (2, 4)], [.int .i64 0, .string ⟨#[]⟩, .bool false], true⟩),
  (46, ⟨3, 32, .st [(0, 3), (1, 9), (2, 4)], [.int .i64 0, .string ⟨#[]⟩, .bool false], true⟩),
  (47, ⟨7, 72, .st [(0, 46), (3, 3), (4, 26)], [.int .i64 0, .string ⟨#[]⟩, .bool false, .int .i64 0, .int .i64 0, .int .i64 0, .string ⟨#[]⟩], true⟩),
  (48, ⟨7, 72, .st [(0, 46), (3, 3), (4, 26)], [.int .i64 0, .string ⟨#[]⟩, .bool false, .int .i64 0, .int .i64 0, .int .i64 0, .string ⟨#[]⟩], true⟩),
  (55, ⟨1, 24, .sl 5, [.slice none 0 0], false⟩),
  (57, ⟨1, 24, .sl 26, [.slice none 0 0], false⟩),
  (63, ⟨1, 8, .ptr, [.pointer none], false⟩),
  (65, ⟨1, 8, .ptr, [.pointer none], false⟩),
  (66, ⟨3, 40, .st [(0, 55), (1, 3), (2, 3)], [.slice none 0 0, .int .i64 0, .int .i64 0], false⟩),
  (67, ⟨3, 40, .st [(0, 55), (1, 3), (2, 3)], [.slice none 0 0, .int .i64 0, .int .i64 0], false⟩),
  (81, ⟨1, 8, .ptr, [.pointer none], false⟩),
  (82, ⟨5, 56, .st [(0, 30), (1, 3), (2, 3), (3, 22), (4, 3)], [.slice none 0 0, .int .i64 0, .int .i64 0, .int .i64 0, .int .i64 0], false⟩),
  (83, ⟨5, 56, .st [(0, 30), (1, 3), (2, 3), (3, 22), (4, 3)], [.slice none 0 0, .int .i64 0, .int .i64 0, .int .i64 0, .int .i64 0], false⟩),
  (88, ⟨1, 24, .sl 89, [.slice none 0 0], false⟩),
  (89, ⟨1, 24, .sl 48, [.slice none 0 0], false⟩),
  (91, ⟨3, 40, .st [(0, 55), (1, 3), (2, 4)], [.slice none 0 0, .int .i64 0, .bool false], false⟩),
  (92, ⟨3, 40, .st [(0, 55), (1, 3), (2, 4)], [.slice none 0 0, .int .i64 0, .bool false], false⟩),
  (98, ⟨1, 8, .ptr, [.pointer none], false⟩),
  (99, ⟨2, 32, .st [(0, 98), (1, 55)], [.pointer none, .slice none 0 0], false⟩),
  (100, ⟨2, 32, .st [(0, 98), (1, 55)], [.pointer none, .slice none 0 0], false⟩),
  (101, ⟨1, 16, .ifc, [.nilIface], false⟩),
  (102, ⟨1, 16, .ifc, [.nilIface], false⟩),
  (106, ⟨1, 8, .int .u64, [.int .u64 0], false⟩),
  (120, ⟨1, 8, .ptr, [.pointer none], false⟩),
  (121, ⟨1, 8, .mp 9 172, [.map none], false⟩),
  (122, ⟨2, 16, .st [(0, 121), (1, 3)], [.map none, .int .i64 0], false⟩),
  (123, ⟨2, 16, .st [(0, 121), (1, 3)], [.map none, .int .i64 0], false⟩),
  (127, ⟨1, 8, .int .u64, [.int .u64 0], false⟩),
  (129, ⟨1, 8, .ptr, [.pointer none], false⟩),
  (133, ⟨1, 24, .sl 9, [.slice none 0 0], false⟩),
  (137, ⟨1, 24, .sl 177, [.slice none 0 0], false⟩),
  (138, ⟨5, 96, .st [(0, 9), (1, 4), (2, 37), (3, 137), (4, 40)], [.string ⟨#[]⟩, .bool false, .slice none 0 0, .slice none 0 0, .slice none 0 0], false⟩),
  (139, ⟨5, 96, .st [(0, 9), (1, 4), (2, 37), (3, 137), (4, 40)], [.string ⟨#[]⟩, .bool false, .slice none 0 0, .slice none 0 0, .slice none 0 0], false⟩),
  (141, ⟨3, 32, .st [(0, 3), (1, 3), (2, 9)], [.int .i64 0, .int .i64 0, .string ⟨#[]⟩], true⟩),
  (142, ⟨3, 32, .st [(0, 3), (1, 3), (2, 9)], [.int .i64 0, .int .i64 0, .string ⟨#[]⟩], true⟩),
  (144, ⟨24, 24, .arr 24 5, [.int .u8 0, .int .u8 0, .int .u8 0, .int .u8 0, .int .u8 0, .int .u8 0, .int .u8 0, .int .u8 0, .int .u8 0, .int .u8 0, .int .u8 0, .int .u8 0, .int .u8 0, .int .u8 0, .int .u8 0, .int .u8 0, .int .u8 0, .int .u8 0, .int .u8 0, .int .u8 0, .int .u8 0, .int .u8 0, .int .u8 0, .int .u8 0], false⟩),
  (159, ⟨20, 160, .arr 20 127, [.int .u64 0, .int .u64 0, .int .u64 0, .int .u64 0, .int .u64 0, .int .u64 0, .int .u64 0, .int .u64 0, .int .u64 0, .int .u64 0, .int .u64 0, .int .u64 0, .int .u64 0, .int .u64 0, .int .u64 0, .int .u64 0, .int .u64 0, .int .u64 0, .int .u64 0, .int .u64 0], false⟩),
  (160, ⟨1, 4, .int .u32, [.int .u32 0], false⟩),
  (161, ⟨65, 65, .arr 65 5, [.int .u8 0, .int .u8 0, .int .u8 0, .int .u8 0, .int .u8 0, .int .u8 0, .int .u8 0, .int .u8 0, .int .u8 0, .int .u8 0, .int .u8 0, .int .u8 0, .int .u8 0, .int .u8 0, .int .u8 0, .int .u8 0, .int .u8 0, .int .u8 0, .int .u8 0, .int .u8 0, .int .u8 0, .int .u8 0, .int .u8 0, .int .u8 0, .int .u8 0, .int .u8 0, .int .u8 0, .int .u8 0, .int .u8 0, .int .u8 0, .int .u8 0, .int .u8 0, .int .u8 0, .int .u8 0, .int .u8 0, .int .u8 0, .int .u8 0, .int .u8 0, .int .u8 0, .int .u8 0, .int .u8 0, .int .u8 0, .int .u8 0, .int .u8 0, .int .u8 0, .int .u8 0, .int .u8 0, .int .u8 0, .int .u8 0, .int .u8 0, .int .u8 0, .int .u8 0, .int .u8 0, .int .u8 0, .int .u8 0, .int .u8 0, .int .u8 0, .int .u8 0, .int .u8 0, .int .u8 0, .int .u8 0, .int .u8 0, .int .u8 0, .int .u8 0, .int .u8 0], false⟩),
  (166, ⟨1, 8, .ptr, [.pointer none], false⟩),
  (172, ⟨0, 0, .st [], [], false⟩),
  (175, ⟨1, 24, .sl 4, [.slice none 0 0], false⟩),
  (176, ⟨7, 72, .st [(0, 3), (1, 26), (4, 46)], [.int .i64 0, .int .i64 0, .int .i64 0, .string ⟨#[]⟩, .int .i64 0, .string ⟨#[]⟩, .bool false], true⟩),
  (177, ⟨7, 72, .st [(0, 3), (1, 26), (4, 46)], [.int .i64 0, .int .i64 0, .int .i64 0, .string ⟨#[]⟩, .int .i64 0, .string ⟨#[]⟩, .bool false], true⟩),
  (183, ⟨3, 48, .st [(0, 9), (1, 9), (2, 102)], [.string ⟨#[]⟩, .string ⟨#[]⟩, .nilIface], false⟩),
  (184, ⟨3, 48, .st [(0, 9), (1, 9), (2, 102)], [.string ⟨#[]⟩, .string ⟨#[]⟩, .nilIface], false⟩),
  (194, ⟨32, 32, .arr 32 5, [.int .u8 0, .int .u8 0, .int .u8 0, .int .u8 0, .int .u8 0, .int .u8 0, .int .u8 0, .int .u8 0, .int .u8 0, .int .u8 0, .int .u8 0, .int .u8 0, .int .u8 0, .int .u8 0, .int .u8 0, .int .u8 0, .int .u8 0, .int .u8 0, .int .u8 0, .int .u8 0, .int .u8 0, .int .u8 0, .int .u8 0, .int .u8 0, .int .u8 0, .int .u8 0, .int .u8 0, .int .u8 0, .int .u8 0, .int .u8 0, .int .u8 0, .int .u8 0], false⟩),
  (195, ⟨64, 64, .arr 64 5, [.int .u8 0, .int .u8 0, .int .u8 0, .int .u8 0, .int .u8 0, .int .u8 0, .int .u8 0, .int .u8 0, .int .u8 0, .int .u8 0, .int .u8 0, .int .u8 0, .int .u8 0, .int .u8 0, .int .u8 0, .int .u8 0, .int .u8 0, .int .u8 0, .int .u8 0, .int .u8 0, .int .u8 0, .int .u8 0, .int .u8 0, .int .u8 0, .int .u8 0, .int .u8 0, .int .u8 0, .int .u8 0, .int .u8 0, .int .u8 0, .int .u8 0, .int .u8 0, .int .u8 0, .int .u8 0, .int .u8 0, .int .u8 0, .int .u8 0, .int .u8 0, .int .u8 0, .int .u8 0, .int .u8 0, .int .u8 0, .int .u8 0, .int .u8 0, .int .u8 0, .int .u8 0, .int .u8 0, .int .u8 0, .int .u8 0, .int .u8 0, .int .u8 0, .int .u8 0, .int .u8 0, .int .u8 0, .int .u8 0, .int .u8 0, .int .u8 0, .int .u8 0, .int .u8 0, .int .u8 0, .int .u8 0, .int .u8 0, .int .u8 0, .int .u8 0], false⟩),
  (197, ⟨1, 8, .ptr, [.pointer none], false⟩),
  (198, ⟨1, 16, .st [(0, 9)], [.string ⟨#[]⟩], true⟩),
  (199, ⟨1, 16, .st [(0, 9)], [.string ⟨#[]⟩], true⟩)]
theorem ttab_ok : TypesOk Tryd.prog TTab :=
  typesOk_cons ty2 <| typesOk_cons ty3 <| typesOk_cons ty4 <| typesOk_cons ty9 <| typesOk_cons ty22 <| typesOk_cons ty5 <| typesOk_cons ty12 <| typesOk_cons ty13 <| typesOk_cons ty20 <| typesOk_cons ty21 <| typesOk_cons ty25 <| typesOk_cons ty26 <| typesOk_cons ty30 <| typesOk_cons ty33 <| typesOk_cons ty34 <| typesOk_cons ty36 <| typesOk_cons ty37 <| typesOk_cons ty38 <| typesOk_cons ty39 <| typesOk_cons ty40 <| typesOk_cons ty41 <| typesOk_cons ty42 <| typesOk_cons ty45 <| typesOk_cons ty46 <| typesOk_cons ty47 <| typesOk_cons ty48 <| typesOk_cons ty55 <| typesOk_cons ty57 <| typesOk_cons ty63 <| typesOk_cons ty65 <| typesOk_cons ty66 <| typesOk_cons ty67 <| typesOk_cons ty81 <| typesOk_cons ty82 <| typesOk_cons ty83 <| typesOk_cons ty88 <| typesOk_cons ty89 <| typesOk_cons ty91 <| typesOk_cons ty92 <| typesOk_cons ty98 <| typesOk_cons ty99 <| typesOk_cons ty100 <| typesOk_cons ty101 <| typesOk_cons ty102 <| typesOk_cons ty106 <| typesOk_cons ty120 <| typesOk_cons ty121 <| typesOk_cons ty122 <| typesOk_cons ty123 <| typesOk_cons ty127 <| typesOk_cons ty129 <| typesOk_cons ty133 <| typesOk_cons ty137 <| typesOk_cons ty138 <| typesOk_cons ty139 <| typesOk_cons ty141 <| typesOk_cons ty142 <| typesOk_cons ty144 <| typesOk_cons ty159 <| typesOk_cons ty160 <| typesOk_cons ty161 <| typesOk_cons ty166 <| typesOk_cons ty172 <| typesOk_cons ty175 <| typesOk_cons ty176 <| typesOk_cons ty177 <| typesOk_cons ty183 <| typesOk_cons ty184 <| typesOk_cons ty194 <| typesOk_cons ty195 <| typesOk_cons ty197 <| typesOk_cons ty198 <| typesOk_cons ty199 <| typesOk_nil
end Go.Proofs.YtiiagdnmbpdlaaaDoor
