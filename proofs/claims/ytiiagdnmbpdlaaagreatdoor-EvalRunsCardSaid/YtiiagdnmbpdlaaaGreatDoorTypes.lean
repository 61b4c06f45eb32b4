/-
  Shades: the types of this seat's program (printed by a program of ours).
-/
import Derived.Test.YtiiagdnmbpdlaaaGreatDoorChecked
import Derived.Test.YtiiagdnmbpdlaaaGreatDoorShade5
namespace Go.Proofs.YtiiagdnmbpdlaaaGreatDoor
open Go.RowKit
theorem eqt2 (d : Nat) : EqT Tryz.prog (d + 1) 2 false [.int .i64 0] := eqt_int d 0 (by kernel_rfl)
theorem ty2 : TyOk Tryz.prog 2 ⟨1, 8, .int .i64, [.int .i64 0], false⟩ := ⟨info_of (by kernel_rfl), (by kernel_rfl : Tryz.prog.underlying 2 = some (.int .i64)), fun h => by cases h⟩
theorem eqt3 (d : Nat) : EqT Tryz.prog (d + 1) 3 false [.int .i64 0] := eqt_int d 0 (by kernel_rfl)
theorem ty3 : TyOk Tryz.prog 3 ⟨1, 8, .int .i64, [.int .i64 0], false⟩ := ⟨info_of (by kernel_rfl), (by kernel_rfl : Tryz.prog.underlying 3 = some (.int .i64)), fun h => by cases h⟩
theorem eqt4 (d : Nat) : EqT Tryz.prog (d + 1) 4 false [.bool false] := eqt_bool d false (by kernel_rfl)
theorem ty4 : TyOk Tryz.prog 4 ⟨1, 1, .bool, [.bool false], false⟩ := ⟨info_of (by kernel_rfl), (by kernel_rfl : Tryz.prog.underlying 4 = some (.bool)), fun h => by cases h⟩
theorem ty5 : TyOk Tryz.prog 5 ⟨1, 1, .int .u8, [.int .u8 0], false⟩ := ⟨info_of (by kernel_rfl), (by kernel_rfl : Tryz.prog.underlying 5 = some (.int .u8)), fun h => by cases h⟩
theorem eqt9 (d : Nat) : EqT Tryz.prog (d + 1) 9 false [.string ⟨#[]⟩] := eqt_str d _ (by kernel_rfl)
theorem ty9 : TyOk Tryz.prog 9 ⟨1, 16, .str, [.string ⟨#[]⟩], false⟩ := ⟨info_of (by kernel_rfl), (by kernel_rfl : Tryz.prog.underlying 9 = some (.string)), fun h => by cases h⟩
theorem ty12 : TyOk Tryz.prog 12 ⟨1, 8, .int .u64, [.int .u64 0], false⟩ := ⟨info_of (by kernel_rfl), (by kernel_rfl : Tryz.prog.underlying 12 = some (.int .u64)), fun h => by cases h⟩
theorem ty13 : TyOk Tryz.prog 13 ⟨2, 24, .st [(0, 9), (1, 12)], [.string ⟨#[]⟩, .int .u64 0], false⟩ := ⟨info_of (by kernel_rfl), (fields_of (by kernel_rfl)), fun h => by cases h⟩
theorem ty20 : TyOk Tryz.prog 20 ⟨1, 16, .ifc, [.nilIface], false⟩ := ⟨info_of (by kernel_rfl), (ifc_of (by kernel_rfl)), fun h => by cases h⟩
theorem ty21 : TyOk Tryz.prog 21 ⟨1, 4, .int .i32, [.int .i32 0], false⟩ := ⟨info_of (by kernel_rfl), (by kernel_rfl : Tryz.prog.underlying 21 = some (.int .i32)), fun h => by cases h⟩
theorem ty22 : TyOk Tryz.prog 22 ⟨1, 24, .sl 45, [.slice none 0 0], false⟩ := ⟨info_of (by kernel_rfl), (by kernel_rfl : Tryz.prog.underlying 22 = some (.slice 45)), fun h => by cases h⟩
theorem eqt23 (d : Nat) : EqT Tryz.prog (d + 1) 23 false [.int .i64 0] := eqt_int d 0 (by kernel_rfl)
theorem ty23 : TyOk Tryz.prog 23 ⟨1, 8, .int .i64, [.int .i64 0], false⟩ := ⟨info_of (by kernel_rfl), (by kernel_rfl : Tryz.prog.underlying 23 = some (.int .i64)), fun h => by cases h⟩
theorem ty26 : TyOk Tryz.prog 26 ⟨1, 24, .sl 131, [.slice none 0 0], false⟩ := ⟨info_of (by kernel_rfl), (by kernel_rfl : Tryz.prog.underlying 26 = some (.slice 131)), fun h => by cases h⟩
theorem ty27 : TyOk Tryz.prog 27 ⟨1, 24, .sl 131, [.slice none 0 0], false⟩ := ⟨info_of (by kernel_rfl), (by kernel_rfl : Tryz.prog.underlying 27 = some (.slice 131)), fun h => by cases h⟩
theorem ty28 : TyOk Tryz.prog 28 ⟨1, 24, .sl 98, [.slice none 0 0], false⟩ := ⟨info_of (by kernel_rfl), (by kernel_rfl : Tryz.prog.underlying 28 = some (.slice 98)), fun h => by cases h⟩
theorem ty29 : TyOk Tryz.prog 29 ⟨1, 24, .sl 32, [.slice none 0 0], false⟩ := ⟨info_of (by kernel_rfl), (by kernel_rfl : Tryz.prog.underlying 29 = some (.slice 32)), fun h => by cases h⟩
theorem ty30 : TyOk Tryz.prog 30 ⟨1, 24, .sl 56, [.slice none 0 0], false⟩ := ⟨info_of (by kernel_rfl), (by kernel_rfl : Tryz.prog.underlying 30 = some (.slice 56)), fun h => by cases h⟩
theorem ty31 : TyOk Tryz.prog 31 ⟨7, 128, .st [(0, 9), (1, 4), (2, 3), (3, 27), (4, 28), (5, 29), (6, 30)], [.string ⟨#[]⟩, .bool false, .int .i64 0, .slice none 0 0, .slice none 0 0, .slice none 0 0, .slice none 0 0], false⟩ := ⟨info_of (by kernel_rfl), (fields_of (by kernel_rfl)), fun h => by cases h⟩
theorem ty32 : TyOk Tryz.prog 32 ⟨7, 128, .st [(0, 9), (1, 4), (2, 3), (3, 27), (4, 28), (5, 29), (6, 30)], [.string ⟨#[]⟩, .bool false, .int .i64 0, .slice none 0 0, .slice none 0 0, .slice none 0 0, .slice none 0 0], false⟩ := ⟨info_of (by kernel_rfl), (fields_of (by kernel_rfl)), fun h => by cases h⟩
theorem eqt34 (d : Nat) : EqT Tryz.prog (d + 2) 34 true [.int .i64 0, .string ⟨#[]⟩, .bool false] := eqt_struct (d := d + 1) Tryz.underlying34 (by kernel_rfl) (.cons (i := ⟨1, 8, .int .i64, [.int .i64 0], false⟩) rfl (by decide) ty3 rfl (by simp [Ty.agg]) (eqt3 (d + 0)) (.cons (i := ⟨1, 16, .str, [.string ⟨#[]⟩], false⟩) rfl (by decide) ty9 rfl (by simp [Ty.agg]) (eqt9 (d + 0)) (.cons (i := ⟨1, 1, .bool, [.bool false], false⟩) rfl (by decide) ty4 rfl (by simp [Ty.agg]) (eqt4 (d + 0)) (.nil))))
theorem ty34 : TyOk Tryz.prog 34 ⟨3, 32, .st [(0, 3), (1, 9), (2, 4)], [.int .i64 0, .string ⟨#[]⟩, .bool false], true⟩ := ⟨info_of (by kernel_rfl), (fields_of (by kernel_rfl)), fun _ => ⟨by kernel_rfl, fun xs ys b w => eqt34 9998 xs ys b w⟩⟩
theorem eqt35 (d : Nat) : EqT Tryz.prog (d + 2) 35 true [.int .i64 0, .string ⟨#[]⟩, .bool false] := eqt_struct (d := d + 1) Tryz.underlying35 (by kernel_rfl) (.cons (i := ⟨1, 8, .int .i64, [.int .i64 0], false⟩) rfl (by decide) ty3 rfl (by simp [Ty.agg]) (eqt3 (d + 0)) (.cons (i := ⟨1, 16, .str, [.string ⟨#[]⟩], false⟩) rfl (by decide) ty9 rfl (by simp [Ty.agg]) (eqt9 (d + 0)) (.cons (i := ⟨1, 1, .bool, [.bool false], false⟩) rfl (by decide) ty4 rfl (by simp [Ty.agg]) (eqt4 (d + 0)) (.nil))))
theorem ty35 : TyOk Tryz.prog 35 ⟨3, 32, .st [(0, 3), (1, 9), (2, 4)], [.int .i64 0, .string ⟨#[]⟩, .bool false], true⟩ := ⟨info_of (by kernel_rfl), (fields_of (by kernel_rfl)), fun _ => ⟨by kernel_rfl, fun xs ys b w => eqt35 9998 xs ys b w⟩⟩
theorem eqt36 (d : Nat) : EqT Tryz.prog (d + 2) 36 true [.int .i64 0, .int .i64 0, .string ⟨#[]⟩] := eqt_struct (d := d + 1) Tryz.underlying36 (by kernel_rfl) (.cons (i := ⟨1, 8, .int .i64, [.int .i64 0], false⟩) rfl (by decide) ty3 rfl (by simp [Ty.agg]) (eqt3 (d + 0)) (.cons (i := ⟨1, 8, .int .i64, [.int .i64 0], false⟩) rfl (by decide) ty3 rfl (by simp [Ty.agg]) (eqt3 (d + 0)) (.cons (i := ⟨1, 16, .str, [.string ⟨#[]⟩], false⟩) rfl (by decide) ty9 rfl (by simp [Ty.agg]) (eqt9 (d + 0)) (.nil))))
theorem ty36 : TyOk Tryz.prog 36 ⟨3, 32, .st [(0, 3), (1, 3), (2, 9)], [.int .i64 0, .int .i64 0, .string ⟨#[]⟩], true⟩ := ⟨info_of (by kernel_rfl), (fields_of (by kernel_rfl)), fun _ => ⟨by kernel_rfl, fun xs ys b w => eqt36 9998 xs ys b w⟩⟩
theorem eqt37 (d : Nat) : EqT Tryz.prog (d + 2) 37 true [.int .i64 0, .int .i64 0, .string ⟨#[]⟩] := eqt_struct (d := d + 1) Tryz.underlying37 (by kernel_rfl) (.cons (i := ⟨1, 8, .int .i64, [.int .i64 0], false⟩) rfl (by decide) ty3 rfl (by simp [Ty.agg]) (eqt3 (d + 0)) (.cons (i := ⟨1, 8, .int .i64, [.int .i64 0], false⟩) rfl (by decide) ty3 rfl (by simp [Ty.agg]) (eqt3 (d + 0)) (.cons (i := ⟨1, 16, .str, [.string ⟨#[]⟩], false⟩) rfl (by decide) ty9 rfl (by simp [Ty.agg]) (eqt9 (d + 0)) (.nil))))
theorem ty37 : TyOk Tryz.prog 37 ⟨3, 32, .st [(0, 3), (1, 3), (2, 9)], [.int .i64 0, .int .i64 0, .string ⟨#[]⟩], true⟩ := ⟨info_of (by kernel_rfl), (fields_of (by kernel_rfl)), fun _ => ⟨by kernel_rfl, fun xs ys b w => eqt37 9998 xs ys b w⟩⟩
theorem eqt38 (d : Nat) : EqT Tryz.prog (d + 3) 38 true [.int .i64 0, .string ⟨#[]⟩, .bool false, .int .i64 0, .int .i64 0, .int .i64 0, .string ⟨#[]⟩] := eqt_struct (d := d + 2) Tryz.underlying38 (by kernel_rfl) (.cons (i := ⟨3, 32, .st [(0, 3), (1, 9), (2, 4)], [.int .i64 0, .string ⟨#[]⟩, .bool false], true⟩) rfl (by decide) ty35 rfl (by simp [Ty.agg]) (eqt35 (d + 0)) (.cons (i := ⟨1, 8, .int .i64, [.int .i64 0], false⟩) rfl (by decide) ty3 rfl (by simp [Ty.agg]) (eqt3 (d + 1)) (.cons (i := ⟨3, 32, .st [(0, 3), (1, 3), (2, 9)], [.int .i64 0, .int .i64 0, .string ⟨#[]⟩], true⟩) rfl (by decide) ty37 rfl (by simp [Ty.agg]) (eqt37 (d + 0)) (.nil))))
theorem ty38 : TyOk Tryz.prog 38 ⟨7, 72, .st [(0, 35), (3, 3), (4, 37)], [.int .i64 0, .string ⟨#[]⟩, .bool false, .int .i64 0, .int .i64 0, .int .i64 0, .string ⟨#[]⟩], true⟩ := ⟨info_of (by kernel_rfl), (fields_of (by kernel_rfl)), fun _ => ⟨by kernel_rfl, fun xs ys b w => eqt38 9997 xs ys b w⟩⟩
theorem eqt39 (d : Nat) : EqT Tryz.prog (d + 3) 39 true [.int .i64 0, .string ⟨#[]⟩, .bool false, .int .i64 0, .int .i64 0, .int .i64 0, .string ⟨#[]⟩] := eqt_struct (d := d + 2) Tryz.underlying39 (by kernel_rfl) (.cons (i := ⟨3, 32, .st [(0, 3), (1, 9), (2, 4)], [.int .i64 0, .string ⟨#[]⟩, .bool false], true⟩) rfl (by decide) ty35 rfl (by simp [Ty.agg]) (eqt35 (d + 0)) (.cons (i := ⟨1, 8, .int .i64, [.int .i64 0], false⟩) rfl (by decide) ty3 rfl (by simp [Ty.agg]) (eqt3 (d + 1)) (.cons (i := ⟨3, 32, .st [(0, 3), (1, 3), (2, 9)], [.int .i64 0, .int .i64 0, .string ⟨#[]⟩], true⟩) rfl (by decide) ty37 rfl (by simp [Ty.agg]) (eqt37 (d + 0)) (.nil))))
theorem ty39 : TyOk Tryz.prog 39 ⟨7, 72, .st [(0, 35), (3, 3), (4, 37)], [.int .i64 0, .string ⟨#[]⟩, .bool false, .int .i64 0, .int .i64 0, .int .i64 0, .string ⟨#[]⟩], true⟩ := ⟨info_of (by kernel_rfl), (fields_of (by kernel_rfl)), fun _ => ⟨by kernel_rfl, fun xs ys b w => eqt39 9997 xs ys b w⟩⟩
theorem eqt40 (d : Nat) : EqT Tryz.prog (d + 3) 40 true [.int .i64 0, .int .i64 0, .int .i64 0, .string ⟨#[]⟩, .int .i64 0, .string ⟨#[]⟩, .bool false] := eqt_struct (d := d + 2) Tryz.underlying40 (by kernel_rfl) (.cons (i := ⟨1, 8, .int .i64, [.int .i64 0], false⟩) rfl (by decide) ty3 rfl (by simp [Ty.agg]) (eqt3 (d + 1)) (.cons (i := ⟨3, 32, .st [(0, 3), (1, 3), (2, 9)], [.int .i64 0, .int .i64 0, .string ⟨#[]⟩], true⟩) rfl (by decide) ty37 rfl (by simp [Ty.agg]) (eqt37 (d + 0)) (.cons (i := ⟨3, 32, .st [(0, 3), (1, 9), (2, 4)], [.int .i64 0, .string ⟨#[]⟩, .bool false], true⟩) rfl (by decide) ty35 rfl (by simp [Ty.agg]) (eqt35 (d + 0)) (.nil))))
theorem ty40 : TyOk Tryz.prog 40 ⟨7, 72, .st [(0, 3), (1, 37), (4, 35)], [.int .i64 0, .int .i64 0, .int .i64 0, .string ⟨#[]⟩, .int .i64 0, .string ⟨#[]⟩, .bool false], true⟩ := ⟨info_of (by kernel_rfl), (fields_of (by kernel_rfl)), fun _ => ⟨by kernel_rfl, fun xs ys b w => eqt40 9997 xs ys b w⟩⟩
theorem eqt41 (d : Nat) : EqT Tryz.prog (d + 3) 41 true [.int .i64 0, .int .i64 0, .int .i64 0, .string ⟨#[]⟩, .int .i64 0, .string ⟨#[]⟩, .bool false] := eqt_struct (d := d + 2) Tryz.underlying41 (by kernel_rfl) (.cons (i := ⟨1, 8, .int .i64, [.int .i64 0], false⟩) rfl (by decide) ty3 rfl (by simp [Ty.agg]) (eqt3 (d + 1)) (.cons (i := ⟨3, 32, .st [(0, 3), (1, 3), (2, 9)], [.int .i64 0, .int .i64 0, .string ⟨#[]⟩], true⟩) rfl (by decide) ty37 rfl (by simp [Ty.agg]) (eqt37 (d + 0)) (.cons (i := ⟨3, 32, .st [(0, 3), (1, 9), (2, 4)], [.int .i64 0, .string ⟨#[]⟩, .bool false], true⟩) rfl (by decide) ty35 rfl (by simp [Ty.agg]) (eqt35 (d + 0)) (.nil))))
theorem ty41 : TyOk Tryz.prog 41 ⟨7, 72, .st [(0, 3), (1, 37), (4, 35)], [.int .i64 0, .int .i64 0, .int .i64 0, .string ⟨#[]⟩, .int .i64 0, .string ⟨#[]⟩, .bool false], true⟩ := ⟨info_of (by kernel_rfl), (fields_of (by kernel_rfl)), fun _ => ⟨by kernel_rfl, fun xs ys b w => eqt41 9997 xs ys b w⟩⟩
theorem ty42 : TyOk Tryz.prog 42 ⟨1, 24, .sl 41, [.slice none 0 0], false⟩ := ⟨info_of (by kernel_rfl), (by kernel_rfl : Tryz.prog.underlying 42 = some (.slice 41)), fun h => by cases h⟩
theorem ty44 : TyOk Tryz.prog 44 ⟨8, 96, .st [(0, 39), (7, 42)], [.int .i64 0, .string ⟨#[]⟩, .bool false, .int .i64 0, .int .i64 0, .int .i64 0, .string ⟨#[]⟩, .slice none 0 0], false⟩ := ⟨info_of (by kernel_rfl), (fields_of (by kernel_rfl)), fun h => by cases h⟩
theorem ty45 : TyOk Tryz.prog 45 ⟨8, 96, .st [(0, 39), (7, 42)], [.int .i64 0, .string ⟨#[]⟩, .bool false, .int .i64 0, .int .i64 0, .int .i64 0, .string ⟨#[]⟩, .slice none 0 0], false⟩ := ⟨info_of (by kernel_rfl), (fields_of (by kernel_rfl)), fun h => by cases h⟩
theorem ty47 : TyOk Tryz.prog 47 ⟨1, 16, .cpx, [.complex .f64 0 0], false⟩ := ⟨info_of (by kernel_rfl), (by kernel_rfl : Tryz.prog.underlying 47 = some (.complex .f64)), fun h => by cases h⟩
theorem ty48 : TyOk Tryz.prog 48 ⟨1, 16, .cpx, [.complex .f64 0 0], false⟩ := ⟨info_of (by kernel_rfl), (by kernel_rfl : Tryz.prog.underlying 48 = some (.complex .f64)), fun h => by cases h⟩
theorem ty49 : TyOk Tryz.prog 49 ⟨2, 40, .st [(0, 48), (1, 30)], [.complex .f64 0 0, .slice none 0 0], false⟩ := ⟨info_of (by kernel_rfl), (fields_of (by kernel_rfl)), fun h => by cases h⟩
theorem ty50 : TyOk Tryz.prog 50 ⟨2, 40, .st [(0, 48), (1, 30)], [.complex .f64 0 0, .slice none 0 0], false⟩ := ⟨info_of (by kernel_rfl), (fields_of (by kernel_rfl)), fun h => by cases h⟩
theorem ty53 : TyOk Tryz.prog 53 ⟨1, 24, .sl 73, [.slice none 0 0], false⟩ := ⟨info_of (by kernel_rfl), (by kernel_rfl : Tryz.prog.underlying 53 = some (.slice 73)), fun h => by cases h⟩
theorem eqt55 (d : Nat) : EqT Tryz.prog (d + 2) 55 true [.int .i64 0, .int .i64 0, .string ⟨#[]⟩] := eqt_struct (d := d + 1) Tryz.underlying55 (by kernel_rfl) (.cons (i := ⟨1, 8, .int .i64, [.int .i64 0], false⟩) rfl (by decide) ty3 rfl (by simp [Ty.agg]) (eqt3 (d + 0)) (.cons (i := ⟨1, 8, .int .i64, [.int .i64 0], false⟩) rfl (by decide) ty3 rfl (by simp [Ty.agg]) (eqt3 (d + 0)) (.cons (i := ⟨1, 16, .str, [.string ⟨#[]⟩], false⟩) rfl (by decide) ty9 rfl (by simp [Ty.agg]) (eqt9 (d + 0)) (.nil))))
theorem ty55 : TyOk Tryz.prog 55 ⟨3, 32, .st [(0, 3), (1, 3), (2, 9)], [.int .i64 0, .int .i64 0, .string ⟨#[]⟩], true⟩ := ⟨info_of (by kernel_rfl), (fields_of (by kernel_rfl)), fun _ => ⟨by kernel_rfl, fun xs ys b w => eqt55 9998 xs ys b w⟩⟩
theorem eqt56 (d : Nat) : EqT Tryz.prog (d + 2) 56 true [.int .i64 0, .int .i64 0, .string ⟨#[]⟩] := eqt_struct (d := d + 1) Tryz.underlying56 (by kernel_rfl) (.cons (i := ⟨1, 8, .int .i64, [.int .i64 0], false⟩) rfl (by decide) ty3 rfl (by simp [Ty.agg]) (eqt3 (d + 0)) (.cons (i := ⟨1, 8, .int .i64, [.int .i64 0], false⟩) rfl (by decide) ty3 rfl (by simp [Ty.agg]) (eqt3 (d + 0)) (.cons (i := ⟨1, 16, .str, [.string ⟨#[]⟩], false⟩) rfl (by decide) ty9 rfl (by simp [Ty.agg]) (eqt9 (d + 0)) (.nil))))
theorem ty56 : TyOk Tryz.prog 56 ⟨3, 32, .st [(0, 3), (1, 3), (2, 9)], [.int .i64 0, .int .i64 0, .string ⟨#[]⟩], true⟩ := ⟨info_of (by kernel_rfl), (fields_of (by kernel_rfl)), fun _ => ⟨by kernel_rfl, fun xs ys b w => eqt56 9998 xs ys b w⟩⟩
theorem ty58 : TyOk Tryz.prog 58 ⟨1, 8, .ptr, [.pointer none], false⟩ := ⟨info_of (by kernel_rfl), (ptr_of (by kernel_rfl)), fun h => by cases h⟩
theorem ty71 : TyOk Tryz.prog 71 ⟨1, 24, .sl 37, [.slice none 0 0], false⟩ := ⟨info_of (by kernel_rfl), (by kernel_rfl : Tryz.prog.underlying 71 = some (.slice 37)), fun h => by cases h⟩
theorem ty72 : TyOk Tryz.prog 72 ⟨3, 48, .st [(0, 3), (1, 9), (2, 71)], [.int .i64 0, .string ⟨#[]⟩, .slice none 0 0], false⟩ := ⟨info_of (by kernel_rfl), (fields_of (by kernel_rfl)), fun h => by cases h⟩
theorem ty73 : TyOk Tryz.prog 73 ⟨3, 48, .st [(0, 3), (1, 9), (2, 71)], [.int .i64 0, .string ⟨#[]⟩, .slice none 0 0], false⟩ := ⟨info_of (by kernel_rfl), (fields_of (by kernel_rfl)), fun h => by cases h⟩
theorem ty75 : TyOk Tryz.prog 75 ⟨1, 8, .ptr, [.pointer none], false⟩ := ⟨info_of (by kernel_rfl), (ptr_of (by kernel_rfl)), fun h => by cases h⟩
theorem ty76 : TyOk Tryz.prog 76 ⟨2, 16, .st [(0, 75), (1, 3)], [.pointer none, .int .i64 0], false⟩ := ⟨info_of (by kernel_rfl), (fields_of (by kernel_rfl)), fun h => by cases h⟩
theorem ty77 : TyOk Tryz.prog 77 ⟨2, 16, .st [(0, 75), (1, 3)], [.pointer none, .int .i64 0], false⟩ := ⟨info_of (by kernel_rfl), (fields_of (by kernel_rfl)), fun h => by cases h⟩
theorem ty78 : TyOk Tryz.prog 78 ⟨1, 24, .sl 50, [.slice none 0 0], false⟩ := ⟨info_of (by kernel_rfl), (by kernel_rfl : Tryz.prog.underlying 78 = some (.slice 50)), fun h => by cases h⟩
theorem ty79 : TyOk Tryz.prog 79 ⟨4, 64, .st [(0, 77), (2, 22), (3, 78)], [.pointer none, .int .i64 0, .slice none 0 0, .slice none 0 0], false⟩ := ⟨info_of (by kernel_rfl), (fields_of (by kernel_rfl)), fun h => by cases h⟩
theorem ty80 : TyOk Tryz.prog 80 ⟨4, 64, .st [(0, 77), (2, 22), (3, 78)], [.pointer none, .int .i64 0, .slice none 0 0, .slice none 0 0], false⟩ := ⟨info_of (by kernel_rfl), (fields_of (by kernel_rfl)), fun h => by cases h⟩
theorem ty83 : TyOk Tryz.prog 83 ⟨3, 24, .arr 3 3, [.int .i64 0, .int .i64 0, .int .i64 0], false⟩ := ⟨info_of (by kernel_rfl), (by kernel_rfl : Tryz.prog.underlying 83 = some (.array 3 3)), fun h => by cases h⟩
theorem ty84 : TyOk Tryz.prog 84 ⟨4, 32, .st [(0, 3), (1, 83)], [.int .i64 0, .int .i64 0, .int .i64 0, .int .i64 0], false⟩ := ⟨info_of (by kernel_rfl), (fields_of (by kernel_rfl)), fun h => by cases h⟩
theorem ty85 : TyOk Tryz.prog 85 ⟨4, 32, .st [(0, 3), (1, 83)], [.int .i64 0, .int .i64 0, .int .i64 0, .int .i64 0], false⟩ := ⟨info_of (by kernel_rfl), (fields_of (by kernel_rfl)), fun h => by cases h⟩
theorem ty91 : TyOk Tryz.prog 91 ⟨1, 8, .ptr, [.pointer none], false⟩ := ⟨info_of (by kernel_rfl), (ptr_of (by kernel_rfl)), fun h => by cases h⟩
theorem ty92 : TyOk Tryz.prog 92 ⟨1, 8, .mp 9 128, [.map none], false⟩ := ⟨info_of (by kernel_rfl), (by kernel_rfl : Tryz.prog.underlying 92 = some (.map 9 128)), fun h => by cases h⟩
theorem ty93 : TyOk Tryz.prog 93 ⟨2, 16, .st [(0, 92), (1, 3)], [.map none, .int .i64 0], false⟩ := ⟨info_of (by kernel_rfl), (fields_of (by kernel_rfl)), fun h => by cases h⟩
theorem ty94 : TyOk Tryz.prog 94 ⟨2, 16, .st [(0, 92), (1, 3)], [.map none, .int .i64 0], false⟩ := ⟨info_of (by kernel_rfl), (fields_of (by kernel_rfl)), fun h => by cases h⟩
theorem ty97 : TyOk Tryz.prog 97 ⟨5, 96, .st [(0, 9), (1, 4), (2, 27), (3, 42), (4, 30)], [.string ⟨#[]⟩, .bool false, .slice none 0 0, .slice none 0 0, .slice none 0 0], false⟩ := ⟨info_of (by kernel_rfl), (fields_of (by kernel_rfl)), fun h => by cases h⟩
theorem ty98 : TyOk Tryz.prog 98 ⟨5, 96, .st [(0, 9), (1, 4), (2, 27), (3, 42), (4, 30)], [.string ⟨#[]⟩, .bool false, .slice none 0 0, .slice none 0 0, .slice none 0 0], false⟩ := ⟨info_of (by kernel_rfl), (fields_of (by kernel_rfl)), fun h => by cases h⟩
theorem ty100 : TyOk Tryz.prog 100 ⟨1, 24, .sl 108, [.slice none 0 0], false⟩ := ⟨info_of (by kernel_rfl), (by kernel_rfl : Tryz.prog.underlying 100 = some (.slice 108)), fun h => by cases h⟩
theorem ty103 : TyOk Tryz.prog 103 ⟨1, 8, .ptr, [.pointer none], false⟩ := ⟨info_of (by kernel_rfl), (ptr_of (by kernel_rfl)), fun h => by cases h⟩
theorem ty104 : TyOk Tryz.prog 104 ⟨5, 56, .st [(0, 100), (1, 3), (2, 3), (3, 23), (4, 3)], [.slice none 0 0, .int .i64 0, .int .i64 0, .int .i64 0, .int .i64 0], false⟩ := ⟨info_of (by kernel_rfl), (fields_of (by kernel_rfl)), fun h => by cases h⟩
theorem ty105 : TyOk Tryz.prog 105 ⟨5, 56, .st [(0, 100), (1, 3), (2, 3), (3, 23), (4, 3)], [.slice none 0 0, .int .i64 0, .int .i64 0, .int .i64 0, .int .i64 0], false⟩ := ⟨info_of (by kernel_rfl), (fields_of (by kernel_rfl)), fun h => by cases h⟩
theorem eqt107 (d : Nat) : EqT Tryz.prog (d + 2) 107 true [.int .i64 0, .int .i64 0, .int .i64 0, .string ⟨#[]⟩] := eqt_struct (d := d + 1) Tryz.underlying107 (by kernel_rfl) (.cons (i := ⟨1, 8, .int .i64, [.int .i64 0], false⟩) rfl (by decide) ty3 rfl (by simp [Ty.agg]) (eqt3 (d + 0)) (.cons (i := ⟨1, 8, .int .i64, [.int .i64 0], false⟩) rfl (by decide) ty3 rfl (by simp [Ty.agg]) (eqt3 (d + 0)) (.cons (i := ⟨1, 8, .int .i64, [.int .i64 0], false⟩) rfl (by decide) ty3 rfl (by simp [Ty.agg]) (eqt3 (d + 0)) (.cons (i := ⟨1, 16, .str, [.string ⟨#[]⟩], false⟩) rfl (by decide) ty9 rfl (by simp [Ty.agg]) (eqt9 (d + 0)) (.nil)))))
theorem ty107 : TyOk Tryz.prog 107 ⟨4, 40, .st [(0, 3), (1, 3), (2, 3), (3, 9)], [.int .i64 0, .int .i64 0, .int .i64 0, .string ⟨#[]⟩], true⟩ := ⟨info_of (by kernel_rfl), (fields_of (by kernel_rfl)), fun _ => ⟨by kernel_rfl, fun xs ys b w => eqt107 9998 xs ys b w⟩⟩
theorem eqt108 (d : Nat) : EqT Tryz.prog (d + 2) 108 true [.int .i64 0, .int .i64 0, .int .i64 0, .string ⟨#[]⟩] := eqt_struct (d := d + 1) Tryz.underlying108 (by kernel_rfl) (.cons (i := ⟨1, 8, .int .i64, [.int .i64 0], false⟩) rfl (by decide) ty3 rfl (by simp [Ty.agg]) (eqt3 (d + 0)) (.cons (i := ⟨1, 8, .int .i64, [.int .i64 0], false⟩) rfl (by decide) ty3 rfl (by simp [Ty.agg]) (eqt3 (d + 0)) (.cons (i := ⟨1, 8, .int .i64, [.int .i64 0], false⟩) rfl (by decide) ty3 rfl (by simp [Ty.agg]) (eqt3 (d + 0)) (.cons (i := ⟨1, 16, .str, [.string ⟨#[]⟩], false⟩) rfl (by decide) ty9 rfl (by simp [Ty.agg]) (eqt9 (d + 0)) (.nil)))))
theorem ty108 : TyOk Tryz.prog 108 ⟨4, 40, .st [(0, 3), (1, 3), (2, 3), (3, 9)], [.int .i64 0, .int .i64 0, .int .i64 0, .string ⟨#[]⟩], true⟩ := ⟨info_of (by kernel_rfl), (fields_of (by kernel_rfl)), fun _ => ⟨by kernel_rfl, fun xs ys b w => eqt108 9998 xs ys b w⟩⟩
theorem ty115 : TyOk Tryz.prog 115 ⟨1, 24, .sl 77, [.slice none 0 0], false⟩ := ⟨info_of (by kernel_rfl), (by kernel_rfl : Tryz.prog.underlying 115 = some (.slice 77)), fun h => by cases h⟩
theorem ty118 : TyOk Tryz.prog 118 ⟨1, 24, .sl 3, [.slice none 0 0], false⟩ := ⟨info_of (by kernel_rfl), (by kernel_rfl : Tryz.prog.underlying 118 = some (.slice 3)), fun h => by cases h⟩
theorem ty121 : TyOk Tryz.prog 121 ⟨1, 24, .sl 85, [.slice none 0 0], false⟩ := ⟨info_of (by kernel_rfl), (by kernel_rfl : Tryz.prog.underlying 121 = some (.slice 85)), fun h => by cases h⟩
theorem ty122 : TyOk Tryz.prog 122 ⟨2, 32, .st [(0, 3), (1, 121)], [.int .i64 0, .slice none 0 0], false⟩ := ⟨info_of (by kernel_rfl), (fields_of (by kernel_rfl)), fun h => by cases h⟩
theorem ty123 : TyOk Tryz.prog 123 ⟨2, 32, .st [(0, 3), (1, 121)], [.int .i64 0, .slice none 0 0], false⟩ := ⟨info_of (by kernel_rfl), (fields_of (by kernel_rfl)), fun h => by cases h⟩
theorem ty127 : TyOk Tryz.prog 127 ⟨1, 8, .mp 3 128, [.map none], false⟩ := ⟨info_of (by kernel_rfl), (by kernel_rfl : Tryz.prog.underlying 127 = some (.map 3 128)), fun h => by cases h⟩
theorem ty128 : TyOk Tryz.prog 128 ⟨0, 0, .st [], [], false⟩ := ⟨info_of (by kernel_rfl), (fields_of (by kernel_rfl)), fun h => by cases h⟩
theorem ty131 : TyOk Tryz.prog 131 ⟨1, 24, .sl 132, [.slice none 0 0], false⟩ := ⟨info_of (by kernel_rfl), (by kernel_rfl : Tryz.prog.underlying 131 = some (.slice 132)), fun h => by cases h⟩
theorem ty132 : TyOk Tryz.prog 132 ⟨1, 24, .sl 39, [.slice none 0 0], false⟩ := ⟨info_of (by kernel_rfl), (by kernel_rfl : Tryz.prog.underlying 132 = some (.slice 39)), fun h => by cases h⟩
theorem ty146 : TyOk Tryz.prog 146 ⟨1, 24, .sl 48, [.slice none 0 0], false⟩ := ⟨info_of (by kernel_rfl), (by kernel_rfl : Tryz.prog.underlying 146 = some (.slice 48)), fun h => by cases h⟩
theorem ty154 : TyOk Tryz.prog 154 ⟨1, 8, .ptr, [.pointer none], false⟩ := ⟨info_of (by kernel_rfl), (ptr_of (by kernel_rfl)), fun h => by cases h⟩
theorem ty155 : TyOk Tryz.prog 155 ⟨1, 8, .mp 9 3, [.map none], false⟩ := ⟨info_of (by kernel_rfl), (by kernel_rfl : Tryz.prog.underlying 155 = some (.map 9 3)), fun h => by cases h⟩
theorem ty164 : TyOk Tryz.prog 164 ⟨5, 64, .st [(0, 71), (1, 37), (4, 23)], [.slice none 0 0, .int .i64 0, .int .i64 0, .string ⟨#[]⟩, .int .i64 0], false⟩ := ⟨info_of (by kernel_rfl), (fields_of (by kernel_rfl)), fun h => by cases h⟩
theorem ty165 : TyOk Tryz.prog 165 ⟨5, 64, .st [(0, 71), (1, 37), (4, 23)], [.slice none 0 0, .int .i64 0, .int .i64 0, .string ⟨#[]⟩, .int .i64 0], false⟩ := ⟨info_of (by kernel_rfl), (fields_of (by kernel_rfl)), fun h => by cases h⟩
theorem ty184 : TyOk Tryz.prog 184 ⟨1, 24, .sl 9, [.slice none 0 0], false⟩ := ⟨info_of (by kernel_rfl), (by kernel_rfl : Tryz.prog.underlying 184 = some (.slice 9)), fun h => by cases h⟩
theorem ty197 : TyOk Tryz.prog 197 ⟨1, 24, .sl 165, [.slice none 0 0], false⟩ := ⟨info_of (by kernel_rfl), (by kernel_rfl : Tryz.prog.underlying 197 = some (.slice 165)), fun h => by cases h⟩
theorem ty203 : TyOk Tryz.prog 203 ⟨1, 24, .sl 4, [.slice none 0 0], false⟩ := ⟨info_of (by kernel_rfl), (by kernel_rfl : Tryz.prog.underlying 203 = some (.slice 4)), fun h => by cases h⟩
theorem ty207 : TyOk Tryz.prog 207 ⟨1, 16, .ifc, [.nilIface], false⟩ := ⟨info_of (by kernel_rfl), (ifc_of (by kernel_rfl)), fun h => by cases h⟩
theorem ty208 : TyOk Tryz.prog 208 ⟨1, 16, .ifc, [.nilIface], false⟩ := ⟨info_of (by kernel_rfl), (ifc_of (by kernel_rfl)), fun h => by cases h⟩
theorem ty211 : TyOk Tryz.prog 211 ⟨1, 24, .sl 5, [.slice none 0 0], false⟩ := ⟨info_of (by kernel_rfl), (by kernel_rfl : Tryz.prog.underlying 211 = some (.slice 5)), fun h => by cases h⟩
theorem ty217 : TyOk Tryz.prog 217 ⟨1, 8, .flt, [.float .f64 0], false⟩ := ⟨info_of (by kernel_rfl), (by kernel_rfl : Tryz.prog.underlying 217 = some (.float .f64)), fun h => by cases h⟩
theorem ty253 : TyOk Tryz.prog 253 ⟨1, 8, .ptr, [.pointer none], false⟩ := ⟨info_of (by kernel_rfl), (ptr_of (by kernel_rfl)), fun h => by cases h⟩
theorem ty260 : TyOk Tryz.prog 260 ⟨1, 8, .int .u64, [.int .u64 0], false⟩ := ⟨info_of (by kernel_rfl), (by kernel_rfl : Tryz.prog.underlying 260 = some (.int .u64)), fun h => by cases h⟩
theorem ty265 : TyOk Tryz.prog 265 ⟨1, 8, .int .u64, [.int .u64 0], false⟩ := ⟨info_of (by kernel_rfl), (by kernel_rfl : Tryz.prog.underlying 265 = some (.int .u64)), fun h => by cases h⟩
theorem ty266 : TyOk Tryz.prog 266 ⟨3, 48, .st [(0, 9), (1, 9), (2, 208)], [.string ⟨#[]⟩, .string ⟨#[]⟩, .nilIface], false⟩ := ⟨info_of (by kernel_rfl), (fields_of (by kernel_rfl)), fun h => by cases h⟩
theorem ty267 : TyOk Tryz.prog 267 ⟨3, 48, .st [(0, 9), (1, 9), (2, 208)], [.string ⟨#[]⟩, .string ⟨#[]⟩, .nilIface], false⟩ := ⟨info_of (by kernel_rfl), (fields_of (by kernel_rfl)), fun h => by cases h⟩
theorem ty271 : TyOk Tryz.prog 271 ⟨24, 24, .arr 24 5, [.int .u8 0, .int .u8 0, .int .u8 0, .int .u8 0, .int .u8 0, .int .u8 0, .int .u8 0, .int .u8 0, .int .u8 0, .int .u8 0, .int .u8 0, .int .u8 0, .int .u8 0, .int .u8 0, .int .u8 0, .int .u8 0, .int .u8 0, .int .u8 0, .int .u8 0, .int .u8 0, .int .u8 0, .int .u8 0, .int .u8 0, .int .u8 0], false⟩ := ⟨info_of (by kernel_rfl), (by kernel_rfl : Tryz.prog.underlying 271 = some (.array 24 5)), fun h => by cases h⟩
theorem ty277 : TyOk Tryz.prog 277 ⟨1, 8, .ptr, [.pointer none], false⟩ := ⟨info_of (by kernel_rfl), (ptr_of (by kernel_rfl)), fun h => by cases h⟩
theorem ty278 : TyOk Tryz.prog 278 ⟨1, 8, .ptr, [.pointer none], false⟩ := ⟨info_of (by kernel_rfl), (ptr_of (by kernel_rfl)), fun h => by cases h⟩
theorem eqt279 (d : Nat) : EqT Tryz.prog (d + 2) 279 true [.string ⟨#[]⟩] := eqt_struct (d := d + 1) Tryz.underlying279 (by kernel_rfl) (.cons (i := ⟨1, 16, .str, [.string ⟨#[]⟩], false⟩) rfl (by decide) ty9 rfl (by simp [Ty.agg]) (eqt9 (d + 0)) (.nil))
theorem ty279 : TyOk Tryz.prog 279 ⟨1, 16, .st [(0, 9)], [.string ⟨#[]⟩], true⟩ := ⟨info_of (by kernel_rfl), (fields_of (by kernel_rfl)), fun _ => ⟨by kernel_rfl, fun xs ys b w => eqt279 9998 xs ys b w⟩⟩
theorem eqt280 (d : Nat) : EqT Tryz.prog (d + 2) 280 true [.string ⟨#[]⟩] := eqt_struct (d := d + 1) Tryz.underlying280 (by kernel_rfl) (.cons (i := ⟨1, 16, .str, [.string ⟨#[]⟩], false⟩) rfl (by decide) ty9 rfl (by simp [Ty.agg]) (eqt9 (d + 0)) (.nil))
theorem ty280 : TyOk Tryz.prog 280 ⟨1, 16, .st [(0, 9)], [.string ⟨#[]⟩], true⟩ := ⟨info_of (by kernel_rfl), (fields_of (by kernel_rfl)), fun _ => ⟨by kernel_rfl, fun xs ys b w => eqt280 9998 xs ys b w⟩⟩
theorem ty282 : TyOk Tryz.prog 282 ⟨20, 160, .arr 20 260, [.int .u64 0, .int .u64 0, .int .u64 0, .int .u64 0, .int .u64 0, .int .u64 0, .int .u64 0, .int .u64 0, .int .u64 0, .int .u64 0, .int .u64 0, .int .u64 0, .int .u64 0, .int .u64 0, .int .u64 0, .int .u64 0, .int .u64 0, .int .u64 0, .int .u64 0, .int .u64 0], false⟩ := ⟨info_of (by kernel_rfl), (by kernel_rfl : Tryz.prog.underlying 282 = some (.array 20 260)), fun h => by cases h⟩
theorem ty283 : TyOk Tryz.prog 283 ⟨1, 4, .int .u32, [.int .u32 0], false⟩ := ⟨info_of (by kernel_rfl), (by kernel_rfl : Tryz.prog.underlying 283 = some (.int .u32)), fun h => by cases h⟩
theorem ty284 : TyOk Tryz.prog 284 ⟨65, 65, .arr 65 5, [.int .u8 0, .int .u8 0, .int .u8 0, .int .u8 0, .int .u8 0, .int .u8 0, .int .u8 0, .int .u8 0, .int .u8 0, .int .u8 0, .int .u8 0, .int .u8 0, .int .u8 0, .int .u8 0, .int .u8 0, .int .u8 0, .int .u8 0, .int .u8 0, .int .u8 0, .int .u8 0, .int .u8 0, .int .u8 0, .int .u8 0, .int .u8 0, .int .u8 0, .int .u8 0, .int .u8 0, .int .u8 0, .int .u8 0, .int .u8 0, .int .u8 0, .int .u8 0, .int .u8 0, .int .u8 0, .int .u8 0, .int .u8 0, .int .u8 0, .int .u8 0, .int .u8 0, .int .u8 0, .int .u8 0, .int .u8 0, .int .u8 0, .int .u8 0, .int .u8 0, .int .u8 0, .int .u8 0, .int .u8 0, .int .u8 0, .int .u8 0, .int .u8 0, .int .u8 0, .int .u8 0, .int .u8 0, .int .u8 0, .int .u8 0, .int .u8 0, .int .u8 0, .int .u8 0, .int .u8 0, .int .u8 0, .int .u8 0, .int .u8 0, .int .u8 0, .int .u8 0], false⟩ := ⟨info_of (by kernel_rfl), (by kernel_rfl : Tryz.prog.underlying 284 = some (.array 65 5)), fun h => by cases h⟩
theorem ty288 : TyOk Tryz.prog 288 ⟨32, 32, .arr 32 5, [.int .u8 0, .int .u8 0, .int .u8 0, .int .u8 0, .int .u8 0, .int .u8 0, .int .u8 0, .int .u8 0, .int .u8 0, .int .u8 0, .int .u8 0, .int .u8 0, .int .u8 0, .int .u8 0, .int .u8 0, .int .u8 0, .int .u8 0, .int .u8 0, .int .u8 0, .int .u8 0, .int .u8 0, .int .u8 0, .int .u8 0, .int .u8 0, .int .u8 0, .int .u8 0, .int .u8 0, .int .u8 0, .int .u8 0, .int .u8 0, .int .u8 0, .int .u8 0], false⟩ := ⟨info_of (by kernel_rfl), (by kernel_rfl : Tryz.prog.underlying 288 = some (.array 32 5)), fun h => by cases h⟩
theorem ty289 : TyOk Tryz.prog 289 ⟨64, 64, .arr 64 5, [.int .u8 0, .int .u8 0, .int .u8 0, .int .u8 0, .int .u8 0, .int .u8 0, .int .u8 0, .int .u8 0, .int .u8 0, .int .u8 0, .int .u8 0, .int .u8 0, .int .u8 0, .int .u8 0, .int .u8 0, .int .u8 0, .int .u8 0, .int .u8 0, .int .u8 0, .int .u8 0, .int .u8 0, .int .u8 0, .int .u8 0, .int .u8 0, .int .u8 0, .int .u8 0, .int .u8 0, .int .u8 0, .int .u8 0, .int .u8 0, .int .u8 0, .int .u8 0, .int .u8 0, .int .u8 0, .int .u8 0, .int .u8 0, .int .u8 0, .int .u8 0, .int .u8 0, .int .u8 0, .int .u8 0, .int .u8 0, .int .u8 0, .int .u8 0, .int .u8 0, .int .u8 0, .int .u8 0, .int .u8 0, .int .u8 0, .int .u8 0, .int .u8 0, .int .u8 0, .int .u8 0, .int .u8 0, .int .u8 0, .int .u8 0, .int .u8 0, .int .u8 0, .int .u8 0, .int .u8 0, .int .u8 0, .int .u8 0, .int .u8 0, .int .u8 0], false⟩ := ⟨info_of (by kernel_rfl), (by kernel_rfl : Tryz.prog.underlying 289 = some (.array 64 5)), fun h => by cases h⟩
def TTab : TT := [(2, ⟨1, 8, .int .i64, [.int .i64 0], false⟩),
  (3, ⟨1, 8, .int .i64, [.int .i64 0], false⟩),
  (4, ⟨1, 1, .bool, [.bool false], false⟩),
  (9, ⟨1, 16, .str, [.string ⟨#[]⟩], false⟩),
  (23, ⟨1, 8, .int .i64, [.int .i64 0], false⟩),
  (5, ⟨1, 1, .int .u8, [.int .u8 0], false⟩),
  (12, ⟨1, 8, .int .u64, [.int .u64 0], false⟩),
  (13, ⟨2, 24, .st [(0, 9), (1, 12)], [.string ⟨#[]⟩, .int .u64 0], false⟩),
  (20, ⟨1, 16, .ifc, [.nilIface], false⟩),
  (21, ⟨1, 4, .int .i32, [.int .i32 0], false⟩),
  (22, ⟨1, 24, .sl 45, [.slice none 0 0], false⟩),
  (26, ⟨1, 24, .sl 131, [.slice none 0 0], false⟩),
  (27, ⟨1, 24, .sl 131, [.slice none 0 0], false⟩),
  (28, ⟨1, 24, .sl 98, [.slice none 0 0], false⟩),
  (29, ⟨1, 24, .sl 32, [.slice none 0 0], false⟩),
  (30, ⟨1, 24, .sl 56, [.slice none 0 0], false⟩),
  (31, ⟨7, 128, .st [(0, 9), (1, 4), (2, 3), (3, 27), (4, 28), (5, 29), (6, 30)], [.string ⟨#[]⟩, .bool false, .int .i64 0, .slice none 0 0, .slice none 0 0, .slice none 0 0, .slice none 0 0], false⟩),
  (32, ⟨7, 128, .st [(0, 9), (1, 4), (2, 3), (3, 27), (4, 28), (5, 29), (6, 30)], [.string ⟨#[]⟩, .bool false, .int .i64 0, .slice none 0 0, .slice none 0 0, .slice none 0 0, .slice none 0 0], false⟩),
  (34, ⟨3, 32, .st [(0, 3), (1, 9), (2, 4)], [.int .i64 0, .string ⟨#[]⟩, .bool false], true⟩),
  (35, ⟨3, 32, .st [(0, 3), (1, 9), (2, 4)], [.int .i64 0, .string ⟨#[]⟩, .bool false], true⟩),
  (36, ⟨3, 32, .st [(0, 3), (1, 3), (2, 9)], [.int .i64 0, .int .i64 0, .string ⟨#[]⟩], true⟩),
  (37, ⟨3, 32, .st [(0, 3), (1, 3), (2, 9)], [.int .i64 0, .int .i64 0, .string ⟨#[]⟩], true⟩),
  (38, ⟨7, 72, .st [(0, 35), (3, 3), (4, 37)], [.int .i64 0, .string ⟨#[]⟩, .bool false, .int .i64 0, .int .i64 0, .int .i64 0, .string ⟨#[]⟩], true⟩),
  (39, ⟨7, 72, .st [(0, 35), (3, 3), (4, 37)], [.int .i64 0, .string ⟨#[]⟩, .bool false, .int .i64 0, .int .i64 0, .int .i64 0, .string ⟨#[]⟩], true⟩),
  (40, ⟨7, 72, .st [(0, 3), (1, 37), (4, 35)], [.int .i64 0, .int .i64 0, .int .i64 0, .string ⟨#[]⟩, .int .i64 0, .string ⟨#[]⟩, .bool false], true⟩),
  (41, ⟨7, 72, .st [(0, 3), (1, 37), (4, 35)], [.int .i64 0, .int .i64 0, .int .i64 0, .string ⟨#[]⟩, .int .i64 0, .string ⟨#[]⟩, .bool false], true⟩),
  (42, ⟨1, 24, .sl 41, [.slice none 0 0], false⟩),
  (44, ⟨8, 96, .st [(0, 39), (7, 42)], [.int .i64 0, .string ⟨#[]⟩, .bool false, .int .i64 0, .int .i64 0, .int .i64 0, .string ⟨#[]⟩, .slice none 0 0], false⟩),
  (45, ⟨8, 96, .st [(0, 39), (7, 42)], [.int .i64 0, .string ⟨#[]⟩, .bool false, .int .i64 0, .int .i64 0, .int .i64 0, .string ⟨#[]⟩, .slice none 0 0], false⟩),
  (47, ⟨1, 16, .cpx, [.complex .f64 0 0], false⟩),
  (48, ⟨1, 16, .cpx, [.complex .f64 0 0], false⟩),
  (49, ⟨2, 40, .st [(0, 48), (1, 30)], [.complex .f64 0 0, .slice none 0 0], false⟩),
  (50, ⟨2, 40, .st [(0, 48), (1, 30)], [.complex .f64 0 0, .slice none 0 0], false⟩),
  (53, ⟨1, 24, .sl 73, [.slice none 0 0], false⟩),
  (55, ⟨3, 32, .st [(0, 3), (1, 3), (2, 9)], [.int .i64 0, .int .i64 0, .string ⟨#[]⟩], true⟩),
  (56, ⟨3, 32, .st [(0, 3), (1, 3), (2, 9)], [.int .i64 0, .int .i64 0, .string ⟨#[]⟩], true⟩),
  (58, ⟨1, 8, .ptr, [.pointer none], false⟩),
  (71, ⟨1, 24, .sl 37, [.slice none 0 0], false⟩),
  (72, ⟨3, 48, .st [(0, 3), (1, 9), (2, 71)], [.int .i64 0, .string ⟨#[]⟩, .slice none 0 0], false⟩),
  (73, ⟨3, 48, .st [(0, 3), (1, 9), (2, 71)], [.int .i64 0, .string ⟨#[]⟩, .slice none 0 0], false⟩),
  (75, ⟨1, 8, .ptr, [.pointer none], false⟩),
  (76, ⟨2, 16, .st [(0, 75), (1, 3)], [.pointer none, .int .i64 0], false⟩),
  (77, ⟨2, 16, .st [(0, 75), (1, 3)], [.pointer none, .int .i64 0], false⟩),
  (78, ⟨1, 24, .sl 50, [.slice none 0 0], false⟩),
  (79, ⟨4, 64, .st [(0, 77), (2, 22), (3, 78)], [.pointer none, .int .i64 0, .slice none 0 0, .slice none 0 0], false⟩),
  (80, ⟨4, 64, .st [(0, 77), (2, 22), (3, 78)], [.pointer none, .int .i64 0, .slice none 0 0, .slice none 0 0], false⟩),
  (83, ⟨3, 24, .arr 3 3, [.int .i64 0, .int .i64 0, .int .i64 0], false⟩),
  (84, ⟨4, 32, .st [(0, 3), (1, 83)], [.int .i64 0, .int .i64 0, .int .i64 0, .int .i64 0], false⟩),
  (85, ⟨4, 32, .st [(0, 3), (1, 83)], [.int .i64 0, .int .i64 0, .int .i64 0, .int .i64 0], false⟩),
  (91, ⟨1, 8, .ptr, [.pointer none], false⟩),
  (92, ⟨1, 8, .mp 9 128, [.map none], false⟩),
  (93, ⟨2, 16, .st [(0, 92), (1, 3)], [.map none, .int .i64 0], false⟩),
  (94, ⟨2, 16, .st [(0, 92), (1, 3)], [.map none, .int .i64 0], false⟩),
  (97, ⟨5, 96, .st [(0, 9), (1, 4), (2, 27), (3, 42), (4, 30)], [.string ⟨#[]⟩, .bool false, .slice none 0 0, .slice none 0 0, .slice none 0 0], false⟩),
  (98, ⟨5, 96, .st [(0, 9), (1, 4), (2, 27), (3, 42), (4, 30)], [.string ⟨#[]⟩, .bool false, .slice none 0 0, .slice none 0 0, .slice none 0 0], false⟩),
  (100, ⟨1, 24, .sl 108, [.slice none 0 0], false⟩),
  (103, ⟨1, 8, .ptr, [.pointer none], false⟩),
  (104, ⟨5, 56, .st [(0, 100), (1, 3), (2, 3), (3, 23), (4, 3)], [.slice none 0 0, .int .i64 0, .int .i64 0, .int .i64 0, .int .i64 0], false⟩),
  (105, ⟨5, 56, .st [(0, 100), (1, 3), (2, 3), (3, 23), (4, 3)], [.slice none 0 0, .int .i64 0, .int .i64 0, .int .i64 0, .int .i64 0], false⟩),
  (107, ⟨4, 40, .st [(0, 3), (1, 3), (2, 3), (3, 9)], [.int .i64 0, .int .i64 0, .int .i64 0, .string ⟨#[]⟩], true⟩),
  (108, ⟨4, 40, .st [(0, 3), (1, 3), (2, 3), (3, 9)], [.int .i64 0, .int .i64 0, .int .i64 0, .string ⟨#[]⟩], true⟩),
  (115, ⟨1, 24, .sl 77, [.slice none 0 0], false⟩),
  (118, ⟨1, 24, .sl 3, [.slice none 0 0], false⟩),
  (121, ⟨1, 24, .sl 85, [.slice none 0 0], false⟩),
  (122, ⟨2, 32, .st [(0, 3), (1, 121)], [.int .i64 0, .slice none 0 0], false⟩),
  (123, ⟨2, 32, .st [(0, 3), (1, 121)], [.int .i64 0, .slice none 0 0], false⟩),
  (127, ⟨1, 8, .mp 3 128, [.map none], false⟩),
  (128, ⟨0, 0, .st [], [], false⟩),
  (131, ⟨1, 24, .sl 132, [.slice none 0 0], false⟩),
  (132, ⟨1, 24, .sl 39, [.slice none 0 0], false⟩),
  (146, ⟨1, 24, .sl 48, [.slice none 0 0], false⟩),
  (154, ⟨1, 8, .ptr, [.pointer none], false⟩),
  (155, ⟨1, 8, .mp 9 3, [.map none], false⟩),
  (164, ⟨5, 64, .st [(0, 71), (1, 37), (4, 23)], [.slice none 0 0, .int .i64 0, .int .i64 0, .string ⟨#[]⟩, .int .i64 0], false⟩),
  (165, ⟨5, 64, .st [(0, 71), (1, 37), (4, 23)], [.slice none 0 0, .int .i64 0, .int .i64 0, .string ⟨#[]⟩, .int .i64 0], false⟩),
  (184, ⟨1, 24, .sl 9, [.slice none 0 0], false⟩),
  (197, ⟨1, 24, .sl 165, [.slice none 0 0], false⟩),
  (203, ⟨1, 24, .sl 4, [.slice none 0 0], false⟩),
  (207, ⟨1, 16, .ifc, [.nilIface], false⟩),
  (208, ⟨1, 16, .ifc, [.nilIface], false⟩),
  (211, ⟨1, 24, .sl 5, [.slice none 0 0], false⟩),
  (217, ⟨1, 8, .flt, [.float .f64 0], false⟩),
  (253, ⟨1, 8, .ptr, [.pointer none], false⟩),
  (260, ⟨1, 8, .int .u64, [.int .u64 0], false⟩),
  (265, ⟨1, 8, .int .u64, [.int .u64 0], false⟩),
  (266, ⟨3, 48, .st [(0, 9), (1, 9), (2, 208)], [.string ⟨#[]⟩, .string ⟨#[]⟩, .nilIface], false⟩),
  (267, ⟨3, 48, .st [(0, 9), (1, 9), (2, 208)], [.string ⟨#[]⟩, .string ⟨#[]⟩, .nilIface], false⟩),
  (271, ⟨24, 24, .arr 24 5, [.int .u8 0, .int .u8 0, .int .u8 0, .int .u8 0, .int .u8 0, .int .u8 0, .int .u8 0, .int .u8 0, .int .u8 0, .int .u8 0, .int .u8 0, .int .u8 0, .int .u8 0, .int .u8 0, .int .u8 0, .int .u8 0, .int .u8 0, .int .u8 0, .int .u8 0, .int .u8 0, .int .u8 0, .int .u8 0, .int .u8 0, .int .u8 0], false⟩),
  (277, ⟨1, 8, .ptr, [.pointer none], false⟩),
  (278, ⟨1, 8, .ptr, [.pointer none], false⟩),
  (279, ⟨1, 16, .st [(0, 9)], [.string ⟨#[]⟩], true⟩),
  (280, ⟨1, 16, .st [(0, 9)], [.string ⟨#[]⟩], true⟩),
  (282, ⟨20, 160, .arr 20 260, [.int .u64 0, .int .u64 0, .int .u64 0, .int .u64 0, .int .u64 0, .int .u64 0, .int .u64 0, .int .u64 0, .int .u64 0, .int .u64 0, .int .u64 0, .int .u64 0, .int .u64 0, .int .u64 0, .int .u64 0, .int .u64 0, .int .u64 0, .int .u64 0, .int .u64 0, .int .u64 0], false⟩),
  (283, ⟨1, 4, .int .u32, [.int .u32 0], false⟩),
  (284, ⟨65, 65, .arr 65 5, [.int .u8 0, .int .u8 0, .int .u8 0, .int .u8 0, .int .u8 0, .int .u8 0, .int .u8 0, .int .u8 0, .int .u8 0, .int .u8 0, .int .u8 0, .int .u8 0, .int .u8 0, .int .u8 0, .int .u8 0, .int .u8 0, .int .u8 0, .int .u8 0, .int .u8 0, .int .u8 0, .int .u8 0, .int .u8 0, .int .u8 0, .int .u8 0, .int .u8 0, .int .u8 0, .int .u8 0, .int .u8 0, .int .u8 0, .int .u8 0, .int .u8 0, .int .u8 0, .int .u8 0, .int .u8 0, .int .u8 0, .int .u8 0, .int .u8 0, .int .u8 0, .int .u8 0, .int .u8 0, .int .u8 0, .int .u8 0, .int .u8 0, .int .u8 0, .int .u8 0, .int .u8 0, .int .u8 0, .int .u8 0, .int .u8 0, .int .u8 0, .int .u8 0, .int .u8 0, .int .u8 0, .int .u8 0, .int .u8 0, .int .u8 0, .int .u8 0, .int .u8 0, .int .u8 0, .int .u8 0, .int .u8 0, .int .u8 0, .int .u8 0, .int .u8 0, .int .u8 0], false⟩),
  (288, ⟨32, 32, .arr 32 5, [.int .u8 0, .int .u8 0, .int .u8 0, .int .u8 0, .int .u8 0, .int .u8 0, .int .u8 0, .int .u8 0, .int .u8 0, .int .u8 0, .int .u8 0, .int .u8 0, .int .u8 0, .int .u8 0, .int .u8 0, .int .u8 0, .int .u8 0, .int .u8 0, .int .u8 0, .int .u8 0, .int .u8 0, .int .u8 0, .int .u8 0, .int .u8 0, .int .u8 0, .int .u8 0, .int .u8 0, .int .u8 0, .int .u8 0, .int .u8 0, .int .u8 0, .int .u8 0], false⟩),
  (289, ⟨64, 64, .arr 64 5, [.int .u8 0, .int .u8 0, .int .u8 0, .int .u8 0, .int .u8 0, .int .u8 0, .int .u8 0, .int .u8 0, .int .u8 0, .int .u8 0, .int .u8 0, .int .u8 0, .int .u8 0, .int .u8 0, .int .u8 0, .int .u8 0, .int .u8 0, .int .u8 0, .int .u8 0, .int .u8 0, .int .u8 0, .int .u8 0, .int .u8 0, .int .u8 0, .int .u8 0, .int .u8 0, .int .u8 0, .int .u8 0, .int .u8 0, .int .u8 0, .int .u8 0, .int .u8 0, .int .u8 0, .int .u8 0, .int .u8 0, .int .u8 0, .int .u8 0, .int .u8 0, .int .u8 0, .int .u8 0, .int .u8 0, .int .u8 0, .int .u8 0, .int .u8 0, .int .u8 0, .int .u8 0, .int .u8 0, .int .u8 0, .int .u8 0, .int .u8 0, .int .u8 0, .int .u8 0, .int .u8 0, .int .u8 0, .int .u8 0, .int .u8 0, .int .u8 0, .int .u8 0, .int .u8 0, .int .u8 0, .int .u8 0, .int .u8 0, .int .u8 0, .int .u8 0], false⟩)]
theorem ttab_ok : TypesOk Tryz.prog TTab :=
  typesOk_cons ty2 <| typesOk_cons ty3 <| typesOk_cons ty4 <| typesOk_cons ty9 <| typesOk_cons ty23 <| typesOk_cons ty5 <| typesOk_cons ty12 <| typesOk_cons ty13 <| typesOk_cons ty20 <| typesOk_cons ty21 <| typesOk_cons ty22 <| typesOk_cons ty26 <| typesOk_cons ty27 <| typesOk_cons ty28 <| typesOk_cons ty29 <| typesOk_cons ty30 <| typesOk_cons ty31 <| typesOk_cons ty32 <| typesOk_cons ty34 <| typesOk_cons ty35 <| typesOk_cons ty36 <| typesOk_cons ty37 <| typesOk_cons ty38 <| typesOk_cons ty39 <| typesOk_cons ty40 <| typesOk_cons ty41 <| typesOk_cons ty42 <| typesOk_cons ty44 <| typesOk_cons ty45 <| typesOk_cons ty47 <| typesOk_cons ty48 <| typesOk_cons ty49 <| typesOk_cons ty50 <| typesOk_cons ty53 <| typesOk_cons ty55 <| typesOk_cons ty56 <| typesOk_cons ty58 <| typesOk_cons ty71 <| typesOk_cons ty72 <| typesOk_cons ty73 <| typesOk_cons ty75 <| typesOk_cons ty76 <| typesOk_cons ty77 <| typesOk_cons ty78 <| typesOk_cons ty79 <| typesOk_cons ty80 <| typesOk_cons ty83 <| typesOk_cons ty84 <| typesOk_cons ty85 <| typesOk_cons ty91 <| typesOk_cons ty92 <| typesOk_cons ty93 <| typesOk_cons ty94 <| typesOk_cons ty97 <| typesOk_cons ty98 <| typesOk_cons ty100 <| typesOk_cons ty103 <| typesOk_cons ty104 <| typesOk_cons ty105 <| typesOk_cons ty107 <| typesOk_cons ty108 <| typesOk_cons ty115 <| typesOk_cons ty118 <| typesOk_cons ty121 <| typesOk_cons ty122 <| typesOk_cons ty123 <| typesOk_cons ty127 <| typesOk_cons ty128 <| typesOk_cons ty131 <| typesOk_cons ty132 <| typesOk_cons ty146 <| typesOk_cons ty154 <| typesOk_cons ty155 <| typesOk_cons ty164 <| typesOk_cons ty165 <| typesOk_cons ty184 <| typesOk_cons ty197 <| typesOk_cons ty203 <| typesOk_cons ty207 <| typesOk_cons ty208 <| typesOk_cons ty211 <| typesOk_cons ty217 <| typesOk_cons ty253 <| typesOk_cons ty260 <| typesOk_cons ty265 <| typesOk_cons ty266 <| typesOk_cons ty267 <| typesOk_cons ty271 <| typesOk_cons ty277 <| typesOk_cons ty278 <| typesOk_cons ty279 <| typesOk_cons ty280 <| typesOk_cons ty282 <| typesOk_cons ty283 <| typesOk_cons ty284 <| typesOk_cons ty288 <| typesOk_cons ty289 <| typesOk_nil
end Go.Proofs.YtiiagdnmbpdlaaaGreatDoor
