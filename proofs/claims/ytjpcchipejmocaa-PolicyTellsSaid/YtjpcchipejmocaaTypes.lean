/-
  Shades: the types of this seat's program (printed by a program of ours).
-/
import Derived.Test.YtjpcchipejmocaaChecked
import Derived.Test.YtjpcchipejmocaaShade5
namespace Go.Proofs.Ytjpcchipejmocaa
open Go.RowKit
theorem eqt2 (d : Nat) : EqT Try.prog (d + 1) 2 false [.int .i64 0] := eqt_int d 0 (by kernel_rfl)
theorem ty2 : TyOk Try.prog 2 ⟨1, 8, .int .i64, [.int .i64 0], false⟩ := ⟨info_of (by kernel_rfl), (by kernel_rfl : Try.prog.underlying 2 = some (.int .i64)), fun h => by cases h⟩
theorem eqt3 (d : Nat) : EqT Try.prog (d + 1) 3 false [.int .i64 0] := eqt_int d 0 (by kernel_rfl)
theorem ty3 : TyOk Try.prog 3 ⟨1, 8, .int .i64, [.int .i64 0], false⟩ := ⟨info_of (by kernel_rfl), (by kernel_rfl : Try.prog.underlying 3 = some (.int .i64)), fun h => by cases h⟩
theorem eqt4 (d : Nat) : EqT Try.prog (d + 1) 4 false [.bool false] := eqt_bool d false (by kernel_rfl)
theorem ty4 : TyOk Try.prog 4 ⟨1, 1, .bool, [.bool false], false⟩ := ⟨info_of (by kernel_rfl), (by kernel_rfl : Try.prog.underlying 4 = some (.bool)), fun h => by cases h⟩
theorem ty5 : TyOk Try.prog 5 ⟨1, 1, .int .u8, [.int .u8 0], false⟩ := ⟨info_of (by kernel_rfl), (by kernel_rfl : Try.prog.underlying 5 = some (.int .u8)), fun h => by cases h⟩
theorem eqt9 (d : Nat) : EqT Try.prog (d + 1) 9 false [.string ⟨#[]⟩] := eqt_str d _ (by kernel_rfl)
theorem ty9 : TyOk Try.prog 9 ⟨1, 16, .str, [.string ⟨#[]⟩], false⟩ := ⟨info_of (by kernel_rfl), (by kernel_rfl : Try.prog.underlying 9 = some (.string)), fun h => by cases h⟩
theorem ty12 : TyOk Try.prog 12 ⟨1, 8, .int .u64, [.int .u64 0], false⟩ := ⟨info_of (by kernel_rfl), (by kernel_rfl : Try.prog.underlying 12 = some (.int .u64)), fun h => by cases h⟩
theorem ty13 : TyOk Try.prog 13 ⟨2, 24, .st [(0, 9), (1, 12)], [.string ⟨#[]⟩, .int .u64 0], false⟩ := ⟨info_of (by kernel_rfl), (fields_of (by kernel_rfl)), fun h => by cases h⟩
theorem ty20 : TyOk Try.prog 20 ⟨1, 16, .ifc, [.nilIface], false⟩ := ⟨info_of (by kernel_rfl), (ifc_of (by kernel_rfl)), fun h => by cases h⟩
theorem ty21 : TyOk Try.prog 21 ⟨1, 4, .int .i32, [.int .i32 0], false⟩ := ⟨info_of (by kernel_rfl), (by kernel_rfl : Try.prog.underlying 21 = some (.int .i32)), fun h => by cases h⟩
theorem eqt23 (d : Nat) : EqT Try.prog (d + 2) 23 true [.int .i64 0, .int .i64 0, .string ⟨#[]⟩] := eqt_struct (d := d + 1) Try.underlying23 (by kernel_rfl) (.cons (i := ⟨1, 8, .int .i64, [.int .i64 0], false⟩) rfl (by decide) ty3 rfl (by simp [Ty.agg]) (eqt3 (d + 0)) (.cons (i := ⟨1, 8, .int .i64, [.int .i64 0], false⟩) rfl (by decide) ty3 rfl (by simp [Ty.agg]) (eqt3 (d + 0)) (.cons (i := ⟨1, 16, .str, [.string ⟨#[]⟩], false⟩) rfl (by decide) ty9 rfl (by simp [Ty.agg]) (eqt9 (d + 0)) (.nil))))
theorem ty23 : TyOk Try.prog 23 ⟨3, 32, .st [(0, 3), (1, 3), (2, 9)], [.int .i64 0, .int .i64 0, .string ⟨#[]⟩], true⟩ := ⟨info_of (by kernel_rfl), (fields_of (by kernel_rfl)), fun _ => ⟨by kernel_rfl, fun xs ys b w => eqt23 9998 xs ys b w⟩⟩
theorem eqt24 (d : Nat) : EqT Try.prog (d + 2) 24 true [.int .i64 0, .int .i64 0, .string ⟨#[]⟩] := eqt_struct (d := d + 1) Try.underlying24 (by kernel_rfl) (.cons (i := ⟨1, 8, .int .i64, [.int .i64 0], false⟩) rfl (by decide) ty3 rfl (by simp [Ty.agg]) (eqt3 (d + 0)) (.cons (i := ⟨1, 8, .int .i64, [.int .i64 0], false⟩) rfl (by decide) ty3 rfl (by simp [Ty.agg]) (eqt3 (d + 0)) (.cons (i := ⟨1, 16, .str, [.string ⟨#[]⟩], false⟩) rfl (by decide) ty9 rfl (by simp [Ty.agg]) (eqt9 (d + 0)) (.nil))))
theorem ty24 : TyOk Try.prog 24 ⟨3, 32, .st [(0, 3), (1, 3), (2, 9)], [.int .i64 0, .int .i64 0, .string ⟨#[]⟩], true⟩ := ⟨info_of (by kernel_rfl), (fields_of (by kernel_rfl)), fun _ => ⟨by kernel_rfl, fun xs ys b w => eqt24 9998 xs ys b w⟩⟩
theorem eqt25 (d : Nat) : EqT Try.prog (d + 2) 25 true [.int .i64 0, .string ⟨#[]⟩, .bool false] := eqt_struct (d := d + 1) Try.underlying25 (by kernel_rfl) (.cons (i := ⟨1, 8, .int .i64, [.int .i64 0], false⟩) rfl (by decide) ty3 rfl (by simp [Ty.agg]) (eqt3 (d + 0)) (.cons (i := ⟨1, 16, .str, [.string ⟨#[]⟩], false⟩) rfl (by decide) ty9 rfl (by simp [Ty.agg]) (eqt9 (d + 0)) (.cons (i := ⟨1, 1, .bool, [.bool false], false⟩) rfl (by decide) ty4 rfl (by simp [Ty.agg]) (eqt4 (d + 0)) (.nil))))
theorem ty25 : TyOk Try.prog 25 ⟨3, 32, .st [(0, 3), (1, 9), (2, 4)], [.int .i64 0, .string ⟨#[]⟩, .bool false], true⟩ := ⟨info_of (by kernel_rfl), (fields_of (by kernel_rfl)), fun _ => ⟨by kernel_rfl, fun xs ys b w => eqt25 9998 xs ys b w⟩⟩
theorem eqt26 (d : Nat) : EqT Try.prog (d + 2) 26 true [.int .i64 0, .string ⟨#[]⟩, .bool false] := eqt_struct (d := d + 1) Try.underlying26 (by kernel_rfl) (.cons (i := ⟨1, 8, .int .i64, [.int .i64 0], false⟩) rfl (by decide) ty3 rfl (by simp [Ty.agg]) (eqt3 (d + 0)) (.cons (i := ⟨1, 16, .str, [.string ⟨#[]⟩], false⟩) rfl (by decide) ty9 rfl (by simp [Ty.agg]) (eqt9 (d + 0)) (.cons (i := ⟨1, 1, .bool, [.bool false], false⟩) rfl (by decide) ty4 rfl (by simp [Ty.agg]) (eqt4 (d + 0)) (.nil))))
theorem ty26 : TyOk Try.prog 26 ⟨3, 32, .st [(0, 3), (1, 9), (2, 4)], [.int .i64 0, .string ⟨#[]⟩, .bool false], true⟩ := ⟨info_of (by kernel_rfl), (fields_of (by kernel_rfl)), fun _ => ⟨by kernel_rfl, fun xs ys b w => eqt26 9998 xs ys b w⟩⟩
theorem eqt27 (d : Nat) : EqT Try.prog (d + 3) 27 true [.int .i64 0, .int .i64 0, .int .i64 0, .string ⟨#[]⟩, .int .i64 0, .string ⟨#[]⟩, .bool false] := eqt_struct (d := d + 2) Try.underlying27 (by kernel_rfl) (.cons (i := ⟨1, 8, .int .i64, [.int .i64 0], false⟩) rfl (by decide) ty3 rfl (by simp [Ty.agg]) (eqt3 (d + 1)) (.cons (i := ⟨3, 32, .st [(0, 3), (1, 3), (2, 9)], [.int .i64 0, .int .i64 0, .string ⟨#[]⟩], true⟩) rfl (by decide) ty24 rfl (by simp [Ty.agg]) (eqt24 (d + 0)) (.cons (i := ⟨3, 32, .st [(0, 3), (1, 9), (2, 4)], [.int .i64 0, .string ⟨#[]⟩, .bool false], true⟩) rfl (by decide) ty26 rfl (by simp [Ty.agg]) (eqt26 (d + 0)) (.nil))))
theorem ty27 : TyOk Try.prog 27 ⟨7, 72, .st [(0, 3), (1, 24), (4, 26)], [.int .i64 0, .int .i64 0, .int .i64 0, .string ⟨#[]⟩, .int .i64 0, .string ⟨#[]⟩, .bool false], true⟩ := ⟨info_of (by kernel_rfl), (fields_of (by kernel_rfl)), fun _ => ⟨by kernel_rfl, fun xs ys b w => eqt27 9997 xs ys b w⟩⟩
theorem eqt28 (d : Nat) : EqT Try.prog (d + 3) 28 true [.int .i64 0, .int .i64 0, .int .i64 0, .string ⟨#[]⟩, .int .i64 0, .string ⟨#[]⟩, .bool false] := eqt_struct (d := d + 2) Try.underlying28 (by kernel_rfl) (.cons (i := ⟨1, 8, .int .i64, [.int .i64 0], false⟩) rfl (by decide) ty3 rfl (by simp [Ty.agg]) (eqt3 (d + 1)) (.cons (i := ⟨3, 32, .st [(0, 3), (1, 3), (2, 9)], [.int .i64 0, .int .i64 0, .string ⟨#[]⟩], true⟩) rfl (by decide) ty24 rfl (by simp [Ty.agg]) (eqt24 (d + 0)) (.cons (i := ⟨3, 32, .st [(0, 3), (1, 9), (2, 4)], [.int .i64 0, .string ⟨#[]⟩, .bool false], true⟩) rfl (by decide) ty26 rfl (by simp [Ty.agg]) (eqt26 (d + 0)) (.nil))))
theorem ty28 : TyOk Try.prog 28 ⟨7, 72, .st [(0, 3), (1, 24), (4, 26)], [.int .i64 0, .int .i64 0, .int .i64 0, .string ⟨#[]⟩, .int .i64 0, .string ⟨#[]⟩, .bool false], true⟩ := ⟨info_of (by kernel_rfl), (fields_of (by kernel_rfl)), fun _ => ⟨by kernel_rfl, fun xs ys b w => eqt28 9997 xs ys b w⟩⟩
theorem ty32 : TyOk Try.prog 32 ⟨1, 24, .sl 28, [.slice none 0 0], false⟩ := ⟨info_of (by kernel_rfl), (by kernel_rfl : Try.prog.underlying 32 = some (.slice 28)), fun h => by cases h⟩
theorem eqt33 (d : Nat) : EqT Try.prog (d + 1) 33 false [.int .i64 0] := eqt_int d 0 (by kernel_rfl)
theorem ty33 : TyOk Try.prog 33 ⟨1, 8, .int .i64, [.int .i64 0], false⟩ := ⟨info_of (by kernel_rfl), (by kernel_rfl : Try.prog.underlying 33 = some (.int .i64)), fun h => by cases h⟩
theorem ty39 : TyOk Try.prog 39 ⟨1, 24, .sl 49, [.slice none 0 0], false⟩ := ⟨info_of (by kernel_rfl), (by kernel_rfl : Try.prog.underlying 39 = some (.slice 49)), fun h => by cases h⟩
theorem ty45 : TyOk Try.prog 45 ⟨1, 24, .sl 24, [.slice none 0 0], false⟩ := ⟨info_of (by kernel_rfl), (by kernel_rfl : Try.prog.underlying 45 = some (.slice 24)), fun h => by cases h⟩
theorem ty48 : TyOk Try.prog 48 ⟨3, 48, .st [(0, 3), (1, 9), (2, 45)], [.int .i64 0, .string ⟨#[]⟩, .slice none 0 0], false⟩ := ⟨info_of (by kernel_rfl), (fields_of (by kernel_rfl)), fun h => by cases h⟩
theorem ty49 : TyOk Try.prog 49 ⟨3, 48, .st [(0, 3), (1, 9), (2, 45)], [.int .i64 0, .string ⟨#[]⟩, .slice none 0 0], false⟩ := ⟨info_of (by kernel_rfl), (fields_of (by kernel_rfl)), fun h => by cases h⟩
theorem ty58 : TyOk Try.prog 58 ⟨1, 24, .sl 113, [.slice none 0 0], false⟩ := ⟨info_of (by kernel_rfl), (by kernel_rfl : Try.prog.underlying 58 = some (.slice 113)), fun h => by cases h⟩
theorem ty59 : TyOk Try.prog 59 ⟨1, 24, .sl 113, [.slice none 0 0], false⟩ := ⟨info_of (by kernel_rfl), (by kernel_rfl : Try.prog.underlying 59 = some (.slice 113)), fun h => by cases h⟩
theorem ty60 : TyOk Try.prog 60 ⟨1, 24, .sl 78, [.slice none 0 0], false⟩ := ⟨info_of (by kernel_rfl), (by kernel_rfl : Try.prog.underlying 60 = some (.slice 78)), fun h => by cases h⟩
theorem ty61 : TyOk Try.prog 61 ⟨1, 24, .sl 64, [.slice none 0 0], false⟩ := ⟨info_of (by kernel_rfl), (by kernel_rfl : Try.prog.underlying 61 = some (.slice 64)), fun h => by cases h⟩
theorem ty62 : TyOk Try.prog 62 ⟨1, 24, .sl 112, [.slice none 0 0], false⟩ := ⟨info_of (by kernel_rfl), (by kernel_rfl : Try.prog.underlying 62 = some (.slice 112)), fun h => by cases h⟩
theorem ty63 : TyOk Try.prog 63 ⟨7, 128, .st [(0, 9), (1, 4), (2, 3), (3, 59), (4, 60), (5, 61), (6, 62)], [.string ⟨#[]⟩, .bool false, .int .i64 0, .slice none 0 0, .slice none 0 0, .slice none 0 0, .slice none 0 0], false⟩ := ⟨info_of (by kernel_rfl), (fields_of (by kernel_rfl)), fun h => by cases h⟩
theorem ty64 : TyOk Try.prog 64 ⟨7, 128, .st [(0, 9), (1, 4), (2, 3), (3, 59), (4, 60), (5, 61), (6, 62)], [.string ⟨#[]⟩, .bool false, .int .i64 0, .slice none 0 0, .slice none 0 0, .slice none 0 0, .slice none 0 0], false⟩ := ⟨info_of (by kernel_rfl), (fields_of (by kernel_rfl)), fun h => by cases h⟩
theorem ty77 : TyOk Try.prog 77 ⟨5, 96, .st [(0, 9), (1, 4), (2, 59), (3, 32), (4, 62)], [.string ⟨#[]⟩, .bool false, .slice none 0 0, .slice none 0 0, .slice none 0 0], false⟩ := ⟨info_of (by kernel_rfl), (fields_of (by kernel_rfl)), fun h => by cases h⟩
theorem ty78 : TyOk Try.prog 78 ⟨5, 96, .st [(0, 9), (1, 4), (2, 59), (3, 32), (4, 62)], [.string ⟨#[]⟩, .bool false, .slice none 0 0, .slice none 0 0, .slice none 0 0], false⟩ := ⟨info_of (by kernel_rfl), (fields_of (by kernel_rfl)), fun h => by cases h⟩
theorem ty80 : TyOk Try.prog 80 ⟨1, 24, .sl 5, [.slice none 0 0], false⟩ := ⟨info_of (by kernel_rfl), (by kernel_rfl : Try.prog.underlying 80 = some (.slice 5)), fun h => by cases h⟩
theorem ty82 : TyOk Try.prog 82 ⟨1, 8, .ptr, [.pointer none], false⟩ := ⟨info_of (by kernel_rfl), (ptr_of (by kernel_rfl)), fun h => by cases h⟩
theorem ty84 : TyOk Try.prog 84 ⟨1, 24, .sl 87, [.slice none 0 0], false⟩ := ⟨info_of (by kernel_rfl), (by kernel_rfl : Try.prog.underlying 84 = some (.slice 87)), fun h => by cases h⟩
theorem ty86 : TyOk Try.prog 86 ⟨5, 64, .st [(0, 45), (1, 24), (4, 33)], [.slice none 0 0, .int .i64 0, .int .i64 0, .string ⟨#[]⟩, .int .i64 0], false⟩ := ⟨info_of (by kernel_rfl), (fields_of (by kernel_rfl)), fun h => by cases h⟩
theorem ty87 : TyOk Try.prog 87 ⟨5, 64, .st [(0, 45), (1, 24), (4, 33)], [.slice none 0 0, .int .i64 0, .int .i64 0, .string ⟨#[]⟩, .int .i64 0], false⟩ := ⟨info_of (by kernel_rfl), (fields_of (by kernel_rfl)), fun h => by cases h⟩
theorem ty89 : TyOk Try.prog 89 ⟨1, 24, .sl 4, [.slice none 0 0], false⟩ := ⟨info_of (by kernel_rfl), (by kernel_rfl : Try.prog.underlying 89 = some (.slice 4)), fun h => by cases h⟩
theorem ty92 : TyOk Try.prog 92 ⟨1, 8, .ptr, [.pointer none], false⟩ := ⟨info_of (by kernel_rfl), (ptr_of (by kernel_rfl)), fun h => by cases h⟩
theorem eqt93 (d : Nat) : EqT Try.prog (d + 2) 93 true [.int .i64 0] := eqt_struct (d := d + 1) Try.underlying93 (by kernel_rfl) (.cons (i := ⟨1, 8, .int .i64, [.int .i64 0], false⟩) rfl (by decide) ty3 rfl (by simp [Ty.agg]) (eqt3 (d + 0)) (.nil))
theorem ty93 : TyOk Try.prog 93 ⟨1, 8, .st [(0, 3)], [.int .i64 0], true⟩ := ⟨info_of (by kernel_rfl), (fields_of (by kernel_rfl)), fun _ => ⟨by kernel_rfl, fun xs ys b w => eqt93 9998 xs ys b w⟩⟩
theorem eqt94 (d : Nat) : EqT Try.prog (d + 2) 94 true [.int .i64 0] := eqt_struct (d := d + 1) Try.underlying94 (by kernel_rfl) (.cons (i := ⟨1, 8, .int .i64, [.int .i64 0], false⟩) rfl (by decide) ty3 rfl (by simp [Ty.agg]) (eqt3 (d + 0)) (.nil))
theorem ty94 : TyOk Try.prog 94 ⟨1, 8, .st [(0, 3)], [.int .i64 0], true⟩ := ⟨info_of (by kernel_rfl), (fields_of (by kernel_rfl)), fun _ => ⟨by kernel_rfl, fun xs ys b w => eqt94 9998 xs ys b w⟩⟩
theorem ty100 : TyOk Try.prog 100 ⟨1, 8, .ptr, [.pointer none], false⟩ := ⟨info_of (by kernel_rfl), (ptr_of (by kernel_rfl)), fun h => by cases h⟩
theorem ty101 : TyOk Try.prog 101 ⟨1, 8, .mp 9 141, [.map none], false⟩ := ⟨info_of (by kernel_rfl), (by kernel_rfl : Try.prog.underlying 101 = some (.map 9 141)), fun h => by cases h⟩
theorem ty102 : TyOk Try.prog 102 ⟨2, 16, .st [(0, 101), (1, 3)], [.map none, .int .i64 0], false⟩ := ⟨info_of (by kernel_rfl), (fields_of (by kernel_rfl)), fun h => by cases h⟩
theorem ty103 : TyOk Try.prog 103 ⟨2, 16, .st [(0, 101), (1, 3)], [.map none, .int .i64 0], false⟩ := ⟨info_of (by kernel_rfl), (fields_of (by kernel_rfl)), fun h => by cases h⟩
theorem ty106 : TyOk Try.prog 106 ⟨1, 8, .ptr, [.pointer none], false⟩ := ⟨info_of (by kernel_rfl), (ptr_of (by kernel_rfl)), fun h => by cases h⟩
theorem ty107 : TyOk Try.prog 107 ⟨1, 24, .sl 9, [.slice none 0 0], false⟩ := ⟨info_of (by kernel_rfl), (by kernel_rfl : Try.prog.underlying 107 = some (.slice 9)), fun h => by cases h⟩
theorem ty108 : TyOk Try.prog 108 ⟨2, 32, .st [(0, 107), (1, 3)], [.slice none 0 0, .int .i64 0], false⟩ := ⟨info_of (by kernel_rfl), (fields_of (by kernel_rfl)), fun h => by cases h⟩
theorem ty109 : TyOk Try.prog 109 ⟨2, 32, .st [(0, 107), (1, 3)], [.slice none 0 0, .int .i64 0], false⟩ := ⟨info_of (by kernel_rfl), (fields_of (by kernel_rfl)), fun h => by cases h⟩
theorem eqt111 (d : Nat) : EqT Try.prog (d + 2) 111 true [.int .i64 0, .int .i64 0, .string ⟨#[]⟩] := eqt_struct (d := d + 1) Try.underlying111 (by kernel_rfl) (.cons (i := ⟨1, 8, .int .i64, [.int .i64 0], false⟩) rfl (by decide) ty3 rfl (by simp [Ty.agg]) (eqt3 (d + 0)) (.cons (i := ⟨1, 8, .int .i64, [.int .i64 0], false⟩) rfl (by decide) ty3 rfl (by simp [Ty.agg]) (eqt3 (d + 0)) (.cons (i := ⟨1, 16, .str, [.string ⟨#[]⟩], false⟩) rfl (by decide) ty9 rfl (by simp [Ty.agg]) (eqt9 (d + 0)) (.nil))))
theorem ty111 : TyOk Try.prog 111 ⟨3, 32, .st [(0, 3), (1, 3), (2, 9)], [.int .i64 0, .int .i64 0, .string ⟨#[]⟩], true⟩ := ⟨info_of (by kernel_rfl), (fields_of (by kernel_rfl)), fun _ => ⟨by kernel_rfl, fun xs ys b w => eqt111 9998 xs ys b w⟩⟩
theorem eqt112 (d : Nat) : EqT Try.prog (d + 2) 112 true [.int .i64 0, .int .i64 0, .string ⟨#[]⟩] := eqt_struct (d := d + 1) Try.underlying112 (by kernel_rfl) (.cons (i := ⟨1, 8, .int .i64, [.int .i64 0], false⟩) rfl (by decide) ty3 rfl (by simp [Ty.agg]) (eqt3 (d + 0)) (.cons (i := ⟨1, 8, .int .i64, [.int .i64 0], false⟩) rfl (by decide) ty3 rfl (by simp [Ty.agg]) (eqt3 (d + 0)) (.cons (i := ⟨1, 16, .str, [.string ⟨#[]⟩], false⟩) rfl (by decide) ty9 rfl (by simp [Ty.agg]) (eqt9 (d + 0)) (.nil))))
theorem ty112 : TyOk Try.prog 112 ⟨3, 32, .st [(0, 3), (1, 3), (2, 9)], [.int .i64 0, .int .i64 0, .string ⟨#[]⟩], true⟩ := ⟨info_of (by kernel_rfl), (fields_of (by kernel_rfl)), fun _ => ⟨by kernel_rfl, fun xs ys b w => eqt112 9998 xs ys b w⟩⟩
theorem ty113 : TyOk Try.prog 113 ⟨1, 24, .sl 115, [.slice none 0 0], false⟩ := ⟨info_of (by kernel_rfl), (by kernel_rfl : Try.prog.underlying 113 = some (.slice 115)), fun h => by cases h⟩
theorem ty115 : TyOk Try.prog 115 ⟨1, 24, .sl 117, [.slice none 0 0], false⟩ := ⟨info_of (by kernel_rfl), (by kernel_rfl : Try.prog.underlying 115 = some (.slice 117)), fun h => by cases h⟩
theorem eqt116 (d : Nat) : EqT Try.prog (d + 3) 116 true [.int .i64 0, .string ⟨#[]⟩, .bool false, .int .i64 0, .int .i64 0, .int .i64 0, .string ⟨#[]⟩] := eqt_struct (d := d + 2) Try.underlying116 (by kernel_rfl) (.cons (i := ⟨3, 32, .st [(0, 3), (1, 9), (2, 4)], [.int .i64 0, .string ⟨#[]⟩, .bool false], true⟩) rfl (by decide) ty26 rfl (by simp [Ty.agg]) (eqt26 (d + 0)) (.cons (i := ⟨1, 8, .int .i64, [.int .i64 0], false⟩) rfl (by decide) ty3 rfl (by simp [Ty.agg]) (eqt3 (d + 1)) (.cons (i := ⟨3, 32, .st [(0, 3), (1, 3), (2, 9)], [.int .i64 0, .int .i64 0, .string ⟨#[]⟩], true⟩) rfl (by decide) ty24 rfl (by simp [Ty.agg]) (eqt24 (d + 0)) (.nil))))
theorem ty116 : TyOk Try.prog 116 ⟨7, 72, .st [(0, 26), (3, 3), (4, 24)], [.int .i64 0, .string ⟨#[]⟩, .bool false, .int .i64 0, .int .i64 0, .int .i64 0, .string ⟨#[]⟩], true⟩ := ⟨info_of (by kernel_rfl), (fields_of (by kernel_rfl)), fun _ => ⟨by kernel_rfl, fun xs ys b w => eqt116 9997 xs ys b w⟩⟩
theorem eqt117 (d : Nat) : EqT Try.prog (d + 3) 117 true [.int .i64 0, .string ⟨#[]⟩, .bool false, .int .i64 0, .int .i64 0, .int .i64 0, .string ⟨#[]⟩] := eqt_struct (d := d + 2) Try.underlying117 (by kernel_rfl) (.cons (i := ⟨3, 32, .st [(0, 3), (1, 9), (2, 4)], [.int .i64 0, .string ⟨#[]⟩, .bool false], true⟩) rfl (by decide) ty26 rfl (by simp [Ty.agg]) (eqt26 (d + 0)) (.cons (i := ⟨1, 8, .int .i64, [.int .i64 0], false⟩) rfl (by decide) ty3 rfl (by simp [Ty.agg]) (eqt3 (d + 1)) (.cons (i := ⟨3, 32, .st [(0, 3), (1, 3), (2, 9)], [.int .i64 0, .int .i64 0, .string ⟨#[]⟩], true⟩) rfl (by decide) ty24 rfl (by simp [Ty.agg]) (eqt24 (d + 0)) (.nil))))
theorem ty117 : TyOk Try.prog 117 ⟨7, 72, .st [(0, 26), (3, 3), (4, 24)], [.int .i64 0, .string ⟨#[]⟩, .bool false, .int .i64 0, .int .i64 0, .int .i64 0, .string ⟨#[]⟩], true⟩ := ⟨info_of (by kernel_rfl), (fields_of (by kernel_rfl)), fun _ => ⟨by kernel_rfl, fun xs ys b w => eqt117 9997 xs ys b w⟩⟩
theorem ty141 : TyOk Try.prog 141 ⟨0, 0, .st [], [], false⟩ := ⟨info_of (by kernel_rfl), (fields_of (by kernel_rfl)), fun h => by cases h⟩
theorem ty150 : TyOk Try.prog 150 ⟨1, 4, .int .u32, [.int .u32 0], false⟩ := ⟨info_of (by kernel_rfl), (by kernel_rfl : Try.prog.underlying 150 = some (.int .u32)), fun h => by cases h⟩
theorem ty154 : TyOk Try.prog 154 ⟨1, 8, .ptr, [.pointer none], false⟩ := ⟨info_of (by kernel_rfl), (ptr_of (by kernel_rfl)), fun h => by cases h⟩
def TTab : TT := [(2, ⟨1, 8, .int .i64, [.int .i64 0], false⟩),
  (3, ⟨1, 8, .int .i64, [.int .i64 0], false⟩),
  (4, ⟨1, 1, .bool, [.bool false], false⟩),
  (9, ⟨1, 16, .str, [.string ⟨#[]⟩], false⟩),
  (33, ⟨1, 8, .int .i64, [.int .i64 0], false⟩),
  (5, ⟨1, 1, .int .u8, [.int .u8 0], false⟩),
  (12, ⟨1, 8, .int .u64, [.int .u64 0], false⟩),
  (13, ⟨2, 24, .st [(0, 9), (1, 12)], [.string ⟨#[]⟩, .int .u64 0], false⟩),
  (20, ⟨1, 16, .ifc, [.nilIface], false⟩),
  (21, ⟨1, 4, .int .i32, [.int .i32 0], false⟩),
  (23, ⟨3, 32, .st [(0, 3), (1, 3), (2, 9)], [.int .i64 0, .int .i64 0, .string ⟨#[]⟩], true⟩),
  (24, ⟨3, 32, .st [(0, 3), (1, 3), (2, 9)], [.int .i64 0, .int .i64 0, .string ⟨#[]⟩], true⟩),
  (25, ⟨3, 32, .st [(0, 3), (1, 9), (2, 4)], [.int .i64 0, .string ⟨#[]⟩, .bool false], true⟩),
  (26, ⟨3, 32, .st [(0, 3), (1, 9), (2, 4)], [.int .i64 0, .string ⟨#[]⟩, .bool false], true⟩),
  (27, ⟨7, 72, .st [(0, 3), (1, 24), (4, 26)], [.int .i64 0, .int .i64 0, .int .i64 0, .string ⟨#[]⟩, .int .i64 0, .string ⟨#[]⟩, .bool false], true⟩),
  (28, ⟨7, 72, .st [(0, 3), (1, 24), (4, 26)], [.int .i64 0, .int .i64 0, .int .i64 0, .string ⟨#[]⟩, .int .i64 0, .string ⟨#[]⟩, .bool false], true⟩),
  (32, ⟨1, 24, .sl 28, [.slice none 0 0], false⟩),
  (39, ⟨1, 24, .sl 49, [.slice none 0 0], false⟩),
  (45, ⟨1, 24, .sl 24, [.slice none 0 0], false⟩),
  (48, ⟨3, 48, .st [(0, 3), (1, 9), (2, 45)], [.int .i64 0, .string ⟨#[]⟩, .slice none 0 0], false⟩),
  (49, ⟨3, 48, .st [(0, 3), (1, 9), (2, 45)], [.int .i64 0, .string ⟨#[]⟩, .slice none 0 0], false⟩),
  (58, ⟨1, 24, .sl 113, [.slice none 0 0], false⟩),
  (59, ⟨1, 24, .sl 113, [.slice none 0 0], false⟩),
  (60, ⟨1, 24, .sl 78, [.slice none 0 0], false⟩),
  (61, ⟨1, 24, .sl 64, [.slice none 0 0], false⟩),
  (62, ⟨1, 24, .sl 112, [.slice none 0 0], false⟩),
  (63, ⟨7, 128, .st [(0, 9), (1, 4), (2, 3), (3, 59), (4, 60), (5, 61), (6, 62)], [.string ⟨#[]⟩, .bool false, .int .i64 0, .slice none 0 0, .slice none 0 0, .slice none 0 0, .slice none 0 0], false⟩),
  (64, ⟨7, 128, .st [(0, 9), (1, 4), (2, 3), (3, 59), (4, 60), (5, 61), (6, 62)], [.string ⟨#[]⟩, .bool false, .int .i64 0, .slice none 0 0, .slice none 0 0, .slice none 0 0, .slice none 0 0], false⟩),
  (77, ⟨5, 96, .st [(0, 9), (1, 4), (2, 59), (3, 32), (4, 62)], [.string ⟨#[]⟩, .bool false, .slice none 0 0, .slice none 0 0, .slice none 0 0], false⟩),
  (78, ⟨5, 96, .st [(0, 9), (1, 4), (2, 59), (3, 32), (4, 62)], [.string ⟨#[]⟩, .bool false, .slice none 0 0, .slice none 0 0, .slice none 0 0], false⟩),
  (80, ⟨1, 24, .sl 5, [.slice none 0 0], false⟩),
  (82, ⟨1, 8, .ptr, [.pointer none], false⟩),
  (84, ⟨1, 24, .sl 87, [.slice none 0 0], false⟩),
  (86, ⟨5, 64, .st [(0, 45), (1, 24), (4, 33)], [.slice none 0 0, .int .i64 0, .int .i64 0, .string ⟨#[]⟩, .int .i64 0], false⟩),
  (87, ⟨5, 64, .st [(0, 45), (1, 24), (4, 33)], [.slice none 0 0, .int .i64 0, .int .i64 0, .string ⟨#[]⟩, .int .i64 0], false⟩),
  (89, ⟨1, 24, .sl 4, [.slice none 0 0], false⟩),
  (92, ⟨1, 8, .ptr, [.pointer none], false⟩),
  (93, ⟨1, 8, .st [(0, 3)], [.int .i64 0], true⟩),
  (94, ⟨1, 8, .st [(0, 3)], [.int .i64 0], true⟩),
  (100, ⟨1, 8, .ptr, [.pointer none], false⟩),
  (101, ⟨1, 8, .mp 9 141, [.map none], false⟩),
  (102, ⟨2, 16, .st [(0, 101), (1, 3)], [.map none, .int .i64 0], false⟩),
  (103, ⟨2, 16, .st [(0, 101), (1, 3)], [.map none, .int .i64 0], false⟩),
  (106, ⟨1, 8, .ptr, [.pointer none], false⟩),
  (107, ⟨1, 24, .sl 9, [.slice none 0 0], false⟩),
  (108, ⟨2, 32, .st [(0, 107), (1, 3)], [.slice none 0 0, .int .i64 0], false⟩),
  (109, ⟨2, 32, .st [(0, 107), (1, 3)], [.slice none 0 0, .int .i64 0], false⟩),
  (111, ⟨3, 32, .st [(0, 3), (1, 3), (2, 9)], [.int .i64 0, .int .i64 0, .string ⟨#[]⟩], true⟩),
  (112, ⟨3, 32, .st [(0, 3), (1, 3), (2, 9)], [.int .i64 0, .int .i64 0, .string ⟨#[]⟩], true⟩),
  (113, ⟨1, 24, .sl 115, [.slice none 0 0], false⟩),
  (115, ⟨1, 24, .sl 117, [.slice none 0 0], false⟩),
  (116, ⟨7, 72, .st [(0, 26), (3, 3), (4, 24)], [.int .i64 0, .string ⟨#[]⟩, .bool false, .int .i64 0, .int .i64 0, .int .i64 0, .string ⟨#[]⟩], true⟩),
  (117, ⟨7, 72, .st [(0, 26), (3, 3), (4, 24)], [.int .i64 0, .string ⟨#[]⟩, .bool false, .int .i64 0, .int .i64 0, .int .i64 0, .string ⟨#[]⟩], true⟩),
  (141, ⟨0, 0, .st [], [], false⟩),
  (150, ⟨1, 4, .int .u32, [.int .u32 0], false⟩),
  (154, ⟨1, 8, .ptr, [.pointer none], false⟩)]
theorem ttab_ok : TypesOk Try.prog TTab :=
  typesOk_cons ty2 <| typesOk_cons ty3 <| typesOk_cons ty4 <| typesOk_cons ty9 <| typesOk_cons ty33 <| typesOk_cons ty5 <| typesOk_cons ty12 <| typesOk_cons ty13 <| typesOk_cons ty20 <| typesOk_cons ty21 <| typesOk_cons ty23 <| typesOk_cons ty24 <| typesOk_cons ty25 <| typesOk_cons ty26 <| typesOk_cons ty27 <| typesOk_cons ty28 <| typesOk_cons ty32 <| typesOk_cons ty39 <| typesOk_cons ty45 <| typesOk_cons ty48 <| typesOk_cons ty49 <| typesOk_cons ty58 <| typesOk_cons ty59 <| typesOk_cons ty60 <| typesOk_cons ty61 <| typesOk_cons ty62 <| typesOk_cons ty63 <| typesOk_cons ty64 <| typesOk_cons ty77 <| typesOk_cons ty78 <| typesOk_cons ty80 <| typesOk_cons ty82 <| typesOk_cons ty84 <| typesOk_cons ty86 <| typesOk_cons ty87 <| typesOk_cons ty89 <| typesOk_cons ty92 <| typesOk_cons ty93 <| typesOk_cons ty94 <| typesOk_cons ty100 <| typesOk_cons ty101 <| typesOk_cons ty102 <| typesOk_cons ty103 <| typesOk_cons ty106 <| typesOk_cons ty107 <| typesOk_cons ty108 <| typesOk_cons ty109 <| typesOk_cons ty111 <| typesOk_cons ty112 <| typesOk_cons ty113 <| typesOk_cons ty115 <| typesOk_cons ty116 <| typesOk_cons ty117 <| typesOk_cons ty141 <| typesOk_cons ty150 <| typesOk_cons ty154 <| typesOk_nil
end Go.Proofs.Ytjpcchipejmocaa
