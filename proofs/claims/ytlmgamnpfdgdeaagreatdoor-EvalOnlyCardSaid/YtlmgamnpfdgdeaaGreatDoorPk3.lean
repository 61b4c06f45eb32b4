/-
  What the statement leans on, part 3: Types, Shade6, Sh, Enc, Size, Pol, ConvV, Conv, ValueN, PolS, ValH, PolH, AskS, HasS, ExS, ExT, EvS, PolM, PolP, EvP, PolE, PolW, Data0, Data, Data2, Data3, Data4, PolF, SzS, VarP, Bld, Dec, Quo, Pend.
-/
import Derived.Test.YtlmgamnpfdgdeaaGreatDoorChecked
import Derived.Test.YtlmgamnpfdgdeaaGreatDoorRows
import Derived.WalkLawsBesides
import Derived.WalkSpells
import Derived.Deep.Cut
import Derived.Deep.Light
import Derived.Shelf.Strings.Builder1
import Derived.Test.YtlmgamnpfdgdeaaGreatDoorPk1
import Derived.Test.YtlmgamnpfdgdeaaGreatDoorPk2
namespace Go.Proofs.YtlmgamnpfdgdeaaGreatDoor
open Go.RowKit
theorem ty2 : TyOk Tryz.prog 2 ⟨1, 8, .int .i64, [.int .i64 0], false⟩ := ⟨qj (by kernel_rfl), (by kernel_rfl : Tryz.prog.underlying 2 = some (.int .i64)), fun h => by cases h⟩
theorem eqt3 (d : Nat) : EqT Tryz.prog (d + 1) 3 false [.int .i64 0] := eqt_int d 0 (by kernel_rfl)
theorem ty3 : TyOk Tryz.prog 3 ⟨1, 8, .int .i64, [.int .i64 0], false⟩ := ⟨qj (by kernel_rfl), (by kernel_rfl : Tryz.prog.underlying 3 = some (.int .i64)), fun h => by cases h⟩
theorem eqt4 (d : Nat) : EqT Tryz.prog (d + 1) 4 false [.bool false] := eqt_bool d false (by kernel_rfl)
theorem ty4 : TyOk Tryz.prog 4 ⟨1, 1, .bool, [.bool false], false⟩ := ⟨qj (by kernel_rfl), (by kernel_rfl : Tryz.prog.underlying 4 = some (.bool)), fun h => by cases h⟩
theorem ty5 : TyOk Tryz.prog 5 ⟨1, 1, .int .u8, [.int .u8 0], false⟩ := ⟨qj (by kernel_rfl), (by kernel_rfl : Tryz.prog.underlying 5 = some (.int .u8)), fun h => by cases h⟩
theorem eqt9 (d : Nat) : EqT Tryz.prog (d + 1) 9 false [.string ⟨#[]⟩] := eqt_str d _ (by kernel_rfl)
theorem ty9 : TyOk Tryz.prog 9 ⟨1, 16, .str, [.string ⟨#[]⟩], false⟩ := ⟨qj (by kernel_rfl), (by kernel_rfl : Tryz.prog.underlying 9 = some (.string)), fun h => by cases h⟩
theorem ty12 : TyOk Tryz.prog 12 ⟨1, 8, .int .u64, [.int .u64 0], false⟩ := ⟨qj (by kernel_rfl), (by kernel_rfl : Tryz.prog.underlying 12 = some (.int .u64)), fun h => by cases h⟩
theorem ty13 : TyOk Tryz.prog 13 ⟨2, 24, .st [(0, 9), (1, 12)], [.string ⟨#[]⟩, .int .u64 0], false⟩ := ⟨qj (by kernel_rfl), (qs (by kernel_rfl)), fun h => by cases h⟩
theorem ty20 : TyOk Tryz.prog 20 ⟨1, 16, .ifc, [.nilIface], false⟩ := ⟨qj (by kernel_rfl), (ifc_of (by kernel_rfl)), fun h => by cases h⟩
theorem ty21 : TyOk Tryz.prog 21 ⟨1, 4, .int .i32, [.int .i32 0], false⟩ := ⟨qj (by kernel_rfl), (by kernel_rfl : Tryz.prog.underlying 21 = some (.int .i32)), fun h => by cases h⟩
theorem ty22 : TyOk Tryz.prog 22 ⟨1, 24, .sl 160, [.slice none 0 0], false⟩ := ⟨qj (by kernel_rfl), (by kernel_rfl : Tryz.prog.underlying 22 = some (.slice 160)), fun h => by cases h⟩
theorem ty23 : TyOk Tryz.prog 23 ⟨1, 24, .sl 160, [.slice none 0 0], false⟩ := ⟨qj (by kernel_rfl), (by kernel_rfl : Tryz.prog.underlying 23 = some (.slice 160)), fun h => by cases h⟩
theorem ty24 : TyOk Tryz.prog 24 ⟨1, 24, .sl 117, [.slice none 0 0], false⟩ := ⟨qj (by kernel_rfl), (by kernel_rfl : Tryz.prog.underlying 24 = some (.slice 117)), fun h => by cases h⟩
theorem ty25 : TyOk Tryz.prog 25 ⟨1, 24, .sl 28, [.slice none 0 0], false⟩ := ⟨qj (by kernel_rfl), (by kernel_rfl : Tryz.prog.underlying 25 = some (.slice 28)), fun h => by cases h⟩
theorem ty26 : TyOk Tryz.prog 26 ⟨1, 24, .sl 79, [.slice none 0 0], false⟩ := ⟨qj (by kernel_rfl), (by kernel_rfl : Tryz.prog.underlying 26 = some (.slice 79)), fun h => by cases h⟩
theorem ty27 : TyOk Tryz.prog 27 ⟨7, 128, .st [(0, 9), (1, 4), (2, 3), (3, 23), (4, 24), (5, 25), (6, 26)], [.string ⟨#[]⟩, .bool false, .int .i64 0, .slice none 0 0, .slice none 0 0, .slice none 0 0, .slice none 0 0], false⟩ := ⟨qj (by kernel_rfl), (qs (by kernel_rfl)), fun h => by cases h⟩
theorem ty28 : TyOk Tryz.prog 28 ⟨7, 128, .st [(0, 9), (1, 4), (2, 3), (3, 23), (4, 24), (5, 25), (6, 26)], [.string ⟨#[]⟩, .bool false, .int .i64 0, .slice none 0 0, .slice none 0 0, .slice none 0 0, .slice none 0 0], false⟩ := ⟨qj (by kernel_rfl), (qs (by kernel_rfl)), fun h => by cases h⟩
theorem ty29 : TyOk Tryz.prog 29 ⟨1, 24, .sl 34, [.slice none 0 0], false⟩ := ⟨qj (by kernel_rfl), (by kernel_rfl : Tryz.prog.underlying 29 = some (.slice 34)), fun h => by cases h⟩
theorem eqt30 (d : Nat) : EqT Tryz.prog (d + 2) 30 true [.int .i64 0, .int .i64 0, .string ⟨#[]⟩] := qS (d := d + 1) Tryz.underlying30 (by kernel_rfl) (.cons (i := ⟨1, 8, .int .i64, [.int .i64 0], false⟩) rfl (by decide) ty3 rfl (by simp [Ty.agg]) (eqt3 (d + 0)) (.cons (i := ⟨1, 8, .int .i64, [.int .i64 0], false⟩) rfl (by decide) ty3 rfl (by simp [Ty.agg]) (eqt3 (d + 0)) (.cons (i := ⟨1, 16, .str, [.string ⟨#[]⟩], false⟩) rfl (by decide) ty9 rfl (by simp [Ty.agg]) (eqt9 (d + 0)) (.nil))))
theorem ty30 : TyOk Tryz.prog 30 ⟨3, 32, .st [(0, 3), (1, 3), (2, 9)], [.int .i64 0, .int .i64 0, .string ⟨#[]⟩], true⟩ := ⟨qj (by kernel_rfl), (qs (by kernel_rfl)), fun _ => ⟨by kernel_rfl, fun xs ys b w => eqt30 9998 xs ys b w⟩⟩
theorem eqt31 (d : Nat) : EqT Tryz.prog (d + 2) 31 true [.int .i64 0, .int .i64 0, .string ⟨#[]⟩] := qS (d := d + 1) Tryz.underlying31 (by kernel_rfl) (.cons (i := ⟨1, 8, .int .i64, [.int .i64 0], false⟩) rfl (by decide) ty3 rfl (by simp [Ty.agg]) (eqt3 (d + 0)) (.cons (i := ⟨1, 8, .int .i64, [.int .i64 0], false⟩) rfl (by decide) ty3 rfl (by simp [Ty.agg]) (eqt3 (d + 0)) (.cons (i := ⟨1, 16, .str, [.string ⟨#[]⟩], false⟩) rfl (by decide) ty9 rfl (by simp [Ty.agg]) (eqt9 (d + 0)) (.nil))))
theorem ty31 : TyOk Tryz.prog 31 ⟨3, 32, .st [(0, 3), (1, 3), (2, 9)], [.int .i64 0, .int .i64 0, .string ⟨#[]⟩], true⟩ := ⟨qj (by kernel_rfl), (qs (by kernel_rfl)), fun _ => ⟨by kernel_rfl, fun xs ys b w => eqt31 9998 xs ys b w⟩⟩
theorem ty32 : TyOk Tryz.prog 32 ⟨1, 24, .sl 31, [.slice none 0 0], false⟩ := ⟨qj (by kernel_rfl), (by kernel_rfl : Tryz.prog.underlying 32 = some (.slice 31)), fun h => by cases h⟩
theorem ty33 : TyOk Tryz.prog 33 ⟨3, 48, .st [(0, 3), (1, 9), (2, 32)], [.int .i64 0, .string ⟨#[]⟩, .slice none 0 0], false⟩ := ⟨qj (by kernel_rfl), (qs (by kernel_rfl)), fun h => by cases h⟩
theorem ty34 : TyOk Tryz.prog 34 ⟨3, 48, .st [(0, 3), (1, 9), (2, 32)], [.int .i64 0, .string ⟨#[]⟩, .slice none 0 0], false⟩ := ⟨qj (by kernel_rfl), (qs (by kernel_rfl)), fun h => by cases h⟩
theorem ty37 : TyOk Tryz.prog 37 ⟨1, 8, .int .i64, [.int .i64 0], false⟩ := ⟨qj (by kernel_rfl), (by kernel_rfl : Tryz.prog.underlying 37 = some (.int .i64)), fun h => by cases h⟩
theorem ty41 : TyOk Tryz.prog 41 ⟨1, 16, .cpx, [.complex .f64 0 0], false⟩ := ⟨qj (by kernel_rfl), (by kernel_rfl : Tryz.prog.underlying 41 = some (.complex .f64)), fun h => by cases h⟩
theorem ty42 : TyOk Tryz.prog 42 ⟨1, 16, .cpx, [.complex .f64 0 0], false⟩ := ⟨qj (by kernel_rfl), (by kernel_rfl : Tryz.prog.underlying 42 = some (.complex .f64)), fun h => by cases h⟩
theorem ty43 : TyOk Tryz.prog 43 ⟨2, 40, .st [(0, 42), (1, 26)], [.complex .f64 0 0, .slice none 0 0], false⟩ := ⟨qj (by kernel_rfl), (qs (by kernel_rfl)), fun h => by cases h⟩
theorem ty44 : TyOk Tryz.prog 44 ⟨2, 40, .st [(0, 42), (1, 26)], [.complex .f64 0 0, .slice none 0 0], false⟩ := ⟨qj (by kernel_rfl), (qs (by kernel_rfl)), fun h => by cases h⟩
theorem ty51 : TyOk Tryz.prog 51 ⟨1, 8, .ptr, [.pointer none], false⟩ := ⟨qj (by kernel_rfl), (ptr_of (by kernel_rfl)), fun h => by cases h⟩
theorem ty59 : TyOk Tryz.prog 59 ⟨1, 24, .sl 107, [.slice none 0 0], false⟩ := ⟨qj (by kernel_rfl), (by kernel_rfl : Tryz.prog.underlying 59 = some (.slice 107)), fun h => by cases h⟩
theorem ty63 : TyOk Tryz.prog 63 ⟨1, 24, .sl 3, [.slice none 0 0], false⟩ := ⟨qj (by kernel_rfl), (by kernel_rfl : Tryz.prog.underlying 63 = some (.slice 3)), fun h => by cases h⟩
theorem ty65 : TyOk Tryz.prog 65 ⟨1, 8, .ptr, [.pointer none], false⟩ := ⟨qj (by kernel_rfl), (ptr_of (by kernel_rfl)), fun h => by cases h⟩
theorem eqt66 (d : Nat) : EqT Tryz.prog (d + 2) 66 true [.int .i64 0] := qS (d := d + 1) Tryz.underlying66 (by kernel_rfl) (.cons (i := ⟨1, 8, .int .i64, [.int .i64 0], false⟩) rfl (by decide) ty3 rfl (by simp [Ty.agg]) (eqt3 (d + 0)) (.nil))
theorem ty66 : TyOk Tryz.prog 66 ⟨1, 8, .st [(0, 3)], [.int .i64 0], true⟩ := ⟨qj (by kernel_rfl), (qs (by kernel_rfl)), fun _ => ⟨by kernel_rfl, fun xs ys b w => eqt66 9998 xs ys b w⟩⟩
theorem eqt67 (d : Nat) : EqT Tryz.prog (d + 2) 67 true [.int .i64 0] := qS (d := d + 1) Tryz.underlying67 (by kernel_rfl) (.cons (i := ⟨1, 8, .int .i64, [.int .i64 0], false⟩) rfl (by decide) ty3 rfl (by simp [Ty.agg]) (eqt3 (d + 0)) (.nil))
theorem ty67 : TyOk Tryz.prog 67 ⟨1, 8, .st [(0, 3)], [.int .i64 0], true⟩ := ⟨qj (by kernel_rfl), (qs (by kernel_rfl)), fun _ => ⟨by kernel_rfl, fun xs ys b w => eqt67 9998 xs ys b w⟩⟩
theorem ty72 : TyOk Tryz.prog 72 ⟨1, 8, .ptr, [.pointer none], false⟩ := ⟨qj (by kernel_rfl), (ptr_of (by kernel_rfl)), fun h => by cases h⟩
theorem ty73 : TyOk Tryz.prog 73 ⟨1, 8, .mp 9 155, [.map none], false⟩ := ⟨qj (by kernel_rfl), (by kernel_rfl : Tryz.prog.underlying 73 = some (.map 9 155)), fun h => by cases h⟩
theorem ty74 : TyOk Tryz.prog 74 ⟨2, 16, .st [(0, 73), (1, 3)], [.map none, .int .i64 0], false⟩ := ⟨qj (by kernel_rfl), (qs (by kernel_rfl)), fun h => by cases h⟩
theorem ty75 : TyOk Tryz.prog 75 ⟨2, 16, .st [(0, 73), (1, 3)], [.map none, .int .i64 0], false⟩ := ⟨qj (by kernel_rfl), (qs (by kernel_rfl)), fun h => by cases h⟩
theorem eqt78 (d : Nat) : EqT Tryz.prog (d + 2) 78 true [.int .i64 0, .int .i64 0, .string ⟨#[]⟩] := qS (d := d + 1) Tryz.underlying78 (by kernel_rfl) (.cons (i := ⟨1, 8, .int .i64, [.int .i64 0], false⟩) rfl (by decide) ty3 rfl (by simp [Ty.agg]) (eqt3 (d + 0)) (.cons (i := ⟨1, 8, .int .i64, [.int .i64 0], false⟩) rfl (by decide) ty3 rfl (by simp [Ty.agg]) (eqt3 (d + 0)) (.cons (i := ⟨1, 16, .str, [.string ⟨#[]⟩], false⟩) rfl (by decide) ty9 rfl (by simp [Ty.agg]) (eqt9 (d + 0)) (.nil))))
theorem ty78 : TyOk Tryz.prog 78 ⟨3, 32, .st [(0, 3), (1, 3), (2, 9)], [.int .i64 0, .int .i64 0, .string ⟨#[]⟩], true⟩ := ⟨qj (by kernel_rfl), (qs (by kernel_rfl)), fun _ => ⟨by kernel_rfl, fun xs ys b w => eqt78 9998 xs ys b w⟩⟩
theorem eqt79 (d : Nat) : EqT Tryz.prog (d + 2) 79 true [.int .i64 0, .int .i64 0, .string ⟨#[]⟩] := qS (d := d + 1) Tryz.underlying79 (by kernel_rfl) (.cons (i := ⟨1, 8, .int .i64, [.int .i64 0], false⟩) rfl (by decide) ty3 rfl (by simp [Ty.agg]) (eqt3 (d + 0)) (.cons (i := ⟨1, 8, .int .i64, [.int .i64 0], false⟩) rfl (by decide) ty3 rfl (by simp [Ty.agg]) (eqt3 (d + 0)) (.cons (i := ⟨1, 16, .str, [.string ⟨#[]⟩], false⟩) rfl (by decide) ty9 rfl (by simp [Ty.agg]) (eqt9 (d + 0)) (.nil))))
theorem ty79 : TyOk Tryz.prog 79 ⟨3, 32, .st [(0, 3), (1, 3), (2, 9)], [.int .i64 0, .int .i64 0, .string ⟨#[]⟩], true⟩ := ⟨qj (by kernel_rfl), (qs (by kernel_rfl)), fun _ => ⟨by kernel_rfl, fun xs ys b w => eqt79 9998 xs ys b w⟩⟩
theorem ty84 : TyOk Tryz.prog 84 ⟨1, 8, .ptr, [.pointer none], false⟩ := ⟨qj (by kernel_rfl), (ptr_of (by kernel_rfl)), fun h => by cases h⟩
theorem ty85 : TyOk Tryz.prog 85 ⟨2, 16, .st [(0, 84), (1, 3)], [.pointer none, .int .i64 0], false⟩ := ⟨qj (by kernel_rfl), (qs (by kernel_rfl)), fun h => by cases h⟩
theorem ty86 : TyOk Tryz.prog 86 ⟨2, 16, .st [(0, 84), (1, 3)], [.pointer none, .int .i64 0], false⟩ := ⟨qj (by kernel_rfl), (qs (by kernel_rfl)), fun h => by cases h⟩
theorem ty87 : TyOk Tryz.prog 87 ⟨1, 24, .sl 44, [.slice none 0 0], false⟩ := ⟨qj (by kernel_rfl), (by kernel_rfl : Tryz.prog.underlying 87 = some (.slice 44)), fun h => by cases h⟩
theorem ty88 : TyOk Tryz.prog 88 ⟨4, 64, .st [(0, 86), (2, 59), (3, 87)], [.pointer none, .int .i64 0, .slice none 0 0, .slice none 0 0], false⟩ := ⟨qj (by kernel_rfl), (qs (by kernel_rfl)), fun h => by cases h⟩
theorem ty89 : TyOk Tryz.prog 89 ⟨4, 64, .st [(0, 86), (2, 59), (3, 87)], [.pointer none, .int .i64 0, .slice none 0 0, .slice none 0 0], false⟩ := ⟨qj (by kernel_rfl), (qs (by kernel_rfl)), fun h => by cases h⟩
theorem ty94 : TyOk Tryz.prog 94 ⟨3, 24, .arr 3 3, [.int .i64 0, .int .i64 0, .int .i64 0], false⟩ := ⟨qj (by kernel_rfl), (by kernel_rfl : Tryz.prog.underlying 94 = some (.array 3 3)), fun h => by cases h⟩
theorem ty95 : TyOk Tryz.prog 95 ⟨4, 32, .st [(0, 3), (1, 94)], [.int .i64 0, .int .i64 0, .int .i64 0, .int .i64 0], false⟩ := ⟨qj (by kernel_rfl), (qs (by kernel_rfl)), fun h => by cases h⟩
theorem ty96 : TyOk Tryz.prog 96 ⟨4, 32, .st [(0, 3), (1, 94)], [.int .i64 0, .int .i64 0, .int .i64 0, .int .i64 0], false⟩ := ⟨qj (by kernel_rfl), (qs (by kernel_rfl)), fun h => by cases h⟩
theorem eqt101 (d : Nat) : EqT Tryz.prog (d + 2) 101 true [.int .i64 0, .string ⟨#[]⟩, .bool false] := qS (d := d + 1) Tryz.underlying101 (by kernel_rfl) (.cons (i := ⟨1, 8, .int .i64, [.int .i64 0], false⟩) rfl (by decide) ty3 rfl (by simp [Ty.agg]) (eqt3 (d + 0)) (.cons (i := ⟨1, 16, .str, [.string ⟨#[]⟩], false⟩) rfl (by decide) ty9 rfl (by simp [Ty.agg]) (eqt9 (d + 0)) (.cons (i := ⟨1, 1, .bool, [.bool false], false⟩) rfl (by decide) ty4 rfl (by simp [Ty.agg]) (eqt4 (d + 0)) (.nil))))
theorem ty101 : TyOk Tryz.prog 101 ⟨3, 32, .st [(0, 3), (1, 9), (2, 4)], [.int .i64 0, .string ⟨#[]⟩, .bool false], true⟩ := ⟨qj (by kernel_rfl), (qs (by kernel_rfl)), fun _ => ⟨by kernel_rfl, fun xs ys b w => eqt101 9998 xs ys b w⟩⟩
theorem eqt102 (d : Nat) : EqT Tryz.prog (d + 2) 102 true [.int .i64 0, .string ⟨#[]⟩, .bool false] := qS (d := d + 1) Tryz.underlying102 (by kernel_rfl) (.cons (i := ⟨1, 8, .int .i64, [.int .i64 0], false⟩) rfl (by decide) ty3 rfl (by simp [Ty.agg]) (eqt3 (d + 0)) (.cons (i := ⟨1, 16, .str, [.string ⟨#[]⟩], false⟩) rfl (by decide) ty9 rfl (by simp [Ty.agg]) (eqt9 (d + 0)) (.cons (i := ⟨1, 1, .bool, [.bool false], false⟩) rfl (by decide) ty4 rfl (by simp [Ty.agg]) (eqt4 (d + 0)) (.nil))))
theorem ty102 : TyOk Tryz.prog 102 ⟨3, 32, .st [(0, 3), (1, 9), (2, 4)], [.int .i64 0, .string ⟨#[]⟩, .bool false], true⟩ := ⟨qj (by kernel_rfl), (qs (by kernel_rfl)), fun _ => ⟨by kernel_rfl, fun xs ys b w => eqt102 9998 xs ys b w⟩⟩
theorem eqt103 (d : Nat) : EqT Tryz.prog (d + 3) 103 true [.int .i64 0, .string ⟨#[]⟩, .bool false, .int .i64 0, .int .i64 0, .int .i64 0, .string ⟨#[]⟩] := qS (d := d + 2) Tryz.underlying103 (by kernel_rfl) (.cons (i := ⟨3, 32, .st [(0, 3), (1, 9), (2, 4)], [.int .i64 0, .string ⟨#[]⟩, .bool false], true⟩) rfl (by decide) ty102 rfl (by simp [Ty.agg]) (eqt102 (d + 0)) (.cons (i := ⟨1, 8, .int .i64, [.int .i64 0], false⟩) rfl (by decide) ty3 rfl (by simp [Ty.agg]) (eqt3 (d + 1)) (.cons (i := ⟨3, 32, .st [(0, 3), (1, 3), (2, 9)], [.int .i64 0, .int .i64 0, .string ⟨#[]⟩], true⟩) rfl (by decide) ty31 rfl (by simp [Ty.agg]) (eqt31 (d + 0)) (.nil))))
theorem ty103 : TyOk Tryz.prog 103 ⟨7, 72, .st [(0, 102), (3, 3), (4, 31)], [.int .i64 0, .string ⟨#[]⟩, .bool false, .int .i64 0, .int .i64 0, .int .i64 0, .string ⟨#[]⟩], true⟩ := ⟨qj (by kernel_rfl), (qs (by kernel_rfl)), fun _ => ⟨by kernel_rfl, fun xs ys b w => eqt103 9997 xs ys b w⟩⟩
theorem eqt104 (d : Nat) : EqT Tryz.prog (d + 3) 104 true [.int .i64 0, .string ⟨#[]⟩, .bool false, .int .i64 0, .int .i64 0, .int .i64 0, .string ⟨#[]⟩] := qS (d := d + 2) Tryz.underlying104 (by kernel_rfl) (.cons (i := ⟨3, 32, .st [(0, 3), (1, 9), (2, 4)], [.int .i64 0, .string ⟨#[]⟩, .bool false], true⟩) rfl (by decide) ty102 rfl (by simp [Ty.agg]) (eqt102 (d + 0)) (.cons (i := ⟨1, 8, .int .i64, [.int .i64 0], false⟩) rfl (by decide) ty3 rfl (by simp [Ty.agg]) (eqt3 (d + 1)) (.cons (i := ⟨3, 32, .st [(0, 3), (1, 3), (2, 9)], [.int .i64 0, .int .i64 0, .string ⟨#[]⟩], true⟩) rfl (by decide) ty31 rfl (by simp [Ty.agg]) (eqt31 (d + 0)) (.nil))))
theorem ty104 : TyOk Tryz.prog 104 ⟨7, 72, .st [(0, 102), (3, 3), (4, 31)], [.int .i64 0, .string ⟨#[]⟩, .bool false, .int .i64 0, .int .i64 0, .int .i64 0, .string ⟨#[]⟩], true⟩ := ⟨qj (by kernel_rfl), (qs (by kernel_rfl)), fun _ => ⟨by kernel_rfl, fun xs ys b w => eqt104 9997 xs ys b w⟩⟩
theorem ty105 : TyOk Tryz.prog 105 ⟨1, 24, .sl 119, [.slice none 0 0], false⟩ := ⟨qj (by kernel_rfl), (by kernel_rfl : Tryz.prog.underlying 105 = some (.slice 119)), fun h => by cases h⟩
theorem ty106 : TyOk Tryz.prog 106 ⟨8, 96, .st [(0, 104), (7, 105)], [.int .i64 0, .string ⟨#[]⟩, .bool false, .int .i64 0, .int .i64 0, .int .i64 0, .string ⟨#[]⟩, .slice none 0 0], false⟩ := ⟨qj (by kernel_rfl), (qs (by kernel_rfl)), fun h => by cases h⟩
theorem ty107 : TyOk Tryz.prog 107 ⟨8, 96, .st [(0, 104), (7, 105)], [.int .i64 0, .string ⟨#[]⟩, .bool false, .int .i64 0, .int .i64 0, .int .i64 0, .string ⟨#[]⟩, .slice none 0 0], false⟩ := ⟨qj (by kernel_rfl), (qs (by kernel_rfl)), fun h => by cases h⟩
theorem ty116 : TyOk Tryz.prog 116 ⟨5, 96, .st [(0, 9), (1, 4), (2, 23), (3, 105), (4, 26)], [.string ⟨#[]⟩, .bool false, .slice none 0 0, .slice none 0 0, .slice none 0 0], false⟩ := ⟨qj (by kernel_rfl), (qs (by kernel_rfl)), fun h => by cases h⟩
theorem ty117 : TyOk Tryz.prog 117 ⟨5, 96, .st [(0, 9), (1, 4), (2, 23), (3, 105), (4, 26)], [.string ⟨#[]⟩, .bool false, .slice none 0 0, .slice none 0 0, .slice none 0 0], false⟩ := ⟨qj (by kernel_rfl), (qs (by kernel_rfl)), fun h => by cases h⟩
theorem eqt118 (d : Nat) : EqT Tryz.prog (d + 3) 118 true [.int .i64 0, .int .i64 0, .int .i64 0, .string ⟨#[]⟩, .int .i64 0, .string ⟨#[]⟩, .bool false] := qS (d := d + 2) Tryz.underlying118 (by kernel_rfl) (.cons (i := ⟨1, 8, .int .i64, [.int .i64 0], false⟩) rfl (by decide) ty3 rfl (by simp [Ty.agg]) (eqt3 (d + 1)) (.cons (i := ⟨3, 32, .st [(0, 3), (1, 3), (2, 9)], [.int .i64 0, .int .i64 0, .string ⟨#[]⟩], true⟩) rfl (by decide) ty31 rfl (by simp [Ty.agg]) (eqt31 (d + 0)) (.cons (i := ⟨3, 32, .st [(0, 3), (1, 9), (2, 4)], [.int .i64 0, .string ⟨#[]⟩, .bool false], true⟩) rfl (by decide) ty102 rfl (by simp [Ty.agg]) (eqt102 (d + 0)) (.nil))))
theorem ty118 : TyOk Tryz.prog 118 ⟨7, 72, .st [(0, 3), (1, 31), (4, 102)], [.int .i64 0, .int .i64 0, .int .i64 0, .string ⟨#[]⟩, .int .i64 0, .string ⟨#[]⟩, .bool false], true⟩ := ⟨qj (by kernel_rfl), (qs (by kernel_rfl)), fun _ => ⟨by kernel_rfl, fun xs ys b w => eqt118 9997 xs ys b w⟩⟩
theorem eqt119 (d : Nat) : EqT Tryz.prog (d + 3) 119 true [.int .i64 0, .int .i64 0, .int .i64 0, .string ⟨#[]⟩, .int .i64 0, .string ⟨#[]⟩, .bool false] := qS (d := d + 2) Tryz.underlying119 (by kernel_rfl) (.cons (i := ⟨1, 8, .int .i64, [.int .i64 0], false⟩) rfl (by decide) ty3 rfl (by simp [Ty.agg]) (eqt3 (d + 1)) (.cons (i := ⟨3, 32, .st [(0, 3), (1, 3), (2, 9)], [.int .i64 0, .int .i64 0, .string ⟨#[]⟩], true⟩) rfl (by decide) ty31 rfl (by simp [Ty.agg]) (eqt31 (d + 0)) (.cons (i := ⟨3, 32, .st [(0, 3), (1, 9), (2, 4)], [.int .i64 0, .string ⟨#[]⟩, .bool false], true⟩) rfl (by decide) ty102 rfl (by simp [Ty.agg]) (eqt102 (d + 0)) (.nil))))
theorem ty119 : TyOk Tryz.prog 119 ⟨7, 72, .st [(0, 3), (1, 31), (4, 102)], [.int .i64 0, .int .i64 0, .int .i64 0, .string ⟨#[]⟩, .int .i64 0, .string ⟨#[]⟩, .bool false], true⟩ := ⟨qj (by kernel_rfl), (qs (by kernel_rfl)), fun _ => ⟨by kernel_rfl, fun xs ys b w => eqt119 9997 xs ys b w⟩⟩
theorem ty132 : TyOk Tryz.prog 132 ⟨1, 24, .sl 86, [.slice none 0 0], false⟩ := ⟨qj (by kernel_rfl), (by kernel_rfl : Tryz.prog.underlying 132 = some (.slice 86)), fun h => by cases h⟩
theorem ty137 : TyOk Tryz.prog 137 ⟨1, 24, .sl 145, [.slice none 0 0], false⟩ := ⟨qj (by kernel_rfl), (by kernel_rfl : Tryz.prog.underlying 137 = some (.slice 145)), fun h => by cases h⟩
theorem ty140 : TyOk Tryz.prog 140 ⟨1, 8, .ptr, [.pointer none], false⟩ := ⟨qj (by kernel_rfl), (ptr_of (by kernel_rfl)), fun h => by cases h⟩
theorem ty141 : TyOk Tryz.prog 141 ⟨5, 56, .st [(0, 137), (1, 3), (2, 3), (3, 37), (4, 3)], [.slice none 0 0, .int .i64 0, .int .i64 0, .int .i64 0, .int .i64 0], false⟩ := ⟨qj (by kernel_rfl), (qs (by kernel_rfl)), fun h => by cases h⟩
theorem ty142 : TyOk Tryz.prog 142 ⟨5, 56, .st [(0, 137), (1, 3), (2, 3), (3, 37), (4, 3)], [.slice none 0 0, .int .i64 0, .int .i64 0, .int .i64 0, .int .i64 0], false⟩ := ⟨qj (by kernel_rfl), (qs (by kernel_rfl)), fun h => by cases h⟩
theorem eqt144 (d : Nat) : EqT Tryz.prog (d + 2) 144 true [.int .i64 0, .int .i64 0, .int .i64 0, .string ⟨#[]⟩] := qS (d := d + 1) Tryz.underlying144 (by kernel_rfl) (.cons (i := ⟨1, 8, .int .i64, [.int .i64 0], false⟩) rfl (by decide) ty3 rfl (by simp [Ty.agg]) (eqt3 (d + 0)) (.cons (i := ⟨1, 8, .int .i64, [.int .i64 0], false⟩) rfl (by decide) ty3 rfl (by simp [Ty.agg]) (eqt3 (d + 0)) (.cons (i := ⟨1, 8, .int .i64, [.int .i64 0], false⟩) rfl (by decide) ty3 rfl (by simp [Ty.agg]) (eqt3 (d + 0)) (.cons (i := ⟨1, 16, .str, [.string ⟨#[]⟩], false⟩) rfl (by decide) ty9 rfl (by simp [Ty.agg]) (eqt9 (d + 0)) (.nil)))))
theorem ty144 : TyOk Tryz.prog 144 ⟨4, 40, .st [(0, 3), (1, 3), (2, 3), (3, 9)], [.int .i64 0, .int .i64 0, .int .i64 0, .string ⟨#[]⟩], true⟩ := ⟨qj (by kernel_rfl), (qs (by kernel_rfl)), fun _ => ⟨by kernel_rfl, fun xs ys b w => eqt144 9998 xs ys b w⟩⟩
theorem eqt145 (d : Nat) : EqT Tryz.prog (d + 2) 145 true [.int .i64 0, .int .i64 0, .int .i64 0, .string ⟨#[]⟩] := qS (d := d + 1) Tryz.underlying145 (by kernel_rfl) (.cons (i := ⟨1, 8, .int .i64, [.int .i64 0], false⟩) rfl (by decide) ty3 rfl (by simp [Ty.agg]) (eqt3 (d + 0)) (.cons (i := ⟨1, 8, .int .i64, [.int .i64 0], false⟩) rfl (by decide) ty3 rfl (by simp [Ty.agg]) (eqt3 (d + 0)) (.cons (i := ⟨1, 8, .int .i64, [.int .i64 0], false⟩) rfl (by decide) ty3 rfl (by simp [Ty.agg]) (eqt3 (d + 0)) (.cons (i := ⟨1, 16, .str, [.string ⟨#[]⟩], false⟩) rfl (by decide) ty9 rfl (by simp [Ty.agg]) (eqt9 (d + 0)) (.nil)))))
theorem ty145 : TyOk Tryz.prog 145 ⟨4, 40, .st [(0, 3), (1, 3), (2, 3), (3, 9)], [.int .i64 0, .int .i64 0, .int .i64 0, .string ⟨#[]⟩], true⟩ := ⟨qj (by kernel_rfl), (qs (by kernel_rfl)), fun _ => ⟨by kernel_rfl, fun xs ys b w => eqt145 9998 xs ys b w⟩⟩
theorem ty148 : TyOk Tryz.prog 148 ⟨1, 24, .sl 96, [.slice none 0 0], false⟩ := ⟨qj (by kernel_rfl), (by kernel_rfl : Tryz.prog.underlying 148 = some (.slice 96)), fun h => by cases h⟩
theorem ty149 : TyOk Tryz.prog 149 ⟨2, 32, .st [(0, 3), (1, 148)], [.int .i64 0, .slice none 0 0], false⟩ := ⟨qj (by kernel_rfl), (qs (by kernel_rfl)), fun h => by cases h⟩
theorem ty150 : TyOk Tryz.prog 150 ⟨2, 32, .st [(0, 3), (1, 148)], [.int .i64 0, .slice none 0 0], false⟩ := ⟨qj (by kernel_rfl), (qs (by kernel_rfl)), fun h => by cases h⟩
theorem ty154 : TyOk Tryz.prog 154 ⟨1, 8, .mp 3 155, [.map none], false⟩ := ⟨qj (by kernel_rfl), (by kernel_rfl : Tryz.prog.underlying 154 = some (.map 3 155)), fun h => by cases h⟩
theorem ty155 : TyOk Tryz.prog 155 ⟨0, 0, .st [], [], false⟩ := ⟨qj (by kernel_rfl), (qs (by kernel_rfl)), fun h => by cases h⟩
theorem ty160 : TyOk Tryz.prog 160 ⟨1, 24, .sl 161, [.slice none 0 0], false⟩ := ⟨qj (by kernel_rfl), (by kernel_rfl : Tryz.prog.underlying 160 = some (.slice 161)), fun h => by cases h⟩
theorem ty161 : TyOk Tryz.prog 161 ⟨1, 24, .sl 104, [.slice none 0 0], false⟩ := ⟨qj (by kernel_rfl), (by kernel_rfl : Tryz.prog.underlying 161 = some (.slice 104)), fun h => by cases h⟩
theorem ty168 : TyOk Tryz.prog 168 ⟨1, 24, .sl 42, [.slice none 0 0], false⟩ := ⟨qj (by kernel_rfl), (by kernel_rfl : Tryz.prog.underlying 168 = some (.slice 42)), fun h => by cases h⟩
theorem ty173 : TyOk Tryz.prog 173 ⟨1, 24, .sl 9, [.slice none 0 0], false⟩ := ⟨qj (by kernel_rfl), (by kernel_rfl : Tryz.prog.underlying 173 = some (.slice 9)), fun h => by cases h⟩
theorem ty180 : TyOk Tryz.prog 180 ⟨1, 8, .ptr, [.pointer none], false⟩ := ⟨qj (by kernel_rfl), (ptr_of (by kernel_rfl)), fun h => by cases h⟩
theorem ty181 : TyOk Tryz.prog 181 ⟨1, 8, .mp 9 3, [.map none], false⟩ := ⟨qj (by kernel_rfl), (by kernel_rfl : Tryz.prog.underlying 181 = some (.map 9 3)), fun h => by cases h⟩
theorem ty199 : TyOk Tryz.prog 199 ⟨5, 64, .st [(0, 32), (1, 31), (4, 37)], [.slice none 0 0, .int .i64 0, .int .i64 0, .string ⟨#[]⟩, .int .i64 0], false⟩ := ⟨qj (by kernel_rfl), (qs (by kernel_rfl)), fun h => by cases h⟩
theorem ty200 : TyOk Tryz.prog 200 ⟨5, 64, .st [(0, 32), (1, 31), (4, 37)], [.slice none 0 0, .int .i64 0, .int .i64 0, .string ⟨#[]⟩, .int .i64 0], false⟩ := ⟨qj (by kernel_rfl), (qs (by kernel_rfl)), fun h => by cases h⟩
theorem ty208 : TyOk Tryz.prog 208 ⟨1, 24, .sl 4, [.slice none 0 0], false⟩ := ⟨qj (by kernel_rfl), (by kernel_rfl : Tryz.prog.underlying 208 = some (.slice 4)), fun h => by cases h⟩
theorem ty217 : TyOk Tryz.prog 217 ⟨1, 8, .ptr, [.pointer none], false⟩ := ⟨qj (by kernel_rfl), (ptr_of (by kernel_rfl)), fun h => by cases h⟩
theorem ty218 : TyOk Tryz.prog 218 ⟨1, 24, .sl 5, [.slice none 0 0], false⟩ := ⟨qj (by kernel_rfl), (by kernel_rfl : Tryz.prog.underlying 218 = some (.slice 5)), fun h => by cases h⟩
theorem ty219 : TyOk Tryz.prog 219 ⟨2, 32, .st [(0, 217), (1, 218)], [.pointer none, .slice none 0 0], false⟩ := ⟨qj (by kernel_rfl), (qs (by kernel_rfl)), fun h => by cases h⟩
theorem ty220 : TyOk Tryz.prog 220 ⟨2, 32, .st [(0, 217), (1, 218)], [.pointer none, .slice none 0 0], false⟩ := ⟨qj (by kernel_rfl), (qs (by kernel_rfl)), fun h => by cases h⟩
theorem ty222 : TyOk Tryz.prog 222 ⟨1, 16, .ifc, [.nilIface], false⟩ := ⟨qj (by kernel_rfl), (ifc_of (by kernel_rfl)), fun h => by cases h⟩
theorem ty223 : TyOk Tryz.prog 223 ⟨1, 16, .ifc, [.nilIface], false⟩ := ⟨qj (by kernel_rfl), (ifc_of (by kernel_rfl)), fun h => by cases h⟩
theorem ty242 : TyOk Tryz.prog 242 ⟨1, 24, .sl 200, [.slice none 0 0], false⟩ := ⟨qj (by kernel_rfl), (by kernel_rfl : Tryz.prog.underlying 242 = some (.slice 200)), fun h => by cases h⟩
theorem ty253 : TyOk Tryz.prog 253 ⟨1, 8, .flt, [.float .f64 0], false⟩ := ⟨qj (by kernel_rfl), (by kernel_rfl : Tryz.prog.underlying 253 = some (.float .f64)), fun h => by cases h⟩
theorem ty263 : TyOk Tryz.prog 263 ⟨1, 8, .ptr, [.pointer none], false⟩ := ⟨qj (by kernel_rfl), (ptr_of (by kernel_rfl)), fun h => by cases h⟩
theorem ty279 : TyOk Tryz.prog 279 ⟨1, 8, .int .u64, [.int .u64 0], false⟩ := ⟨qj (by kernel_rfl), (by kernel_rfl : Tryz.prog.underlying 279 = some (.int .u64)), fun h => by cases h⟩
theorem ty293 : TyOk Tryz.prog 293 ⟨1, 8, .int .u64, [.int .u64 0], false⟩ := ⟨qj (by kernel_rfl), (by kernel_rfl : Tryz.prog.underlying 293 = some (.int .u64)), fun h => by cases h⟩
theorem ty298 : TyOk Tryz.prog 298 ⟨1, 8, .ptr, [.pointer none], false⟩ := ⟨qj (by kernel_rfl), (ptr_of (by kernel_rfl)), fun h => by cases h⟩
theorem ty306 : TyOk Tryz.prog 306 ⟨24, 24, .arr 24 5, [.int .u8 0, .int .u8 0, .int .u8 0, .int .u8 0, .int .u8 0, .int .u8 0, .int .u8 0, .int .u8 0, .int .u8 0, .int .u8 0, .int .u8 0, .int .u8 0, .int .u8 0, .int .u8 0, .int .u8 0, .int .u8 0, .int .u8 0, .int .u8 0, .int .u8 0, .int .u8 0, .int .u8 0, .int .u8 0, .int .u8 0, .int .u8 0], false⟩ := ⟨qj (by kernel_rfl), (by kernel_rfl : Tryz.prog.underlying 306 = some (.array 24 5)), fun h => by cases h⟩
theorem ty313 : TyOk Tryz.prog 313 ⟨3, 48, .st [(0, 9), (1, 9), (2, 223)], [.string ⟨#[]⟩, .string ⟨#[]⟩, .nilIface], false⟩ := ⟨qj (by kernel_rfl), (qs (by kernel_rfl)), fun h => by cases h⟩
theorem ty314 : TyOk Tryz.prog 314 ⟨3, 48, .st [(0, 9), (1, 9), (2, 223)], [.string ⟨#[]⟩, .string ⟨#[]⟩, .nilIface], false⟩ := ⟨qj (by kernel_rfl), (qs (by kernel_rfl)), fun h => by cases h⟩
theorem ty318 : TyOk Tryz.prog 318 ⟨20, 160, .arr 20 293, [.int .u64 0, .int .u64 0, .int .u64 0, .int .u64 0, .int .u64 0, .int .u64 0, .int .u64 0, .int .u64 0, .int .u64 0, .int .u64 0, .int .u64 0, .int .u64 0, .int .u64 0, .int .u64 0, .int .u64 0, .int .u64 0, .int .u64 0, .int .u64 0, .int .u64 0, .int .u64 0], false⟩ := ⟨qj (by kernel_rfl), (by kernel_rfl : Tryz.prog.underlying 318 = some (.array 20 293)), fun h => by cases h⟩
theorem ty319 : TyOk Tryz.prog 319 ⟨1, 4, .int .u32, [.int .u32 0], false⟩ := ⟨qj (by kernel_rfl), (by kernel_rfl : Tryz.prog.underlying 319 = some (.int .u32)), fun h => by cases h⟩
theorem ty320 : TyOk Tryz.prog 320 ⟨65, 65, .arr 65 5, [.int .u8 0, .int .u8 0, .int .u8 0, .int .u8 0, .int .u8 0, .int .u8 0, .int .u8 0, .int .u8 0, .int .u8 0, .int .u8 0, .int .u8 0, .int .u8 0, .int .u8 0, .int .u8 0, .int .u8 0, .int .u8 0, .int .u8 0, .int .u8 0, .int .u8 0, .int .u8 0, .int .u8 0, .int .u8 0, .int .u8 0, .int .u8 0, .int .u8 0, .int .u8 0, .int .u8 0, .int .u8 0, .int .u8 0, .int .u8 0, .int .u8 0, .int .u8 0, .int .u8 0, .int .u8 0, .int .u8 0, .int .u8 0, .int .u8 0, .int .u8 0, .int .u8 0, .int .u8 0, .int .u8 0, .int .u8 0, .int .u8 0, .int .u8 0, .int .u8 0, .int .u8 0, .int .u8 0, .int .u8 0, .int .u8 0, .int .u8 0, .int .u8 0, .int .u8 0, .int .u8 0, .int .u8 0, .int .u8 0, .int .u8 0, .int .u8 0, .int .u8 0, .int .u8 0, .int .u8 0, .int .u8 0, .int .u8 0, .int .u8 0, .int .u8 0, .int .u8 0], false⟩ := ⟨qj (by kernel_rfl), (by kernel_rfl : Tryz.prog.underlying 320 = some (.array 65 5)), fun h => by cases h⟩
theorem ty323 : TyOk Tryz.prog 323 ⟨1, 8, .ptr, [.pointer none], false⟩ := ⟨qj (by kernel_rfl), (ptr_of (by kernel_rfl)), fun h => by cases h⟩
theorem eqt324 (d : Nat) : EqT Tryz.prog (d + 2) 324 true [.string ⟨#[]⟩] := qS (d := d + 1) Tryz.underlying324 (by kernel_rfl) (.cons (i := ⟨1, 16, .str, [.string ⟨#[]⟩], false⟩) rfl (by decide) ty9 rfl (by simp [Ty.agg]) (eqt9 (d + 0)) (.nil))
theorem ty324 : TyOk Tryz.prog 324 ⟨1, 16, .st [(0, 9)], [.string ⟨#[]⟩], true⟩ := ⟨qj (by kernel_rfl), (qs (by kernel_rfl)), fun _ => ⟨by kernel_rfl, fun xs ys b w => eqt324 9998 xs ys b w⟩⟩
theorem eqt325 (d : Nat) : EqT Tryz.prog (d + 2) 325 true [.string ⟨#[]⟩] := qS (d := d + 1) Tryz.underlying325 (by kernel_rfl) (.cons (i := ⟨1, 16, .str, [.string ⟨#[]⟩], false⟩) rfl (by decide) ty9 rfl (by simp [Ty.agg]) (eqt9 (d + 0)) (.nil))
theorem ty325 : TyOk Tryz.prog 325 ⟨1, 16, .st [(0, 9)], [.string ⟨#[]⟩], true⟩ := ⟨qj (by kernel_rfl), (qs (by kernel_rfl)), fun _ => ⟨by kernel_rfl, fun xs ys b w => eqt325 9998 xs ys b w⟩⟩
theorem ty327 : TyOk Tryz.prog 327 ⟨32, 32, .arr 32 5, [.int .u8 0, .int .u8 0, .int .u8 0, .int .u8 0, .int .u8 0, .int .u8 0, .int .u8 0, .int .u8 0, .int .u8 0, .int .u8 0, .int .u8 0, .int .u8 0, .int .u8 0, .int .u8 0, .int .u8 0, .int .u8 0, .int .u8 0, .int .u8 0, .int .u8 0, .int .u8 0, .int .u8 0, .int .u8 0, .int .u8 0, .int .u8 0, .int .u8 0, .int .u8 0, .int .u8 0, .int .u8 0, .int .u8 0, .int .u8 0, .int .u8 0, .int .u8 0], false⟩ := ⟨qj (by kernel_rfl), (by kernel_rfl : Tryz.prog.underlying 327 = some (.array 32 5)), fun h => by cases h⟩
theorem ty328 : TyOk Tryz.prog 328 ⟨64, 64, .arr 64 5, [.int .u8 0, .int .u8 0, .int .u8 0, .int .u8 0, .int .u8 0, .int .u8 0, .int .u8 0, .int .u8 0, .int .u8 0, .int .u8 0, .int .u8 0, .int .u8 0, .int .u8 0, .int .u8 0, .int .u8 0, .int .u8 0, .int .u8 0, .int .u8 0, .int .u8 0, .int .u8 0, .int .u8 0, .int .u8 0, .int .u8 0, .int .u8 0, .int .u8 0, .int .u8 0, .int .u8 0, .int .u8 0, .int .u8 0, .int .u8 0, .int .u8 0, .int .u8 0, .int .u8 0, .int .u8 0, .int .u8 0, .int .u8 0, .int .u8 0, .int .u8 0, .int .u8 0, .int .u8 0, .int .u8 0, .int .u8 0, .int .u8 0, .int .u8 0, .int .u8 0, .int .u8 0, .int .u8 0, .int .u8 0, .int .u8 0, .int .u8 0, .int .u8 0, .int .u8 0, .int .u8 0, .int .u8 0, .int .u8 0, .int .u8 0, .int .u8 0, .int .u8 0, .int .u8 0, .int .u8 0, .int .u8 0, .int .u8 0, .int .u8 0, .int .u8 0], false⟩ := ⟨qj (by kernel_rfl), (by kernel_rfl : Tryz.prog.underlying 328 = some (.array 64 5)), fun h => by cases h⟩
def TTab : TT := [(2, ⟨1, 8, .int .i64, [.int .i64 0], false⟩),
  (3, ⟨1, 8, .int .i64, [.int .i64 0], false⟩),
  (4, ⟨1, 1, .bool, [.bool false], false⟩),
  (9, ⟨1, 16, .str, [.string ⟨#[]⟩], false⟩),
  (37, ⟨1, 8, .int .i64, [.int .i64 0], false⟩),
  (5, ⟨1, 1, .int .u8, [.int .u8 0], false⟩),
  (12, ⟨1, 8, .int .u64, [.int .u64 0], false⟩),
  (13, ⟨2, 24, .st [(0, 9), (1, 12)], [.string ⟨#[]⟩, .int .u64 0], false⟩),
  (20, ⟨1, 16, .ifc, [.nilIface], false⟩),
  (21, ⟨1, 4, .int .i32, [.int .i32 0], false⟩),
  (22, ⟨1, 24, .sl 160, [.slice none 0 0], false⟩),
  (23, ⟨1, 24, .sl 160, [.slice none 0 0], false⟩),
  (24, ⟨1, 24, .sl 117, [.slice none 0 0], false⟩),
  (25, ⟨1, 24, .sl 28, [.slice none 0 0], false⟩),
  (26, ⟨1, 24, .sl 79, [.slice none 0 0], false⟩),
  (27, ⟨7, 128, .st [(0, 9), (1, 4), (2, 3), (3, 23), (4, 24), (5, 25), (6, 26)], [.string ⟨#[]⟩, .bool false, .int .i64 0, .slice none 0 0, .slice none 0 0, .slice none 0 0, .slice none 0 0], false⟩),
  (28, ⟨7, 128, .st [(0, 9), (1, 4), (2, 3), (3, 23), (4, 24), (5, 25), (6, 26)], [.string ⟨#[]⟩, .bool false, .int .i64 0, .slice none 0 0, .slice none 0 0, .slice none 0 0, .slice none 0 0], false⟩),
  (29, ⟨1, 24, .sl 34, [.slice none 0 0], false⟩),
  (30, ⟨3, 32, .st [(0, 3), (1, 3), (2, 9)], [.int .i64 0, .int .i64 0, .string ⟨#[]⟩], true⟩),
  (31, ⟨3, 32, .st [(0, 3), (1, 3), (2, 9)], [.int .i64 0, .int .i64 0, .string ⟨#[]⟩], true⟩),
  (32, ⟨1, 24, .sl 31, [.slice none 0 0], false⟩),
  (33, ⟨3, 48, .st [(0, 3), (1, 9), (2, 32)], [.int .i64 0, .string ⟨#[]⟩, .slice none 0 0], false⟩),
  (34, ⟨3, 48, .st [(0, 3), (1, 9), (2, 32)], [.int .i64 0, .string ⟨#[]⟩, .slice none 0 0], false⟩),
  (41, ⟨1, 16, .cpx, [.complex .f64 0 0], false⟩),
  (42, ⟨1, 16, .cpx, [.complex .f64 0 0], false⟩),
  (43, ⟨2, 40, .st [(0, 42), (1, 26)], [.complex .f64 0 0, .slice none 0 0], false⟩),
  (44, ⟨2, 40, .st [(0, 42), (1, 26)], [.complex .f64 0 0, .slice none 0 0], false⟩),
  (51, ⟨1, 8, .ptr, [.pointer none], false⟩),
  (59, ⟨1, 24, .sl 107, [.slice none 0 0], false⟩),
  (63, ⟨1, 24, .sl 3, [.slice none 0 0], false⟩),
  (65, ⟨1, 8, .ptr, [.pointer none], false⟩),
  (66, ⟨1, 8, .st [(0, 3)], [.int .i64 0], true⟩),
  (67, ⟨1, 8, .st [(0, 3)], [.int .i64 0], true⟩),
  (72, ⟨1, 8, .ptr, [.pointer none], false⟩),
  (73, ⟨1, 8, .mp 9 155, [.map none], false⟩),
  (74, ⟨2, 16, .st [(0, 73), (1, 3)], [.map none, .int .i64 0], false⟩),
  (75, ⟨2, 16, .st [(0, 73), (1, 3)], [.map none, .int .i64 0], false⟩),
  (78, ⟨3, 32, .st [(0, 3), (1, 3), (2, 9)], [.int .i64 0, .int .i64 0, .string ⟨#[]⟩], true⟩),
  (79, ⟨3, 32, .st [(0, 3), (1, 3), (2, 9)], [.int .i64 0, .int .i64 0, .string ⟨#[]⟩], true⟩),
  (84, ⟨1, 8, .ptr, [.pointer none], false⟩),
  (85, ⟨2, 16, .st [(0, 84), (1, 3)], [.pointer none, .int .i64 0], false⟩),
  (86, ⟨2, 16, .st [(0, 84), (1, 3)], [.pointer none, .int .i64 0], false⟩),
  (87, ⟨1, 24, .sl 44, [.slice none 0 0], false⟩),
  (88, ⟨4, 64, .st [(0, 86), (2, 59), (3, 87)], [.pointer none, .int .i64 0, .slice none 0 0, .slice none 0 0], false⟩),
  (89, ⟨4, 64, .st [(0, 86), (2, 59), (3, 87)], [.pointer none, .int .i64 0, .slice none 0 0, .slice none 0 0], false⟩),
  (94, ⟨3, 24, .arr 3 3, [.int .i64 0, .int .i64 0, .int .i64 0], false⟩),
  (95, ⟨4, 32, .st [(0, 3), (1, 94)], [.int .i64 0, .int .i64 0, .int .i64 0, .int .i64 0], false⟩),
  (96, ⟨4, 32, .st [(0, 3), (1, 94)], [.int .i64 0, .int .i64 0, .int .i64 0, .int .i64 0], false⟩),
  (101, ⟨3, 32, .st [(0, 3), (1, 9), (2, 4)], [.int .i64 0, .string ⟨#[]⟩, .bool false], true⟩),
  (102, ⟨3, 32, .st [(0, 3), (1, 9), (2, 4)], [.int .i64 0, .string ⟨#[]⟩, .bool false], true⟩),
  (103, ⟨7, 72, .st [(0, 102), (3, 3), (4, 31)], [.int .i64 0, .string ⟨#[]⟩, .bool false, .int .i64 0, .int .i64 0, .int .i64 0, .string ⟨#[]⟩], true⟩),
  (104, ⟨7, 72, .st [(0, 102), (3, 3), (4, 31)], [.int .i64 0, .string ⟨#[]⟩, .bool false, .int .i64 0, .int .i64 0, .int .i64 0, .string ⟨#[]⟩], true⟩),
  (105, ⟨1, 24, .sl 119, [.slice none 0 0], false⟩),
  (106, ⟨8, 96, .st [(0, 104), (7, 105)], [.int .i64 0, .string ⟨#[]⟩, .bool false, .int .i64 0, .int .i64 0, .int .i64 0, .string ⟨#[]⟩, .slice none 0 0], false⟩),
  (107, ⟨8, 96, .st [(0, 104), (7, 105)], [.int .i64 0, .string ⟨#[]⟩, .bool false, .int .i64 0, .int .i64 0, .int .i64 0, .string ⟨#[]⟩, .slice none 0 0], false⟩),
  (116, ⟨5, 96, .st [(0, 9), (1, 4), (2, 23), (3, 105), (4, 26)], [.string ⟨#[]⟩, .bool false, .slice none 0 0, .slice none 0 0, .slice none 0 0], false⟩),
  (117, ⟨5, 96, .st [(0, 9), (1, 4), (2, 23), (3, 105), (4, 26)], [.string ⟨#[]⟩, .bool false, .slice none 0 0, .slice none 0 0, .slice none 0 0], false⟩),
  (118, ⟨7, 72, .st [(0, 3), (1, 31), (4, 102)], [.int .i64 0, .int .i64 0, .int .i64 0, .string ⟨#[]⟩, .int .i64 0, .string ⟨#[]⟩, .bool false], true⟩),
  (119, ⟨7, 72, .st [(0, 3), (1, 31), (4, 102)], [.int .i64 0, .int .i64 0, .int .i64 0, .string ⟨#[]⟩, .int .i64 0, .string ⟨#[]⟩, .bool false], true⟩),
  (132, ⟨1, 24, .sl 86, [.slice none 0 0], false⟩),
  (137, ⟨1, 24, .sl 145, [.slice none 0 0], false⟩),
  (140, ⟨1, 8, .ptr, [.pointer none], false⟩),
  (141, ⟨5, 56, .st [(0, 137), (1, 3), (2, 3), (3, 37), (4, 3)], [.slice none 0 0, .int .i64 0, .int .i64 0, .int .i64 0, .int .i64 0], false⟩),
  (142, ⟨5, 56, .st [(0, 137), (1, 3), (2, 3), (3, 37), (4, 3)], [.slice none 0 0, .int .i64 0, .int .i64 0, .int .i64 0, .int .i64 0], false⟩),
  (144, ⟨4, 40, .st [(0, 3), (1, 3), (2, 3), (3, 9)], [.int .i64 0, .int .i64 0, .int .i64 0, .string ⟨#[]⟩], true⟩),
  (145, ⟨4, 40, .st [(0, 3), (1, 3), (2, 3), (3, 9)], [.int .i64 0, .int .i64 0, .int .i64 0, .string ⟨#[]⟩], true⟩),
  (148, ⟨1, 24, .sl 96, [.slice none 0 0], false⟩),
  (149, ⟨2, 32, .st [(0, 3), (1, 148)], [.int .i64 0, .slice none 0 0], false⟩),
  (150, ⟨2, 32, .st [(0, 3), (1, 148)], [.int .i64 0, .slice none 0 0], false⟩),
  (154, ⟨1, 8, .mp 3 155, [.map none], false⟩),
  (155, ⟨0, 0, .st [], [], false⟩),
  (160, ⟨1, 24, .sl 161, [.slice none 0 0], false⟩),
  (161, ⟨1, 24, .sl 104, [.slice none 0 0], false⟩),
  (168, ⟨1, 24, .sl 42, [.slice none 0 0], false⟩),
  (173, ⟨1, 24, .sl 9, [.slice none 0 0], false⟩),
  (180, ⟨1, 8, .ptr, [.pointer none], false⟩),
  (181, ⟨1, 8, .mp 9 3, [.map none], false⟩),
  (199, ⟨5, 64, .st [(0, 32), (1, 31), (4, 37)], [.slice none 0 0, .int .i64 0, .int .i64 0, .string ⟨#[]⟩, .int .i64 0], false⟩),
  (200, ⟨5, 64, .st [(0, 32), (1, 31), (4, 37)], [.slice none 0 0, .int .i64 0, .int .i64 0, .string ⟨#[]⟩, .int .i64 0], false⟩),
  (208, ⟨1, 24, .sl 4, [.slice none 0 0], false⟩),
  (217, ⟨1, 8, .ptr, [.pointer none], false⟩),
  (218, ⟨1, 24, .sl 5, [.slice none 0 0], false⟩),
  (219, ⟨2, 32, .st [(0, 217), (1, 218)], [.pointer none, .slice none 0 0], false⟩),
  (220, ⟨2, 32, .st [(0, 217), (1, 218)], [.pointer none, .slice none 0 0], false⟩),
  (222, ⟨1, 16, .ifc, [.nilIface], false⟩),
  (223, ⟨1, 16, .ifc, [.nilIface], false⟩),
  (242, ⟨1, 24, .sl 200, [.slice none 0 0], false⟩),
  (253, ⟨1, 8, .flt, [.float .f64 0], false⟩),
  (263, ⟨1, 8, .ptr, [.pointer none], false⟩),
  (279, ⟨1, 8, .int .u64, [.int .u64 0], false⟩),
  (293, ⟨1, 8, .int .u64, [.int .u64 0], false⟩),
  (298, ⟨1, 8, .ptr, [.pointer none], false⟩),
  (306, ⟨24, 24, .arr 24 5, [.int .u8 0, .int .u8 0, .int .u8 0, .int .u8 0, .int .u8 0, .int .u8 0, .int .u8 0, .int .u8 0, .int .u8 0, .int .u8 0, .int .u8 0, .int .u8 0, .int .u8 0, .int .u8 0, .int .u8 0, .int .u8 0, .int .u8 0, .int .u8 0, .int .u8 0, .int .u8 0, .int .u8 0, .int .u8 0, .int .u8 0, .int .u8 0], false⟩),
  (313, ⟨3, 48, .st [(0, 9), (1, 9), (2, 223)], [.string ⟨#[]⟩, .string ⟨#[]⟩, .nilIface], false⟩),
  (314, ⟨3, 48, .st [(0, 9), (1, 9), (2, 223)], [.string ⟨#[]⟩, .string ⟨#[]⟩, .nilIface], false⟩),
  (318, ⟨20, 160, .arr 20 293, [.int .u64 0, .int .u64 0, .int .u64 0, .int .u64 0, .int .u64 0, .int .u64 0, .int .u64 0, .int .u64 0, .int .u64 0, .int .u64 0, .int .u64 0, .int .u64 0, .int .u64 0, .int .u64 0, .int .u64 0, .int .u64 0, .int .u64 0, .int .u64 0, .int .u64 0, .int .u64 0], false⟩),
  (319, ⟨1, 4, .int .u32, [.int .u32 0], false⟩),
  (320, ⟨65, 65, .arr 65 5, [.int .u8 0, .int .u8 0, .int .u8 0, .int .u8 0, .int .u8 0, .int .u8 0, .int .u8 0, .int .u8 0, .int .u8 0, .int .u8 0, .int .u8 0, .int .u8 0, .int .u8 0, .int .u8 0, .int .u8 0, .int .u8 0, .int .u8 0, .int .u8 0, .int .u8 0, .int .u8 0, .int .u8 0, .int .u8 0, .int .u8 0, .int .u8 0, .int .u8 0, .int .u8 0, .int .u8 0, .int .u8 0, .int .u8 0, .int .u8 0, .int .u8 0, .int .u8 0, .int .u8 0, .int .u8 0, .int .u8 0, .int .u8 0, .int .u8 0, .int .u8 0, .int .u8 0, .int .u8 0, .int .u8 0, .int .u8 0, .int .u8 0, .int .u8 0, .int .u8 0, .int .u8 0, .int .u8 0, .int .u8 0, .int .u8 0, .int .u8 0, .int .u8 0, .int .u8 0, .int .u8 0, .int .u8 0, .int .u8 0, .int .u8 0, .int .u8 0, .int .u8 0, .int .u8 0, .int .u8 0, .int .u8 0, .int .u8 0, .int .u8 0, .int .u8 0, .int .u8 0], false⟩),
  (323, ⟨1, 8, .ptr, [.pointer none], false⟩),
  (324, ⟨1, 16, .st [(0, 9)], [.string ⟨#[]⟩], true⟩),
  (325, ⟨1, 16, .st [(0, 9)], [.string ⟨#[]⟩], true⟩),
  (327, ⟨32, 32, .arr 32 5, [.int .u8 0, .int .u8 0, .int .u8 0, .int .u8 0, .int .u8 0, .int .u8 0, .int .u8 0, .int .u8 0, .int .u8 0, .int .u8 0, .int .u8 0, .int .u8 0, .int .u8 0, .int .u8 0, .int .u8 0, .int .u8 0, .int .u8 0, .int .u8 0, .int .u8 0, .int .u8 0, .int .u8 0, .int .u8 0, .int .u8 0, .int .u8 0, .int .u8 0, .int .u8 0, .int .u8 0, .int .u8 0, .int .u8 0, .int .u8 0, .int .u8 0, .int .u8 0], false⟩),
  (328, ⟨64, 64, .arr 64 5, [.int .u8 0, .int .u8 0, .int .u8 0, .int .u8 0, .int .u8 0, .int .u8 0, .int .u8 0, .int .u8 0, .int .u8 0, .int .u8 0, .int .u8 0, .int .u8 0, .int .u8 0, .int .u8 0, .int .u8 0, .int .u8 0, .int .u8 0, .int .u8 0, .int .u8 0, .int .u8 0, .int .u8 0, .int .u8 0, .int .u8 0, .int .u8 0, .int .u8 0, .int .u8 0, .int .u8 0, .int .u8 0, .int .u8 0, .int .u8 0, .int .u8 0, .int .u8 0, .int .u8 0, .int .u8 0, .int .u8 0, .int .u8 0, .int .u8 0, .int .u8 0, .int .u8 0, .int .u8 0, .int .u8 0, .int .u8 0, .int .u8 0, .int .u8 0, .int .u8 0, .int .u8 0, .int .u8 0, .int .u8 0, .int .u8 0, .int .u8 0, .int .u8 0, .int .u8 0, .int .u8 0, .int .u8 0, .int .u8 0, .int .u8 0, .int .u8 0, .int .u8 0, .int .u8 0, .int .u8 0, .int .u8 0, .int .u8 0, .int .u8 0, .int .u8 0], false⟩)]
theorem qa : qU Tryz.prog TTab :=
  qc ty2 <| qc ty3 <| qc ty4 <| qc ty9 <| qc ty37 <| qc ty5 <| qc ty12 <| qc ty13 <| qc ty20 <| qc ty21 <| qc ty22 <| qc ty23 <| qc ty24 <| qc ty25 <| qc ty26 <| qc ty27 <| qc ty28 <| qc ty29 <| qc ty30 <| qc ty31 <| qc ty32 <| qc ty33 <| qc ty34 <| qc ty41 <| qc ty42 <| qc ty43 <| qc ty44 <| qc ty51 <| qc ty59 <| qc ty63 <| qc ty65 <| qc ty66 <| qc ty67 <| qc ty72 <| qc ty73 <| qc ty74 <| qc ty75 <| qc ty78 <| qc ty79 <| qc ty84 <| qc ty85 <| qc ty86 <| qc ty87 <| qc ty88 <| qc ty89 <| qc ty94 <| qc ty95 <| qc ty96 <| qc ty101 <| qc ty102 <| qc ty103 <| qc ty104 <| qc ty105 <| qc ty106 <| qc ty107 <| qc ty116 <| qc ty117 <| qc ty118 <| qc ty119 <| qc ty132 <| qc ty137 <| qc ty140 <| qc ty141 <| qc ty142 <| qc ty144 <| qc ty145 <| qc ty148 <| qc ty149 <| qc ty150 <| qc ty154 <| qc ty155 <| qc ty160 <| qc ty161 <| qc ty168 <| qc ty173 <| qc ty180 <| qc ty181 <| qc ty199 <| qc ty200 <| qc ty208 <| qc ty217 <| qc ty218 <| qc ty219 <| qc ty220 <| qc ty222 <| qc ty223 <| qc ty242 <| qc ty253 <| qc ty263 <| qc ty279 <| qc ty293 <| qc ty298 <| qc ty306 <| qc ty313 <| qc ty314 <| qc ty318 <| qc ty319 <| qc ty320 <| qc ty323 <| qc ty324 <| qc ty325 <| qc ty327 <| qc ty328 <| typesOk_nil
end Go.Proofs.YtlmgamnpfdgdeaaGreatDoor
namespace Go.Proofs.YtlmgamnpfdgdeaaGreatDoor
set_option linter.unusedVariables false
set_option linter.unusedSimpArgs false
open Go.RowKit
theorem chunk {z : Nat} : ∀ (n : Nat) (us : List Value), us.length = n * z → (∀ u ∈ us, u.oneCell' = true) → ∃ css : List (Cel z), css.length = n ∧ css.flatMap Subtype.val = us
  | 0, us, h, _ => ⟨[], rfl, by rw [Nat.zero_mul] at h; rw [List.length_eq_zero_iff.1 h]; rfl⟩
  | n + 1, us, h, h1 => by
    rw [Nat.succ_mul] at h
    obtain ⟨css, c1, c2⟩ := chunk n (us.drop z) (by rw [List.length_drop, h, Nat.add_sub_cancel]) fun u hu => h1 u (List.mem_of_mem_drop hu)
    refine ⟨⟨us.take z, by rw [List.length_take, h]; exact Nat.min_eq_left (Nat.le_add_left _ _), fun u hu => h1 u (List.mem_of_mem_take hu)⟩ :: css, by simp [c1], ?_⟩
    rw [List.flatMap_cons, c2, List.take_append_drop]
theorem flat_one {z : Nat} (css : List (Cel z)) : ∀ u ∈ css.flatMap Subtype.val, u.oneCell' = true := fun u hu => by
  obtain ⟨c, _, hc⟩ := List.mem_flatMap.1 hu
  exact c.2.2 u hc
section
variable {w0 : Base} {Sx : Nat → Prop} {γ : Nat → Value} {st : St} {a : Act} {w : World}
end
section
variable {P : Program} {T : TT} (hT : qU P T) {st : St}
include hT
theorem act_storeW {o : Oper} {t : TypeId} {ad x : Operand} (ho : o.op = .store t ad x) (hdst : o.dst = none) {ti : TyI} (ht : lk t T = some ti) {j off : Nat} (had : evS st ad = some (.ptr j off)) {e : TypeId} {z : Nat} {pre post : List (List PV)} {mid : List SV} (hj : lk j st.own = some (.rws e z pre mid post)) {k : Nat} (hoff : off = pre.length * z + k)
    {s : SV} (hx : evS st x = some s) {xs : List SV} (hxs : cellsOf s = some xs) (h1 : xs.all oneS = true) (hlen : Nat.beq xs.length ti.size = true) (hfit : k + xs.length ≤ mid.length)
    {Q : St → Prop} (h : Q ⟨st.n, st.fr, setB j (.rws e z pre (mid.take k ++ xs ++ mid.drop (k + xs.length)) post) st.own⟩) : ActOk P [j] o st Q := by
  intro w0 Sx γ a w QQ hI
  have hlen' : xs.length = ti.size := Nat.eq_of_beq_eq_true hlen
  cases hI.heap.box j _ hj with
  | @rws _ _ _ _ _ css n0 hr hz hpp hn hmid hrel hm hk =>
  have hl := rwC_len hpp hn hmid
  have hpl : (rowF pre).length = pre.length * z := rowF_len fun x hx => (hpp x (List.mem_append_left _ hx)).1
  generalize hcs0 : rwC pre mid post = cs at *
  have hcl : cs.length = pre.length * z + (mid.length + (rowF post).length) := by rw [← hcs0, rwC, List.length_append, List.length_append, hpl]
  have hnew : cs.take off ++ xs ++ cs.drop (off + xs.length) = rwC pre (mid.take k ++ xs ++ mid.drop (k + xs.length)) post := by
    rw [← hcs0, hoff, ← hpl, rwC, rwC, Nat.add_assoc, List.take_length_add_append, List.drop_length_add_append, List.take_append_of_le_length (by omega), List.drop_append_of_le_length (by omega)]
    simp only [List.append_assoc]
  have hfit : off + xs.length ≤ cs.length := by omega
  have hfl : (css.flatMap Subtype.val).length = css.length * z := zm (fun x : Cel z => x.2.1) css
  obtain ⟨c1, c2⟩ := wD hI.heap.one (qq hI hx) hxs
  generalize hvs : (a.eval x).cells.toList = vs at c1 c2
  have hvl : vs.length = xs.length := c1
  have hv1 : ∀ v ∈ vs, v.oneCell' = true := fun v hv => by
    obtain ⟨i, hi, rfl⟩ := List.mem_iff_getElem.1 hv
    exact (c2 i (xs[i]'(by omega)) _ (List.getElem?_eq_getElem (by omega)) (List.getElem?_eq_getElem hi)).one hI.heap.one (List.all_eq_true.1 h1 _ (List.getElem_mem _))
  rcases hr.2 with ⟨hv, h0⟩ | ⟨b, cap, cur, hv, hbase, hh, hnc, hcm, hcs, htake⟩
  · -- nothing lies there
    exfalso
    have he := qq hI had
    generalize a.eval ad = u at he
    cases he with
    | ptr hg hb =>
      rw [qD hj] at hg
      cases hg
      rw [hv] at hb; cases hb
  have hblk : qJ (γ j) = some b := by rw [hv]; rfl
  have hadv : a.eval ad = .pointer (some ⟨b, off, none⟩) := by
    have he := qq hI had
    generalize a.eval ad = u at he ⊢
    cases he with
    | ptr hg hb => rw [qD hj] at hg; cases hg; rw [hblk] at hb; cases hb; rfl
  have hcur : css.length * z ≤ cur.toList.length := by rw [show cur.toList.length = cur.size from Array.length_toList, hcs]; exact Nat.mul_le_mul_right _ hnc
  have hst := run_storeCells_at P b off e vs 0 cur w hh (by rw [hvl, ← Array.length_toList]; omega) hv1
  simp only [Nat.add_zero] at hst
  obtain ⟨cur', hcur'⟩ : ∃ cur', cur' = (cur.toList.take off ++ vs ++ cur.toList.drop (off + vs.length)).toArray := ⟨_, rfl⟩
  rw [← hcur'] at hst
  obtain ⟨us', hus'⟩ : ∃ us', us' = (css.flatMap Subtype.val).take off ++ vs ++ (css.flatMap Subtype.val).drop (off + vs.length) := ⟨_, rfl⟩
  have hul : us'.length = css.length * z := by rw [hus']; simp only [List.length_append, List.length_take, List.length_drop, hfl]; omega
  have htk : cur'.toList.take (css.length * z) = us' := by
    rw [hcur', hus', ← htake]
    show List.take _ (cur.toList.take off ++ vs ++ cur.toList.drop (off + vs.length)) = _
    have l1 : (cur.toList.take off).length = off := by rw [List.length_take]; omega
    rw [List.append_assoc, List.append_assoc, List.take_append, l1, List.take_append, List.take_take, List.take_take, Nat.min_eq_right (by omega), Nat.min_eq_left (by omega), List.take_of_length_le (show vs.length ≤ css.length * z - off by omega), List.drop_take]
    congr 3
    omega
  obtain ⟨css', g1, g2⟩ := chunk css.length us' hul fun u hu => by
    rw [hus'] at hu
    simp only [List.mem_append] at hu
    rcases hu with (hu | hu) | hu
    · exact flat_one css u (List.mem_of_mem_take hu)
    · exact hv1 u hu
    · exact flat_one css u (List.mem_of_mem_drop hu)
  have run : (execOp a.eval o).run P w = .ok .skip (w.setRow b cur') := by
    have hsz := (hT t ti ht).size w
    have hcs : (a.eval x).cells.size = ti.size := by rw [← Array.length_toList, hvs, hvl, hlen']
    simp only [execOp, ho, Instr.storeAt, hadv, Instr.sureAddr, storeVar, Sem.run_bind, Sem.run_pure, Result.andThen_ok, hsz, hcs, hvs]
    simp [hst]
  have key := Sim.setBox (w' := w.setRow b cur') (bx' := .rws e z pre (mid.take k ++ xs ++ mid.drop (k + xs.length)) post) hI hj hblk ⟨rfl, rfl, rfl, by simp, fun k hk => absurd hk (Nat.not_lt_zero _)⟩ (fun k hk => setRow_other w b k _ hk) fun own' _ okc keepS => by
    refine .rws (css := css') (nm := n0) ⟨by rw [g2, hul, g1], Or.inr ⟨b, cap, cur', by rw [g1]; exact hv, Nat.zero_le _, setRow_heap w b _ _ e _ hh, by rw [g1]; exact hnc, hcm, ?_, by rw [g1, g2]; exact htk⟩⟩ hz hpp (by rw [g1]; exact hn) (by rw [← hmid]; simp only [List.length_append, List.length_take, List.length_drop]; omega) (fun k s u hs hu => ?_) (by rw [g1]; exact hm) hk
    · rw [hcur', List.size_toArray]; simp only [List.length_append, List.length_take, List.length_drop, Array.length_toList] at hcur ⊢; rw [← hcs]; omega
    · rw [← hnew] at hs
      rw [g2, hus'] at hu
      have : RelS (okO Sx γ st.own) (hp γ st.own) w s u := by
        have ln : ((css.flatMap Subtype.val).take off ++ vs).length = (cs.take off ++ xs).length := by simp only [List.length_append, List.length_take, hfl, hvl, hl]
        by_cases hk1 : k < (cs.take off ++ xs).length
        · rw [List.getElem?_append_left hk1] at hs
          rw [List.getElem?_append_left (by rw [ln]; exact hk1)] at hu
          have l2 : ((css.flatMap Subtype.val).take off).length = (cs.take off).length := by simp only [List.length_take, hfl, hl]
          by_cases hk2 : k < (cs.take off).length
          · rw [List.getElem?_append_left hk2] at hs
            rw [List.getElem?_append_left (by rw [l2]; exact hk2)] at hu
            rw [List.getElem?_take] at hs hu
            split at hs
            · rename_i hlt; rw [if_pos hlt] at hu; exact hrel k s u hs hu
            · cases hs
          · rw [List.getElem?_append_right (by omega)] at hs
            rw [List.getElem?_append_right (by omega), l2] at hu
            exact c2 _ s u hs hu
        · rw [List.getElem?_append_right (by omega)] at hs
          rw [List.getElem?_append_right (by omega), ln] at hu
          rw [List.getElem?_drop] at hs hu
          rw [hvl] at hu
          exact hrel _ s u hs hu
      exact keepS this
  unfold Oper.wp
  rw [run, Oper.upon_skip, hdst]
  exact ⟨γ, _, h, key.1, key.2.1, key.2.2⟩
end
def bCells (st : St) (size : Nat) : List Operand → Option (List SV)
  | [] => some []
  | x :: r => match evS st x with
    | some s => match cellsOf s with
      | some ps => bif Nat.beq ps.length size && ps.all oneS then (match bCells st size r with | some l => some (ps ++ l) | none => none) else none
      | none => none
    | none => none
theorem bCells_ok {w0 : Base} {Sx : Nat → Prop} {γ : Nat → Value} {st : St} {a : Act} {w : World} (hI : Sim w0 Sx γ st a w) {size : Nat} : ∀ {xs : List Operand} {cs : List SV}, bCells st size xs = some cs →
    cs.length = xs.length * size ∧ ∃ css : List (Cel size), css.length = xs.length ∧ (∀ (i : Nat) (h : i < css.length) (h2 : i < xs.length), css[i].val = (a.eval xs[i]).cells.toList) ∧
      ∀ (j : Nat) (s : SV) (u : Value), cs[j]? = some s → (css.flatMap Subtype.val)[j]? = some u → RelS (okO Sx γ st.own) (hp γ st.own) w s u
  | [], cs, h => by simp only [bCells, Option.some.injEq] at h; subst h; exact ⟨by simp, [], rfl, fun i h => absurd h (by simp), fun j s u hs => by simp at hs⟩
  | x :: r, cs, h => by
    unfold bCells at h
    split at h
    · rename_i s hs
      split at h
      · rename_i ps hps
        cases hb : (Nat.beq ps.length size && ps.all oneS) with
        | false => rw [hb] at h; cases h
        | true =>
          rw [hb] at h
          simp only [cond_true] at h
          simp only [Bool.and_eq_true] at hb
          have hsz : ps.length = size := Nat.eq_of_beq_eq_true hb.1
          split at h
          · rename_i l hl
            simp only [Option.some.injEq] at h
            subst h
            obtain ⟨i1, css, i3, i4, i5⟩ := bCells_ok hI hl
            obtain ⟨c1, c2⟩ := wD hI.heap.one (qq hI hs) hps
            refine ⟨by rw [List.length_append, i1, hsz, List.length_cons, Nat.succ_mul]; omega, ⟨(a.eval x).cells.toList, by rw [c1, hsz], fun u hu => ?_⟩ :: css, by simp [i3], fun i h h2 => ?_, fun j s' u hs' hu => ?_⟩
            · obtain ⟨i, hi, rfl⟩ := List.mem_iff_getElem.1 hu
              exact (c2 i (ps[i]'(by omega)) _ (List.getElem?_eq_getElem (by omega)) (List.getElem?_eq_getElem hi)).one hI.heap.one (List.all_eq_true.1 hb.2 _ (List.getElem_mem _))
            · cases i with
              | zero => rfl
              | succ i => exact i4 i (by simpa using h) (by simpa using h2)
            · rw [List.flatMap_cons] at hu
              by_cases hj : j < ps.length
              · rw [List.getElem?_append_left hj] at hs'
                rw [List.getElem?_append_left (by rw [c1]; exact hj)] at hu
                exact c2 j s' u hs' hu
              · rw [List.getElem?_append_right (by omega)] at hs'
                rw [List.getElem?_append_right (by rw [c1]; omega), c1] at hu
                exact i5 _ s' u hs' hu
          · cases h
      · cases h
    · cases h
section
variable {P : Program} {T : TT} (hT : qU P T) {st : St}
include hT
theorem act_buildW {o : Oper} {t e : TypeId} {len : Nat} {parts : Array (Nat × Operand)} (ho : o.op = .buildSlice t len parts) {d : Nat} (hdst : o.dst = some d) {ti ei : TyI} (ht : lk t T = some ti) (hte : ti.d = .sl e) (he : lk e T = some ei)
    (hsz : Nat.blt 0 ei.size = true) (hsmall : Nat.ble (len * ei.size) 16777216 = true) {xs : List Operand} (hxs : zy 0 parts.toList = some xs) (hlen : Nat.beq xs.length len = true) {cs : List SV} (hl : bCells st ei.size xs = some cs)
    (hd : lk d st.own = none) (hn : Nat.blt d st.n = true) {Q : St → Prop} (h : Q ⟨st.n, (d, .row d) :: st.fr, (d, .rws e ei.size [] cs []) :: st.own⟩) : ActOk P [] o st Q := by
  intro w0 Sx γ a w QQ hI
  have hpos : 0 < ei.size := by simpa [Nat.blt, Nat.lt_iff_add_one_le] using hsz
  have hlen' : xs.length = len := Nat.eq_of_beq_eq_true hlen
  have hsm : len * ei.size ≤ 16777216 := Nat.le_of_ble_eq_true hsmall
  obtain ⟨i1, css, i3, i4, i5⟩ := bCells_ok hI hl
  have hcl : css.length = len := by rw [i3, hlen']
  have run := build_run hT (a := a) (w := w) ht hte he hsz hsmall hxs hlen' hcl i4
  have hw : Below w.heap.size w (w.alloc (.cells (css.flatMap Subtype.val).toArray e)) := (Below.refl _ w).alloc (Nat.le_refl _) _
  have hlm : len ≤ 16777216 := Nat.le_trans (Nat.le_mul_of_pos_right len hpos) hsm
  have hrow : BoxOk w0 Sx (upd γ d (.slice (some ⟨w.heap.size, 0, none⟩) len len)) ((d, .rws e ei.size [] cs []) :: st.own) (w.alloc (.cells (css.flatMap Subtype.val).toArray e)) d (.rws e ei.size [] cs []) := by
    have hcc : rwC [] cs [] = cs := by simp [rwC, rowF]
    refine .rws (css := css) (nm := xs.length) ?_ hpos (fun x hx => by cases hx) (by rw [i3]; simp) i1 (fun j s u hs hu => ?_) (by rw [hcl]; unfold reachBytes; omega) (fun b hb hk => by simp only [upd, if_true, qJ, Option.some.injEq] at hb; have := hI.heap.sx.lt _ hk; omega)
    · rw [show upd γ d (.slice (some ⟨w.heap.size, 0, none⟩) len len) d = .slice (some ⟨w.heap.size, 0, none⟩) len len from if_pos rfl]
      refine ⟨by rw [zm (fun x : Cel ei.size => x.2.1)], Or.inr ⟨w.heap.size, len, _, by rw [hcl], Nat.zero_le _, heap_alloc_new w _, by omega, by unfold maxLen; omega, by rw [List.size_toArray, zm (fun x : Cel ei.size => x.2.1), hcl], ?_⟩⟩
      show (css.flatMap Subtype.val).take (css.length * ei.size) = _
      rw [← zm (fun x : Cel ei.size => x.2.1) css, List.take_length]
    · rw [hcc] at hs
      have hr := i5 j s u hs hu
      refine hr.keep2 hw.size (fun b hb hok => ⟨hw.block b hb, hok.1, fun k bx hk hkb => ?_⟩) fun i hi => ?_
      · have e : i ≠ d := fun e => by subst e; rw [hr.live (jq hd)] at hi; cases hi
        unfold hp; rw [qv, if_neg e]; simp only [upd, if_neg e]
      · rw [qv] at hk
        by_cases e : k = d
        · subst e; simp only [upd, if_true, qJ, Option.some.injEq] at hkb; omega
        · rw [if_neg e] at hk
          simp only [upd, if_neg e] at hkb
          exact hok.2 k bx hk hkb
  have key := hI.addBox hw hd hn (s := .row d) (v := .slice (some ⟨w.heap.size, 0, none⟩) len len) (fun b hb => by simp only [qJ, Option.some.injEq] at hb; omega) hrow (.row (by unfold hp; rw [qv, if_pos rfl]; simp [upd]))
  unfold Oper.wp
  have : (execOp a.eval o).run P w = .ok (.value (.slice (some ⟨w.heap.size, 0, none⟩) len len)) (w.alloc (.cells (css.flatMap Subtype.val).toArray e)) := by
    simp only [execOp, ho, Sem.run_bind, run, Result.andThen_ok]; rfl
  rw [this, Oper.upon_value, hdst]
  exact ⟨_, _, h, key.1, key.2.1, key.2.2⟩
end
section
variable {P : Program} {T : TT} (hT : qU P T) {st : St}
include hT
end
end Go.Proofs.YtlmgamnpfdgdeaaGreatDoor
namespace Go.Proofs.YtlmgamnpfdgdeaaGreatDoor
set_option linter.unusedVariables false
set_option linter.unusedSimpArgs false
open Go.RowKit
section
variable {ops : List Oper} {o : Oper} {rest : List Oper} {st : St} {Q : St → Prop}
theorem aM {t : TypeId} (ho : o.op = .makeMap t none := by rfl) {d : Nat} (hdst : o.dst = some d := by rfl) (hd : lk d st.own = none := by rfl) (hn : Nat.blt d st.n = true := by rfl) (h : Q ⟨st.n, (d, .row d) :: st.fr, (d, .mp []) :: st.own⟩) : ActOk Tryz.prog [] o st Q := act_makeMap ho hdst hd hn h
theorem aB {e : TypeId} {x : Operand} (ho : o.op = .box e x := by rfl) {d : Nat} (hdst : o.dst = some d := by rfl) {s : SV} (hx : evS st x = some s := by rfl) {cs : List SV} (hc : cellsOf s = some cs := by rfl) (h1 : cs.all oneS = true := by rfl) (hd : lk d st.own = none := by rfl) (hn : Nat.blt d st.n = true := by rfl)
    (h : Q ⟨st.n, (d, .ptr d 0) :: st.fr, (d, .cells cs) :: st.own⟩) : ActOk Tryz.prog [] o st Q := act_box ho hdst hx hc h1 hd hn h
theorem aA {e : TypeId} (ho : o.op = .alloc e := by rfl) {d : Nat} (hdst : o.dst = some d := by rfl) {i : TyI} (hi : lk e TTab = some i := by rfl) (hz : i.zero.all plain = true := by rfl) (hd : lk d st.own = none := by rfl) (hn : Nat.blt d st.n = true := by rfl)
    (h : Q ⟨st.n, (d, .ptr d 0) :: st.fr, (d, .cells (i.zero.map fun z => .p (.v z))) :: st.own⟩) : ActOk Tryz.prog [] o st Q := act_alloc qa ho hdst hi hz hd hn h
theorem aS {t : TypeId} {ad x : Operand} (ho : o.op = .store t ad x := by rfl) (hdst : o.dst = none := by rfl) {ti : TyI} (ht : lk t TTab = some ti := by rfl) {j off : Nat} (had : evS st ad = some (.ptr j off) := by rfl) {cs : List SV} (hj : lk j st.own = some (.cells cs) := by rfl)
    {s : SV} (hx : evS st x = some s := by rfl) {xs : List SV} (hxs : cellsOf s = some xs := by rfl) (h1 : xs.all oneS = true := by rfl) (hlen : Nat.beq xs.length ti.size = true := by rfl) (hfit : Nat.ble (off + xs.length) cs.length = true := by rfl)
    (h : Q ⟨st.n, st.fr, setB j (.cells (cs.take off ++ xs ++ cs.drop (off + xs.length))) st.own⟩) : ActOk Tryz.prog [j] o st Q := act_store qa ho hdst ht had hj hx hxs h1 hlen hfit h
theorem aL {t e : TypeId} {len : Nat} {parts : Array (Nat × Operand)} (ho : o.op = .buildSlice t len parts := by rfl) {d : Nat} (hdst : o.dst = some d := by rfl) {ti ei : TyI} (ht : lk t TTab = some ti := by rfl) (hte : ti.d = .sl e := by rfl) (he : lk e TTab = some ei := by rfl)
    (hsz : Nat.blt 0 ei.size = true := by rfl) (hsmall : Nat.ble (len * ei.size) 16777216 = true := by rfl) {xs : List Operand} (hxs : zy 0 parts.toList = some xs := by rfl) (hlen : Nat.beq xs.length len = true := by rfl) {l : List (List PV)} (hl : bElems st ei.size xs = some l := by rfl)
    (hd : lk d st.own = none := by rfl) (hn : Nat.blt d st.n = true := by rfl) (h : Q ⟨st.n, (d, .row d) :: st.fr, (d, .row e ei.size l) :: st.own⟩) : ActOk Tryz.prog [] o st Q := act_buildSlice qa ho hdst ht hte he hsz hsmall hxs hlen hl hd hn h
theorem sT {Ws : List Nat} (hw : zF ops st o = some true := by rfl) (h : ActOk Tryz.prog Ws o st (SWT Tryz.prog ops rest Q)) : SWT Tryz.prog ops (o :: rest) Q st := qI hw h
theorem zR {c : Prop} {s : SV} (h : SWT Tryz.prog ops rest Q (st.put o.dst s)) (hw : zF ops st o = some true := by rfl) (hr : opR TTab [] st o.op = some (c, s) := by rfl) (hc : c := by exact True.intro) (hd : zn st o.dst = true := by rfl) : SWT Tryz.prog ops (o :: rest) Q st := qh qa hw hr hc hd h
theorem zK (h : SWT Tryz.prog ops rest Q (st.put o.dst (.tup []))) (hw : zF ops st o = some false := by rfl) (hd : zn st o.dst = true := by rfl) : SWT Tryz.prog ops (o :: rest) Q st := swt_skip hw hd h
theorem zM {t : TypeId} {d : Nat} (h : SWT Tryz.prog ops rest Q ⟨st.n, (d, .row d) :: st.fr, (d, .mp []) :: st.own⟩) (hw : zF ops st o = some true := by rfl) (ho : o.op = .makeMap t none := by rfl) (hdst : o.dst = some d := by rfl) (hd : lk d st.own = none := by rfl) (hn : Nat.blt d st.n = true := by rfl) : SWT Tryz.prog ops (o :: rest) Q st := sT hw (aM ho hdst hd hn h)
theorem zB {e : TypeId} {x : Operand} {d : Nat} {s : SV} {cs : List SV} (h : SWT Tryz.prog ops rest Q ⟨st.n, (d, .ptr d 0) :: st.fr, (d, .cells cs) :: st.own⟩) (hw : zF ops st o = some true := by rfl) (ho : o.op = .box e x := by rfl) (hdst : o.dst = some d := by rfl) (hx : evS st x = some s := by rfl) (hc : cellsOf s = some cs := by rfl) (h1 : cs.all oneS = true := by rfl) (hd : lk d st.own = none := by rfl) (hn : Nat.blt d st.n = true := by rfl) : SWT Tryz.prog ops (o :: rest) Q st := sT hw (aB ho hdst hx hc h1 hd hn h)
theorem zA {e : TypeId} {d : Nat} {i : TyI} (h : SWT Tryz.prog ops rest Q ⟨st.n, (d, .ptr d 0) :: st.fr, (d, .cells (i.zero.map fun z => .p (.v z))) :: st.own⟩) (hw : zF ops st o = some true := by rfl) (ho : o.op = .alloc e := by rfl) (hdst : o.dst = some d := by rfl) (hi : lk e TTab = some i := by rfl) (hz : i.zero.all plain = true := by rfl) (hd : lk d st.own = none := by rfl) (hn : Nat.blt d st.n = true := by rfl) : SWT Tryz.prog ops (o :: rest) Q st := sT hw (aA ho hdst hi hz hd hn h)
theorem zS {t : TypeId} {ad x : Operand} {ti : TyI} {j off : Nat} {cs : List SV} {s : SV} {xs : List SV} (h : SWT Tryz.prog ops rest Q ⟨st.n, st.fr, setB j (.cells (cs.take off ++ xs ++ cs.drop (off + xs.length))) st.own⟩) (hw : zF ops st o = some true := by rfl) (ho : o.op = .store t ad x := by rfl) (hdst : o.dst = none := by rfl) (ht : lk t TTab = some ti := by rfl) (had : evS st ad = some (.ptr j off) := by rfl) (hj : lk j st.own = some (.cells cs) := by rfl) (hx : evS st x = some s := by rfl) (hxs : cellsOf s = some xs := by rfl) (h1 : xs.all oneS = true := by rfl) (hlen : Nat.beq xs.length ti.size = true := by rfl) (hfit : Nat.ble (off + xs.length) cs.length = true := by rfl) : SWT Tryz.prog ops (o :: rest) Q st := sT hw (aS ho hdst ht had hj hx hxs h1 hlen hfit h)
theorem zL {t e : TypeId} {len : Nat} {parts : Array (Nat × Operand)} {d : Nat} {ti ei : TyI} {xs : List Operand} {l : List (List PV)} (h : SWT Tryz.prog ops rest Q ⟨st.n, (d, .row d) :: st.fr, (d, .row e ei.size l) :: st.own⟩) (hw : zF ops st o = some true := by rfl) (ho : o.op = .buildSlice t len parts := by rfl) (hdst : o.dst = some d := by rfl) (ht : lk t TTab = some ti := by rfl) (hte : ti.d = .sl e := by rfl) (he : lk e TTab = some ei := by rfl) (hsz : Nat.blt 0 ei.size = true := by rfl) (hsmall : Nat.ble (len * ei.size) 16777216 = true := by rfl) (hxs : zy 0 parts.toList = some xs := by rfl) (hlen : Nat.beq xs.length len = true := by rfl) (hl : bElems st ei.size xs = some l := by rfl) (hd : lk d st.own = none := by rfl) (hn : Nat.blt d st.n = true := by rfl) : SWT Tryz.prog ops (o :: rest) Q st := sT hw (aL ho hdst ht hte he hsz hsmall hxs hlen hl hd hn h)
theorem zV {t : TypeId} {ad x : Operand} {ti : TyI} {j off : Nat} {e : TypeId} {z : Nat} {pre post : List (List PV)} {mid : List SV} {s : SV} {xs : List SV} (h : SWT Tryz.prog ops rest Q ⟨st.n, st.fr, setB j (.rws e z pre (mid.take (off - pre.length * z) ++ xs ++ mid.drop (off - pre.length * z + xs.length)) post) st.own⟩) (hw : zF ops st o = some true := by rfl) (ho : o.op = .store t ad x := by rfl) (hdst : o.dst = none := by rfl) (ht : lk t TTab = some ti := by rfl) (had : evS st ad = some (.ptr j off) := by rfl) (hj : lk j st.own = some (.rws e z pre mid post) := by rfl) (hx : evS st x = some s := by rfl) (hxs : cellsOf s = some xs := by rfl) (h1 : xs.all oneS = true := by rfl) (hlen : Nat.beq xs.length ti.size = true := by rfl) (ho2 : Nat.ble (pre.length * z) off = true := by rfl) (hfit : Nat.ble (off - pre.length * z + xs.length) mid.length = true := by rfl) : SWT Tryz.prog ops (o :: rest) Q st := sT hw (act_storeW qa ho hdst ht had hj (by have := Nat.le_of_ble_eq_true ho2; omega) hx hxs h1 hlen (Nat.le_of_ble_eq_true hfit) h)
theorem zN {t e : TypeId} {len : Nat} {parts : Array (Nat × Operand)} {d : Nat} {ti ei : TyI} {xs : List Operand} {cs : List SV} (h : SWT Tryz.prog ops rest Q ⟨st.n, (d, .row d) :: st.fr, (d, .rws e ei.size [] cs []) :: st.own⟩) (hw : zF ops st o = some true := by rfl) (ho : o.op = .buildSlice t len parts := by rfl) (hdst : o.dst = some d := by rfl) (ht : lk t TTab = some ti := by rfl) (hte : ti.d = .sl e := by rfl) (he : lk e TTab = some ei := by rfl) (hsz : Nat.blt 0 ei.size = true := by rfl) (hsmall : Nat.ble (len * ei.size) 16777216 = true := by rfl) (hxs : zy 0 parts.toList = some xs := by rfl) (hlen : Nat.beq xs.length len = true := by rfl) (hl : bCells st ei.size xs = some cs := by rfl) (hd : lk d st.own = none := by rfl) (hn : Nat.blt d st.n = true := by rfl) : SWT Tryz.prog ops (o :: rest) Q st := sT hw (act_buildW qa ho hdst ht hte he hsz hsmall hxs hlen hl hd hn h)
end
section
variable {ops : List Oper} {K : List Nat} {o : Oper} {r : List (Nat × Bool)} {st : St} {Q : St → Prop} {i : Nat}
theorem mT {Ws : List Nat} (hi : nthO ops i = some o := by rfl) (hw : zF ops st o = some true := by rfl) (h : ActOk Tryz.prog Ws o st (SWM Tryz.prog ops K r Q)) (hK : Ws.all (fun j => K.contains j) = true := by rfl) : SWM Tryz.prog ops K ((i, false) :: r) Q st := swm_act hi hw hK h
theorem yR {b : Bool} {c : Prop} {s : SV} (h : SWM Tryz.prog ops K r Q (st.put o.dst s)) (hi : nthO ops i = some o := by rfl) (hw : zF ops st o = some true := by rfl) (hr : opR TTab (bif b then K else []) st o.op = some (c, s) := by rfl) (hc : c := by exact True.intro) (hd : zn st o.dst = true := by rfl) : SWM Tryz.prog ops K ((i, b) :: r) Q st := qG qa hi hw hr hc hd h
theorem yK {b : Bool} (h : SWM Tryz.prog ops K r Q (st.put o.dst (.tup []))) (hi : nthO ops i = some o := by rfl) (hw : zF ops st o = some false := by rfl) (hd : zn st o.dst = true := by rfl) : SWM Tryz.prog ops K ((i, b) :: r) Q st := swm_skip hi hw hd h
theorem yM {t : TypeId} {d : Nat} (h : SWM Tryz.prog ops K r Q ⟨st.n, (d, .row d) :: st.fr, (d, .mp []) :: st.own⟩) (hi : nthO ops i = some o := by rfl) (hw : zF ops st o = some true := by rfl) (ho : o.op = .makeMap t none := by rfl) (hdst : o.dst = some d := by rfl) (hd : lk d st.own = none := by rfl) (hn : Nat.blt d st.n = true := by rfl) (hK : ([] : List Nat).all (fun j => K.contains j) = true := by rfl) : SWM Tryz.prog ops K ((i, false) :: r) Q st := mT hi hw (aM ho hdst hd hn h) hK
theorem yB {e : TypeId} {x : Operand} {d : Nat} {s : SV} {cs : List SV} (h : SWM Tryz.prog ops K r Q ⟨st.n, (d, .ptr d 0) :: st.fr, (d, .cells cs) :: st.own⟩) (hi : nthO ops i = some o := by rfl) (hw : zF ops st o = some true := by rfl) (ho : o.op = .box e x := by rfl) (hdst : o.dst = some d := by rfl) (hx : evS st x = some s := by rfl) (hc : cellsOf s = some cs := by rfl) (h1 : cs.all oneS = true := by rfl) (hd : lk d st.own = none := by rfl) (hn : Nat.blt d st.n = true := by rfl) (hK : ([] : List Nat).all (fun j => K.contains j) = true := by rfl) : SWM Tryz.prog ops K ((i, false) :: r) Q st := mT hi hw (aB ho hdst hx hc h1 hd hn h) hK
theorem yA {e : TypeId} {d : Nat} {ii : TyI} (h : SWM Tryz.prog ops K r Q ⟨st.n, (d, .ptr d 0) :: st.fr, (d, .cells (ii.zero.map fun z => .p (.v z))) :: st.own⟩) (hi : nthO ops i = some o := by rfl) (hw : zF ops st o = some true := by rfl) (ho : o.op = .alloc e := by rfl) (hdst : o.dst = some d := by rfl) (hi2 : lk e TTab = some ii := by rfl) (hz : ii.zero.all plain = true := by rfl) (hd : lk d st.own = none := by rfl) (hn : Nat.blt d st.n = true := by rfl) (hK : ([] : List Nat).all (fun j => K.contains j) = true := by rfl) : SWM Tryz.prog ops K ((i, false) :: r) Q st := mT hi hw (aA ho hdst hi2 hz hd hn h) hK
theorem yS {t : TypeId} {ad x : Operand} {ti : TyI} {j off : Nat} {cs : List SV} {s : SV} {xs : List SV} (h : SWM Tryz.prog ops K r Q ⟨st.n, st.fr, setB j (.cells (cs.take off ++ xs ++ cs.drop (off + xs.length))) st.own⟩) (hi : nthO ops i = some o := by rfl) (hw : zF ops st o = some true := by rfl) (ho : o.op = .store t ad x := by rfl) (hdst : o.dst = none := by rfl) (ht : lk t TTab = some ti := by rfl) (had : evS st ad = some (.ptr j off) := by rfl) (hj : lk j st.own = some (.cells cs) := by rfl) (hx : evS st x = some s := by rfl) (hxs : cellsOf s = some xs := by rfl) (h1 : xs.all oneS = true := by rfl) (hlen : Nat.beq xs.length ti.size = true := by rfl) (hfit : Nat.ble (off + xs.length) cs.length = true := by rfl) (hK : ([j] : List Nat).all (fun j => K.contains j) = true := by rfl) : SWM Tryz.prog ops K ((i, false) :: r) Q st := mT hi hw (aS ho hdst ht had hj hx hxs h1 hlen hfit h) hK
theorem yL {t e : TypeId} {len : Nat} {parts : Array (Nat × Operand)} {d : Nat} {ti ei : TyI} {xs : List Operand} {l : List (List PV)} (h : SWM Tryz.prog ops K r Q ⟨st.n, (d, .row d) :: st.fr, (d, .row e ei.size l) :: st.own⟩) (hi : nthO ops i = some o := by rfl) (hw : zF ops st o = some true := by rfl) (ho : o.op = .buildSlice t len parts := by rfl) (hdst : o.dst = some d := by rfl) (ht : lk t TTab = some ti := by rfl) (hte : ti.d = .sl e := by rfl) (he : lk e TTab = some ei := by rfl) (hsz : Nat.blt 0 ei.size = true := by rfl) (hsmall : Nat.ble (len * ei.size) 16777216 = true := by rfl) (hxs : zy 0 parts.toList = some xs := by rfl) (hlen : Nat.beq xs.length len = true := by rfl) (hl : bElems st ei.size xs = some l := by rfl) (hd : lk d st.own = none := by rfl) (hn : Nat.blt d st.n = true := by rfl) (hK : ([] : List Nat).all (fun j => K.contains j) = true := by rfl) : SWM Tryz.prog ops K ((i, false) :: r) Q st := mT hi hw (aL ho hdst ht hte he hsz hsmall hxs hlen hl hd hn h) hK
end
def Tag {α : Type} (_ : α) : Prop := True
section
variable {P : Program} {st : St}
theorem acW {o : Oper} {cl : Call} {fo : Operand} {f : FuncId} {caps : List PV} {ρ : List (Nat × Nat)} (_ : Tag ρ) {args : List SV} {own : List (Nat × Box)} {r : SV} {own' : List (Nat × Box)} (ho : o.op = .call cl) (hcl : cl.callee = .value fo) (hfo : evS st fo = some (.p (.fn f caps)))
    (hown : ownR ρ st.own ρ = some own) (hρ : ((dist (ρ.map (·.1)) && dist (ρ.map (·.2))) && ρ.all (fun p => Nat.ble 1000000 p.2)) = true) (hargs : argWs st ρ cl.args.toList = some args)
    (H : zE P f (args ++ caps.map .p) own r own') (hd : zn st o.dst = true) {st' : St} (hb : st.back ρ o.dst r own' = some st') (hk : backOk st ρ o.dst own' = true) {Q : St → Prop} (h : Q st') : ActOk P (ρ.map (·.1)) o st Q := act_call_W ρ ho hcl hfo hown hρ hargs H hd hb hk h
end
def oN : List Nat → List (Nat × Bool)
  | [] => []
  | n :: r => (n / 2, Nat.beq (n % 2) 1) :: oN r
section
variable {id : Nat} {l : List Oper} {QS : SEx → St → Prop} {st : St} {c : Code}
theorem swrd {K o : List Nat} (_ : Tag (K, o)) (hm : (Tryz.prog).follows .mixedOrders = true) (hs : Region.noSelect l.toArray = true) (hB : (jn .any l.toArray (oN o) (Array.replicate l.toArray.size false) && (oN o).length == l.toArray.size) = true) (h : SWM Tryz.prog l K (oN o) (QS .normal) st) : SW Tryz.prog (.region id l.toArray true) QS st := sw_region_draw K (oN o) hm hs hB h
theorem uZ (a : List Nat) (b : List (Nat × Nat)) {st' : St} (h : SW Tryz.prog c QS st') (h1 : st.only a b = some st' := by rfl) (h2 : renOk b = true := by rfl) : SW Tryz.prog c QS st := SW.wk (qu a b h1 h2) h
end
section
variable {α p q r a b : Prop}
theorem uA (hq : q) (h : q → p := by intro hq; (repeat refine qF ?_); refine sw_region ?_; (repeat (first | refine zR ?_ | refine zK ?_ | refine zM ?_ | refine zB ?_ | refine zA ?_ | refine zS ?_ | refine zL ?_ | refine zV ?_ | refine zN ?_)); refine qd ?_; exact hq) : p := h hq
theorem uR (hq : q) (h : q → p := by intro hq; (repeat refine qF ?_); refine sw_region ?_; (repeat (first | refine zR ?_ | refine zK ?_ | refine zM ?_ | refine zB ?_ | refine zA ?_ | refine zS ?_ | refine zL ?_ | refine zV ?_ | refine zN ?_)); exact hq) : p := h hq
theorem uS (hq : q) (h : q → p := by intro hq; (repeat (first | refine zR ?_ | refine zK ?_ | refine zM ?_ | refine zB ?_ | refine zA ?_ | refine zS ?_ | refine zL ?_ | refine zV ?_ | refine zN ?_)); exact hq) : p := h hq
theorem uK (H : α) (hq : q) (h : α → q → p := by intro H hq; refine qI rfl (qA rfl rfl rfl rfl H rfl rfl ?_); (repeat (first | refine zR ?_ | refine zK ?_ | refine zM ?_ | refine zB ?_ | refine zA ?_ | refine zS ?_ | refine zL ?_ | refine zV ?_ | refine zN ?_)); exact hq) : p := h H hq
theorem uO (H : α) (hq : q) (h : α → q → p := by intro H hq; refine qI rfl (qR rfl rfl rfl rfl H rfl rfl rfl ?_); (repeat (first | refine zR ?_ | refine zK ?_ | refine zM ?_ | refine zB ?_ | refine zA ?_ | refine zS ?_ | refine zL ?_ | refine zV ?_ | refine zN ?_)); exact hq) : p := h H hq
theorem uW (ρ : List (Nat × Nat)) (H : α) (hq : q) (h : Tag ρ → α → q → p := by intro t H hq; refine qI rfl (acW t rfl rfl rfl rfl rfl rfl H rfl rfl rfl ?_); (repeat (first | refine zR ?_ | refine zK ?_ | refine zM ?_ | refine zB ?_ | refine zA ?_ | refine zS ?_ | refine zL ?_ | refine zV ?_ | refine zN ?_)); exact hq) : p := h trivial H hq
theorem uD (K o : List Nat) (hq : q) (h : Tag (K, o) → q → p := by intro t hq; (repeat refine qF ?_); refine swrd t (by kernel_rfl) (by kernel_rfl) (by kernel_rfl) ?_; (repeat (first | refine yR ?_ | refine yK ?_ | refine yM ?_ | refine yB ?_ | refine yA ?_ | refine yS ?_ | refine yL ?_)); exact hq) : p := h trivial hq
theorem uT (hq : q) (h : q → p := by intro hq; (repeat (first | refine yR ?_ | refine yK ?_ | refine yM ?_ | refine yB ?_ | refine yA ?_ | refine yS ?_ | refine yL ?_)); exact hq) : p := h hq
theorem uk (H : α) (hq : q) (h : α → q → p := by intro H hq; refine swm_act rfl rfl rfl (qA rfl rfl rfl rfl H rfl rfl ?_); (repeat (first | refine yR ?_ | refine yK ?_ | refine yM ?_ | refine yB ?_ | refine yA ?_ | refine yS ?_ | refine yL ?_)); exact hq) : p := h H hq
theorem uo (H : α) (hq : q) (h : α → q → p := by intro H hq; refine swm_act rfl rfl rfl (qR rfl rfl rfl rfl H rfl rfl rfl ?_); (repeat (first | refine yR ?_ | refine yK ?_ | refine yM ?_ | refine yB ?_ | refine yA ?_ | refine yS ?_ | refine yL ?_)); exact hq) : p := h H hq
theorem uw (ρ : List (Nat × Nat)) (H : α) (hq : q) (h : Tag ρ → α → q → p := by intro t H hq; refine swm_act rfl rfl rfl (acW t rfl rfl rfl rfl rfl rfl H rfl rfl rfl ?_); (repeat (first | refine yR ?_ | refine yK ?_ | refine yM ?_ | refine yB ?_ | refine yA ?_ | refine yS ?_ | refine yL ?_)); exact hq) : p := h trivial H hq
theorem uC (hq : a → q) (hr : b → r) (h : (a → q) → (b → r) → p := by intro hq hr; (repeat refine qF ?_); refine sw_cond rfl ?_ ?_; exact hq; exact hr) : p := h hq hr
theorem uB (hq : q) (h : q → p := by intro hq; (repeat refine qF ?_); refine sw_block ?_; exact hq) : p := h hq
theorem uQ (hq : q) (h : q → p := by intro hq; (repeat refine qF ?_); refine sw_ret ?_; exact hq) : p := h hq
end
theorem uF (ρ : List (Nat × Nat)) {ts : List Tmp} {r : SV} {own' : List (Nat × Box)} {st : St} {s : SV} (hs : resS st ts = some s := by rfl) (hm : s.mapR ρ = some r := by rfl) (ho : ownR ρ st.own ρ = some own' := by rfl) (hρ : renOk ρ = true := by rfl) : Fin ts r own' .ret st := ⟨Or.inr rfl, st, s, ρ, Wk.refl _, hs, hm, ho, hρ⟩
end Go.Proofs.YtlmgamnpfdgdeaaGreatDoor
namespace Go.Proofs.YtlmgamnpfdgdeaaGreatDoor
set_option linter.unusedVariables false
set_option linter.unusedSimpArgs false
open Go.RowKit
def Val.pv (x : Val) : List PV := [.v (.int .i64 x.kind), .v (.int .i64 x.n), .v (.string x.s)]
def Atr.pv (x : Atr) : List PV := [.v (.int .i64 x.cat), .v (.string x.name), .v (.bool x.must)]
def Mat.pv (x : Mat) : List PV := [.v (.int .i64 x.attr.cat), .v (.string x.attr.name), .v (.bool x.attr.must), .v (.int .i64 x.op), .v (.int .i64 x.val.kind), .v (.int .i64 x.val.n), .v (.string x.val.s)]
def valsP (l : List Val) : PV := .sl 3 (l.map Val.pv)
def Giv.pv (x : Giv) : List PV := [.v (.int .i64 x.cat), .v (.string x.name), valsP x.bag]
def zj (l : List Giv) : PV := .sl 3 (l.map Giv.pv)
def matsP (l : List Mat) : PV := .sl 7 (l.map Mat.pv)
def anyP (l : List (List Mat)) : PV := .sl 1 (l.map fun x => [matsP x])
def tgtP (l : List (List (List Mat))) : PV := .sl 1 (l.map fun x => [anyP x])
abbrev pI (n : Int) : PV := .v (.int .i64 n)
abbrev pB (b : Bool) : PV := .v (.bool b)
abbrev pS (s : ByteArray) : PV := .v (.string s)
end Go.Proofs.YtlmgamnpfdgdeaaGreatDoor
namespace Go.Proofs.YtlmgamnpfdgdeaaGreatDoor
set_option linter.unusedVariables false
set_option linter.unusedSimpArgs false
open Go.RowKit
def za {α : Type} (f : α → Nat) (l : List α) : Nat := (l.map f).sum
theorem zo {α : Type} {f : α → Nat} {l : List α} {k : Nat} (hk : k < l.length) : za f (l.take (k + 1)) = za f (l.take k) + f l[k] := by
  unfold za
  rw [List.take_succ_eq_append_getElem hk, List.map_append, List.sum_append]; simp
theorem sumBy_le {α : Type} {f : α → Nat} {l : List α} {x : α} (h : x ∈ l) : f x ≤ za f l := by
  unfold za
  induction l with
  | nil => cases h
  | cons y l ih =>
    rcases List.mem_cons.1 h with rfl | h
    · simp
    · have := ih h; simp; omega
def txt (s : ByteArray) : Nat := 1 + s.size / 8
def msz (m : Mat) : Nat := txt m.attr.name + txt m.val.s
def asz (y : List Mat) : Nat := 1 + y.length + za msz y
def xsz (x : List (List Mat)) : Nat := 1 + x.length + za asz x
def tsz (t : List (List (List Mat))) : Nat := 1 + t.length + za xsz t
abbrev rTar' : Rp (List (List Mat)) := rSl (rSl rMat 7) 1
theorem SlAt.sl0 {α : Type} {R : Rp α} {size : Nat} {w0 w : World} {A : Option Addr} {l : List (List α)} (h : SlAt (rSl R size) 1 w0 A l) (hB : Below w0.heap.size w0 w) {k : Nat} (hk : k < l.length) :
    ∃ b o B c, A = some ⟨b, o, none⟩ ∧ b < w0.heap.size ∧ w.cell? ⟨b, o + k, none⟩ = some (.slice B l[k].length c) ∧ l[k].length ≤ c ∧ (l[k].length ≤ reachBytes ∧ c ≤ maxLen) ∧ SlAt R size w0 B l[k] := by
  obtain ⟨b, o, B, c, hA, hb, hc, h1, h2, h3⟩ := h.sl hk
  exact ⟨b, o, B, c, hA, hb, (hB.cell (p := ⟨b, o + k, none⟩) hb).trans hc, h1, h2, h3⟩
end Go.Proofs.YtlmgamnpfdgdeaaGreatDoor
namespace Go.Proofs.YtlmgamnpfdgdeaaGreatDoor
set_option linter.unusedVariables false
set_option linter.unusedSimpArgs false
open Go.RowKit
structure Nod where
  op : Int
  val : Val
  attr : Atr
structure Obli where
  on : Int
  kind : Int
  arg : ByteArray
abbrev Tar := List (List (List Mat))
structure Rul where
  id : ByteArray
  deny : Bool
  target : Tar
  cond : List Nod
  obls : List Obli
inductive Pol where
  | mk (id : ByteArray) (set : Bool) (alg : Int) (target : Tar) (rules : List Rul) (kids : List Pol) (obls : List Obli)
def Pol.id : Pol → ByteArray | .mk x _ _ _ _ _ _ => x
def Pol.set : Pol → Bool | .mk _ x _ _ _ _ _ => x
def Pol.alg : Pol → Int | .mk _ _ x _ _ _ _ => x
def Pol.target : Pol → Tar | .mk _ _ _ x _ _ _ => x
def Pol.rules : Pol → List Rul | .mk _ _ _ _ x _ _ => x
def Pol.kids : Pol → List Pol | .mk _ _ _ _ _ x _ => x
def Pol.obls : Pol → List Obli | .mk _ _ _ _ _ _ x => x
structure Nod.Fit (x : Nod) : Prop where
  op : R64 x.op
  val : x.val.Fit
  attr : x.attr.Fit
structure Obli.Fit (x : Obli) : Prop where
  on : R64 x.on
  kind : R64 x.kind
  arg : x.arg.size ≤ reachBytes
def rNod : Rp Nod := fun _ cs x => cs = [.int .i64 x.op, .int .i64 x.val.kind, .int .i64 x.val.n, .string x.val.s, .int .i64 x.attr.cat, .string x.attr.name, .bool x.attr.must] ∧ x.Fit
def rObl : Rp Obli := fun _ cs x => cs = [.int .i64 x.on, .int .i64 x.kind, .string x.arg] ∧ x.Fit
theorem keeps_nod : Keeps rNod := fun _ _ _ _ _ h => h
theorem keeps_obl : Keeps rObl := fun _ _ _ _ _ h => h
def SlV {α : Type} (R : Rp α) (size : Nat) (w : World) (v : Value) (l : List α) : Prop := ∃ A c, v = .slice A l.length c ∧ l.length ≤ c ∧ (l.length ≤ reachBytes ∧ c ≤ maxLen) ∧ SlAt R size w A l
theorem SlV.keep {α : Type} {R : Rp α} (hR : Keeps R) {size : Nat} {w w' : World} {v : Value} {l : List α} (hb : Below w.heap.size w w') (h : SlV R size w v l) : SlV R size w' v l := by
  obtain ⟨A, c, h1, h2, h3, h4⟩ := h
  exact ⟨A, c, h1, h2, h3, h4.keep hR hb⟩
theorem SlV.of {α : Type} {R : Rp α} {size : Nat} {w : World} {v : Value} {l : List α} (h : rSl R size w [v] l) : SlV R size w v l := by
  obtain ⟨A, c, h1, h2⟩ := h
  simp only [List.cons.injEq, and_true] at h1
  exact ⟨A, c, h1, h2⟩
theorem SlV.nil {α : Type} (R : Rp α) (size : Nat) (w : World) : SlV R size w (.slice none 0 0) [] := ⟨none, 0, rfl, Nat.le_refl _, ⟨Nat.zero_le _, Nat.zero_le _⟩, SlAt.nil⟩
def rRul : Rp Rul := fun w cs x => ∃ c2 c3 c4, cs = [.string x.id, .bool x.deny, c2, c3, c4] ∧ x.id.size ≤ reachBytes ∧ SlV rTar' 1 w c2 x.target ∧ SlV rNod 7 w c3 x.cond ∧ SlV rObl 3 w c4 x.obls
def rPolN : Nat → Rp Pol
  | 0 => fun _ _ _ => False
  | n + 1 => fun w cs p => ∃ c3 c4 c5 c6, cs = [.string p.id, .bool p.set, .int .i64 p.alg, c3, c4, c5, c6] ∧ p.id.size ≤ reachBytes ∧ R64 p.alg ∧ SlV rTar' 1 w c3 p.target ∧ SlV rRul 5 w c4 p.rules ∧ SlV (rPolN n) 7 w c5 p.kids ∧ SlV rObl 3 w c6 p.obls
section
variable {w0 w : World} {A : Option Addr}
theorem SlAt.nod {l : List Nod} (h : SlAt rNod 7 w A l) {k : Nat} (hk : k < l.length) :
    ∃ b o, A = some ⟨b, o, none⟩ ∧ b < w.heap.size ∧ w.cell? ⟨b, o + k * 7, none⟩ = some (.int .i64 l[k].op) ∧
      (w.cell? ⟨b, o + k * 7 + 1, none⟩ = some (.int .i64 l[k].val.kind) ∧ w.cell? ⟨b, o + k * 7 + 2, none⟩ = some (.int .i64 l[k].val.n) ∧ w.cell? ⟨b, o + k * 7 + 3, none⟩ = some (.string l[k].val.s)) ∧
      (w.cell? ⟨b, o + k * 7 + 4, none⟩ = some (.int .i64 l[k].attr.cat) ∧ w.cell? ⟨b, o + k * 7 + 5, none⟩ = some (.string l[k].attr.name) ∧ w.cell? ⟨b, o + k * 7 + 6, none⟩ = some (.bool l[k].attr.must)) ∧ l[k].Fit := by
  obtain ⟨b, o, cs, hA, hlt, _, hc, rfl, hf⟩ := h.at_ hk
  exact ⟨b, o, hA, hlt, hc 0 _ rfl, ⟨hc 1 _ rfl, hc 2 _ rfl, hc 3 _ rfl⟩, ⟨hc 4 _ rfl, hc 5 _ rfl, hc 6 _ rfl⟩, hf⟩
theorem SlAt.obl {l : List Obli} (h : SlAt rObl 3 w A l) {k : Nat} (hk : k < l.length) :
    ∃ b o, A = some ⟨b, o, none⟩ ∧ b < w.heap.size ∧ w.cell? ⟨b, o + k * 3, none⟩ = some (.int .i64 l[k].on) ∧ w.cell? ⟨b, o + k * 3 + 1, none⟩ = some (.int .i64 l[k].kind) ∧ w.cell? ⟨b, o + k * 3 + 2, none⟩ = some (.string l[k].arg) ∧ l[k].Fit := by
  obtain ⟨b, o, cs, hA, hlt, _, hc, rfl, hf⟩ := h.at_ hk
  exact ⟨b, o, hA, hlt, hc 0 _ rfl, hc 1 _ rfl, hc 2 _ rfl, hf⟩
theorem SlAt.rul0 {l : List Rul} (h : SlAt rRul 5 w0 A l) (hB : Below w0.heap.size w0 w) {k : Nat} (hk : k < l.length) :
    ∃ b o c2 c3 c4, A = some ⟨b, o, none⟩ ∧ b < w0.heap.size ∧ w.cell? ⟨b, o + k * 5, none⟩ = some (.string l[k].id) ∧ w.cell? ⟨b, o + k * 5 + 1, none⟩ = some (.bool l[k].deny) ∧ w.cell? ⟨b, o + k * 5 + 2, none⟩ = some c2 ∧ w.cell? ⟨b, o + k * 5 + 3, none⟩ = some c3 ∧ w.cell? ⟨b, o + k * 5 + 4, none⟩ = some c4 ∧
      l[k].id.size ≤ reachBytes ∧ SlV rTar' 1 w0 c2 l[k].target ∧ SlV rNod 7 w0 c3 l[k].cond ∧ SlV rObl 3 w0 c4 l[k].obls := by
  obtain ⟨b, o, cs, hA, hlt, _, hc, c2, c3, c4, rfl, h1, h2, h3, h4⟩ := h.at_ hk
  have cell : ∀ j, w.cell? ⟨b, j, none⟩ = w0.cell? ⟨b, j, none⟩ := fun j => hB.cell (p := ⟨b, j, none⟩) hlt
  exact ⟨b, o, c2, c3, c4, hA, hlt, (cell _).trans (hc 0 _ rfl), (cell _).trans (hc 1 _ rfl), (cell _).trans (hc 2 _ rfl), (cell _).trans (hc 3 _ rfl), (cell _).trans (hc 4 _ rfl), h1, h2, h3, h4⟩
theorem SlAt.pol0 {n : Nat} {l : List Pol} (h : SlAt (rPolN n) 7 w0 A l) (hB : Below w0.heap.size w0 w) {k : Nat} (hk : k < l.length) :
    ∃ b o c3 c4 c5 c6, A = some ⟨b, o, none⟩ ∧ b < w0.heap.size ∧ w.cell? ⟨b, o + k * 7, none⟩ = some (.string l[k].id) ∧ w.cell? ⟨b, o + k * 7 + 1, none⟩ = some (.bool l[k].set) ∧ w.cell? ⟨b, o + k * 7 + 2, none⟩ = some (.int .i64 l[k].alg) ∧
      w.cell? ⟨b, o + k * 7 + 3, none⟩ = some c3 ∧ w.cell? ⟨b, o + k * 7 + 4, none⟩ = some c4 ∧ w.cell? ⟨b, o + k * 7 + 5, none⟩ = some c5 ∧ w.cell? ⟨b, o + k * 7 + 6, none⟩ = some c6 ∧
      rPolN n w0 [.string l[k].id, .bool l[k].set, .int .i64 l[k].alg, c3, c4, c5, c6] l[k] := by
  obtain ⟨b, o, cs, hA, hlt, _, hc, hr⟩ := h.at_ hk
  match n, hr with
  | n + 1, hr =>
    obtain ⟨c3, c4, c5, c6, rfl, h1, h2⟩ := hr
    have cell : ∀ j, w.cell? ⟨b, j, none⟩ = w0.cell? ⟨b, j, none⟩ := fun j => hB.cell (p := ⟨b, j, none⟩) hlt
    exact ⟨b, o, c3, c4, c5, c6, hA, hlt, (cell _).trans (hc 0 _ rfl), (cell _).trans (hc 1 _ rfl), (cell _).trans (hc 2 _ rfl), (cell _).trans (hc 3 _ rfl), (cell _).trans (hc 4 _ rfl), (cell _).trans (hc 5 _ rfl), (cell _).trans (hc 6 _ rfl), c3, c4, c5, c6, rfl, h1, h2⟩
end
theorem rPolN_form {n : Nat} {w : World} {s x a c3 c4 c5 c6 : Value} {p : Pol} (h : rPolN n w [s, x, a, c3, c4, c5, c6] p) :
    ∃ A3 d3 A4 d4 A5 d5 A6 d6, c3 = .slice A3 p.target.length d3 ∧ c4 = .slice A4 p.rules.length d4 ∧ c5 = .slice A5 p.kids.length d5 ∧ c6 = .slice A6 p.obls.length d6 := by
  match n, h with
  | n + 1, ⟨_, _, _, _, he, _, _, ⟨A3, d3, h3, _⟩, ⟨A4, d4, h4, _⟩, ⟨A5, d5, h5, _⟩, ⟨A6, d6, h6, _⟩⟩ =>
    simp only [List.cons.injEq, and_true] at he
    obtain ⟨_, _, _, rfl, rfl, rfl, rfl⟩ := he
    exact ⟨A3, d3, A4, d4, A5, d5, A6, d6, h3, h4, h5, h6⟩
def osz (l : List Obli) : Nat := l.length + za (fun o => txt o.arg) l
def nsz (n : Nod) : Nat := txt n.attr.name + txt n.val.s
def rusz (r : Rul) : Nat := txt r.id + tsz r.target + r.cond.length + osz r.obls + za nsz r.cond
mutual
def Pol.sz : Pol → Nat
  | .mk id _ _ t rs ks os => 1 + rs.length + txt id + tsz t + osz os + za rusz rs + Pol.szs ks
def Pol.szs : List Pol → Nat
  | [] => 0
  | k :: ks => k.sz + Pol.szs ks
end
theorem Pol.szs_eq : ∀ l : List Pol, Pol.szs l = za Pol.sz l
  | [] => rfl
  | k :: ks => by simp [Pol.szs, za, Pol.szs_eq ks]
theorem Pol.sz_eq (p : Pol) : p.sz = 1 + p.rules.length + txt p.id + tsz p.target + osz p.obls + za rusz p.rules + za Pol.sz p.kids := by
  cases p with
  | mk id a b t rs ks os => rw [← Pol.szs_eq]; rfl
end Go.Proofs.YtlmgamnpfdgdeaaGreatDoor
namespace Go.Proofs.YtlmgamnpfdgdeaaGreatDoor
set_option linter.unusedVariables false
set_option linter.unusedSimpArgs false
open Go.RowKit
theorem val_back {ok : Nat → Prop} {w : World} {cs : List Value} {x : Val} (h : rPV ok w cs x.pv) : cs = x.cells := rPV_plain (xs := x.cells) h
theorem val_pv {w : World} {cs : List Value} {x : Val} (h : rVal w cs x) : rPV (fun _ => True) w cs x.pv := by
  obtain ⟨rfl, _⟩ := h
  exact plain_rPV (xs := x.cells) (fun v hv => by simp [Val.cells] at hv; rcases hv with rfl | rfl | rfl <;> rfl)
theorem vals_typed {ok : Nat → Prop} {w : World} {u : Value} {l : List Val} (h : RelP ok w (valsP l) u) (hf : ∀ x ∈ l, x.Fit) : ∃ A c, u = .slice A l.length c ∧ l.length ≤ c ∧ (l.length ≤ reachBytes ∧ c ≤ maxLen) ∧ SlAt rVal 3 w A l :=
  sl_typed h fun x hx cs hcs => ⟨val_back hcs, hf x hx⟩
theorem SlAt.fit {α : Type} {R : Rp α} {size : Nat} {w : World} {A : Option Addr} {l : List α} {F : α → Prop} (h : SlAt R size w A l) (hR : ∀ cs x, R w cs x → F x) : ∀ x ∈ l, F x := fun x hx => by
  obtain ⟨i, hi, rfl⟩ := List.mem_iff_getElem.1 hx
  obtain ⟨b, o, _, _, hc⟩ := h (by omega)
  obtain ⟨cs, _, _, h3⟩ := hc i hi
  exact hR cs _ h3
end Go.Proofs.YtlmgamnpfdgdeaaGreatDoor
namespace Go.Proofs.YtlmgamnpfdgdeaaGreatDoor
set_option linter.unusedVariables false
set_option linter.unusedSimpArgs false
open Go.RowKit
theorem mat_back {ok : Nat → Prop} {w : World} {cs : List Value} {x : Mat} (h : rPV ok w cs x.pv) : cs = x.cells := rPV_plain (xs := x.cells) h
theorem mat_pv {w : World} {cs : List Value} {x : Mat} (h : rMat w cs x) : rPV (fun _ => True) w cs x.pv := by
  obtain ⟨rfl, _⟩ := h
  exact plain_rPV (xs := x.cells) (fun v hv => by simp [Mat.cells, Atr.cells, Val.cells] at hv; rcases hv with rfl | rfl | rfl | rfl | rfl | rfl | rfl <;> rfl)
theorem mats_typed {ok : Nat → Prop} {w : World} {u : Value} {l : List Mat} (h : RelP ok w (matsP l) u) (hf : ∀ x ∈ l, x.Fit) : ∃ A c, u = .slice A l.length c ∧ l.length ≤ c ∧ (l.length ≤ reachBytes ∧ c ≤ maxLen) ∧ SlAt rMat 7 w A l :=
  sl_typed h fun x hx cs hcs => ⟨mat_back hcs, hf x hx⟩
structure Giv.Fit (x : Giv) : Prop where
  cat : R64 x.cat
  name : x.name.size ≤ reachBytes
  bag : ∀ v ∈ x.bag, v.Fit
theorem giv_back {ok : Nat → Prop} {w : World} {cs : List Value} {x : Giv} (h : rPV ok w cs x.pv) (hf : x.Fit) : rGiv w cs x := by
  have h0 := h.1
  match cs, h0 with
  | [a, b, c], _ =>
    have h1 := h.2 0 _ a rfl rfl
    have h2 := h.2 1 _ b rfl rfl
    have h3 := h.2 2 _ c rfl rfl
    cases h1; cases h2
    obtain ⟨A, d, rfl, g1, g2, g3⟩ := vals_typed h3 hf.bag
    exact ⟨A, d, rfl, hf.cat, hf.name, g1, g2, g3⟩
theorem giv_pv {w : World} {cs : List Value} {x : Giv} (h : rGiv w cs x) : rPV (fun _ => True) w cs x.pv := by
  obtain ⟨A, c, rfl, h1, h2, h3, h4, h5⟩ := h
  refine ⟨rfl, fun j s u hs hu => ?_⟩
  match j with
  | 0 => cases hs; cases hu; exact .v rfl
  | 1 => cases hs; cases hu; exact .v rfl
  | 2 => cases hs; cases hu; exact rel_sl h5 h3 h4 (fun _ => ⟨rfl, rfl⟩) fun x _ cs hcs => val_pv hcs
  | j + 3 => simp [Giv.pv] at hs
theorem givs_typed {ok : Nat → Prop} {w : World} {u : Value} {l : List Giv} (h : RelP ok w (zj l) u) (hf : ∀ x ∈ l, x.Fit) : ∃ A c, u = .slice A l.length c ∧ l.length ≤ c ∧ (l.length ≤ reachBytes ∧ c ≤ maxLen) ∧ SlAt rGiv 3 w A l :=
  sl_typed h fun x hx cs hcs => giv_back hcs (hf x hx)
theorem givs_rel {w : World} {A : Option Addr} {c : Nat} {l : List Giv} (h : SlAt rGiv 3 w A l) (hl : l.length ≤ c) (hc : l.length ≤ reachBytes ∧ c ≤ maxLen) : RelP (fun _ => True) w (zj l) (.slice A l.length c) :=
  rel_sl h hl hc (fun _ => ⟨rfl, rfl⟩) fun x _ cs hcs => giv_pv hcs
theorem any_back {ok : Nat → Prop} {w : World} {cs : List Value} {x : List Mat} (h : rPV ok w cs [matsP x]) (hf : ∀ m ∈ x, m.Fit) : rSl rMat 7 w cs x := by
  have h0 := h.1
  match cs, h0 with
  | [a], _ =>
    obtain ⟨A, d, rfl, g1, g2, g3⟩ := mats_typed (h.2 0 _ a rfl rfl) hf
    exact ⟨A, d, rfl, g1, g2, g3⟩
theorem mats_pv {w : World} {cs : List Value} {x : List Mat} (h : rSl rMat 7 w cs x) : rPV (fun _ => True) w cs [matsP x] := by
  obtain ⟨A, c, rfl, h1, h2, h3⟩ := h
  refine ⟨rfl, fun j s u hs hu => ?_⟩
  match j with
  | 0 => cases hs; cases hu; exact rel_sl h3 h1 h2 (fun _ => ⟨rfl, rfl⟩) fun x _ cs hcs => mat_pv hcs
  | j + 1 => simp at hs
theorem anys_back {ok : Nat → Prop} {w : World} {cs : List Value} {x : List (List Mat)} (h : rPV ok w cs [anyP x]) (hf : ∀ l ∈ x, ∀ m ∈ l, m.Fit) : rTar' w cs x := by
  have h0 := h.1
  match cs, h0 with
  | [a], _ =>
    obtain ⟨A, d, rfl, g1, g2, g3⟩ := sl_typed (R := rSl rMat 7) (h.2 0 _ a rfl rfl) fun y hy cs hcs => any_back hcs (hf y hy)
    exact ⟨A, d, rfl, g1, g2, g3⟩
theorem anys_pv {w : World} {cs : List Value} {x : List (List Mat)} (h : rTar' w cs x) : rPV (fun _ => True) w cs [anyP x] := by
  obtain ⟨A, c, rfl, h1, h2, h3⟩ := h
  refine ⟨rfl, fun j s u hs hu => ?_⟩
  match j with
  | 0 => cases hs; cases hu; exact rel_sl h3 h1 h2 (fun _ => ⟨rfl, rfl⟩) fun x _ cs hcs => mats_pv hcs
  | j + 1 => simp at hs
theorem tgt_typed {ok : Nat → Prop} {w : World} {u : Value} {t : Tar} (h : RelP ok w (tgtP t) u) (hf : ∀ x ∈ t, ∀ l ∈ x, ∀ m ∈ l, m.Fit) : ∃ A c, u = .slice A t.length c ∧ t.length ≤ c ∧ (t.length ≤ reachBytes ∧ c ≤ maxLen) ∧ SlAt rTar' 1 w A t :=
  sl_typed h fun x hx cs hcs => anys_back hcs (hf x hx)
theorem tgt_rel {w : World} {A : Option Addr} {c : Nat} {t : Tar} (h : SlAt rTar' 1 w A t) (hl : t.length ≤ c) (hc : t.length ≤ reachBytes ∧ c ≤ maxLen) : RelP (fun _ => True) w (tgtP t) (.slice A t.length c) :=
  rel_sl h hl hc (fun _ => ⟨rfl, rfl⟩) fun x _ cs hcs => anys_pv hcs
theorem giv_fit {w : World} {cs : List Value} {x : Giv} (h : rGiv w cs x) : x.Fit := by
  obtain ⟨A, c, rfl, h1, h2, h3, h4, h5⟩ := h
  exact ⟨h1, h2, h5.fit fun _ _ h => h.2⟩
theorem tgt_fit {w : World} {A : Option Addr} {t : Tar} (h : SlAt rTar' 1 w A t) : ∀ x ∈ t, ∀ l ∈ x, ∀ m ∈ l, m.Fit :=
  h.fit fun cs x ⟨_, _, _, _, _, h1⟩ => h1.fit fun cs y ⟨_, _, _, _, _, h2⟩ => h2.fit fun _ _ h => h.2
end Go.Proofs.YtlmgamnpfdgdeaaGreatDoor
namespace Go.Proofs.YtlmgamnpfdgdeaaGreatDoor
open Go.RowKit
set_option linter.unusedSimpArgs false
set_option linter.unusedVariables false
attribute [local go_sem] jG zC
attribute [local go_sem low] zx zb
theorem eql_val (a b : Int) (s : ByteArray) (a' b' : Int) (s' : ByteArray) (w : World) :
    (binOp .eql 31 (.agg #[.int .i64 a, .int .i64 b, .string s]) (.agg #[.int .i64 a', .int .i64 b', .string s'])).run Tryz.prog w = .ok (.bool (jB ⟨a, b, s⟩ ⟨a', b', s'⟩)) w := by
  unfold jB
  by_cases h1 : a = a'
  · by_cases h2 : b = b'
    · by_cases h3 : s = s'
      · subst h1; subst h2; subst h3
        go_simp
      · have : s.toList ≠ s'.toList := fun h => h3 (toList_inj h)
        subst h1; subst h2
        go_simp
    · subst h1
      go_simp
  · go_simp
set_option maxHeartbeats 2000000 in
theorem name_any (s : ByteArray) (w : World) (hs : s.size ≤ reachBytes) :
    Calls Tryz.prog 29 #[.string s] w fun e w' => e = .returned (.bool (wC s)) ∧ w = w' := by
  unfold reachBytes at hs
  go_enter Tryz.func29, Tryz.ntmps29
  go_wp2
  go_loop [3, 4, 5, 6, 9] (fun _ _ _ _ i => ∃ k : Nat, k ≤ s.size ∧ i = .int .i64 k ∧ Hid (∀ i (h : i < s.size), i < k → okC (i == 0) s[i].toNat = true)) (fun _ _ _ _ i => s.size - (intOf i).toNat)
  case atStart => exact ⟨0, Nat.zero_le _, rfl, fun i _ h => absurd h (by omega)⟩
  case round =>
    obtain ⟨k, hk, rfl, hok⟩ := hrel
    by_cases hlt : k < s.size
    · skip
      go_upto_region 5 with (fail)
      refine wz (by kernel_rfl) ?_
      repeat (refine qw ?_; intro K hK; go_big_quiet_op; go_big_quiet_on)
      refine qZ ?_
      intro us
      simp only [junk, Act.put, List.setIfInBounds_toArray, List.set_cons_zero, List.set_cons_succ]
      go_upto_region 6 with (fail)
      refine wz (by kernel_rfl) ?_
      repeat (refine qw ?_; intro K hK; go_big_quiet_op; go_big_quiet_on)
      refine qZ ?_
      intro us
      simp only [junk, Act.put, List.setIfInBounds_toArray, List.set_cons_zero, List.set_cons_succ]
      go_upto_region 7 with (fail)
      refine wz (by kernel_rfl) ?_
      repeat (refine qw ?_; intro K hK; go_big_quiet_op; go_big_quiet_on)
      refine qZ ?_
      intro us
      simp only [junk, Act.put, List.setIfInBounds_toArray, List.set_cons_zero, List.set_cons_succ]
      go_wp2
      · go_ret
        refine ⟨ja (nameS_no hlt ?_).symm, rfl⟩
        go_light
        simp [okC] at *
        omega
      · go_round
        case rel =>
          refine ⟨k + 1, by omega, by go_num, name_step hlt hok.out ?_⟩
          go_light
          simp [okC] at *
          omega
        case measure => simp [intOf]; omega
    · obtain rfl : k = s.size := by omega
      have e1 := hide (nameS_end hok.out)
      go_upto_region 10 with (fail)
      refine wz (by kernel_rfl) ?_
      repeat (refine qw ?_; intro K hK; go_big_quiet_op; go_big_quiet_on)
      refine qZ ?_
      intro us
      simp only [junk, Act.put, List.setIfInBounds_toArray, List.set_cons_zero, List.set_cons_succ]
      go_wp2
      go_ret
      refine ⟨ja ?_, rfl⟩
      rw [e1.out, wY, Bool.eq_iff_iff]
      simp only [Bool.and_eq_true, decide_eq_true_eq, Bool.not_eq_true', decide_eq_false_iff_not]
      omega
theorem right_any (k n : Int) (s : ByteArray) (w : World) (hs : s.size ≤ reachBytes) :
    Calls Tryz.prog 52 #[.agg #[.int .i64 k, .int .i64 n, .string s]] w fun e w' => e = .returned (.bool (Val.right ⟨k, n, s⟩)) ∧ Below w.heap.size w w' := by
  unfold reachBytes at hs
  have hs' : s.size ≤ reachBytes := hs
  go_enter Tryz.func52, Tryz.ntmps52
  go_wp2_with (go_at_call 29; refine (name_any _ _ hs').mono ?_; rintro e w1 ⟨rfl, rfl⟩)
  all_goals
    go_ret
    refine ⟨ja ?_, (Below.refl _ _).alloc (Nat.le_refl _) _⟩
    go_light
    simp only [beq_iff_eq, beq_eq_false_iff_ne, ne_eq] at *
    simp [Val.right, wY, *]
    try omega
end Go.Proofs.YtlmgamnpfdgdeaaGreatDoor
namespace Go.Proofs.YtlmgamnpfdgdeaaGreatDoor
set_option linter.unusedVariables false
set_option linter.unusedSimpArgs false
def attrS (a : Atr) : Bool := decide (1 ≤ a.cat) && decide (a.cat ≤ 4) && wC a.name
def manyS (n : Nat) : Int := if n = 0 then 1 else if 8 < n then 6 else 0
def matchS (m : Mat) : Bool := attrS m.attr && decide (1 ≤ m.op) && decide (m.op ≤ 3) && m.val.right
def wa {α : Type} (f : α → Int) : List α → Int
  | [] => 0
  | x :: r => if f x = 0 then wa f r else f x
def okE (b : Bool) : Int := if b then 0 else 1
def allOfS (l : List Mat) : Int := if manyS l.length = 0 then wa (fun m => okE (matchS m)) l else manyS l.length
def anyOfS (l : List (List Mat)) : Int := if manyS l.length = 0 then wa allOfS l else manyS l.length
def zf (t : Tar) : Int := if 8 < t.length then 6 else wa anyOfS t
def oblS (o : Obli) : Bool := decide (1 ≤ o.on) && decide (o.on ≤ 2) && decide (1 ≤ o.kind) && decide (o.kind ≤ 4) && wC o.arg
def oblsS (l : List Obli) : Int := if 8 < l.length then 6 else wa (fun o => okE (oblS o)) l
def zJ (op : Int) : Option (List Bool) :=
  if op = 1 ∨ op = 2 then some []
  else if op = 3 ∨ op = 4 then some [true]
  else if op = 5 then some [true, false]
  else if op = 11 then some [false]
  else if 6 ≤ op ∧ op ≤ 13 then some [false, false]
  else none
def isNoVal (v : Val) : Bool := decide (v.kind = 0) && decide (v.n = 0) && decide (v.s.size = 0)
def isNoAtr (a : Atr) : Bool := decide (a.cat = 0) && decide (a.name.size = 0) && !a.must
def wZ (n : Nod) : Bool :=
  if n.op = 1 then n.val.right && isNoAtr n.attr
  else if n.op = 2 then attrS n.attr && isNoVal n.val
  else isNoVal n.val && isNoAtr n.attr
def zX (l : List Bool) (n : Nod) : Option (List Bool) := match zJ n.op with
  | none => none
  | some w => if wZ n = true ∧ w.length ≤ l.length ∧ l.drop (l.length - w.length) = w then some (l.take (l.length - w.length) ++ [decide (n.op = 2)]) else none
def zi : List Bool → List Nod → Option (List Bool)
  | l, [] => some l
  | l, n :: r => match zX l n with
    | some l' => zi l' r
    | none => none
def wi (l : List Nod) : Int :=
  if 32 < l.length then 6 else match zi [] l with
    | none => 1
    | some made => if l = [] ∨ made = [false] then 0 else 1
structure Wlk where
  met : List ByteArray
  rules : Int
def hasS (m : List ByteArray) (s : ByteArray) : Bool := m.any fun t => decide (s = t)
def jT (m : List ByteArray) (s : ByteArray) : Bool := !hasS m s && wC s
def nameM (m : List ByteArray) (s : ByteArray) : List ByteArray := if jT m s then m ++ [s] else m
def ruleE (r : Rul) : Int := if zf r.target = 0 then (if wi r.cond = 0 then oblsS r.obls else wi r.cond) else zf r.target
def wg (w : Wlk) (r : Rul) : Int × Wlk :=
  if jT w.met r.id then (if 64 < w.rules + 1 then 6 else ruleE r, ⟨w.met ++ [r.id], w.rules + 1⟩) else (1, w)
def headE (p : Pol) : Int :=
  if (p.set && decide (0 < p.rules.length)) || (!p.set && (decide (0 < p.kids.length) || decide (p.alg = 4))) then 1
  else if zf p.target = 0 then (if oblsS p.obls = 0 then (if 16 < p.rules.length ∨ 16 < p.kids.length then 6 else 0) else oblsS p.obls) else zf p.target
def headS (w : Wlk) (p : Pol) : Int × Wlk :=
  (if jT w.met p.id && decide (1 ≤ p.alg) && decide (p.alg ≤ 6) then headE p else 1, ⟨nameM w.met p.id, w.rules⟩)
def seqS {α : Type} (f : Wlk → α → Int × Wlk) : Wlk → List α → Int × Wlk
  | w, [] => (0, w)
  | w, x :: r => if (f w x).1 = 0 then seqS f (f w x).2 r else f w x
def polS : Nat → Wlk → Pol → Int × Wlk
  | 0, w, _ => (6, w)
  | n + 1, w, p =>
    if (headS w p).1 = 0 then
      if (seqS wg (headS w p).2 p.rules).1 = 0 then seqS (polS n) (seqS wg (headS w p).2 p.rules).2 p.kids
      else seqS wg (headS w p).2 p.rules
    else headS w p
def wG (p : Pol) : Int := (polS 4 ⟨[], 0⟩ p).1
theorem seqS_some {α : Type} {f : Wlk → α → Int × Wlk} : ∀ {l : List α} {w : Wlk} {k : Nat} (hk : k < l.length), (seqS f w (l.take k)).1 = 0 → seqS f w (l.take (k + 1)) = f (seqS f w (l.take k)).2 l[k]
  | x :: r, w, 0, _, _ => by
    simp only [Nat.zero_add, List.take_succ_cons, List.take_zero, seqS, List.getElem_cons_zero]
    split
    · rename_i h; rw [← h]
    · rfl
  | x :: r, w, k + 1, hk, h => by
    rw [List.take_succ_cons, seqS] at h
    rw [List.take_succ_cons, List.take_succ_cons, seqS, seqS]
    by_cases h0 : (f w x).1 = 0
    · rw [if_pos h0] at h
      rw [if_pos h0, if_pos h0]
      exact seqS_some (by simpa using hk) h
    · rw [if_neg h0] at h; exact absurd h h0
theorem seqS_stop {α : Type} {f : Wlk → α → Int × Wlk} : ∀ {l : List α} {w : Wlk} (k : Nat), (seqS f w (l.take k)).1 ≠ 0 → seqS f w l = seqS f w (l.take k)
  | [], w, k, _ => by simp
  | x :: r, w, 0, h => by simp [seqS] at h
  | x :: r, w, k + 1, h => by
    rw [List.take_succ_cons, seqS] at h ⊢
    rw [seqS]
    by_cases h0 : (f w x).1 = 0
    · rw [if_pos h0] at h ⊢
      rw [if_pos h0]
      exact seqS_stop k h
    · rw [if_neg h0, if_neg h0]
theorem jL {α : Type} {f : α → Int} : ∀ {l : List α} {k : Nat} (hk : k < l.length), (∀ x ∈ l.take k, f x = 0) → f l[k] ≠ 0 → wa f l = f l[k]
  | x :: r, 0, _, _, h => by simp only [List.getElem_cons_zero] at h ⊢; rw [wa, if_neg h]
  | x :: r, k + 1, hk, ha, h => by
    have h0 : f x = 0 := ha x (by simp)
    rw [wa, if_pos h0]
    simp only [List.getElem_cons_succ] at h ⊢
    exact jL (by simpa using hk) (fun y hy => ha y (by rw [List.take_succ_cons]; exact List.mem_cons_of_mem _ hy)) h
theorem jN {α : Type} {f : α → Int} : ∀ {l : List α}, (∀ x ∈ l, f x = 0) → wa f l = 0
  | [], _ => rfl
  | x :: r, h => by rw [wa, if_pos (h x List.mem_cons_self)]; exact jN fun y hy => h y (List.mem_cons_of_mem _ hy)
theorem take_ok {α : Type} {p : α → Prop} {l : List α} {k : Nat} (h : k < l.length) (ha : ∀ x ∈ l.take k, p x) (hk : p l[k]) : ∀ x ∈ l.take (k + 1), p x := by
  intro x hx
  rw [List.take_succ_eq_append_getElem h, List.mem_append, List.mem_singleton] at hx
  rcases hx with hx | rfl
  · exact ha x hx
  · exact hk
end Go.Proofs.YtlmgamnpfdgdeaaGreatDoor
namespace Go.Proofs.YtlmgamnpfdgdeaaGreatDoor
set_option linter.unusedVariables false
set_option linter.unusedSimpArgs false
open Go.RowKit
set_option maxHeartbeats 1000000
theorem one_arg {vs : List Value} (h : vs.length = 1) : ∃ u, vs = [u] := by
  match vs, h with
  | [u], _ => exact ⟨u, rfl⟩
theorem name_h (s : ByteArray) (hs : s.size ≤ reachBytes) : Holds Tryz.prog 29 [pS s] (.p (pB (wC s))) [] :=
  .of_calls Tryz.func29 (by kernel_rfl) rfl (fun w vs hl hr => by
    obtain ⟨u, rfl⟩ := one_arg hl
    have h := zl (hr 0 _ u rfl rfl) rfl
    subst h
    exact (name_any s w hs).mono fun e w' ⟨h1, h2⟩ => ⟨h1, h2 ▸ Below.refl _ _⟩) rfl fun w => .p (.v rfl)
theorem jF (v : Val) (hs : v.s.size ≤ reachBytes) : Holds Tryz.prog 52 [.agg v.pv] (.p (pB v.right)) [] :=
  .of_calls Tryz.func52 (by kernel_rfl) rfl (fun w vs hl hr => by
    obtain ⟨u, rfl⟩ := one_arg hl
    have h := zl (hr 0 _ u rfl rfl) rfl
    subst h
    exact right_any v.kind v.n v.s w hs) rfl fun w => .p (.v rfl)
theorem beq_bytes2 (a b : ByteArray) : (a.toList == b.toList) = decide (a = b) := by
  rw [Bool.eq_iff_iff]
  simp only [beq_iff_eq, decide_eq_true_eq]
  exact ⟨toList_inj, fun h => by rw [h]⟩
theorem eqL_val (x y : Val) : eqL x.pv y.pv = some (jB x y) := by
  have h : eqL x.pv y.pv = some ((x.kind == y.kind) && ((x.n == y.n) && ((x.s.toList == y.s.toList) && true))) := rfl
  rw [h, beq_bytes2, Bool.and_true]
  congr 1
  rw [Bool.eq_iff_iff]
  simp [jB, and_assoc]
theorem opR_eqV {T : TT} {K : List Nat} {st : St} {o : Op} {t t' : TypeId} {a b : Operand} (x y : Val) (ho : o = .binOp .eql t a b t') {n m : Nat} {d : Ty} {z : List Value} (ht : lk t T = some ⟨n, m, d, z, true⟩) (ha : evS st a = some (.p (.agg x.pv))) (hb : evS st b = some (.p (.agg y.pv))) : opR T K st o = some (zg x.pv z = true, .p (pB (jB x y))) := by
  subst ho
  show rBin T .eql t (evS st a) (evS st b) = _
  rw [ha, hb]
  unfold rBin
  simp only [ht, eqL_val]
end Go.Proofs.YtlmgamnpfdgdeaaGreatDoor
namespace Go.Proofs.YtlmgamnpfdgdeaaGreatDoor
set_option linter.unusedVariables false
set_option linter.unusedSimpArgs false
open Go.RowKit
set_option maxHeartbeats 1000000
def Nod.pv (x : Nod) : List PV := [pI x.op, pI x.val.kind, pI x.val.n, pS x.val.s, pI x.attr.cat, pS x.attr.name, pB x.attr.must]
def Obli.pv (x : Obli) : List PV := [pI x.on, pI x.kind, pS x.arg]
def nodsP (l : List Nod) : PV := .sl 7 (l.map Nod.pv)
def jt (l : List Obli) : PV := .sl 3 (l.map Obli.pv)
def jp (l : List Bool) : List (List PV) := l.map fun b => [pB b]
def jl (r : Rul) : List PV := [pS r.id, pB r.deny, tgtP r.target, nodsP r.cond, jt r.obls]
theorem attr_h (a : Atr) (ha : a.name.size ≤ reachBytes) : Holds Tryz.prog 169 [.agg a.pv] (.p (pB (attrS a))) [] := by
  refine qo (ts := [2]) Tryz.func169 (by kernel_rfl) rfl rfl rfl ?_
  refine uA ?_
  (repeat refine qF ?_); refine ql (by kernel_rfl) ?_
  repeat (refine qi qa rfl (by exact True.intro) rfl ?_)
  refine qV rfl rfl rfl rfl (name_h a.name ha) rfl rfl ?_
  repeat (refine qi qa rfl (by exact True.intro) rfl ?_)
  refine qH ?_
  refine uQ ?_
  refine wJ rfl ?_
  unfold attrS
  cases h1 : decide (1 ≤ a.cat) <;> cases h2 : decide (a.cat ≤ 4) <;> simp_all
theorem many_h (n : Nat) : Holds Tryz.prog 157 [pI n] (.p (pI (manyS n))) [] := by
  refine qo (ts := [2]) Tryz.func157 (by kernel_rfl) rfl rfl rfl ?_
  refine uA ?_
  refine uB ?_
  refine uA ?_
  refine uC (fun h => ?_) (fun h => ?_)
  · have h0 : n = 0 := by simpa using h
    subst h0
    refine uA ?_
    refine uQ ?_
    exact qW rfl rfl
  · have h0 : n ≠ 0 := by simpa using h
    refine uA ?_
    refine uC (fun h2 => ?_) (fun h2 => ?_)
    · refine uA ?_
      refine uQ ?_
      refine qW rfl ?_
      simp at h2
      simp [manyS, h0]; omega
    · refine qg ?_
      refine uA ?_
      refine uQ ?_
      refine qW rfl ?_
      simp at h2
      simp [manyS, h0]; omega
theorem match_h (m : Mat) (hm : m.Fit) : Holds Tryz.prog 191 [.agg m.pv] (.p (pB (matchS m))) [] := by
  refine qo (ts := [2]) Tryz.func191 (by kernel_rfl) rfl rfl rfl ?_
  refine uA ?_
  (repeat refine qF ?_); refine ql (by kernel_rfl) ?_
  repeat (refine qi qa rfl (by exact True.intro) rfl ?_)
  refine qV rfl rfl rfl rfl (attr_h m.attr hm.attr.name) rfl rfl ?_
  repeat (refine qi qa rfl (by exact True.intro) rfl ?_)
  refine qV rfl rfl rfl rfl (jF m.val hm.val.s) rfl rfl ?_
  repeat (refine qi qa rfl (by exact True.intro) rfl ?_)
  refine qH ?_
  refine uQ ?_
  refine wJ rfl ?_
  unfold matchS
  cases attrS m.attr <;> cases h1 : decide (1 ≤ m.op) <;> cases h2 : decide (m.op ≤ 3) <;> simp_all
theorem allOf_h (l : List Mat) (hf : ∀ x ∈ l, x.Fit) : Holds Tryz.prog 158 [matsP l] (.p (pI (allOfS l))) [] := by
  refine qo (ts := [2]) Tryz.func158 (by kernel_rfl) rfl rfl rfl ?_
  refine sw_len (t := 0) (z := 7) (l := l.map Mat.pv) rfl fun hlen => ?_
  rw [List.length_map] at hlen
  unfold reachBytes at hlen
  refine uA ?_
  refine uR ?_
  refine uK (many_h (l.map Mat.pv).length) ?_
  refine qd ?_
  refine uA ?_
  rw [List.length_map]
  refine uC (fun hm => ?_) (fun hm => ?_)
  · refine uA ?_
    refine uQ ?_
    refine qW rfl ?_
    have h0 : manyS l.length ≠ 0 := by simpa using hm
    simp [allOfS, h0]
  · refine qg ?_
    have h0 : manyS l.length = 0 := by simpa using hm
    refine uA ?_
    refine uB ?_
    refine uZ [12, 13, 14] [] ?_
    refine qC (fun n s => ∃ (k : Nat) (kk : Int), k ≤ l.length ∧ n = l.length - k ∧ kk = k ∧ (∀ x ∈ l.take k, (fun m => okE (matchS m)) x = 0) ∧ s = ⟨22, [(12, .p (matsP l)), (13, .p (pI (l.map Mat.pv).length)), (14, .p (pI kk))], []⟩) l.length ⟨0, 0, Nat.zero_le _, rfl, rfl, by simp, rfl⟩ ?_
    rintro n s ⟨k, _, hk, rfl, rfl, ha, rfl⟩
    refine uA ?_
    refine uC (fun hlt => ?_) (fun hlt => ?_)
    · refine qg ?_
      simp only [List.length_map, decide_eq_true_eq] at hlt
      have hlt' : k < l.length := by omega
      refine uB ?_
      refine uR ?_
      refine qh qa rfl rfl (by simp only [List.length_map]; omega) rfl ?_
      rw [qx hlt']
      refine uS ?_
      refine qd ?_
      refine uR ?_
      refine uK (match_h l[k] (hf _ (List.getElem_mem hlt'))) ?_
      refine qd ?_
      refine uC (fun hp => ?_) (fun hp => ?_)
      · refine uA ?_
        refine uQ ?_
        refine qW rfl ?_
        have hq : okE (matchS l[k]) = 1 := by simpa [okE] using hp
        rw [allOfS, if_pos h0, jL (f := fun m => okE (matchS m)) hlt' ha (by rw [hq]; decide), hq]
      · refine qg ?_
        refine uA ?_
        refine ⟨_, _, ?_, qu [12, 13, 14] [] rfl rfl, k + 1, _, hlt', rfl, qt hlt' (by omega), take_ok hlt' ha (by simpa [okE] using hp), rfl⟩
        omega
    · refine qz ?_
      simp only [List.length_map, decide_eq_false_iff_not] at hlt
      have hkk : k = l.length := by omega
      subst hkk
      rw [List.take_length] at ha
      refine uA ?_
      refine uQ ?_
      refine qW rfl ?_
      simp [allOfS, h0, jN ha]
theorem anyOf_h (l : List (List Mat)) (hf : ∀ x ∈ l, ∀ m ∈ x, m.Fit) : Holds Tryz.prog 117 [anyP l] (.p (pI (anyOfS l))) [] := by
  refine qo (ts := [2]) Tryz.func117 (by kernel_rfl) rfl rfl rfl ?_
  refine sw_len (t := 0) (z := 1) (l := l.map (fun x => [matsP x])) rfl fun hlen => ?_
  rw [List.length_map] at hlen
  unfold reachBytes at hlen
  refine uA ?_
  refine uR ?_
  refine uK (many_h (l.map (fun x => [matsP x])).length) ?_
  refine qd ?_
  refine uA ?_
  rw [List.length_map]
  refine uC (fun hm => ?_) (fun hm => ?_)
  · refine uA ?_
    refine uQ ?_
    refine qW rfl ?_
    have h0 : manyS l.length ≠ 0 := by simpa using hm
    simp [anyOfS, h0]
  · refine qg ?_
    have h0 : manyS l.length = 0 := by simpa using hm
    refine uA ?_
    refine uB ?_
    refine uZ [13, 14, 15] [] ?_
    refine qC (fun n s => ∃ (k : Nat) (kk : Int), k ≤ l.length ∧ n = l.length - k ∧ kk = k ∧ (∀ x ∈ l.take k, allOfS x = 0) ∧ s = ⟨25, [(13, .p (anyP l)), (14, .p (pI (l.map (fun x => [matsP x])).length)), (15, .p (pI kk))], []⟩) l.length ⟨0, 0, Nat.zero_le _, rfl, rfl, by simp, rfl⟩ ?_
    rintro n s ⟨k, _, hk, rfl, rfl, ha, rfl⟩
    refine uA ?_
    refine uC (fun hlt => ?_) (fun hlt => ?_)
    · refine qg ?_
      simp only [List.length_map, decide_eq_true_eq] at hlt
      have hlt' : k < l.length := by omega
      refine uB ?_
      refine uR ?_
      refine qh qa rfl rfl (by simp only [List.length_map]; omega) rfl ?_
      rw [qx hlt']
      refine uS ?_
      refine qd ?_
      refine uR ?_
      refine uK (allOf_h l[k] (hf _ (List.getElem_mem hlt'))) ?_
      refine qd ?_
      refine uA ?_
      refine uC (fun hp => ?_) (fun hp => ?_)
      · refine uA ?_
        refine uQ ?_
        refine qW rfl ?_
        have hq : allOfS l[k] ≠ 0 := by simpa using hp
        rw [anyOfS, if_pos h0, jL hlt' ha hq]
      · refine qg ?_
        refine uA ?_
        refine ⟨_, _, ?_, qu [13, 14, 15] [] rfl rfl, k + 1, _, hlt', rfl, qt hlt' (by omega), take_ok hlt' ha (by simpa using hp), rfl⟩
        omega
    · refine qz ?_
      simp only [List.length_map, decide_eq_false_iff_not] at hlt
      have hkk : k = l.length := by omega
      subst hkk
      rw [List.take_length] at ha
      refine uA ?_
      refine uQ ?_
      refine qW rfl ?_
      simp [anyOfS, h0, jN ha]
theorem target_h (l : List (List (List Mat))) (hf : ∀ x ∈ l, ∀ y ∈ x, ∀ m ∈ y, m.Fit) : Holds Tryz.prog 83 [tgtP l] (.p (pI (zf l))) [] := by
  refine qo (ts := [2]) Tryz.func83 (by kernel_rfl) rfl rfl rfl ?_
  refine sw_len (t := 0) (z := 1) (l := l.map (fun x => [anyP x])) rfl fun hlen => ?_
  rw [List.length_map] at hlen
  unfold reachBytes at hlen
  refine uA ?_
  refine uA ?_
  rw [List.length_map]
  refine uC (fun hm => ?_) (fun hm => ?_)
  · refine uA ?_
    refine uQ ?_
    refine qW rfl ?_
    have h0 : 8 < l.length := by simp at hm; omega
    simp [zf, h0]
  · refine qg ?_
    have h0 : ¬ 8 < l.length := by simp at hm; omega
    refine uA ?_
    refine uB ?_
    refine uZ [9, 10, 11] [] ?_
    refine qC (fun n s => ∃ (k : Nat) (kk : Int), k ≤ l.length ∧ n = l.length - k ∧ kk = k ∧ (∀ x ∈ l.take k, anyOfS x = 0) ∧ s = ⟨21, [(9, .p (tgtP l)), (10, .p (pI (l.map (fun x => [anyP x])).length)), (11, .p (pI kk))], []⟩) l.length ⟨0, 0, Nat.zero_le _, rfl, rfl, by simp, rfl⟩ ?_
    rintro n s ⟨k, _, hk, rfl, rfl, ha, rfl⟩
    refine uA ?_
    refine uC (fun hlt => ?_) (fun hlt => ?_)
    · refine qg ?_
      simp only [List.length_map, decide_eq_true_eq] at hlt
      have hlt' : k < l.length := by omega
      refine uB ?_
      refine uR ?_
      refine qh qa rfl rfl (by simp only [List.length_map]; omega) rfl ?_
      rw [qx hlt']
      refine uS ?_
      refine qd ?_
      refine uR ?_
      refine uK (anyOf_h l[k] (hf _ (List.getElem_mem hlt'))) ?_
      refine qd ?_
      refine uA ?_
      refine uC (fun hp => ?_) (fun hp => ?_)
      · refine uA ?_
        refine uQ ?_
        refine qW rfl ?_
        have hq : anyOfS l[k] ≠ 0 := by simpa using hp
        rw [zf, if_neg h0, jL hlt' ha hq]
      · refine qg ?_
        refine uA ?_
        refine ⟨_, _, ?_, qu [9, 10, 11] [] rfl rfl, k + 1, _, hlt', rfl, qt hlt' (by omega), take_ok hlt' ha (by simpa using hp), rfl⟩
        omega
    · refine qz ?_
      simp only [List.length_map, decide_eq_false_iff_not] at hlt
      have hkk : k = l.length := by omega
      subst hkk
      rw [List.take_length] at ha
      refine uA ?_
      refine uQ ?_
      refine qW rfl ?_
      simp [zf, h0, jN ha]
theorem oblS_eq (o : Obli) : (!oblS o) = (decide (o.on < 1) || decide (2 < o.on) || decide (o.kind < 1) || decide (4 < o.kind) || !wC o.arg) := by
  rw [Bool.eq_iff_iff]
  simp [oblS]
theorem obls_h (l : List Obli) (hf : ∀ x ∈ l, x.Fit) : Holds Tryz.prog 84 [jt l] (.p (pI (oblsS l))) [] := by
  refine qo (ts := [2]) Tryz.func84 (by kernel_rfl) rfl rfl rfl ?_
  refine sw_len (t := 0) (z := 3) (l := l.map Obli.pv) rfl fun hlen => ?_
  rw [List.length_map] at hlen
  unfold reachBytes at hlen
  refine uA ?_
  refine uA ?_
  rw [List.length_map]
  refine uC (fun hm => ?_) (fun hm => ?_)
  · refine uA ?_
    refine uQ ?_
    refine qW rfl ?_
    have h0 : 8 < l.length := by simp at hm; omega
    simp [oblsS, h0]
  · refine qg ?_
    have h0 : ¬ 8 < l.length := by simp at hm; omega
    refine uA ?_
    refine uB ?_
    refine uZ [8, 9, 10] [] ?_
    refine qC (fun n s => ∃ (k : Nat) (kk : Int), k ≤ l.length ∧ n = l.length - k ∧ kk = k ∧ (∀ x ∈ l.take k, (fun m => okE (oblS m)) x = 0) ∧ s = ⟨39, [(8, .p (jt l)), (9, .p (pI (l.map Obli.pv).length)), (10, .p (pI kk))], []⟩) l.length ⟨0, 0, Nat.zero_le _, rfl, rfl, by simp, rfl⟩ ?_
    rintro n s ⟨k, _, hk, rfl, rfl, ha, rfl⟩
    refine uA ?_
    refine uC (fun hlt => ?_) (fun hlt => ?_)
    · refine qg ?_
      simp only [List.length_map, decide_eq_true_eq] at hlt
      have hlt' : k < l.length := by omega
      refine uB ?_
      refine uR ?_
      refine qh qa rfl rfl (by simp only [List.length_map]; omega) rfl ?_
      rw [qx hlt']
      refine uS ?_
      refine qd ?_
      (repeat refine qF ?_); refine ql (by kernel_rfl) ?_
      repeat (refine qi qa rfl (by exact True.intro) rfl ?_)
      refine qV rfl rfl rfl rfl (name_h l[k].arg (hf _ (List.getElem_mem hlt')).arg) rfl rfl ?_
      repeat (refine qi qa rfl (by exact True.intro) rfl ?_)
      refine qH ?_
      refine uC (fun hp => ?_) (fun hp => ?_)
      · refine uA ?_
        refine uQ ?_
        refine qW rfl ?_
        have hq : okE (oblS l[k]) = 1 := by
          have := oblS_eq l[k]
          cases h1 : oblS l[k] with
          | false => rfl
          | true =>
            exfalso
            rw [h1] at this
            simp at this hp
            rcases hp with ((((h | h) | h) | h) | h) <;> first | omega | simp_all
        rw [oblsS, if_neg h0, jL (f := fun m => okE (oblS m)) hlt' ha (by rw [hq]; decide), hq]
      · refine qg ?_
        refine uA ?_
        refine ⟨_, _, ?_, qu [8, 9, 10] [] rfl rfl, k + 1, _, hlt', rfl, qt hlt' (by omega), take_ok hlt' ha ?_, rfl⟩
        · omega
        · have := oblS_eq l[k]
          cases h1 : oblS l[k] with
          | true => simp [okE, h1]
          | false =>
            exfalso
            rw [h1] at this
            simp at this hp
            rcases this with ((((h | h) | h) | h) | h) <;> first | omega | simp_all
    · refine qz ?_
      simp only [List.length_map, decide_eq_false_iff_not] at hlt
      have hkk : k = l.length := by omega
      subst hkk
      rw [List.take_length] at ha
      refine uA ?_
      refine uQ ?_
      refine qW rfl ?_
      simp [oblsS, h0, jN ha]
theorem wk_nilp {st : St} (t d : Nat) (e : TypeId) (z : Nat) (ht : lk t st.fr = some (.p (.v (.slice none 0 0)))) (hd : lk d st.own = none) (hdl : Nat.blt d 1000000 = true := by rfl) : Wk st (St.frz ⟨st.n, (t, .row d) :: st.fr, (d, .row e z []) :: st.own⟩ d z []) :=
  (jo t d e z ht hd hdl).trans (we (e := e) (by show lk d ((d, Box.row e z []) :: st.own) = _; rw [qv, if_pos rfl]))
theorem wants_h (op : Int) : Holds Tryz.prog 159 [pI op] (.tup [.p (.sl 1 (jp ((zJ op).getD []))), .p (pB (zJ op).isSome)]) [] := by
  refine qo (ts := [2,3]) Tryz.func159 (by kernel_rfl) rfl rfl rfl ?_
  refine uA ?_
  refine uB ?_
  (repeat refine qF ?_); refine ql (by kernel_rfl) ?_
  repeat (refine qi qa rfl (by exact True.intro) rfl ?_)
  refine qH ?_
  refine uC (fun h => ?_) (fun h => ?_)
  · have e : zJ op = some [] := by
      unfold zJ; rw [if_pos (by simpa using h)]
    rw [e]
    refine uA ?_
    refine uQ ?_
    exact ⟨Or.inr rfl, _, _, [], wk_nilp 2 0 4 1 rfl rfl, rfl, rfl, rfl, rfl⟩
  · have n1 : ¬ (op = 1 ∨ op = 2) := by simpa using h
    (repeat refine qF ?_); refine ql (by kernel_rfl) ?_
    repeat (refine qi qa rfl (by exact True.intro) rfl ?_)
    refine qH ?_
    refine uC (fun h => ?_) (fun h => ?_)
    · have e : zJ op = some [true] := by
        unfold zJ; rw [if_neg n1, if_pos (by simpa using h)]
      rw [e]
      refine uA ?_
      refine uQ ?_
      exact ⟨Or.inr rfl, _, _, [], we (k := 18) rfl, rfl, rfl, rfl, rfl⟩
    · have n2 : ¬ (op = 3 ∨ op = 4) := by simpa using h
      refine uA ?_
      refine uC (fun h => ?_) (fun h => ?_)
      · have e : zJ op = some [true, false] := by
          unfold zJ; rw [if_neg n1, if_neg n2, if_pos (by simpa using h)]
        rw [e]
        refine uA ?_
        refine uQ ?_
        exact ⟨Or.inr rfl, _, _, [], we (k := 22) rfl, rfl, rfl, rfl, rfl⟩
      · have n3 : ¬ op = 5 := by simpa using h
        refine uA ?_
        refine uC (fun h => ?_) (fun h => ?_)
        · have e : zJ op = some [false] := by
            unfold zJ; rw [if_neg n1, if_neg n2, if_neg n3, if_pos (by simpa using h)]
          rw [e]
          refine uA ?_
          refine uQ ?_
          exact ⟨Or.inr rfl, _, _, [], we (k := 26) rfl, rfl, rfl, rfl, rfl⟩
        · have n4 : ¬ op = 11 := by simpa using h
          (repeat refine qF ?_); refine ql (by kernel_rfl) ?_
          repeat (refine qi qa rfl (by exact True.intro) rfl ?_)
          refine qH ?_
          refine uC (fun h => ?_) (fun h => ?_)
          · have e : zJ op = some [false, false] := by
              unfold zJ; rw [if_neg n1, if_neg n2, if_neg n3, if_neg n4, if_pos (by simp at h; omega)]
            rw [e]
            refine uA ?_
            refine uQ ?_
            exact ⟨Or.inr rfl, _, _, [], we (k := 34) rfl, rfl, rfl, rfl, rfl⟩
          · have e : zJ op = none := by
              unfold zJ; rw [if_neg n1, if_neg n2, if_neg n3, if_neg n4, if_neg (by simp at h; omega)]
            rw [e]
            refine qg ?_
            refine uA ?_
            refine uQ ?_
            exact ⟨Or.inr rfl, _, _, [], wk_nilp 2 0 4 1 rfl rfl, rfl, rfl, rfl, rfl⟩
theorem noVal_eq (v : Val) : (v.kind == 0 && (v.n == 0 && v.s.toList.isEmpty)) = isNoVal v := by
  rw [wY, Bool.eq_iff_iff]
  simp [isNoVal, and_assoc]
theorem noAtr_eq (a : Atr) : (a.cat == 0 && (a.name.toList.isEmpty && !a.must)) = isNoAtr a := by
  rw [wY, Bool.eq_iff_iff]
  simp [isNoAtr, and_assoc]
theorem fields_h (n : Nod) (hn : n.Fit) : Holds Tryz.prog 160 [.agg n.pv] (.p (pB (wZ n))) [] := by
  refine qo (ts := [2]) Tryz.func160 (by kernel_rfl) rfl rfl rfl ?_
  refine uA ?_
  refine uA ?_
  refine uB ?_
  refine uA ?_
  refine uC (fun h => ?_) (fun h => ?_)
  · have h1 : n.op = 1 := by simpa using h
    (repeat refine qF ?_); refine ql (by kernel_rfl) ?_
    repeat (refine qi qa rfl (by exact True.intro) rfl ?_)
    refine qV rfl rfl rfl rfl (jF n.val hn.val.s) rfl rfl ?_
    repeat (refine qi qa rfl (by exact True.intro) rfl ?_)
    refine qi qa rfl (rfl) rfl ?_
    repeat (refine qi qa rfl (by exact True.intro) rfl ?_)
    refine qH ?_
    refine uQ ?_
    refine wJ rfl ?_
    unfold wZ
    rw [if_pos h1]
    cases n.val.right <;> simp [← noAtr_eq]
  · have n1 : ¬ n.op = 1 := by simpa using h
    refine uA ?_
    refine uC (fun h => ?_) (fun h => ?_)
    · have h2 : n.op = 2 := by simpa using h
      (repeat refine qF ?_); refine ql (by kernel_rfl) ?_
      repeat (refine qi qa rfl (by exact True.intro) rfl ?_)
      refine qV rfl rfl rfl rfl (attr_h n.attr hn.attr.name) rfl rfl ?_
      repeat (refine qi qa rfl (by exact True.intro) rfl ?_)
      refine qi qa rfl (rfl) rfl ?_
      repeat (refine qi qa rfl (by exact True.intro) rfl ?_)
      refine qH ?_
      refine uQ ?_
      refine wJ rfl ?_
      unfold wZ
      rw [if_neg n1, if_pos h2]
      cases attrS n.attr <;> simp [← noVal_eq]
    · have n2 : ¬ n.op = 2 := by simpa using h
      refine qg ?_
      (repeat refine qF ?_); refine ql (by kernel_rfl) ?_
      repeat (refine qi qa rfl (by exact True.intro) rfl ?_)
      refine qi qa rfl (rfl) rfl ?_
      repeat (refine qi qa rfl (by exact True.intro) rfl ?_)
      refine qi qa rfl (rfl) rfl ?_
      repeat (refine qi qa rfl (by exact True.intro) rfl ?_)
      refine qH ?_
      refine uQ ?_
      refine wJ rfl ?_
      unfold wZ
      rw [if_neg n1, if_neg n2]
      simp [← noVal_eq, ← noAtr_eq]
end Go.Proofs.YtlmgamnpfdgdeaaGreatDoor
namespace Go.Proofs.YtlmgamnpfdgdeaaGreatDoor
set_option linter.unusedVariables false
set_option linter.unusedSimpArgs false
open Go.RowKit
def isG (cat : Int) (name : ByteArray) (g : Giv) : Bool := decide (g.cat = cat) && decide (g.name = name)
def placeS (cat : Int) (name : ByteArray) (l : List Giv) : Int := if l.findIdx (isG cat name) < l.length then (l.findIdx (isG cat name) : Int) else -1
theorem placeS_at {cat : Int} {name : ByteArray} {l : List Giv} {k : Nat} (hk : k < l.length) (h : ∀ g ∈ l.take k, isG cat name g = false) (hg : isG cat name l[k] = true) : placeS cat name l = k := by
  have e : l.findIdx (isG cat name) = k := (List.findIdx_eq hk).2 ⟨hg, fun j hj => h _ (List.mem_take_iff_getElem.2 ⟨j, by omega, rfl⟩)⟩
  unfold placeS
  rw [e, if_pos hk]
theorem placeS_no {cat : Int} {name : ByteArray} {l : List Giv} (h : ∀ g ∈ l, isG cat name g = false) : placeS cat name l = -1 := by
  have e : l.findIdx (isG cat name) = l.length := List.findIdx_eq_length.2 h
  unfold placeS
  rw [e, if_neg (Nat.lt_irrefl _)]
def bagS (cat : Int) (name : ByteArray) (l : List Giv) : List Val := match l.find? (isG cat name) with | some g => g.bag | none => []
def getS (a : Atr) (l : List Giv) : List Val × Int := if (bagS a.cat a.name l).isEmpty && a.must then ([], 4) else (bagS a.cat a.name l, 0)
theorem bagS_no {cat : Int} {name : ByteArray} {l : List Giv} (h : ∀ g ∈ l, isG cat name g = false) : bagS cat name l = [] := by
  have : l.find? (isG cat name) = none := List.find?_eq_none.2 fun g hg => by simp [h g hg]
  simp [bagS, this]
theorem bagS_at {cat : Int} {name : ByteArray} {l : List Giv} {k : Nat} (hk : k < l.length) (h : ∀ g ∈ l.take k, isG cat name g = false) (hg : isG cat name l[k] = true) : bagS cat name l = l[k].bag := by
  have e : l = l.take k ++ l[k] :: l.drop (k + 1) := by rw [← List.drop_eq_getElem_cons hk, List.take_append_drop]
  have : l.find? (isG cat name) = some l[k] := by
    conv => lhs; rw [e]
    rw [List.find?_append, List.find?_eq_none.2 fun g hm => by simp [h g hm], List.find?_cons, hg]
    rfl
  simp [bagS, this]
theorem place_cases (cat : Int) (name : ByteArray) (l : List Giv) : (placeS cat name l = -1 ∧ bagS cat name l = [] ∧ ∀ g ∈ l, isG cat name g = false) ∨ ∃ (k : Nat) (hk : k < l.length), placeS cat name l = k ∧ bagS cat name l = l[k].bag ∧ isG cat name l[k] = true ∧ ∀ g ∈ l.take k, isG cat name g = false := by
  by_cases h : l.findIdx (isG cat name) < l.length
  · right
    have h1 : isG cat name l[l.findIdx (isG cat name)] = true := List.findIdx_getElem (w := h)
    have h2 : ∀ g ∈ l.take (l.findIdx (isG cat name)), isG cat name g = false := by
      intro g hg
      obtain ⟨j, hj, rfl⟩ := List.mem_take_iff_getElem.1 hg
      exact List.not_of_lt_findIdx (by omega)
    exact ⟨_, h, placeS_at h h2 h1, bagS_at h h2 h1, h1, h2⟩
  · left
    have h1 : l.findIdx (isG cat name) = l.length := Nat.le_antisymm List.findIdx_le_length (by omega)
    have h2 := List.findIdx_eq_length.1 h1
    exact ⟨placeS_no h2, bagS_no h2, h2⟩
def withS (l : List Giv) (g : Giv) : List Giv := if l.findIdx (isG g.cat g.name) < l.length then l.set (l.findIdx (isG g.cat g.name)) g else l ++ [g]
theorem find_set {α : Type} (p : α → Bool) (x : α) : ∀ (l : List α) (k : Nat) (hk : k < l.length), p x = false → p l[k] = false → (l.set k x).find? p = l.find? p
  | [], k, hk, _, _ => absurd hk (by simp)
  | y :: l, 0, hk, hx, hy => by
    simp only [List.getElem_cons_zero] at hy
    rw [List.set_cons_zero, List.find?_cons, List.find?_cons, hx, hy]
  | y :: l, k + 1, hk, hx, hy => by
    rw [List.set_cons_succ, List.find?_cons, List.find?_cons]
    cases p y with
    | true => rfl
    | false => exact find_set p x l k (by simpa using hk) hx (by simpa using hy)
theorem isG_same {c c' : Int} {n n' : ByteArray} {g g' : Giv} (h : isG g.cat g.name g' = true) (hn : isG c n g = false) : isG c n g' = false := by
  simp only [isG, Bool.and_eq_true, decide_eq_true_eq] at h
  rw [← hn]
  unfold isG
  rw [h.1, h.2]
theorem bagS_with (c : Int) (n : ByteArray) (l : List Giv) (g : Giv) (h : isG c n g = false) : bagS c n (withS l g) = bagS c n l := by
  unfold bagS withS
  by_cases hlt : l.findIdx (isG g.cat g.name) < l.length
  · rw [if_pos hlt]
    have h1 : isG g.cat g.name l[l.findIdx (isG g.cat g.name)] = true := List.findIdx_getElem (w := hlt)
    rw [find_set _ g l _ hlt h (isG_same (c' := 0) (n' := n) h1 h)]
  · rw [if_neg hlt, List.find?_append]
    cases hf : l.find? (isG c n) with
    | some x => rfl
    | none => simp [List.find?_cons, h]
theorem getS_with (a : Atr) (l : List Giv) (g : Giv) (h : isG a.cat a.name g = false) : getS a (withS l g) = getS a l := by
  unfold getS
  rw [bagS_with _ _ _ _ h]
end Go.Proofs.YtlmgamnpfdgdeaaGreatDoor
namespace Go.Proofs.YtlmgamnpfdgdeaaGreatDoor
set_option linter.unusedVariables false
set_option linter.unusedSimpArgs false
def hasV (l : List Val) (v : Val) : Bool := l.any fun x => jB v x
end Go.Proofs.YtlmgamnpfdgdeaaGreatDoor
namespace Go.Proofs.YtlmgamnpfdgdeaaGreatDoor
set_option linter.unusedVariables false
set_option linter.unusedSimpArgs false
open Go.RowKit
theorem wE {a : List Nod} (h : wi a = 0) (hn : a ≠ []) : zi [] a = some [false] ∧ a.length ≤ 32 := by
  unfold wi at h
  split at h
  · cases h
  · cases hs : zi [] a with
    | none => rw [hs] at h; cases h
    | some m =>
      rw [hs] at h
      simp only at h
      split at h
      · rename_i hc
        rcases hc with hc | hc
        · exact absurd hc hn
        · subst hc; exact ⟨rfl, by omega⟩
      · cases h
structure Itm where
  bag : List Val
  v : Val
  e : Int
def Itm.pv (x : Itm) : List PV := [valsP x.bag, pI x.v.kind, pI x.v.n, pS x.v.s, pI x.e]
def noItm : Itm := ⟨[], noVal, 0⟩
def itmT (b : Bool) : Itm := ⟨[], truthS b, 0⟩
def isT (v : Val) (n : Int) : Bool := jB v ⟨1, n, ⟨#[]⟩⟩
def Itm.is (x : Itm) (n : Int) : Bool := decide (x.e = 0) && isT x.v n
def qL (op : Int) : Nat := if op = 1 ∨ op = 2 then 0 else if op = 3 ∨ op = 4 ∨ op = 11 then 1 else 2
def decS (op : Int) (l : List Itm) : Bool := (decide (op = 12) || decide (op = 13)) && ((l.getD 0 noItm).is (op - 12) || (l.getD 1 noItm).is (op - 12))
def errS : List Itm → Int
  | [] => 0
  | x :: r => if x.e = 0 then errS r else x.e
def lastS (op : Int) (l : List Itm) : Itm :=
  if op = 3 then (if (l.getD 0 noItm).bag.length = 1 then ⟨[], (l.getD 0 noItm).bag.getD 0 noVal, 0⟩ else ⟨[], noVal, 4⟩)
  else if op = 4 then ⟨[], ⟨2, (l.getD 0 noItm).bag.length, ⟨#[]⟩⟩, 0⟩
  else if op = 5 then itmT (hasV (l.getD 0 noItm).bag (l.getD 1 noItm).v)
  else ⟨[], (zp op (l.map Itm.v)).1, (zp op (l.map Itm.v)).2⟩
def jJ (n : Nod) (l : List Itm) (g : List Giv) : Itm :=
  if n.op = 1 then ⟨[], n.val, 0⟩
  else if n.op = 2 then ⟨(getS n.attr g).1, noVal, (getS n.attr g).2⟩
  else if decS n.op l then itmT (decide (n.op = 13))
  else if errS l ≠ 0 then ⟨[], noVal, errS l⟩
  else lastS n.op l
def stepI (g : List Giv) (s : List Itm) (n : Nod) : List Itm := s.take (s.length - qL n.op) ++ [jJ n (s.drop (s.length - qL n.op)) g]
def evalI (g : List Giv) (l : List Nod) : List Itm := l.foldl (stepI g) []
def jz (l : List Nod) (g : List Giv) : Val × Int :=
  if l = [] ∨ wi l ≠ 0 then (noVal, 1) else (((evalI g l).getD 0 noItm).v, ((evalI g l).getD 0 noItm).e)
def condV (x : Val × Int) : Int := if (Itm.mk [] x.1 x.2).is 1 then 2 else if (Itm.mk [] x.1 x.2).is 0 then 0 else 1
def condS (l : List Nod) (g : List Giv) : Int := if l = [] then 2 else condV (jz l g)
theorem jQ {op : Int} {w : List Bool} (h : zJ op = some w) : w.length = qL op := by
  unfold zJ at h
  unfold qL
  repeat' split at h
  all_goals (cases h; try (simp; try omega))
  all_goals (try (split <;> simp_all <;> omega))
theorem stepI_len {g : List Giv} {s : List Itm} {n : Nod} {l l' : List Bool} (hl : s.length = l.length) (h : zX l n = some l') : (stepI g s n).length = l'.length ∧ qL n.op ≤ s.length := by
  unfold zX at h
  split at h
  · cases h
  · rename_i w hw
    split at h
    · rename_i hc
      cases h
      have := jQ hw
      simp only [stepI, List.length_append, List.length_take, List.length_singleton]
      omega
    · cases h
theorem evalI_len {g : List Giv} : ∀ {r : List Nod} {s : List Itm} {l l' : List Bool}, s.length = l.length → zi l r = some l' → (r.foldl (stepI g) s).length = l'.length
  | [], s, l, l', hl, h => by cases h; exact hl
  | n :: r, s, l, l', hl, h => by
    rw [zi] at h
    cases hs : zX l n with
    | none => rw [hs] at h; cases h
    | some m =>
      rw [hs] at h
      rw [List.foldl_cons]
      exact evalI_len (s := stepI g s n) (l := m) (stepI_len (g := g) hl hs).1 h
theorem evalI_one {g : List Giv} {l : List Nod} (h : wi l = 0) (hn : l ≠ []) : ∃ x, evalI g l = [x] := by
  have h1 := evalI_len (g := g) (s := []) (l := []) rfl (wE h hn).1
  exact List.length_eq_one_iff.1 h1
theorem valueS_one {g : List Giv} {l : List Nod} {x : Itm} (h : wi l = 0) (hn : l ≠ []) (hx : evalI g l = [x]) : jz l g = (x.v, x.e) := by
  unfold jz
  rw [if_neg (by simp [h, hn]), hx]; rfl
theorem nodeS_same {n : Nod} {s : List Itm} {g g' : List Giv} (h : n.op = 2 → getS n.attr g = getS n.attr g') : jJ n s g = jJ n s g' := by
  unfold jJ
  by_cases h2 : n.op = 2
  · rw [h h2]
  · simp only [h2, if_false]
theorem foldI_same {g g' : List Giv} : ∀ {l : List Nod} {s : List Itm} (_ : ∀ n ∈ l, n.op = 2 → getS n.attr g = getS n.attr g'), l.foldl (stepI g) s = l.foldl (stepI g') s
  | [], s, h => rfl
  | n :: r, s, h => by
    rw [List.foldl_cons, List.foldl_cons]
    have : stepI g s n = stepI g' s n := by unfold stepI; rw [nodeS_same (h n (by simp))]
    rw [this, foldI_same fun m hm => h m (List.mem_cons_of_mem _ hm)]
theorem valueS_same {g g' : List Giv} {l : List Nod} (h : ∀ n ∈ l, n.op = 2 → getS n.attr g = getS n.attr g') : jz l g = jz l g' := by
  unfold jz evalI
  rw [foldI_same h]
end Go.Proofs.YtlmgamnpfdgdeaaGreatDoor
namespace Go.Proofs.YtlmgamnpfdgdeaaGreatDoor
set_option linter.unusedVariables false
set_option linter.unusedSimpArgs false
open Go.RowKit
section
variable {s : ByteArray} (hs : wC s = true)
include hs
end
theorem valueS_with {l : List Nod} (g : List Giv) (x : Giv) (h : ∀ n ∈ l, n.op = 2 → isG n.attr.cat n.attr.name x = false) : jz l (withS g x) = jz l g := valueS_same fun n hn h2 => getS_with n.attr g x (h n hn h2)
end Go.Proofs.YtlmgamnpfdgdeaaGreatDoor
namespace Go.Proofs.YtlmgamnpfdgdeaaGreatDoor
set_option linter.unusedVariables false
set_option linter.unusedSimpArgs false
open Go.RowKit
def againstT (m : Mat) (v : Val) : Bool × Int :=
  if m.op = 1 then (if v.kind ≠ m.val.kind then (false, 2) else (jB v m.val, 0)) else if m.op = 2 then lessS v m.val else lessS m.val v
def okT (m : Mat) (v : Val) : Bool := (againstT m v).1
def badT (m : Mat) (v : Val) : Bool := decide ((againstT m v).2 ≠ 0)
def matchT (m : Mat) (l : List Giv) : Int :=
  if (getS m.attr l).2 ≠ 0 then 1 else if (getS m.attr l).1.any (okT m) then 2 else if (getS m.attr l).1.any (badT m) then 1 else 0
def allTT (l : List Mat) (g : List Giv) : Int := l.foldl (fun o m => min o (matchT m g)) 2
def anyTT (l : List (List Mat)) (g : List Giv) : Int := l.foldl (fun o x => max o (allTT x g)) 0
def metT (t : Tar) (g : List Giv) : Int := t.foldl (fun o x => min o (anyTT x g)) 2
abbrev Mk := Nat × Nat
def mks : List Mk := [(0, 0), (2, 0), (0, 2), (1, 0), (0, 1), (1, 1)]
def joinM (a b : Mk) : Mk := (max a.1 b.1, max a.2 b.2)
def overM (j : Mk) : Mk := if j.2 = 2 then (0, 2) else if j.2 = 1 ∧ 1 ≤ j.1 then (1, 1) else if j.2 = 1 then (0, 1) else if j.1 = 2 then (2, 0) else if j.1 = 1 then (1, 0) else (0, 0)
def turnM (j : Mk) : Mk := (j.2, j.1)
def indetM (m : Mk) : Mk := if m = (2, 0) then (1, 0) else if m = (0, 2) then (0, 1) else m
def joinL (l : List Mk) : Mk := l.foldl joinM (0, 0)
def wH : List Mk → Mk
  | [] => (0, 0)
  | m :: r => if m = (0, 0) then wH r else m
def sureM (m : Mk) : Bool := decide (m = (0, 0)) || decide (m = (2, 0)) || decide (m = (0, 2))
def stepJ (j m : Mk) : Mk := if j = (0, 0) then m else if m ≠ (0, 0) then (1, 1) else j
def onlyM : Mk → List Mk → Mk
  | j, [] => j
  | j, m :: r => if sureM m then onlyM (stepJ j m) r else (1, 1)
def unlessM (l : List Mk) (m other : Mk) : Mk := if other ∈ l then other else m
def allM (alg : Int) (l : List Mk) : Mk :=
  if alg = 1 then overM (joinL l) else if alg = 2 then turnM (overM (turnM (joinL l))) else if alg = 3 then wH l
  else if alg = 4 then onlyM (0, 0) l else if alg = 5 then unlessM l (0, 2) (2, 0) else if alg = 6 then unlessM l (2, 0) (0, 2) else (0, 0)
theorem overM_mem (j : Mk) : overM j ∈ mks := by
  unfold overM mks
  repeat' split
  all_goals simp
theorem turnM_mem {j : Mk} (h : j ∈ mks) : turnM j ∈ mks := by
  unfold mks at h ⊢
  simp only [List.mem_cons, List.not_mem_nil, or_false] at h
  rcases h with rfl | rfl | rfl | rfl | rfl | rfl <;> simp [turnM]
theorem indetM_mem {j : Mk} (h : j ∈ mks) : indetM j ∈ mks := by
  unfold mks at h ⊢
  simp only [List.mem_cons, List.not_mem_nil, or_false] at h
  rcases h with rfl | rfl | rfl | rfl | rfl | rfl <;> simp [indetM]
theorem firstM_mem : ∀ {l : List Mk}, (∀ m ∈ l, m ∈ mks) → wH l ∈ mks
  | [], _ => by simp [wH, mks]
  | m :: r, h => by
    rw [wH]
    split
    · exact firstM_mem fun x hx => h x (List.mem_cons_of_mem _ hx)
    · exact h m (by simp)
theorem onlyM_mem : ∀ {l : List Mk} {j : Mk}, j ∈ mks → (∀ m ∈ l, m ∈ mks) → onlyM j l ∈ mks
  | [], j, hj, _ => hj
  | m :: r, j, hj, h => by
    rw [onlyM]
    split
    · refine onlyM_mem ?_ fun x hx => h x (List.mem_cons_of_mem _ hx)
      unfold stepJ
      split
      · exact h m (by simp)
      · split
        · simp [mks]
        · exact hj
    · simp [mks]
theorem allM_mem {alg : Int} {l : List Mk} (h : ∀ m ∈ l, m ∈ mks) : allM alg l ∈ mks := by
  unfold allM unlessM
  repeat' split
  all_goals first | exact overM_mem _ | exact turnM_mem (overM_mem _) | exact firstM_mem h | exact onlyM_mem (by simp [mks]) h | (simp [mks])
structure Rs where
  m : Mk
  obls : List Obli
def noRs : Rs := ⟨(0, 0), []⟩
def dutyS (m : Mk) (o : Obli) : Bool := (decide (o.on = 1) && decide (m = (2, 0))) || (decide (o.on = 2) && decide (m = (0, 2)))
def jU (l : List Obli) (m : Mk) : List Obli := l.filter (dutyS m)
def effM (r : Rul) : Mk := if r.deny then (0, 2) else (2, 0)
def effectS (r : Rul) (t c : Int) : Rs :=
  if t = 0 ∨ (t = 2 ∧ c = 0) then ⟨(0, 0), []⟩ else if t = 1 ∨ c = 1 then ⟨indetM (effM r), []⟩ else ⟨effM r, jU r.obls (effM r)⟩
def ruleR (g : List Giv) (r : Rul) : Rs := effectS r (metT r.target g) (condS r.cond g)
def partsO (alg : Int) (m : Mk) : List Rs → List Obli
  | [] => []
  | x :: r => if x.m = m then (if alg = 3 then x.obls else x.obls ++ partsO alg m r) else partsO alg m r
def joinR (p : Pol) (t : Int) (parts : List Rs) : Rs :=
  if t = 0 then ⟨(0, 0), []⟩ else if t = 1 then ⟨indetM (allM p.alg (parts.map Rs.m)), []⟩
  else if allM p.alg (parts.map Rs.m) ≠ (2, 0) ∧ allM p.alg (parts.map Rs.m) ≠ (0, 2) then ⟨allM p.alg (parts.map Rs.m), []⟩
  else ⟨allM p.alg (parts.map Rs.m), partsO p.alg (allM p.alg (parts.map Rs.m)) parts ++ jU p.obls (allM p.alg (parts.map Rs.m))⟩
def qE (g : List Giv) : Nat → Pol → Rs
  | 0, _ => noRs
  | n + 1, p => if metT p.target g = 0 then noRs else joinR p (metT p.target g) (p.rules.map (ruleR g) ++ p.kids.map (qE g n))
def evalS (p : Pol) (g : List Giv) : Rs × Int := if wG p = 0 then (qE g 4 p, 0) else (noRs, 1)
theorem effM_mem (r : Rul) : effM r ∈ mks := by unfold effM mks; split <;> simp
theorem effectS_mem (r : Rul) (t c : Int) : (effectS r t c).m ∈ mks := by
  unfold effectS
  repeat' split
  · simp [mks]
  · exact indetM_mem (effM_mem r)
  · exact effM_mem r
theorem joinR_mem {p : Pol} {t : Int} {l : List Rs} (h : ∀ x ∈ l, x.m ∈ mks) : (joinR p t l).m ∈ mks := by
  have h0 : allM p.alg (l.map Rs.m) ∈ mks := allM_mem fun m hm => by
    obtain ⟨x, hx, rfl⟩ := List.mem_map.1 hm
    exact h x hx
  unfold joinR
  repeat' split
  · simp [mks]
  · exact indetM_mem h0
  · exact h0
  · exact h0
theorem decideS_mem (g : List Giv) : ∀ (n : Nat) (p : Pol), (qE g n p).m ∈ mks
  | 0, _ => by simp [qE, noRs, mks]
  | n + 1, p => by
    rw [qE]
    split
    · simp [noRs, mks]
    · refine joinR_mem fun x hx => ?_
      rcases List.mem_append.1 hx with hx | hx
      · obtain ⟨r, _, rfl⟩ := List.mem_map.1 hx
        exact effectS_mem _ _ _
      · obtain ⟨k, _, rfl⟩ := List.mem_map.1 hx
        exact decideS_mem g n k
def Rs.ok (x : Rs) : Prop := x.m ∈ mks ∧ (x.m ≠ (2, 0) → x.m ≠ (0, 2) → x.obls = [])
end Go.Proofs.YtlmgamnpfdgdeaaGreatDoor
namespace Go.Proofs.YtlmgamnpfdgdeaaGreatDoor
set_option linter.unusedVariables false
set_option linter.unusedSimpArgs false
def Wlk.le (w v : Wlk) : Prop := (∀ s, hasS w.met s = true → hasS v.met s = true) ∧ w.rules ≤ v.rules
theorem Wlk.le_refl (w : Wlk) : w.le w := ⟨fun _ h => h, Int.le_refl _⟩
theorem seqS_each {α : Type} {f : Wlk → α → Int × Wlk} {Q : α → Prop} (hf : ∀ w x, (f w x).1 = 0 → Q x) : ∀ {l : List α} {w : Wlk}, (seqS f w l).1 = 0 → ∀ x ∈ l, Q x
  | [], w, _, x, hx => by simp at hx
  | y :: r, w, h0, x, hx => by
    rw [seqS] at h0
    by_cases hy : (f w y).1 = 0
    · rw [if_pos hy] at h0
      rcases List.mem_cons.1 hx with rfl | hx
      · exact hf w _ hy
      · exact seqS_each hf h0 x hx
    · rw [if_neg hy] at h0; exact absurd h0 hy
theorem ruleS_lim {w : Wlk} {r : Rul} (hw : 0 ≤ w.rules ∧ w.rules ≤ 64) (h : (wg w r).1 = 0) : 0 ≤ (wg w r).2.rules ∧ (wg w r).2.rules ≤ 64 := by
  unfold wg at h ⊢
  split at h
  · rename_i hn
    rw [if_pos hn]
    simp only at h ⊢
    split at h
    · cases h
    · omega
  · cases h
theorem seqS_lim {α : Type} {f : Wlk → α → Int × Wlk} {P : Wlk → Prop} (hf : ∀ w x, P w → (f w x).1 = 0 → P (f w x).2) : ∀ {l : List α} {w : Wlk}, P w → (seqS f w l).1 = 0 → P (seqS f w l).2
  | [], w, hw, _ => hw
  | x :: r, w, hw, h => by
    rw [seqS] at h ⊢
    by_cases h0 : (f w x).1 = 0
    · rw [if_pos h0] at h ⊢
      exact seqS_lim hf (hf w x hw h0) h
    · rw [if_neg h0] at h; exact absurd h h0
abbrev lim (w : Wlk) : Prop := 0 ≤ w.rules ∧ w.rules ≤ 64
theorem polS_lim : ∀ (n : Nat) (w : Wlk) (p : Pol), lim w → (polS n w p).1 = 0 → lim (polS n w p).2
  | 0, w, p, _, h => by cases h
  | n + 1, w, p, hw, h => by
    have h1 : lim (headS w p).2 := hw
    rw [polS] at h ⊢
    split at h
    · rename_i h2
      rw [if_pos h2]
      split at h
      · rename_i h3
        rw [if_pos h3]
        exact seqS_lim (P := lim) (fun w x hw h => polS_lim n w x hw h) (seqS_lim (P := lim) (fun w x hw h => ruleS_lim hw h) h1 h3) h
      · rename_i h3; exact absurd h h3
    · rename_i h2; exact absurd h h2
end Go.Proofs.YtlmgamnpfdgdeaaGreatDoor
namespace Go.Proofs.YtlmgamnpfdgdeaaGreatDoor
set_option linter.unusedVariables false
set_option linter.unusedSimpArgs false
open Go.RowKit
mutual
def Pol.nr : Pol → Nat
  | .mk _ _ _ _ rs ks _ => rs.length + Pol.nrs ks
def Pol.nrs : List Pol → Nat
  | [] => 0
  | k :: ks => k.nr + Pol.nrs ks
end
theorem sumBy_take {α : Type} (f : α → Nat) (l : List α) (k : Nat) : za f (l.take k) ≤ za f l := by
  have h : za f (l.take k ++ l.drop k) = za f (l.take k) + za f (l.drop k) := by simp only [za, List.map_append, List.sum_append]
  rw [List.take_append_drop] at h
  omega
def Dp : Nat → Pol → Prop
  | 0, _ => False
  | n + 1, p => ∀ k ∈ p.kids, Dp n k
theorem polS_kids {n : Nat} {w : Wlk} {p : Pol} (h : (polS (n + 1) w p).1 = 0) : (headS w p).1 = 0 ∧ (seqS wg (headS w p).2 p.rules).1 = 0 ∧ (seqS (polS n) (seqS wg (headS w p).2 p.rules).2 p.kids).1 = 0 := by
  rw [polS] at h
  split at h
  · rename_i h2
    split at h
    · rename_i h3; exact ⟨h2, h3, h⟩
    · rename_i h3; exact absurd h h3
  · rename_i h2; exact absurd h h2
theorem polS_dp : ∀ (n : Nat) {w : Wlk} {p : Pol}, (polS n w p).1 = 0 → Dp n p
  | 0, w, p, h => by cases h
  | n + 1, w, p, h => seqS_each (fun w x h => polS_dp n h) (polS_kids h).2.2
end Go.Proofs.YtlmgamnpfdgdeaaGreatDoor
namespace Go.Proofs.YtlmgamnpfdgdeaaGreatDoor
set_option linter.unusedVariables false
set_option linter.unusedSimpArgs false
open Go.RowKit
theorem decideS_dp (g : List Giv) : ∀ {n : Nat} {p : Pol}, Dp n p → ∀ {m : Nat}, n ≤ m → qE g m p = qE g n p
  | n + 1, p, h, m + 1, hm => by
    have e : p.kids.map (qE g m) = p.kids.map (qE g n) := List.map_congr_left fun k hk => decideS_dp g (h k hk) (by omega)
    rw [qE, qE, e]
theorem right_dp {p : Pol} (h : wG p = 0) : Dp 4 p := polS_dp 4 h
end Go.Proofs.YtlmgamnpfdgdeaaGreatDoor
namespace Go.Proofs.YtlmgamnpfdgdeaaGreatDoor
set_option linter.unusedVariables false
set_option linter.unusedSimpArgs false
open Go.RowKit
set_option maxHeartbeats 1000000
def stepR : Option (List Bool) → SV
  | some _ => .tup [.row 0, .p (pB true)]
  | none => .tup [.p (.v (.slice none 0 0)), .p (pB false)]
def stepO : Option (List Bool) → List (Nat × Box)
  | some l => [(0, .row 4 1 (jp l))]
  | none => []
theorem step_h (l : List Bool) (hl : l.length ≤ 1000000) (n : Nod) (hn : n.Fit) : zE Tryz.prog 118 [.row 1000000, .p (.agg n.pv)] [(1000000, .row 4 1 (jp l))] (stepR (zX l n)) (stepO (zX l n)) := by
  have H1 := wants_h n.op
  cases hw : zJ n.op with
  | none =>
    rw [hw] at H1
    simp only [Option.getD_none, Option.isSome_none] at H1
    have e : zX l n = none := by simp [zX, hw]
    rw [e]
    refine zI (ts := [4,5]) Tryz.func118 (by kernel_rfl) rfl rfl rfl ?_
    refine uA ?_
    refine uR ?_
    refine uO H1 ?_
    refine qd ?_
    (repeat refine qF ?_); refine ql (by kernel_rfl) ?_
    repeat (refine qi qa rfl (by exact True.intro) rfl ?_)
    refine qV rfl rfl rfl rfl (fields_h n hn) rfl rfl ?_
    repeat (refine qi qa rfl (by exact True.intro) rfl ?_)
    refine qH ?_
    refine uC (fun h => ?_) (fun h => ?_)
    · refine uA ?_
      refine uQ ?_
      exact uF []
    · simp at h
  | some w =>
    rw [hw] at H1
    simp only [Option.getD_some, Option.isSome_some] at H1
    have hwl : w.length ≤ 2 := by
      unfold zJ at hw
      repeat' split at hw
      all_goals (cases hw; try simp)
    refine zI (ts := [4,5]) Tryz.func118 (by kernel_rfl) rfl rfl rfl ?_
    refine uA ?_
    refine uR ?_
    refine uO H1 ?_
    refine qd ?_
    (repeat refine qF ?_); refine ql (by kernel_rfl) ?_
    repeat (refine qi qa rfl (by exact True.intro) rfl ?_)
    refine qV rfl rfl rfl rfl (fields_h n hn) rfl rfl ?_
    repeat (refine qi qa rfl (by exact True.intro) rfl ?_)
    refine qH ?_
    have ll : (jp l).length = l.length := by simp [jp]
    have lw : (jp w).length = w.length := by simp [jp]
    refine uC (fun h => ?_) (fun h => ?_)
    · have e : zX l n = none := by
        simp only [zX, hw]
        rw [if_neg]
        intro ⟨h1, h2, _⟩
        simp [h1, ll, lw] at h
        omega
      rw [e]
      refine uA ?_
      refine uQ ?_
      exact uF []
    · have hf : wZ n = true := by
        cases hq : wZ n with
        | true => rfl
        | false => simp [hq] at h
      have hle : w.length ≤ l.length := by
        simp [hf, ll, lw] at h
        omega
      obtain ⟨left, hleft⟩ : ∃ left : Nat, left = l.length - w.length := ⟨_, rfl⟩
      refine qg ?_
      refine uA ?_
      refine uA ?_
      refine uB ?_
      refine uZ [0, 3, 8, 36, 37, 38] [(1000000, 1000000), (3, 3)] ?_
      refine qC (fun m s => ∃ (k : Nat) (kk L : Int), k ≤ w.length ∧ m = w.length - k ∧ kk = k ∧ L = left ∧ (l.drop left).take k = w.take k ∧ s = ⟨60, [(0, .row 1000000), (3, .ptr 3 0), (8, .p (pI L)), (36, .p (.sl 1 (jp w))), (37, .p (pI (jp w).length)), (38, .p (pI kk))], [(1000000, .row 4 1 (jp l)), (3, .cells (n.pv.map .p))]⟩) w.length ⟨0, 0, _, Nat.zero_le _, rfl, rfl, ?_, by simp, rfl⟩ ?_
      · show IntKind.i64.wrap (((jp l).length : Int) - (jp w).length) = _
        rw [ll, lw, IntWalk.i64_in _ (by omega)]; omega
      rintro m s ⟨k, _, _, hk, rfl, rfl, rfl, ha, rfl⟩
      refine uA ?_
      refine uC (fun hlt => ?_) (fun hlt => ?_)
      · refine qg ?_
        rw [lw] at hlt
        simp only [decide_eq_true_eq] at hlt
        have hlt' : k < w.length := by omega
        have hk2 : left + k < l.length := by omega
        refine uB ?_
        refine uR ?_
        refine qh qa rfl rfl (by rw [lw]; omega) rfl ?_
        rw [show (jp w).getD (Int.toNat (k : Int)) [] = [pB w[k]] from qx hlt']
        refine uS ?_
        refine qd ?_
        refine uR ?_
        have ew : IntKind.i64.wrap ((left : Int) + k) = ((left + k : Nat) : Int) := by rw [IntWalk.i64_in _ (by omega)]; omega
        rw [ew]
        refine qh qa rfl rfl (by rw [ll]; omega) rfl ?_
        refine uS ?_
        refine qh qa rfl (qP rfl rfl rfl rfl rfl (show (jp l).getD (Int.toNat ((left + k : Nat) : Int)) [] = [pB l[left + k]] from qx hk2) rfl) (by rw [ll]; simp; omega) rfl ?_
        refine uS ?_
        refine qd ?_
        refine uC (fun hp => ?_) (fun hp => ?_)
        · have e : zX l n = none := by
            simp only [zX, hw]
            rw [if_neg]
            intro ⟨_, _, h3⟩
            rw [← hleft] at h3
            have h4 : w[k] = l[left + k] := by
              have := congrArg (fun x => x[k]?) h3
              simp only [List.getElem?_drop] at this
              rw [List.getElem?_eq_getElem hk2, List.getElem?_eq_getElem hlt'] at this
              exact (Option.some.inj this).symm
            rw [h4] at hp
            simp at hp
          rw [e]
          refine uA ?_
          refine uQ ?_
          exact uF []
        · refine qg ?_
          refine uA ?_
          refine ⟨_, _, ?_, qu [0, 3, 8, 36, 37, 38] [(1000000, 1000000), (3, 3)] rfl rfl, k + 1, _, _, hlt', rfl, qt hlt' (by omega), rfl, ?_, rfl⟩
          · omega
          · have h4 : l[left + k] = w[k] := by simpa using hp
            rw [List.take_succ_eq_append_getElem hlt', List.take_succ_eq_append_getElem (by simp; omega), ha, List.getElem_drop, h4]
      · refine qz ?_
        rw [lw] at hlt
        simp only [decide_eq_false_iff_not] at hlt
        have hkk : k = w.length := by omega
        subst hkk
        have hd : l.drop left = w := by
          rw [List.take_length] at ha
          rw [← ha, List.take_of_length_le (by simp; omega)]
        have e : zX l n = some (l.take left ++ [decide (n.op = 2)]) := by
          simp only [zX, hw]
          rw [if_pos ⟨hf, hle, by rw [← hleft]; exact hd⟩, hleft]
        rw [e]
        refine uD [1000000] [1, 3, 5, 7, 9, 11, 12, 14, 17, 19] ?_
        refine qG qa rfl rfl rfl (by rw [ll]; omega) rfl ?_
        refine uT ?_
        refine swm_act rfl rfl rfl (ActOk.shrink 54 999 rfl rfl rfl rfl (qr qa rfl rfl rfl rfl rfl rfl rfl rfl rfl rfl rfl rfl rfl rfl rfl rfl (by simp [reachBytes, jp]; omega) (by simp [jp]; omega) ?_))
        refine uT ?_
        refine wd ?_
        refine uQ ?_
        have e2 : List.take (Int.toNat (left : Int)) (jp l) ++ [[pB (n.op == 2)]] = jp (l.take left ++ [decide (n.op = 2)]) := by
          have : (n.op == 2) = decide (n.op = 2) := by rw [Bool.eq_iff_iff]; simp
          rw [this]
          simp [jp, List.map_take]
        refine ⟨Or.inr rfl, _, _, [(59, 0)], Wk.refl _, rfl, rfl, ?_, rfl⟩
        show some [(0, Box.row 4 1 (List.take (Int.toNat (left : Int)) (jp l) ++ [[pB (n.op == 2)]]))] = _
        rw [e2]; rfl
theorem wW : ∀ {l : List Nod} {a m : List Bool} {k : Nat} (hk : k < l.length), zi a (l.take k) = some m → zi a (l.take (k + 1)) = zX m l[k]
  | n :: r, a, m, 0, _, h => by
    simp [zi] at h
    subst h
    simp only [Nat.zero_add, List.take_succ_cons, List.take_zero, zi, List.getElem_cons_zero]
    cases zX a n <;> rfl
  | n :: r, a, m, k + 1, hk, h => by
    rw [List.take_succ_cons, zi] at h ⊢
    cases hs : zX a n with
    | none => rw [hs] at h; cases h
    | some b =>
      rw [hs] at h
      simp only at h ⊢
      rw [wW (by simpa using hk) h]; rfl
theorem wT : ∀ {l : List Nod} {a : List Bool} (k : Nat), zi a (l.take k) = none → zi a l = none
  | [], a, k, h => by simp [zi] at h
  | n :: r, a, 0, h => by simp [zi] at h
  | n :: r, a, k + 1, h => by
    rw [List.take_succ_cons, zi] at h
    rw [zi]
    cases hs : zX a n with
    | none => rfl
    | some b => rw [hs] at h; simp only at h ⊢; exact wT k h
theorem stepS_len {l l' : List Bool} {n : Nod} (h : zX l n = some l') : l'.length ≤ l.length + 1 := by
  unfold zX at h
  split at h
  · cases h
  · split at h
    · cases h; simp
    · cases h
theorem expr_h (l : List Nod) (hf : ∀ x ∈ l, x.Fit) : Holds Tryz.prog 85 [nodsP l] (.p (pI (wi l))) [] := by
  refine qo (ts := [2]) Tryz.func85 (by kernel_rfl) rfl rfl rfl ?_
  refine sw_len (t := 0) (z := 7) (l := l.map Nod.pv) rfl fun hlen => ?_
  rw [List.length_map] at hlen
  unfold reachBytes at hlen
  have lm : (l.map Nod.pv).length = l.length := by simp
  refine uA ?_
  refine uA ?_
  rw [lm]
  refine uC (fun h => ?_) (fun h => ?_)
  · refine uA ?_
    refine uQ ?_
    refine qW rfl ?_
    have h0 : 32 < l.length := by simp at h; omega
    simp [wi, h0]
  · have h0 : ¬ 32 < l.length := by simp at h; omega
    refine qg ?_
    refine uA ?_
    refine uA ?_
    refine uA ?_
    refine uB ?_
    refine SW.wk (jo 3 900 4 1 rfl rfl) ?_
    refine uZ [0, 3, 10, 11, 12] [(900, 0)] ?_
    refine qC (fun m s => ∃ (k : Nat) (kk : Int) (made : List Bool), k ≤ l.length ∧ m = l.length - k ∧ kk = k ∧ zi [] (l.take k) = some made ∧ made.length ≤ k ∧ s = ⟨38, [(0, .p (nodsP l)), (3, .row 0), (10, .p (nodsP l)), (11, .p (pI l.length)), (12, .p (pI kk))], [(0, .row 4 1 (jp made))]⟩) l.length ⟨0, 0, [], Nat.zero_le _, rfl, rfl, by simp [zi], Nat.le_refl _, by rw [← lm]; rfl⟩ ?_
    rintro m s ⟨k, _, made, hk, rfl, rfl, ha, hml, rfl⟩
    refine uA ?_
    refine uC (fun hlt => ?_) (fun hlt => ?_)
    · refine qg ?_
      simp only [decide_eq_true_eq] at hlt
      have hlt' : k < l.length := by omega
      have hst := wW hlt' ha
      refine uB ?_
      refine uR ?_
      refine qh qa rfl rfl (by rw [lm]; omega) rfl ?_
      rw [qx hlt']
      refine uS ?_
      refine qd ?_
      have H := step_h made (by omega) l[k] (hf _ (List.getElem_mem hlt'))
      cases hs : zX made l[k] with
      | none =>
        rw [hs] at H
        refine uR ?_
        refine uW [(0, 1000000)] H ?_
        refine qd ?_
        refine uA ?_
        refine uC (fun h => ?_) (fun h => ?_)
        · refine uA ?_
          refine uQ ?_
          refine qW rfl ?_
          rw [wi, if_neg h0, wT (k + 1) (by rw [hst, hs])]
        · cases h
      | some l' =>
        rw [hs] at H
        refine uR ?_
        refine uW [(0, 1000000)] H ?_
        refine qd ?_
        refine uA ?_
        refine uC (fun h => ?_) (fun h => ?_)
        · cases h
        · refine qg ?_
          refine uA ?_
          refine ⟨_, _, ?_, qu [0, 3, 10, 11, 12] [(20000, 0)] rfl rfl, k + 1, _, l', hlt', rfl, qt hlt' (by omega), by rw [hst, hs], ?_, rfl⟩
          · omega
          · have := stepS_len hs; omega
    · refine qz ?_
      simp only [decide_eq_false_iff_not] at hlt
      have hkk : k = l.length := by omega
      subst hkk
      rw [List.take_length] at ha
      have ex : wi l = if l = [] ∨ made = [false] then 0 else 1 := by rw [wi, if_neg h0, ha]
      cases l with
      | nil =>
        refine uA ?_
        refine uC (fun h => ?_) (fun h => ?_)
        · cases h
        · refine qg ?_
          refine uA ?_
          refine uQ ?_
          exact qW rfl (by rw [ex]; rfl)
      | cons n r =>
        refine uR ?_
        rw [show decide ((((n :: r).map Nod.pv).length : Int) > 0) = true by simp]
        refine uS ?_
        by_cases h1 : made.length = 1
        · obtain ⟨b, rfl⟩ : ∃ b, made = [b] := List.length_eq_one_iff.1 h1
          refine uS ?_
          refine qh qa rfl rfl (by simp [jp]) rfl ?_
          refine uS ?_
          refine qh qa rfl rfl (by simp [jp]) rfl ?_
          refine uS ?_
          refine qd ?_
          refine uC (fun h => ?_) (fun h => ?_)
          · have hb : b = true := by simpa [jp] using h
            refine uA ?_
            refine uQ ?_
            exact qW rfl (by rw [ex, hb]; rfl)
          · have hb : b = false := by simpa [jp] using h
            refine qg ?_
            refine uA ?_
            refine uQ ?_
            exact qW rfl (by rw [ex, hb]; rfl)
        · rw [show (((jp made).length : Int) != 1) = true by simp [jp]; omega]
          refine uS ?_
          refine qd ?_
          refine uC (fun h => ?_) (fun h => ?_)
          · refine uA ?_
            refine uQ ?_
            exact qW rfl (by rw [ex, if_neg (by rintro (h | rfl); cases h; exact h1 rfl)])
          · cases h
end Go.Proofs.YtlmgamnpfdgdeaaGreatDoor
namespace Go.Proofs.YtlmgamnpfdgdeaaGreatDoor
set_option linter.unusedVariables false
set_option linter.unusedSimpArgs false
open Go.RowKit
set_option maxHeartbeats 2000000
def ents (m : List ByteArray) : List (Value × PV) := m.map fun s => (.string s, .agg [])
def wlkO (w : Wlk) : List (Nat × Box) := [(1000000, .cells [.row 1000001, .p (pI w.rules)]), (1000001, .mp (ents w.met))]
abbrev wlkR : List (Nat × Nat) := [(1000000, 1000000), (1000001, 1000001)]
theorem ents_ok : ∀ m : List ByteArray, (ents m).all (fun x => kdOk .str x.1) = true
  | [] => rfl
  | s :: m => by
    have := ents_ok m
    simp only [ents, List.map_cons, List.all_cons, Bool.and_eq_true] at this ⊢
    exact ⟨rfl, this⟩
theorem mfind_ents (s : ByteArray) : ∀ m : List ByteArray, mfind (.string s) (ents m) = if hasS m s then some (.agg []) else none
  | [] => rfl
  | t :: m => by
    have ih := mfind_ents s m
    show (bif keyEq (.string s) (.string t) then some (PV.agg []) else mfind (.string s) (ents m)) = _
    rw [ih]
    by_cases e : s = t
    · subst e; simp [keyEq, hasS]
    · have e' : ∀ i : Decidable (s = t), @decide (s = t) i = false := fun i => by
        cases i with
        | isTrue h => exact absurd h e
        | isFalse h => rfl
      rw [show keyEq (.string s) (.string t) = false from e' _]
      unfold hasS
      rw [List.any_cons, e', cond_false, Bool.false_or]
theorem ents_snoc (m : List ByteArray) (s : ByteArray) : ents m ++ [(.string s, .agg [])] = ents (m ++ [s]) := by simp [ents]
theorem wname_h (m : List ByteArray) (n : Int) (s : ByteArray) (hs : s.size ≤ reachBytes) : zE Tryz.prog 82 [.ptr 1000000 0, .p (pS s)] (wlkO ⟨m, n⟩) (.p (pB (jT m s))) (wlkO ⟨nameM m s, n⟩) := by
  by_cases hm : hasS m s = true
  · have e1 : jT m s = false := by simp [jT, hm]
    have e2 : nameM m s = m := by simp [nameM, e1]
    rw [e1, e2]
    refine zI (ts := [4]) Tryz.func82 (by kernel_rfl) rfl rfl rfl ?_
    refine uA ?_
    refine uR ?_
    refine qh qa rfl rfl (ents_ok m) rfl ?_
    rw [mfind_ents, if_pos hm]
    refine uS ?_
    refine qd ?_
    (repeat refine qF ?_); refine ql (by kernel_rfl) ?_
    repeat (refine qi qa rfl (by exact True.intro) rfl ?_)
    refine qV rfl rfl rfl rfl (name_h s hs) rfl rfl ?_
    repeat (refine qi qa rfl (by exact True.intro) rfl ?_)
    refine qH ?_
    refine uC (fun h => ?_) (fun h => ?_)
    · refine uA ?_
      refine uQ ?_
      exact ⟨Or.inr rfl, _, _, wlkR, Wk.refl _, rfl, rfl, rfl, rfl⟩
    · cases h
  · refine zI (ts := [4]) Tryz.func82 (by kernel_rfl) rfl rfl rfl ?_
    refine uA ?_
    refine uR ?_
    refine qh qa rfl rfl (ents_ok m) rfl ?_
    rw [mfind_ents, if_neg hm]
    refine uS ?_
    refine qd ?_
    (repeat refine qF ?_); refine ql (by kernel_rfl) ?_
    repeat (refine qi qa rfl (by exact True.intro) rfl ?_)
    refine qV rfl rfl rfl rfl (name_h s hs) rfl rfl ?_
    repeat (refine qi qa rfl (by exact True.intro) rfl ?_)
    refine qH ?_
    refine uC (fun h => ?_) (fun h => ?_)
    · have e0 : wC s = false := by simpa using h
      have e1 : jT m s = false := by simp [jT, e0]
      have e2 : nameM m s = m := by simp [nameM, e1]
      rw [e1, e2]
      refine uA ?_
      refine uQ ?_
      exact ⟨Or.inr rfl, _, _, wlkR, Wk.refl _, rfl, rfl, rfl, rfl⟩
    · have e0 : wC s = true := by simpa using h
      have e1 : jT m s = true := by simp [jT, e0, hm]
      have e2 : nameM m s = m ++ [s] := by simp [nameM, e1]
      rw [e1, e2]
      refine qg ?_
      refine uR ?_
      refine qI rfl (act_mapUpdate qa rfl rfl rfl rfl rfl rfl rfl rfl rfl (ents_ok m) (by rw [mfind_ents, if_neg hm]) rfl ?_)
      rw [ents_snoc]
      refine uS ?_
      refine qd ?_
      refine uA ?_
      refine uQ ?_
      exact ⟨Or.inr rfl, _, _, wlkR, Wk.refl _, rfl, rfl, rfl, rfl⟩
def TarFit (t : Tar) : Prop := ∀ x ∈ t, ∀ y ∈ x, ∀ m ∈ y, m.Fit
structure RulFit (r : Rul) : Prop where
  id : r.id.size ≤ reachBytes
  tgt : TarFit r.target
  cond : ∀ n ∈ r.cond, n.Fit
  obls : ∀ o ∈ r.obls, o.Fit
theorem wrule_h (w : Wlk) (hw : 0 ≤ w.rules ∧ w.rules ≤ 64) (r : Rul) (hr : RulFit r) : zE Tryz.prog 56 [.ptr 1000000 0, .p (.agg (jl r))] (wlkO w) (.p (pI (wg w r).1)) (wlkO (wg w r).2) := by
  have H := wname_h w.met w.rules r.id hr.id
  cases hn : jT w.met r.id with
  | false =>
    have e : wg w r = (1, w) := by simp [wg, hn]
    have e2 : nameM w.met r.id = w.met := by simp [nameM, hn]
    rw [hn, e2] at H
    rw [e]
    refine zI (ts := [4]) Tryz.func56 (by kernel_rfl) rfl rfl rfl ?_
    refine uA ?_
    refine uR ?_
    refine uW wlkR H ?_
    refine qd ?_
    refine uC (fun h => ?_) (fun h => ?_)
    · refine uA ?_
      refine uQ ?_
      exact ⟨Or.inr rfl, _, _, wlkR, Wk.refl _, rfl, rfl, rfl, rfl⟩
    · cases h
  | true =>
    have e2 : nameM w.met r.id = w.met ++ [r.id] := by simp [nameM, hn]
    rw [hn, e2] at H
    have e : wg w r = (if 64 < w.rules + 1 then 6 else ruleE r, ⟨w.met ++ [r.id], w.rules + 1⟩) := by simp [wg, hn]
    rw [e]
    refine zI (ts := [4]) Tryz.func56 (by kernel_rfl) rfl rfl rfl ?_
    refine uA ?_
    refine uR ?_
    refine uW wlkR H ?_
    refine qd ?_
    refine uC (fun h => ?_) (fun h => ?_)
    · cases h
    · refine qg ?_
      refine uA ?_
      rw [show IntKind.i64.wrap (w.rules + 1) = w.rules + 1 from IntWalk.i64_in _ (by omega)]
      refine uA ?_
      refine uC (fun h => ?_) (fun h => ?_)
      · have h1 : 64 < w.rules + 1 := by simp at h; omega
        rw [if_pos h1]
        refine uA ?_
        refine uQ ?_
        exact ⟨Or.inr rfl, _, _, wlkR, Wk.refl _, rfl, rfl, rfl, rfl⟩
      · have h1 : ¬ 64 < w.rules + 1 := by simp at h; omega
        rw [if_neg h1]
        unfold ruleE
        refine qg ?_
        refine uR ?_
        refine uK (target_h r.target hr.tgt) ?_
        refine qd ?_
        refine uA ?_
        refine uC (fun h => ?_) (fun h => ?_)
        · have h2 : ¬ zf r.target = 0 := by simpa using h
          rw [if_neg h2]
          refine uA ?_
          refine uQ ?_
          exact ⟨Or.inr rfl, _, _, wlkR, Wk.refl _, rfl, rfl, rfl, rfl⟩
        · have h2 : zf r.target = 0 := by simpa using h
          rw [if_pos h2]
          refine qg ?_
          refine uR ?_
          refine uK (expr_h r.cond hr.cond) ?_
          refine qd ?_
          refine uA ?_
          refine uC (fun h => ?_) (fun h => ?_)
          · have h3 : ¬ wi r.cond = 0 := by simpa using h
            rw [if_neg h3]
            refine uA ?_
            refine uQ ?_
            exact ⟨Or.inr rfl, _, _, wlkR, Wk.refl _, rfl, rfl, rfl, rfl⟩
          · have h3 : wi r.cond = 0 := by simpa using h
            rw [if_pos h3]
            refine qg ?_
            refine uR ?_
            refine uK (obls_h r.obls hr.obls) ?_
            refine qd ?_
            refine uQ ?_
            exact ⟨Or.inr rfl, _, _, wlkR, Wk.refl _, rfl, rfl, rfl, rfl⟩
mutual
def polP : Pol → List PV
  | .mk id set alg target rules kids obls => [pS id, pB set, pI alg, tgtP target, .sl 5 (rules.map jl), .sl 7 (polPs kids), jt obls]
def polPs : List Pol → List (List PV)
  | [] => []
  | k :: r => polP k :: polPs r
end
theorem polPs_eq : ∀ l : List Pol, polPs l = l.map polP
  | [] => rfl
  | k :: r => by rw [polPs, polPs_eq r]; rfl
theorem zh (p : Pol) : polP p = [pS p.id, pB p.set, pI p.alg, tgtP p.target, .sl 5 (p.rules.map jl), .sl 7 (p.kids.map polP), jt p.obls] := by
  cases p
  rw [polP, polPs_eq]; rfl
structure HeadFit (p : Pol) : Prop where
  id : p.id.size ≤ reachBytes
  tgt : TarFit p.target
  rules : ∀ r ∈ p.rules, RulFit r
  obls : ∀ o ∈ p.obls, o.Fit
  nr : p.rules.length ≤ reachBytes
  nk : p.kids.length ≤ reachBytes
theorem whead_h (w : Wlk) (p : Pol) (hp : HeadFit p) : zE Tryz.prog 55 [.ptr 1000000 0, .p (.agg (polP p))] (wlkO w) (.p (pI (headS w p).1)) (wlkO (headS w p).2) := by
  have H := wname_h w.met w.rules p.id hp.id
  have l1 : ((p.rules.map jl).length) = p.rules.length := by simp
  have l2 : ((p.kids.map polP).length) = p.kids.length := by simp
  rw [zh]
  unfold headS
  cases hn : jT w.met p.id with
  | false =>
    rw [hn] at H
    simp only [Bool.false_and, Bool.false_eq_true, if_false]
    refine zI (ts := [4]) Tryz.func55 (by kernel_rfl) rfl rfl rfl ?_
    refine uA ?_
    refine uR ?_
    refine uW wlkR H ?_
    refine qd ?_
    refine uC (fun h => ?_) (fun h => ?_)
    · refine uA ?_
      refine uQ ?_
      exact ⟨Or.inr rfl, _, _, wlkR, Wk.refl _, rfl, rfl, rfl, rfl⟩
    · cases h
  | true =>
    rw [hn] at H
    refine zI (ts := [4]) Tryz.func55 (by kernel_rfl) rfl rfl rfl ?_
    refine uA ?_
    refine uR ?_
    refine uW wlkR H ?_
    by_cases h1 : p.alg < 1
    · rw [show decide (p.alg < 1) = true from decide_eq_true h1]
      refine uS ?_
      refine qd ?_
      refine uC (fun h => ?_) (fun h => ?_)
      · rw [if_neg (by simp; omega)]
        refine uA ?_
        refine uQ ?_
        exact ⟨Or.inr rfl, _, _, wlkR, Wk.refl _, rfl, rfl, rfl, rfl⟩
      · cases h
    · rw [show decide (p.alg < 1) = false from decide_eq_false h1]
      refine uS ?_
      refine qd ?_
      refine uC (fun h => ?_) (fun h => ?_)
      · have h2 : 6 < p.alg := by simpa using h
        rw [if_neg (by simp; omega)]
        refine uA ?_
        refine uQ ?_
        exact ⟨Or.inr rfl, _, _, wlkR, Wk.refl _, rfl, rfl, rfl, rfl⟩
      · have h2 : ¬ 6 < p.alg := by simpa using h
        rw [if_pos (by simp; omega)]
        unfold headE
        refine qg ?_
        (repeat refine qF ?_); refine ql (by kernel_rfl) ?_
        repeat (refine qi qa rfl (by exact True.intro) rfl ?_)
        refine qH ?_
        rw [l1, l2]
        refine uC (fun h => ?_) (fun h => ?_)
        · rw [if_pos (by revert h; cases p.set <;> simp)]
          refine uA ?_
          refine uQ ?_
          exact ⟨Or.inr rfl, _, _, wlkR, Wk.refl _, rfl, rfl, rfl, rfl⟩
        · rw [if_neg (by revert h; cases p.set <;> simp)]
          refine qg ?_
          refine uR ?_
          refine uK (target_h p.target hp.tgt) ?_
          refine qd ?_
          refine uA ?_
          refine uC (fun h => ?_) (fun h => ?_)
          · have h3 : ¬ zf p.target = 0 := by simpa using h
            rw [if_neg h3]
            refine uA ?_
            refine uQ ?_
            exact ⟨Or.inr rfl, _, _, wlkR, Wk.refl _, rfl, rfl, rfl, rfl⟩
          · have h3 : zf p.target = 0 := by simpa using h
            rw [if_pos h3]
            refine qg ?_
            refine uR ?_
            refine uK (obls_h p.obls hp.obls) ?_
            refine qd ?_
            refine uA ?_
            refine uC (fun h => ?_) (fun h => ?_)
            · have h4 : ¬ oblsS p.obls = 0 := by simpa using h
              rw [if_neg h4]
              refine uA ?_
              refine uQ ?_
              exact ⟨Or.inr rfl, _, _, wlkR, Wk.refl _, rfl, rfl, rfl, rfl⟩
            · have h4 : oblsS p.obls = 0 := by simpa using h
              rw [if_pos h4]
              refine qg ?_
              (repeat refine qF ?_); refine ql (by kernel_rfl) ?_
              repeat (refine qi qa rfl (by exact True.intro) rfl ?_)
              refine qH ?_
              rw [l1, l2]
              refine uC (fun h => ?_) (fun h => ?_)
              · rw [if_pos (by simp at h; omega)]
                refine uA ?_
                refine uQ ?_
                exact ⟨Or.inr rfl, _, _, wlkR, Wk.refl _, rfl, rfl, rfl, rfl⟩
              · rw [if_neg (by simp at h; omega)]
                refine qg ?_
                refine uA ?_
                refine uQ ?_
                exact ⟨Or.inr rfl, _, _, wlkR, Wk.refl _, rfl, rfl, rfl, rfl⟩
def PolFit : Nat → Pol → Prop
  | 0, _ => True
  | n + 1, p => HeadFit p ∧ ∀ k ∈ p.kids, PolFit n k
theorem wpol_h : ∀ (n : Nat) (hn : n ≤ 4) (w : Wlk) (p : Pol), lim w → PolFit n p → zE Tryz.prog 32 [.ptr 1000000 0, .p (.agg (polP p)), .p (pI (5 - n))] (wlkO w) (.p (pI (polS n w p).1)) (wlkO (polS n w p).2)
  | 0, _, w, p, _, _ => by
    rw [zh]
    refine zI (ts := [6]) Tryz.func32 (by kernel_rfl) rfl rfl rfl ?_
    refine uA ?_
    refine uA ?_
    refine uC (fun h => ?_) (fun h => ?_)
    · refine uA ?_
      refine uQ ?_
      exact ⟨Or.inr rfl, _, _, wlkR, Wk.refl _, rfl, rfl, rfl, rfl⟩
    · cases h
  | n + 1, hn, w, p, hw, hf => by
    have H := whead_h w p hf.1
    have IH := fun w k hw hk => wpol_h n (by omega) w k hw hk
    have l1 : ((p.rules.map jl).length) = p.rules.length := by simp
    have l2 : ((p.kids.map polP).length) = p.kids.length := by simp
    rw [zh] at H ⊢
    rw [polS]
    have hlen := hf.1.nr
    have hlen2 := hf.1.nk
    unfold reachBytes at hlen hlen2
    refine zI (ts := [6]) Tryz.func32 (by kernel_rfl) rfl rfl rfl ?_
    refine uA ?_
    refine uA ?_
    refine uC (fun h => ?_) (fun h => ?_)
    · exfalso
      simp at h
      omega
    · refine qg ?_
      refine uR ?_
      refine uW wlkR H ?_
      refine qd ?_
      refine uA ?_
      refine uC (fun h => ?_) (fun h => ?_)
      · have h1 : ¬ (headS w p).1 = 0 := by simpa using h
        rw [if_neg h1]
        refine uA ?_
        refine uQ ?_
        exact ⟨Or.inr rfl, _, _, wlkR, Wk.refl _, rfl, rfl, rfl, rfl⟩
      · have h1 : (headS w p).1 = 0 := by simpa using h
        rw [if_pos h1]
        have hw1 : lim (headS w p).2 := hw
        generalize (headS w p).2 = w1 at *
        refine qg ?_
        refine uA ?_
        refine uB ?_
        refine uZ [0, 2, 4, 23, 24, 25] [(1000000, 1000000), (1000001, 1000001), (4, 4)] ?_
        refine qC (fun m s => ∃ (k : Nat) (kk : Int) (wk : Wlk), k ≤ p.rules.length ∧ m = p.rules.length - k ∧ kk = k ∧ (seqS wg w1 (p.rules.take k)).1 = 0 ∧ wk = (seqS wg w1 (p.rules.take k)).2 ∧
          s = ⟨52, [(0, .ptr 1000000 0), (2, .p (pI (5 - (n + 1 : Nat)))), (4, .ptr 4 0), (23, .p (.sl 5 (p.rules.map jl))), (24, .p (pI p.rules.length)), (25, .p (pI kk))], wlkO wk ++ [(4, .cells ([pS p.id, pB p.set, pI p.alg, tgtP p.target, .sl 5 (p.rules.map jl), .sl 7 (p.kids.map polP), jt p.obls].map .p))]⟩) p.rules.length ⟨0, 0, w1, Nat.zero_le _, rfl, rfl, rfl, rfl, by rw [← l1]; rfl⟩ ?_
        rintro m s ⟨k, _, wk, hk, rfl, rfl, ha, hwk, rfl⟩
        have hlk : lim wk := by rw [hwk]; exact seqS_lim (P := lim) (fun w x hw h => ruleS_lim hw h) hw1 ha
        refine uA ?_
        refine uC (fun hlt => ?_) (fun hlt => ?_)
        · refine qg ?_
          simp only [decide_eq_true_eq] at hlt
          have hlt' : k < p.rules.length := by omega
          have hst := seqS_some hlt' ha
          rw [← hwk] at hst
          refine uB ?_
          refine uR ?_
          refine qh qa rfl rfl (by rw [l1]; omega) rfl ?_
          rw [qx hlt']
          refine uS ?_
          refine qd ?_
          have H2 := wrule_h wk hlk p.rules[k] (hf.1.rules _ (List.getElem_mem hlt'))
          refine uR ?_
          refine uW wlkR H2 ?_
          refine qd ?_
          refine uA ?_
          refine uC (fun h => ?_) (fun h => ?_)
          · have h2 : ¬ (wg wk p.rules[k]).1 = 0 := by simpa using h
            have e : seqS wg w1 p.rules = wg wk p.rules[k] := by rw [seqS_stop (k + 1) (by rw [hst]; exact h2), hst]
            rw [e, if_neg h2]
            refine uA ?_
            refine uQ ?_
            exact ⟨Or.inr rfl, _, _, wlkR, Wk.refl _, rfl, rfl, rfl, rfl⟩
          · have h2 : (wg wk p.rules[k]).1 = 0 := by simpa using h
            refine qg ?_
            refine uA ?_
            refine ⟨_, _, ?_, qu [0, 2, 4, 23, 24, 25] [(1000000, 1000000), (1000001, 1000001), (4, 4)] rfl rfl, k + 1, _, _, hlt', rfl, qt hlt' (by omega), by rw [hst]; exact h2, by rw [hst], rfl⟩
            omega
        · refine qz ?_
          simp only [decide_eq_false_iff_not] at hlt
          have hkk : k = p.rules.length := by omega
          subst hkk
          rw [List.take_length] at ha hwk
          rw [if_pos ha, ← hwk]
          clear hwk
          refine uA ?_
          refine uB ?_
          refine uZ [0, 2, 37, 38, 39] [(1000000, 1000000), (1000001, 1000001)] ?_
          refine qC (fun m s => ∃ (k : Nat) (kk : Int) (w2 : Wlk), k ≤ p.kids.length ∧ m = p.kids.length - k ∧ kk = k ∧ (seqS (polS n) wk (p.kids.take k)).1 = 0 ∧ w2 = (seqS (polS n) wk (p.kids.take k)).2 ∧
            s = ⟨52, [(0, .ptr 1000000 0), (2, .p (pI (5 - (n + 1 : Nat)))), (37, .p (.sl 7 (p.kids.map polP))), (38, .p (pI p.kids.length)), (39, .p (pI kk))], wlkO w2⟩) p.kids.length ⟨0, 0, wk, Nat.zero_le _, rfl, rfl, rfl, rfl, by rw [← l2]; rfl⟩ ?_
          rintro m s ⟨k, _, w2, hk, rfl, rfl, ha, hwk, rfl⟩
          have hl2 : lim w2 := by rw [hwk]; exact seqS_lim (P := lim) (fun w x hw h => polS_lim n w x hw h) hlk ha
          refine uA ?_
          refine uC (fun hlt => ?_) (fun hlt => ?_)
          · refine qg ?_
            simp only [decide_eq_true_eq] at hlt
            have hlt' : k < p.kids.length := by omega
            have hst := seqS_some hlt' ha
            rw [← hwk] at hst
            refine uB ?_
            refine uR ?_
            refine qh qa rfl rfl (by rw [l2]; omega) rfl ?_
            rw [qx hlt', zh]
            refine uS ?_
            refine qd ?_
            have H2 := IH w2 p.kids[k] hl2 (hf.2 _ (List.getElem_mem hlt'))
            rw [zh] at H2
            refine uR ?_
            rw [show IntKind.i64.wrap ((5 : Int) - (n + 1 : Nat) + 1) = 5 - (n : Int) by rw [IntWalk.i64_in _ (by omega)]; omega]
            refine uW wlkR H2 ?_
            refine qd ?_
            refine uA ?_
            refine uC (fun h => ?_) (fun h => ?_)
            · have h2 : ¬ (polS n w2 p.kids[k]).1 = 0 := by simpa using h
              have e : seqS (polS n) wk p.kids = polS n w2 p.kids[k] := by rw [seqS_stop (k + 1) (by rw [hst]; exact h2), hst]
              rw [e]
              refine uA ?_
              refine uQ ?_
              exact ⟨Or.inr rfl, _, _, wlkR, Wk.refl _, rfl, rfl, rfl, rfl⟩
            · have h2 : (polS n w2 p.kids[k]).1 = 0 := by simpa using h
              refine qg ?_
              refine uA ?_
              refine ⟨_, _, ?_, qu [0, 2, 37, 38, 39] [(1000000, 1000000), (1000001, 1000001)] rfl rfl, k + 1, _, _, hlt', rfl, qt hlt' (by omega), by rw [hst]; exact h2, by rw [hst], rfl⟩
              omega
          · refine qz ?_
            simp only [decide_eq_false_iff_not] at hlt
            have hkk : k = p.kids.length := by omega
            subst hkk
            rw [List.take_length] at ha hwk
            rw [ha, ← hwk]
            refine uA ?_
            refine uQ ?_
            exact ⟨Or.inr rfl, _, _, wlkR, Wk.refl _, rfl, rfl, rfl, rfl⟩
theorem right_h (p : Pol) (hf : PolFit 4 p) : Holds Tryz.prog 10 [.agg (polP p)] (.p (pI (wG p))) [] := by
  have H := wpol_h 4 (Nat.le_refl _) ⟨[], 0⟩ p ⟨Int.le_refl _, by decide⟩ hf
  rw [zh] at H ⊢
  refine qo (ts := [2]) Tryz.func10 (by kernel_rfl) rfl rfl rfl ?_
  refine uA ?_
  refine uA ?_
  refine uR ?_
  refine uW [(6, 1000000), (4, 1000001)] H ?_
  refine qd ?_
  refine uQ ?_
  exact uF []
end Go.Proofs.YtlmgamnpfdgdeaaGreatDoor
namespace Go.Proofs.YtlmgamnpfdgdeaaGreatDoor
set_option linter.unusedVariables false
set_option linter.unusedSimpArgs false
open Go.RowKit
theorem opens_tint : Opens Tryz.prog 3 1 rInt := opens_int Tryz.underlying3 (by kernel_rfl)
theorem opens_tstr : Opens Tryz.prog 9 1 rStr := opens_str Tryz.underlying9 (by kernel_rfl)
theorem opens_tbool : Opens Tryz.prog 4 1 rBool := opens_bool Tryz.underlying4 (by kernel_rfl)
set_option maxRecDepth 100000 in
theorem opens_val : Opens Tryz.prog 31 3 rVal := by
  refine ⟨by kernel_rfl, fun H enc w fuel cs x h hw => ?_⟩
  obtain ⟨hlen, m, _, hf⟩ := zQ Tryz.underlying31 h hw
  have hc : Tryz.prog.cellsOf 31 = 3 := by kernel_rfl
  rw [hc] at hlen
  match cs, hlen with
  | [c0, c1, c2], _ =>
    obtain ⟨k, hk⟩ := opens_tint.field (off := 0) (hf 0 _ rfl)
    obtain ⟨n, hn⟩ := opens_tint.field (off := 1) (hf 1 _ rfl)
    obtain ⟨s, hs⟩ := opens_tstr.field (off := 2) (hf 2 _ rfl)
    simp only [rInt, rStr, List.drop_succ_cons, List.drop_zero, List.take_succ_cons, List.take_zero, List.cons.injEq, and_true] at hk hn hs
    obtain ⟨rfl, hk⟩ := hk
    obtain ⟨rfl, hn⟩ := hn
    obtain ⟨rfl, hs⟩ := hs
    exact ⟨⟨k, n, s⟩, rfl, hk, hn, hs⟩
end Go.Proofs.YtlmgamnpfdgdeaaGreatDoor
namespace Go.Proofs.YtlmgamnpfdgdeaaGreatDoor
set_option linter.unusedVariables false
set_option linter.unusedSimpArgs false
open Go.RowKit
theorem opens_vals : Opens Tryz.prog 32 1 (rSl rVal 3) := wv Tryz.underlying32 (by kernel_rfl) (by decide +kernel) (by omega) opens_val
end Go.Proofs.YtlmgamnpfdgdeaaGreatDoor
namespace Go.Proofs.YtlmgamnpfdgdeaaGreatDoor
set_option linter.unusedVariables false
set_option linter.unusedSimpArgs false
open Go.RowKit
set_option maxRecDepth 100000 in
theorem opens_atr : Opens Tryz.prog 102 3 rAtr := by
  refine ⟨by kernel_rfl, fun H enc w fuel cs x h hw => ?_⟩
  obtain ⟨hlen, m, _, hf⟩ := zQ Tryz.underlying102 h hw
  have hc : Tryz.prog.cellsOf 102 = 3 := by kernel_rfl
  rw [hc] at hlen
  match cs, hlen with
  | [c0, c1, c2], _ =>
    obtain ⟨k, hk⟩ := opens_tint.field (off := 0) (hf 0 _ rfl)
    obtain ⟨n, hn⟩ := opens_tstr.field (off := 1) (hf 1 _ rfl)
    obtain ⟨s, hs⟩ := opens_tbool.field (off := 2) (hf 2 _ rfl)
    simp only [rInt, rStr, rBool, List.drop_succ_cons, List.drop_zero, List.take_succ_cons, List.take_zero, List.cons.injEq, and_true] at hk hn hs
    obtain ⟨rfl, hk⟩ := hk
    obtain ⟨rfl, hn⟩ := hn
    obtain rfl := hs
    exact ⟨⟨k, n, s⟩, rfl, hk, hn⟩
set_option maxRecDepth 100000 in
theorem opens_mat : Opens Tryz.prog 104 7 rMat := by
  refine ⟨by kernel_rfl, fun H enc w fuel cs x h hw => ?_⟩
  obtain ⟨hlen, m, _, hf⟩ := zQ Tryz.underlying104 h hw
  have hc : Tryz.prog.cellsOf 104 = 7 := by kernel_rfl
  rw [hc] at hlen
  match cs, hlen with
  | [c0, c1, c2, c3, c4, c5, c6], _ =>
    obtain ⟨a, ha⟩ := opens_atr.field (off := 0) (hf 0 _ rfl)
    obtain ⟨o, ho⟩ := opens_tint.field (off := 3) (hf 1 _ rfl)
    obtain ⟨v, hv⟩ := opens_val.field (off := 4) (hf 2 _ rfl)
    simp only [rInt, rAtr, rVal, Atr.cells, Val.cells, List.drop_succ_cons, List.drop_zero, List.take_succ_cons, List.take_zero, List.cons.injEq, and_true] at ha ho hv
    obtain ⟨⟨rfl, rfl, rfl⟩, ha⟩ := ha
    obtain ⟨rfl, ho⟩ := ho
    obtain ⟨⟨rfl, rfl, rfl⟩, hv⟩ := hv
    exact ⟨⟨a, o, v⟩, rfl, ha, ho, hv⟩
set_option maxRecDepth 100000 in
theorem opens_giv : Opens Tryz.prog 34 3 rGiv := by
  refine ⟨by kernel_rfl, fun H enc w fuel cs x h hw => ?_⟩
  obtain ⟨hlen, m, _, hf⟩ := zQ Tryz.underlying34 h hw
  have hc : Tryz.prog.cellsOf 34 = 3 := by kernel_rfl
  rw [hc] at hlen
  match cs, hlen with
  | [c0, c1, c2], _ =>
    obtain ⟨k, hk⟩ := opens_tint.field (off := 0) (hf 0 _ rfl)
    obtain ⟨n, hn⟩ := opens_tstr.field (off := 1) (hf 1 _ rfl)
    obtain ⟨s, hs⟩ := opens_vals.field (off := 2) (hf 2 _ rfl)
    simp only [rInt, rStr, rSl, List.drop_succ_cons, List.drop_zero, List.take_succ_cons, List.take_zero, List.cons.injEq, and_true] at hk hn hs
    obtain ⟨rfl, hk⟩ := hk
    obtain ⟨rfl, hn⟩ := hn
    obtain ⟨A, c, rfl, h1, h2, h3⟩ := hs
    exact ⟨⟨k, n, s⟩, A, c, rfl, hk, hn, h1, h2, h3⟩
theorem opens_givs : Opens Tryz.prog 29 1 (rSl rGiv 3) := wv Tryz.underlying29 (by kernel_rfl) (by decide +kernel) (by omega) opens_giv
theorem opens_mats : Opens Tryz.prog 161 1 (rSl rMat 7) := wv Tryz.underlying161 (by kernel_rfl) (by decide +kernel) (by omega) opens_mat
theorem opens_matss : Opens Tryz.prog 160 1 (rSl (rSl rMat 7) 1) := wv Tryz.underlying160 (by kernel_rfl) (by decide +kernel) (by omega) opens_mats
theorem opens_tar : Opens Tryz.prog 23 1 (rSl (rSl (rSl rMat 7) 1) 1) := wv Tryz.underlying23 (by kernel_rfl) (by decide +kernel) (by omega) opens_matss
end Go.Proofs.YtlmgamnpfdgdeaaGreatDoor
namespace Go.Proofs.YtlmgamnpfdgdeaaGreatDoor
set_option linter.unusedVariables false
set_option linter.unusedSimpArgs false
open Go.RowKit
set_option maxRecDepth 100000 in
theorem opens_obl : Opens Tryz.prog 79 3 rObl := by
  refine ⟨by kernel_rfl, fun H enc w fuel cs x h hw => ?_⟩
  obtain ⟨hlen, m, _, hf⟩ := zQ Tryz.underlying79 h hw
  have hc : Tryz.prog.cellsOf 79 = 3 := by kernel_rfl
  rw [hc] at hlen
  match cs, hlen with
  | [c0, c1, c2], _ =>
    obtain ⟨k, hk⟩ := opens_tint.field (off := 0) (hf 0 _ rfl)
    obtain ⟨n, hn⟩ := opens_tint.field (off := 1) (hf 1 _ rfl)
    obtain ⟨s, hs⟩ := opens_tstr.field (off := 2) (hf 2 _ rfl)
    simp only [rInt, rStr, List.drop_succ_cons, List.drop_zero, List.take_succ_cons, List.take_zero, List.cons.injEq, and_true] at hk hn hs
    obtain ⟨rfl, hk⟩ := hk
    obtain ⟨rfl, hn⟩ := hn
    obtain ⟨rfl, hs⟩ := hs
    exact ⟨⟨k, n, s⟩, rfl, hk, hn, hs⟩
set_option maxRecDepth 100000 in
theorem opens_nod : Opens Tryz.prog 119 7 rNod := by
  refine ⟨by kernel_rfl, fun H enc w fuel cs x h hw => ?_⟩
  obtain ⟨hlen, m, _, hf⟩ := zQ Tryz.underlying119 h hw
  have hc : Tryz.prog.cellsOf 119 = 7 := by kernel_rfl
  rw [hc] at hlen
  match cs, hlen with
  | [c0, c1, c2, c3, c4, c5, c6], _ =>
    obtain ⟨o, ho⟩ := opens_tint.field (off := 0) (hf 0 _ rfl)
    obtain ⟨v, hv⟩ := opens_val.field (off := 1) (hf 1 _ rfl)
    obtain ⟨a, ha⟩ := opens_atr.field (off := 4) (hf 2 _ rfl)
    simp only [rInt, rAtr, rVal, Atr.cells, Val.cells, List.drop_succ_cons, List.drop_zero, List.take_succ_cons, List.take_zero, List.cons.injEq, and_true] at ha ho hv
    obtain ⟨⟨rfl, rfl, rfl⟩, ha⟩ := ha
    obtain ⟨rfl, ho⟩ := ho
    obtain ⟨⟨rfl, rfl, rfl⟩, hv⟩ := hv
    exact ⟨⟨o, v, a⟩, rfl, ho, hv, ha⟩
theorem opens_obls : Opens Tryz.prog 26 1 (rSl rObl 3) := wv Tryz.underlying26 (by kernel_rfl) (by decide +kernel) (by omega) opens_obl
theorem opens_nods : Opens Tryz.prog 105 1 (rSl rNod 7) := wv Tryz.underlying105 (by kernel_rfl) (by decide +kernel) (by omega) opens_nod
theorem obl_pv {w : World} {cs : List Value} {x : Obli} (h : rObl w cs x) : rPV (fun _ => True) w cs x.pv := by
  rw [h.1]; exact plain_rPV (xs := [.int .i64 x.on, .int .i64 x.kind, .string x.arg]) (by simp [plain])
theorem nod_pv {w : World} {cs : List Value} {x : Nod} (h : rNod w cs x) : rPV (fun _ => True) w cs x.pv := by
  rw [h.1]; exact plain_rPV (xs := [.int .i64 x.op, .int .i64 x.val.kind, .int .i64 x.val.n, .string x.val.s, .int .i64 x.attr.cat, .string x.attr.name, .bool x.attr.must]) (by simp [plain])
end Go.Proofs.YtlmgamnpfdgdeaaGreatDoor
namespace Go.Proofs.YtlmgamnpfdgdeaaGreatDoor
set_option linter.unusedVariables false
set_option linter.unusedSimpArgs false
open Go.RowKit
theorem SlV.rel {α : Type} {R : Rp α} {f : α → List PV} {z : Nat} {w : World} {v : Value} {l : List α} (h : SlV R z w v l) (hz : ∀ x, (f x).length = z ∧ (f x).all oneP = true) (hf : ∀ x ∈ l, ∀ cs, R w cs x → rPV (fun _ => True) w cs (f x)) : RelP (fun _ => True) w (.sl z (l.map f)) v := by
  obtain ⟨A, c, rfl, h1, h2, h3⟩ := h
  exact rel_sl h3 h1 h2 hz hf
theorem SlV.fit {α : Type} {R : Rp α} {size : Nat} {w : World} {v : Value} {l : List α} {F : α → Prop} (h : SlV R size w v l) (hR : ∀ cs x, R w cs x → F x) : (∀ x ∈ l, F x) ∧ l.length ≤ reachBytes := by
  obtain ⟨A, c, rfl, h1, h2, h3⟩ := h
  exact ⟨h3.fit hR, h2.1⟩
theorem zO {ok : Nat → Prop} {w : World} {c : Value} {cs : List Value} {p : PV} {ps : List PV} (h : RelP ok w p c) (t : rPV ok w cs ps) : rPV ok w (c :: cs) (p :: ps) := by
  refine ⟨by simp [t.1], fun j s u hs hu => ?_⟩
  cases j with
  | zero => simp at hs hu; subst hs; subst hu; exact h
  | succ j => exact t.2 j s u (by simpa using hs) (by simpa using hu)
theorem rPV_nil {ok : Nat → Prop} {w : World} : rPV ok w [] [] := ⟨rfl, fun j s u hs _ => by simp at hs⟩
set_option maxRecDepth 100000 in
theorem opens_rul : Opens Tryz.prog 117 5 rRul := by
  refine ⟨by kernel_rfl, fun H enc w fuel cs x h hw => ?_⟩
  obtain ⟨hlen, m, _, hf⟩ := zQ Tryz.underlying117 h hw
  have hc : Tryz.prog.cellsOf 117 = 5 := by kernel_rfl
  rw [hc] at hlen
  match cs, hlen with
  | [c0, c1, c2, c3, c4], _ =>
    obtain ⟨o, ho⟩ := opens_tstr.field (off := 0) (hf 0 _ rfl)
    obtain ⟨b, hb⟩ := opens_tbool.field (off := 1) (hf 1 _ rfl)
    obtain ⟨t, h2⟩ := opens_tar.field (off := 2) (hf 2 _ rfl)
    obtain ⟨n, h3⟩ := opens_nods.field (off := 3) (hf 3 _ rfl)
    obtain ⟨l, h4⟩ := opens_obls.field (off := 4) (hf 4 _ rfl)
    simp only [rStr, rBool, List.drop_succ_cons, List.drop_zero, List.take_succ_cons, List.take_zero, List.cons.injEq, and_true] at ho hb h2 h3 h4
    obtain ⟨rfl, ho⟩ := ho
    subst hb
    exact ⟨⟨o, b, t, n, l⟩, c2, c3, c4, rfl, ho, .of h2, .of h3, .of h4⟩
theorem opens_ruls : Opens Tryz.prog 24 1 (rSl rRul 5) := wv Tryz.underlying24 (by kernel_rfl) (by decide +kernel) (by omega) opens_rul
theorem tar_pv {w : World} {v : Value} {t : Tar} (h : SlV rTar' 1 w v t) : RelP (fun _ => True) w (tgtP t) v := by
  obtain ⟨A, c, rfl, h1, h2, h3⟩ := h
  exact tgt_rel h3 h1 h2
theorem rul_pv {w : World} {cs : List Value} {x : Rul} (h : rRul w cs x) : rPV (fun _ => True) w cs (jl x) := by
  obtain ⟨c2, c3, c4, rfl, _, h2, h3, h4⟩ := h
  exact zO (.v rfl) (zO (.v rfl) (zO (tar_pv h2) (zO (h3.rel (fun x => ⟨rfl, rfl⟩) fun x _ cs h => nod_pv h) (zO (h4.rel (fun x => ⟨rfl, rfl⟩) fun x _ cs h => obl_pv h) rPV_nil))))
theorem rul_fit {w : World} {cs : List Value} {x : Rul} (h : rRul w cs x) : RulFit x := by
  obtain ⟨c2, c3, c4, rfl, h1, ⟨A, c, rfl, _, _, h2⟩, h3, h4⟩ := h
  exact ⟨h1, tgt_fit h2, (h3.fit fun _ _ h => h.2).1, (h4.fit fun _ _ h => h.2).1⟩
def rPolX : Rp Pol := fun w cs p => ∃ n, rPolN n w cs p
def OpensS {α : Type} (P : Program) (t : TypeId) (size : Nat) (R : Rp α) (s : Nat) : Prop :=
  P.cellsOf t = size ∧ ∀ (H : Type) (enc : TypeId × Value → H) (w : World) (fuel : Nat) (cs : List Value) (x : DataW H × List MemPlace), SizeOf.sizeOf x.1 < s →
    DataW.trod enc P w 0 (fun _ => true) true fuel t cs = some x → (∀ n ∈ x.1.weights P t, n ≤ reachBytes) → ∃ y, R w cs y
theorem sl_openS {α : Type} {P : Program} {t e : TypeId} {size s : Nat} {R : Rp α} (ht : P.underlying t = some (.slice e)) (hb : 1 ≤ P.bytesOf e) (hs : 1 ≤ size) (he : OpensS P e size R s)
    {H : Type} {enc : TypeId × Value → H} {w : World} {fuel : Nat} {cs : List Value} {x : DataW H × List MemPlace} (hx : SizeOf.sizeOf x.1 ≤ s) (h : DataW.trod enc P w 0 (fun _ => true) true fuel t cs = some x) (hw : ∀ n ∈ x.1.weights P t, n ≤ reachBytes) : ∃ y, rSl R size w cs y := by
  rcases Go.Deep.open_slice ht h with ⟨rfl, _⟩ | ⟨a, len, cap, m, n, D, Pl, rfl, _, hlc, hcm, hm, rfl, hel⟩
  · exact ⟨[], none, 0, rfl, Nat.le_refl _, ⟨Nat.zero_le _, Nat.zero_le _⟩, SlAt.nil⟩
  · simp only [if_true] at hm
    subst hm
    have hcap : m ≤ reachBytes := by
      have h1 := hw ((((List.range len).map D).length + ((List.range (m - len)).map fun j => D (len + j)).length) * P.bytesOf e) (by simp [DataW.weights, ht])
      simp only [List.length_map, List.length_range] at h1
      have h2 : len + (m - len) = m := by omega
      rw [h2] at h1
      exact Nat.le_trans (Nat.le_mul_of_pos_right m hb) h1
    have hcap' : m ≤ maxLen := by unfold maxLen; unfold reachBytes at hcap; omega
    have hsz : ∀ i, i < m → SizeOf.sizeOf (D i) < s := fun i hi => by
      simp only [DataW.slice.sizeOf_spec] at hx
      rcases Nat.lt_or_ge i len with hil | hil
      · have : D i ∈ (List.range len).map D := List.mem_map.2 ⟨i, List.mem_range.2 hil, rfl⟩
        have := List.sizeOf_lt_of_mem this
        omega
      · have : D i ∈ (List.range (m - len)).map fun j => D (len + j) := List.mem_map.2 ⟨i - len, List.mem_range.2 (by omega), by rw [show len + (i - len) = i by omega]⟩
        have := List.sizeOf_lt_of_mem this
        omega
    have hcell : ∀ i, i < m → ∃ cs', cs'.length = size ∧ (∀ j u, cs'[j]? = some u → w.cell? ((a.add (i * size)).add j) = some u) ∧ ∃ y, R w cs' y := fun i hi => by
      obtain ⟨cs', h1, h2⟩ := hel i hi
      rw [he.1] at h1
      obtain ⟨_, h3, h4⟩ := World.cells?_some h1
      refine ⟨cs', h3, fun j u hj => ?_, ?_⟩
      · have : j < size := by rw [← h3]; exact (List.getElem?_eq_some_iff.1 hj).1
        rw [h4 j this, hj]
      · refine he.2 H enc w n cs' _ (hsz i hi) h2 fun k hk => hw k ?_
        simp only [DataW.weights, ht, List.mem_cons, List.mem_append]
        rcases Nat.lt_or_ge i len with hil | hil
        · exact Or.inr (Or.inl (zG (List.mem_map.2 ⟨i, List.mem_range.2 hil, rfl⟩) k hk))
        · refine Or.inr (Or.inr (zG (d := D i) (List.mem_map.2 ⟨i - len, List.mem_range.2 (by omega), ?_⟩) k hk))
          rw [show len + (i - len) = i by omega]
    rcases Nat.eq_zero_or_pos len with h0 | hpos
    · subst h0
      exact ⟨[], some a, m, rfl, Nat.zero_le _, ⟨Nat.zero_le _, hcap'⟩, SlAt.nil⟩
    · have hsp : a.spot = none ∧ a.block < w.heap.size := by
        obtain ⟨cs', h1, h2, _⟩ := hcell 0 (by omega)
        obtain ⟨u, hu⟩ : ∃ u, cs'[0]? = some u := ⟨cs'[0]'(by omega), List.getElem?_eq_getElem _⟩
        have h3 := h2 0 u hu
        simp only [Nat.zero_mul, Addr.add, if_true] at h3
        exact ⟨(lt_of_cell h3).2, (lt_of_cell h3).1⟩
      obtain ⟨b, o, sp⟩ := a
      obtain ⟨rfl, hlt⟩ := hsp
      have hadd : ∀ o k : Nat, (⟨b, o, none⟩ : Addr).add k = ⟨b, o + k, none⟩ := fun o k => by
        unfold Addr.add; split
        · simp [*]
        · rfl
      have hex : ∀ i : Nat, ∃ y : α, i < m → ∃ cs', cs'.length = size ∧ CellsAt w b (o + i * size) cs' ∧ R w cs' y := fun i => by
        by_cases hi : i < m
        · obtain ⟨cs', h1, h2, y, hy⟩ := hcell i hi
          refine ⟨y, fun _ => ⟨cs', h1, fun j u hj => ?_, hy⟩⟩
          have := h2 j u hj
          rw [hadd, hadd] at this
          exact this
        · obtain ⟨_, _, _, y, _⟩ := hcell 0 (by omega)
          exact ⟨y, fun h => absurd h hi⟩
      obtain ⟨f, hf⟩ := Classical.axiomOfChoice hex
      refine ⟨(List.range len).map f, some ⟨b, o, none⟩, m, by simp, by simpa using hlc, ⟨by simp; omega, hcap'⟩, fun _ => ⟨b, o, rfl, hlt, fun i hi => ?_⟩⟩
      have hi' : i < len := by simpa using hi
      obtain ⟨cs', h1, h2, h3⟩ := hf i (by omega)
      exact ⟨cs', h1, h2, by simpa using h3⟩
theorem struct_openS {H : Type} {enc : TypeId × Value → H} {P : Program} {w : World} {fuel : Nat} {t : TypeId} {fs : Array Field} {cs : List Value} {x : DataW H × List MemPlace} (ht : P.underlying t = some (.struct fs))
    (h : DataW.trod enc P w 0 (fun _ => true) true fuel t cs = some x) (hw : ∀ n ∈ x.1.weights P t, n ≤ reachBytes) :
    cs.length = P.cellsOf t ∧ ∃ m, ∀ (i : Nat) (f : Field), fs[i]? = some f → ∃ y, DataW.trod enc P w 0 (fun _ => true) true m f.type ((cs.drop f.offset).take (P.cellsOf f.type)) = some y ∧ (∀ n ∈ y.1.weights P f.type, n ≤ reachBytes) ∧ SizeOf.sizeOf y.1 < SizeOf.sizeOf x.1 := by
  obtain ⟨xs, n, hn, hx, hlen, hxl, hf⟩ := DataW.trod_struct ht h
  refine ⟨hlen, n, fun i f hi => ?_⟩
  have hil : i < fs.size := (Array.getElem?_eq_some_iff.1 hi).1
  have hy : xs[i]? = some (xs[i]'(by omega)) := List.getElem?_eq_getElem (by omega)
  refine ⟨_, (hf i f hi).trans hy, fun k hk => hw k ?_, ?_⟩
  · subst hx
    simp only [DataW.weights, ht]
    refine DataW.weights_mem_each (j := i) (t := f.type) (d := (xs[i]'(by omega)).1) ?_ ?_ k hk
    · rw [List.getElem?_map, Array.getElem?_toList, hi]; rfl
    · rw [List.getElem?_map, hy]; rfl
  · subst hx
    have h1 : (xs[i]'(by omega)).1 ∈ xs.map (·.1) := List.mem_map.2 ⟨_, List.getElem_mem _, rfl⟩
    have h2 := List.sizeOf_lt_of_mem h1
    simp only [DataW.agg.sizeOf_spec]
    omega
theorem hd3 {α : Type} {P : α → Prop} {Q R : α → Prop} (h : ∃ y, P y ∧ Q y ∧ R y) : ∃ y, P y ∧ Q y := by
  obtain ⟨y, a, b, _⟩ := h; exact ⟨y, a, b⟩
set_option maxRecDepth 100000 in
theorem opens_polS : ∀ s, OpensS Tryz.prog 28 7 (rPolN s) s := by
  intro s
  induction s with
  | zero => exact ⟨by kernel_rfl, fun H enc w fuel cs x hx => absurd hx (Nat.not_lt_zero _)⟩
  | succ s ih =>
    refine ⟨by kernel_rfl, fun H enc w fuel cs x hx h hw => ?_⟩
    obtain ⟨hlen, m, hf⟩ := struct_openS Tryz.underlying28 h hw
    have hc : Tryz.prog.cellsOf 28 = 7 := by kernel_rfl
    rw [hc] at hlen
    match cs, hlen with
    | [c0, c1, c2, c3, c4, c5, c6], _ =>
      obtain ⟨o, ho⟩ := opens_tstr.field (off := 0) (hd3 (hf 0 _ rfl))
      obtain ⟨b, hb⟩ := opens_tbool.field (off := 1) (hd3 (hf 1 _ rfl))
      obtain ⟨n, hn⟩ := opens_tint.field (off := 2) (hd3 (hf 2 _ rfl))
      obtain ⟨t, h3⟩ := opens_tar.field (off := 3) (hd3 (hf 3 _ rfl))
      obtain ⟨r, h4⟩ := opens_ruls.field (off := 4) (hd3 (hf 4 _ rfl))
      obtain ⟨l, h6⟩ := opens_obls.field (off := 6) (hd3 (hf 6 _ rfl))
      obtain ⟨y, h5, hy1, hy2⟩ := hf 5 _ rfl
      obtain ⟨k, h5⟩ := sl_openS Tryz.underlying25 (by decide +kernel) (by omega) ih (by omega) h5 hy1
      have hc1 : Tryz.prog.cellsOf 25 = 1 := by kernel_rfl
      simp only [rStr, rBool, rInt, hc1, List.drop_succ_cons, List.drop_zero, List.take_succ_cons, List.take_zero, List.cons.injEq, and_true] at ho hb hn h3 h4 h5 h6
      obtain ⟨rfl, ho⟩ := ho
      subst hb
      obtain ⟨rfl, hn⟩ := hn
      exact ⟨.mk o b n t r k l, c3, c4, c5, c6, rfl, ho, hn, .of h3, .of h4, .of h5, .of h6⟩
theorem opens_pol : Opens Tryz.prog 28 7 rPolX := ⟨(opens_polS 0).1, fun H enc w fuel cs x h hw => by
  obtain ⟨p, hp⟩ := (opens_polS (SizeOf.sizeOf x.1 + 1)).2 H enc w fuel cs x (Nat.lt_succ_self _) h hw
  exact ⟨p, _, hp⟩⟩
theorem polP_shape (x : Pol) : (polP x).length = 7 ∧ (polP x).all oneP = true := by rw [zh]; exact ⟨rfl, rfl⟩
theorem pol_pv : ∀ (n : Nat) {w : World} {cs : List Value} {p : Pol}, rPolN n w cs p → rPV (fun _ => True) w cs (polP p)
  | n + 1, w, cs, p, ⟨c3, c4, c5, c6, he, _, _, h3, h4, h5, h6⟩ => by
    subst he
    rw [zh]
    exact zO (.v rfl) (zO (.v rfl) (zO (.v rfl) (zO (tar_pv h3) (zO (h4.rel (fun x => ⟨rfl, rfl⟩) fun x _ cs h => rul_pv h)
      (zO (h5.rel polP_shape fun x _ cs h => pol_pv n h) (zO (h6.rel (fun x => ⟨rfl, rfl⟩) fun x _ cs h => obl_pv h) rPV_nil))))))
theorem pol_fit : ∀ (m : Nat) {n : Nat} {w : World} {cs : List Value} {p : Pol}, rPolN n w cs p → PolFit m p
  | 0, _, _, _, _, _ => trivial
  | m + 1, n + 1, w, cs, p, ⟨c3, c4, c5, c6, he, hid, _, ⟨A, c, ha, _, _, h3⟩, h4, h5, h6⟩ => by
    have k4 := h4.fit (F := RulFit) fun _ _ h => rul_fit h
    have k5 := h5.fit (F := PolFit m) fun _ _ h => pol_fit m h
    have k6 := h6.fit (F := Obli.Fit) fun _ _ h => h.2
    exact ⟨⟨hid, tgt_fit h3, k4.1, k6.1, k4.2, k5.2⟩, k5.1⟩
end Go.Proofs.YtlmgamnpfdgdeaaGreatDoor
namespace Go.Proofs.YtlmgamnpfdgdeaaGreatDoor
set_option linter.unusedVariables false
set_option linter.unusedSimpArgs false
open Go.RowKit
def PolF : Nat → Pol → Prop
  | 0, _ => False
  | n + 1, p => HeadFit p ∧ R64 p.alg ∧ ∀ k ∈ p.kids, PolF n k
theorem polF_fit : ∀ (m : Nat) {n : Nat} {p : Pol}, PolF n p → PolFit m p
  | 0, _, _, _ => True.intro
  | m + 1, n + 1, p, h => ⟨h.1, fun k hk => polF_fit m (h.2.2 k hk)⟩
theorem polF_of : ∀ {n : Nat} {w : World} {cs : List Value} {p : Pol}, rPolN n w cs p → PolF n p
  | n + 1, w, cs, p, h => by
    have h1 := pol_fit 1 h
    obtain ⟨c3, c4, c5, c6, he, hid, ha, _, _, h5, _⟩ := h
    exact ⟨h1.1, ha, (h5.fit (F := PolF n) fun _ _ h => polF_of h).1⟩
end Go.Proofs.YtlmgamnpfdgdeaaGreatDoor
namespace Go.Proofs.YtlmgamnpfdgdeaaGreatDoor
set_option linter.unusedVariables false
set_option linter.unusedSimpArgs false
open Go.RowKit
theorem SWT.wk {P : Program} {ops l : List Oper} {Q : St → Prop} {st st' : St} (h : Wk st st') (h' : SWT P ops l Q st') : SWT P ops l Q st := fun w0 Sx γ a w QQ hI hQ => by
  obtain ⟨γ', hI'⟩ := h w0 Sx γ a w hI
  exact h' w0 Sx γ' a w QQ hI' hQ
theorem xsz_le {t : Tar} {x : List (List Mat)} (h : x ∈ t) : xsz x ≤ tsz t := by
  have := sumBy_le (f := xsz) h
  unfold tsz; omega
theorem len_sumBy {α : Type} (f : α → Nat) (h : ∀ x, 1 ≤ f x) : ∀ l : List α, l.length ≤ za f l
  | [] => Nat.zero_le _
  | x :: r => by
    have h1 := len_sumBy f h r
    have h2 := h x
    simp only [za, List.map_cons, List.sum_cons, List.length_cons] at h1 ⊢
    omega
end Go.Proofs.YtlmgamnpfdgdeaaGreatDoor
namespace Go.Proofs.YtlmgamnpfdgdeaaGreatDoor
set_option linter.unusedVariables false
set_option linter.unusedSimpArgs false
open Go.RowKit
instance decVal : DecidableEq Val := fun a b => decidable_of_iff (a.kind = b.kind ∧ a.n = b.n ∧ a.s = b.s) ⟨fun h => by cases a; cases b; simp only at h; simp [h], fun h => by subst h; simp⟩
instance decAtr : DecidableEq Atr := fun a b => decidable_of_iff (a.cat = b.cat ∧ a.name = b.name ∧ a.must = b.must) ⟨fun h => by cases a; cases b; simp only at h; simp [h], fun h => by subst h; simp⟩
instance decMat : DecidableEq Mat := fun a b => decidable_of_iff (a.attr = b.attr ∧ a.op = b.op ∧ a.val = b.val) ⟨fun h => by cases a; cases b; simp only at h; simp [h], fun h => by subst h; simp⟩
instance decNod : DecidableEq Nod := fun a b => decidable_of_iff (a.op = b.op ∧ a.val = b.val ∧ a.attr = b.attr) ⟨fun h => by cases a; cases b; simp only at h; simp [h], fun h => by subst h; simp⟩
structure Atm where
  m : Mat
  c : List Nod
instance decAtm : DecidableEq Atm := fun a b => decidable_of_iff (a.m = b.m ∧ a.c = b.c) ⟨fun h => by cases a; cases b; simp only at h; simp [h], fun h => by subst h; simp⟩
def moreA (l : List Atm) (a : Atm) : List Atm := if a ∈ l then l else l ++ [a]
def addA (l bs : List Atm) : List Atm := bs.foldl moreA l
def zeroM : Mat := ⟨⟨0, ⟨#[]⟩, false⟩, 0, ⟨0, 0, ⟨#[]⟩⟩⟩
def allA (y : List Mat) : List Atm := y.map fun m => ⟨m, []⟩
def anyA (x : List (List Mat)) : List Atm := x.flatMap allA
def tarA (t : Tar) : List Atm := t.flatMap anyA
def condA (c : List Nod) : List Atm := if c = [] then [] else [⟨zeroM, c⟩]
def rulA (r : Rul) : List Atm := tarA r.target ++ condA r.cond
def polA : Nat → Pol → List Atm
  | 0, _ => []
  | n + 1, p => tarA p.target ++ (p.rules.flatMap rulA ++ p.kids.flatMap (polA n))
theorem moreA_mem {l : List Atm} {a x : Atm} : x ∈ moreA l a ↔ x ∈ l ∨ x = a := by
  unfold moreA
  split
  · rename_i h
    exact ⟨Or.inl, fun h2 => h2.elim id fun e => e ▸ h⟩
  · simp
theorem addA_cons (l : List Atm) (a : Atm) (bs : List Atm) : addA l (a :: bs) = addA (moreA l a) bs := rfl
theorem addA_mem : ∀ {bs l : List Atm} {x : Atm}, x ∈ addA l bs ↔ x ∈ l ∨ x ∈ bs
  | [], l, x => by simp [addA]
  | a :: bs, l, x => by rw [addA_cons, addA_mem, moreA_mem, List.mem_cons, or_assoc]
def askA (x : Atm) (g : List Giv) : Int := if x.c = [] then matchT x.m g else condS x.c g
theorem wq {α : Type} {f h : Int → α → Int} : ∀ {l : List α} {o : Int}, (∀ o, ∀ x ∈ l, f o x = h o x) → l.foldl f o = l.foldl h o
  | [], _, _ => rfl
  | x :: l, o, hh => by
    rw [List.foldl_cons, List.foldl_cons, hh o x (by simp)]
    exact wq fun o y hy => hh o y (List.mem_cons_of_mem _ hy)
theorem met_alike {t : Tar} {a b : List Giv} (h : ∀ x ∈ tarA t, askA x a = askA x b) : metT t a = metT t b := by
  refine wq fun o x hx => ?_
  have e : anyTT x a = anyTT x b := by
    refine wq fun o y hy => ?_
    have e : allTT y a = allTT y b := by
      refine wq fun o m hm => ?_
      have h1 := h ⟨m, []⟩ (List.mem_flatMap.2 ⟨x, hx, List.mem_flatMap.2 ⟨y, hy, List.mem_map.2 ⟨m, hm, rfl⟩⟩⟩)
      have h2 : matchT m a = matchT m b := h1
      rw [h2]
    rw [e]
  rw [e]
theorem cond_alike {c : List Nod} {a b : List Giv} (h : ∀ x ∈ condA c, askA x a = askA x b) : condS c a = condS c b := by
  by_cases hc : c = []
  · subst hc; rfl
  · have h1 := h ⟨zeroM, c⟩ (by unfold condA; rw [if_neg hc]; simp)
    unfold askA at h1
    simp only [if_neg hc] at h1
    exact h1
theorem decide_alike {a b : List Giv} : ∀ (n : Nat) (p : Pol), (∀ x ∈ polA n p, askA x a = askA x b) → qE a n p = qE b n p
  | 0, _, _ => rfl
  | n + 1, p, h => by
    have h1 : ∀ x ∈ tarA p.target, askA x a = askA x b := fun x hx => h x (List.mem_append_left _ hx)
    have h2 : ∀ r ∈ p.rules, ∀ x ∈ rulA r, askA x a = askA x b := fun r hr x hx => h x (List.mem_append_right _ (List.mem_append_left _ (List.mem_flatMap.2 ⟨r, hr, hx⟩)))
    have h3 : ∀ k ∈ p.kids, ∀ x ∈ polA n k, askA x a = askA x b := fun k hk x hx => h x (List.mem_append_right _ (List.mem_append_right _ (List.mem_flatMap.2 ⟨k, hk, hx⟩)))
    rw [qE, qE, met_alike h1]
    have e1 : p.rules.map (ruleR a) = p.rules.map (ruleR b) := List.map_congr_left fun r hr => by
      unfold ruleR
      rw [met_alike fun x hx => h2 r hr x (List.mem_append_left _ hx), cond_alike fun x hx => h2 r hr x (List.mem_append_right _ hx)]
    have e2 : p.kids.map (qE a n) = p.kids.map (qE b n) := List.map_congr_left fun k hk => decide_alike n k (h3 k hk)
    rw [e1, e2]
theorem eval_alike {a b : List Giv} {p : Pol} (h : ∀ x ∈ addA [] (polA 4 p), askA x a = askA x b) : evalS p a = evalS p b := by
  unfold evalS
  rw [decide_alike 4 p fun x hx => h x (addA_mem.2 (.inr hx))]
end Go.Proofs.YtlmgamnpfdgdeaaGreatDoor
namespace Go.Proofs.YtlmgamnpfdgdeaaGreatDoor
open Go.RowKit Go.Shelf
def laysWB_ren : Go.Shelf.Ren := ⟨fun | 167 => 195 | 240 => 173 | 276 => 196 | n => n, fun | 70 => 217 | 5 => 5 | 75 => 223 | 0 => 0 | 72 => 220 | 37 => 218 | 4 => 4 | 164 => 280 | 80 => 191 | 9 => 9 | n => n, fun | n => n⟩
theorem laysWB : Go.Proofs.Lays.n167 Tryz.prog laysWB_ren := {
  mixed := by kernel_rfl
  f167 := Tryz.func195.trans (congrArg some (by kernel_rfl))
  f240 := Tryz.func173.trans (congrArg some (by kernel_rfl))
  f276 := Tryz.func196.trans (congrArg some (by kernel_rfl))
  t0 := Tryz.underlying0
  a0 := Tryz.isAgg0
  z0 := Tryz.sizeOf0
  v0 := Tryz.zeroValue0
  t4 := Tryz.underlying4
  a4 := Tryz.isAgg4
  z4 := Tryz.sizeOf4
  v4 := Tryz.zeroValue4
  t5 := Tryz.underlying5
  a5 := Tryz.isAgg5
  z5 := Tryz.sizeOf5
  v5 := Tryz.zeroValue5
  t9 := Tryz.underlying9
  a9 := Tryz.isAgg9
  z9 := Tryz.sizeOf9
  v9 := Tryz.zeroValue9
  t20 := Tryz.underlying20
  a20 := Tryz.isAgg20
  z20 := Tryz.sizeOf20
  v20 := Tryz.zeroValue20
  t37 := Tryz.underlying218
  a37 := Tryz.isAgg218
  z37 := Tryz.sizeOf218
  v37 := Tryz.zeroValue218
  t70 := Tryz.underlying217
  a70 := Tryz.isAgg217
  z70 := Tryz.sizeOf217
  v70 := Tryz.zeroValue217
  t72 := Tryz.underlying220
  a72 := Tryz.isAgg220
  z72 := Tryz.sizeOf220
  v72 := Tryz.zeroValue220
  t75 := Tryz.underlying223
  a75 := Tryz.isAgg223
  z75 := Tryz.sizeOf223
  v75 := Tryz.zeroValue223
  t164 := Tryz.underlying280
  a164 := Tryz.isAgg280
  z164 := Tryz.sizeOf280
  v164 := Tryz.zeroValue280
}
theorem extWB : Builder.Extra Tryz.prog laysWB_ren := {
  sizeBuilder := by kernel_rfl
  liesBuilder := by kernel_rfl
  t5 := Tryz.underlying5
  a5 := Tryz.isAgg5
  z5 := Tryz.sizeOf5
  v5 := Tryz.zeroValue5
  infoByte := by kernel_rfl
  cellsByte := by kernel_rfl
  sizeByte := by kernel_rfl
  neB5 := by decide
}
def laysWS_ren : Go.Shelf.Ren := ⟨fun | 166 => 129 | 240 => 173 | 276 => 196 | n => n, fun | 70 => 217 | 9 => 9 | 3 => 3 | 75 => 223 | 0 => 0 | 72 => 220 | 37 => 218 | 4 => 4 | 164 => 280 | 80 => 191 | 5 => 5 | n => n, fun | n => n⟩
theorem laysWS : Go.Proofs.Lays.n166 Tryz.prog laysWS_ren := {
  mixed := by kernel_rfl
  f166 := Tryz.func129.trans (congrArg some (by kernel_rfl))
  f240 := Tryz.func173.trans (congrArg some (by kernel_rfl))
  f276 := Tryz.func196.trans (congrArg some (by kernel_rfl))
  t0 := Tryz.underlying0
  a0 := Tryz.isAgg0
  z0 := Tryz.sizeOf0
  v0 := Tryz.zeroValue0
  t3 := Tryz.underlying3
  a3 := Tryz.isAgg3
  z3 := Tryz.sizeOf3
  v3 := Tryz.zeroValue3
  t4 := Tryz.underlying4
  a4 := Tryz.isAgg4
  z4 := Tryz.sizeOf4
  v4 := Tryz.zeroValue4
  t9 := Tryz.underlying9
  a9 := Tryz.isAgg9
  z9 := Tryz.sizeOf9
  v9 := Tryz.zeroValue9
  t20 := Tryz.underlying20
  a20 := Tryz.isAgg20
  z20 := Tryz.sizeOf20
  v20 := Tryz.zeroValue20
  t37 := Tryz.underlying218
  a37 := Tryz.isAgg218
  z37 := Tryz.sizeOf218
  v37 := Tryz.zeroValue218
  t70 := Tryz.underlying217
  a70 := Tryz.isAgg217
  z70 := Tryz.sizeOf217
  v70 := Tryz.zeroValue217
  t72 := Tryz.underlying220
  a72 := Tryz.isAgg220
  z72 := Tryz.sizeOf220
  v72 := Tryz.zeroValue220
  t75 := Tryz.underlying223
  a75 := Tryz.isAgg223
  z75 := Tryz.sizeOf223
  v75 := Tryz.zeroValue223
  t164 := Tryz.underlying280
  a164 := Tryz.isAgg280
  z164 := Tryz.sizeOf280
  v164 := Tryz.zeroValue280
}
theorem extWS : Builder.Extra Tryz.prog laysWS_ren := {
  sizeBuilder := by kernel_rfl
  liesBuilder := by kernel_rfl
  t5 := Tryz.underlying5
  a5 := Tryz.isAgg5
  z5 := Tryz.sizeOf5
  v5 := Tryz.zeroValue5
  infoByte := by kernel_rfl
  cellsByte := by kernel_rfl
  sizeByte := by kernel_rfl
  neB5 := by decide
}
def laysBS_ren : Go.Shelf.Ren := ⟨fun | 169 => 130 | n => n, fun | 70 => 217 | 9 => 9 | 0 => 0 | 72 => 220 | 37 => 218 | 127 => 263 | 3 => 3 | 5 => 5 | n => n, fun | n => n⟩
theorem laysBS : Go.Proofs.Lays.n169 Tryz.prog laysBS_ren := {
  mixed := by kernel_rfl
  f169 := Tryz.func130.trans (congrArg some (by kernel_rfl))
  t0 := Tryz.underlying0
  a0 := Tryz.isAgg0
  z0 := Tryz.sizeOf0
  v0 := Tryz.zeroValue0
  t3 := Tryz.underlying3
  a3 := Tryz.isAgg3
  z3 := Tryz.sizeOf3
  v3 := Tryz.zeroValue3
  t9 := Tryz.underlying9
  a9 := Tryz.isAgg9
  z9 := Tryz.sizeOf9
  v9 := Tryz.zeroValue9
  t37 := Tryz.underlying218
  a37 := Tryz.isAgg218
  z37 := Tryz.sizeOf218
  v37 := Tryz.zeroValue218
  t70 := Tryz.underlying217
  a70 := Tryz.isAgg217
  z70 := Tryz.sizeOf217
  v70 := Tryz.zeroValue217
  t72 := Tryz.underlying220
  a72 := Tryz.isAgg220
  z72 := Tryz.sizeOf220
  v72 := Tryz.zeroValue220
  t127 := Tryz.underlying263
  a127 := Tryz.isAgg263
  z127 := Tryz.sizeOf263
  v127 := Tryz.zeroValue263
}
theorem extBS : Builder.Extra Tryz.prog laysBS_ren := {
  sizeBuilder := by kernel_rfl
  liesBuilder := by kernel_rfl
  t5 := Tryz.underlying5
  a5 := Tryz.isAgg5
  z5 := Tryz.sizeOf5
  v5 := Tryz.zeroValue5
  infoByte := by kernel_rfl
  cellsByte := by kernel_rfl
  sizeByte := by kernel_rfl
  neB5 := by decide
}
theorem qac (B b : Nat) (bs : List Value) (c : Int) (w : World) (h : Lib.IsBuilder 220 5 B b bs w) (hlen : bs.length + 1 ≤ 140737488355328) (hBw : B ≤ w.heap.size) :
    Calls Tryz.prog 195 #[.pointer (some ⟨b, 0, none⟩), .int .u8 c] w fun e w' => e = .returned .nilIface ∧ (Lib.BuilderAt 220 5 B b (.pointer (some ⟨b, 0, none⟩)) (bs ++ [.int .u8 c]) w' ∧ Below B w w') :=
  Any.Builder_WriteByte laysWB extWB B b bs c w h hlen hBw
theorem writeString_any (B b : Nat) (bs : List Value) (s : ByteArray) (w : World) (h : Lib.IsBuilder 220 5 B b bs w) (hlen : bs.length + s.size ≤ 140737488355328) (hBw : B ≤ w.heap.size) :
    Calls Tryz.prog 129 #[.pointer (some ⟨b, 0, none⟩), .string s] w fun e w' => e = .returned (.tuple #[.int .i64 s.size, .nilIface]) ∧ (Lib.BuilderAt 220 5 B b (.pointer (some ⟨b, 0, none⟩)) (bs ++ Lib.strCells s) w' ∧ Below B w w') :=
  Any.Builder_WriteString laysWS extWS B b bs s w h hlen hBw
theorem builderText_any (B b : Nat) (l : List UInt8) (w : World) (h : Lib.IsBuilder 220 5 B b (Lib.byteCells l) w) (hBw : B ≤ w.heap.size) :
    Calls Tryz.prog 130 #[.pointer (some ⟨b, 0, none⟩)] w fun e w' => e = .returned (.string ⟨l.toArray⟩) ∧ Below B w w' :=
  Any.Builder_String_any laysBS extBS B b l w h hBw
end Go.Proofs.YtlmgamnpfdgdeaaGreatDoor
namespace Go.Proofs.YtlmgamnpfdgdeaaGreatDoor
set_option linter.unusedVariables false
set_option linter.unusedSimpArgs false
def decF : Nat → Nat → List UInt8
  | 0, _ => []
  | f + 1, u => bif Nat.blt u 10 then [UInt8.ofNat (48 + u)] else decF f (u / 10) ++ [UInt8.ofNat (48 + u % 10)]
def itoaF (n : Int) : List UInt8 := match n with
  | .ofNat u => decF 20 u
  | .negSucc u => 45 :: decF 20 (u + 1)
def hexD (n : Nat) : UInt8 := if n < 10 then UInt8.ofNat (48 + n) else UInt8.ofNat (87 + n)
def oddB (c : Nat) : Bool := decide (c < 32) || decide (126 < c) || decide (c = 34) || decide (c = 92)
def qB (c : UInt8) : List UInt8 := if oddB c.toNat then [92, hexD (c.toNat / 16), hexD (c.toNat % 16)] else [c]
def quoteL (s : ByteArray) : List UInt8 := 34 :: s.data.toList.flatMap qB ++ [34]
end Go.Proofs.YtlmgamnpfdgdeaaGreatDoor
namespace Go.Proofs.YtlmgamnpfdgdeaaGreatDoor
open Go.RowKit
set_option linter.unusedSimpArgs false
set_option linter.unusedVariables false
attribute [local go_sem] jG zC
attribute [local go_sem low] zx zb
theorem qB_len (c : UInt8) : (qB c).length ≤ 3 := by unfold qB; split <;> simp
theorem flat_qB : ∀ l : List UInt8, (l.flatMap qB).length ≤ 3 * l.length
  | [] => Nat.le_refl _
  | c :: l => by
    have h1 := flat_qB l
    have h2 := qB_len c
    simp only [List.flatMap_cons, List.length_append, List.length_cons]
    omega
theorem q_len (s : ByteArray) (k : Nat) (hs : s.size ≤ 1000000) : (Lib.byteCells (34 :: (s.data.toList.take k).flatMap qB)).length ≤ 3000001 := by
  have h1 := flat_qB (s.data.toList.take k)
  have h2 : (s.data.toList.take k).length ≤ s.size := by rw [List.length_take]; exact Nat.le_trans (Nat.min_le_right _ _) (by simp)
  simp only [Lib.byteCells_length, List.length_cons]
  omega
def hexS : ByteArray := ⟨#[48, 49, 50, 51, 52, 53, 54, 55, 56, 57, 97, 98, 99, 100, 101, 102]⟩
theorem hex_at : ∀ d : Nat, d < 16 → hexS.extract d (d + 1) = ⟨#[hexD d]⟩
  | 0, _ => by decide | 1, _ => by decide | 2, _ => by decide | 3, _ => by decide | 4, _ => by decide | 5, _ => by decide | 6, _ => by decide | 7, _ => by decide
  | 8, _ => by decide | 9, _ => by decide | 10, _ => by decide | 11, _ => by decide | 12, _ => by decide | 13, _ => by decide | 14, _ => by decide | 15, _ => by decide
  | n + 16, h => absurd h (by omega)
theorem oct_cells {d f : Nat} (hd : d < 16) (hf : f < 16) : Lib.strCells ((⟨#[92]⟩ ++ hexS.extract d (d + 1)) ++ hexS.extract f (f + 1)) = Lib.byteCells [92, hexD d, hexD f] := by
  rw [hex_at d hd, hex_at f hf]; rfl
theorem oct_size {d f : Nat} (hd : d < 16) (hf : f < 16) : ((⟨#[92]⟩ ++ hexS.extract d (d + 1)) ++ hexS.extract f (f + 1)).size = 3 := by
  rw [hex_at d hd, hex_at f hf]; rfl
theorem q_step (s : ByteArray) {k : Nat} (hk : k < s.size) : Lib.byteCells (34 :: (s.data.toList.take (k + 1)).flatMap qB) = Lib.byteCells (34 :: (s.data.toList.take k).flatMap qB) ++ Lib.byteCells (qB s[k]) := by
  have hk' : k < s.data.toList.length := by simpa using hk
  rw [List.take_succ_eq_append_getElem hk', List.flatMap_append]
  have e : s.data.toList[k] = s[k] := by rw [Array.getElem_toList]; rfl
  rw [e]
  simp [Lib.byteCells]
set_option maxHeartbeats 2000000 in
theorem quoted_any (s : ByteArray) (w : World) (hs : s.size ≤ 1000000) :
    Calls Tryz.prog 172 #[.string s] w fun e w' => e = .returned (.string ⟨(quoteL s).toArray⟩) ∧ Below w.heap.size w w' := by
  have hfr := Lib.fresh_isBuilder 220 5 w
  go_enter Tryz.func172, Tryz.ntmps172
  go_wp2_with (go_at_call 195; refine (qac w.heap.size w.heap.size [] 34 _ hfr (by simp) (by simp)).mono ?_; rintro e w1 ⟨rfl, hA, hB⟩)
  replace hA := hide (show Lib.BuilderAt 220 5 w.heap.size w.heap.size (.pointer (some ⟨w.heap.size, 0, none⟩)) (Lib.byteCells (34 :: (s.data.toList.take 0).flatMap qB)) w1 from hA)
  replace hB : Below w.heap.size w w1 := ((Below.refl _ _).alloc (Nat.le_refl _) _).trans hB
  clear hfr
  go_loopw [4, 5, 9] (fun _ _ i wr => ∃ k : Nat, k ≤ s.size ∧ i = .int .i64 k ∧ Below w.heap.size w wr ∧ Hid (Lib.BuilderAt 220 5 w.heap.size w.heap.size (.pointer (some ⟨w.heap.size, 0, none⟩)) (Lib.byteCells (34 :: (s.data.toList.take k).flatMap qB)) wr)) (fun _ _ i _ => s.size - (intOf i).toNat)
  case atStart => exact ⟨0, Nat.zero_le _, rfl, hB, hA⟩
  case round =>
    clear hA hB
    obtain ⟨k, hk, rfl, hB, hA⟩ := hrel
    by_cases hlt : k < s.size
    · skip
      go_upto_region 6 with (fail)
      refine wz (by kernel_rfl) ?_
      repeat (refine qw ?_; intro K hK; go_big_quiet_op; go_big_quiet_on)
      refine qZ ?_
      intro us
      simp only [junk, Act.put, List.setIfInBounds_toArray, List.set_cons_zero, List.set_cons_succ]
      go_upto_region 7 with (fail)
      refine wz (by kernel_rfl) ?_
      repeat (refine qw ?_; intro K hK; go_big_quiet_op; go_big_quiet_on)
      refine qZ ?_
      intro us
      simp only [junk, Act.put, List.setIfInBounds_toArray, List.set_cons_zero, List.set_cons_succ]
      have hl := q_len s k hs
      have hsz := hB.size
      go_upto_region 8 with (go_at_call 195; refine (qac _ _ _ _ _ (Or.inr hA.out) (by omega) hsz).mono ?_; rintro e w2 ⟨rfl, hA2, hB2⟩)
      · rename_i h
        have ho : oddB s[k].toNat = true := by revert h; unfold oddB; simp; omega
        replace ho := hide ho
        clear h
        obtain ⟨c, hc⟩ : ∃ c : Nat, c = s[k].toNat := ⟨_, rfl⟩
        rw [← hc]
        have hc2 : c < 256 := by rw [hc]; exact UInt8.toNat_lt _
        obtain ⟨d, hd⟩ : ∃ d : Nat, d = c / 16 := ⟨_, rfl⟩
        obtain ⟨f, hf⟩ : ∃ f : Nat, f = c % 16 := ⟨_, rfl⟩
        have e1 : (c : Int) / 16 = d := by omega
        have e2 : ((d : Int) + 1) % 256 = d + 1 := by omega
        have e3 : (d : Int) ≤ d + 1 := by omega
        have e4 : (d : Int) + 1 ≤ 16 := by omega
        have e5 : (0 : Int) ≤ d := by omega
        have e6 : (c : Int) % 16 = f := by omega
        have e7 : ((f : Int) + 1) % 256 = f + 1 := by omega
        have e8 : (f : Int) + 1 ≤ 16 := by omega
        replace hc := hide hc
        replace hd := hide hd
        replace hf := hide hf
        have hd2 : d < 16 := by have := hd.out; omega
        have hf2 : f < 16 := by have := hf.out; omega
        have hw : w.heap.size ≤ wr.drew.heap.size := by simp; omega
        refine wp_region_moveB (w.heap.size) [(0, true), (1, true), (2, true), (3, true), (4, true), (5, true), (6, true), (7, true), (8, true), (9, true), (10, true), (11, true), (12, true), (13, true), (14, false)] (by kernel_rfl) (by kernel_rfl) (by kernel_rfl) ?_
        repeat (first | (refine moveB_read (by rfl) (by rfl) (by rfl) ?_; intro K hK; go_big_quiet_op; go_big_quiet_on) | (refine moveB_skip (by rfl) (by rfl) ?_; simp only [Act.put, List.setIfInBounds_toArray, List.set_cons_zero, List.set_cons_succ]))
        refine moveB_act (by rfl) (by rfl) ?_; intro Q' hQ'
        go_wp2_with (fail)
        (refine (writeString_any _ _ _ _ _ (Or.inr hA.out.drew) (by have := oct_size hd2 hf2; unfold hexS at this; rw [this]; omega) hw).mono ?_; rintro e w2 ⟨rfl, hA2, hB2⟩)
        go_wp2
        refine hQ'.out _ _ ?_ ?_
        · exact (by repeat (first | exact Below.refl _ _ | assumption | refine Below.alloc ?_ (by first | omega | (simp; omega)) _ | refine Below.drew ?_ | refine qk ?_ | exact Below.mono (by assumption) (by omega)))
        clear hQ' Q'
        repeat (first | (refine moveB_read (by rfl) (by rfl) (by rfl) ?_; intro K hK; go_big_quiet_op; go_big_quiet_on) | (refine moveB_skip (by rfl) (by rfl) ?_; simp only [Act.put, List.setIfInBounds_toArray, List.set_cons_zero, List.set_cons_succ]))
        refine moveB_done ?_
        go_wp2
        go_roundw
        case rel =>
          refine ⟨k + 1, by omega, by go_num, hB.drew.trans hB2, hide ?_⟩
          have e := oct_cells hd2 hf2
          unfold hexS at e
          rw [e] at hA2
          have e2 : qB s[k] = [92, hexD d, hexD f] := by unfold qB; rw [if_pos ho.out, hd.out, hf.out, hc.out]
          rw [q_step s hlt, e2]
          exact hA2
        case measure => simp [intOf]; omega
      · rename_i h
        have ho : oddB s[k].toNat = false := by revert h; unfold oddB; simp; omega
        clear h
        go_roundw
        case rel =>
          refine ⟨k + 1, by omega, by go_num, hB.trans hB2, hide ?_⟩
          have e2 : qB s[k] = [s[k]] := by unfold qB; rw [if_neg (by rw [ho]; simp)]
          rw [q_step s hlt, e2]
          exact hA2
        case measure => simp [intOf]; omega
    · obtain rfl : k = s.size := by omega
      have hl := q_len s s.size hs
      have hsz := hB.size
      have e3 : Lib.byteCells (34 :: (s.data.toList.take s.size).flatMap qB) ++ [Value.int .u8 34] = Lib.byteCells (quoteL s) := by
        rw [List.take_of_length_le (by simp)]
        simp [Lib.byteCells, quoteL]
      go_wp2_with (first | (go_at_call 195; refine (qac _ _ _ 34 _ (Or.inr hA.out) (by omega) hsz).mono ?_; rintro e w2 ⟨rfl, hA2, hB2⟩; rw [e3] at hA2; have hsz2 := hB2.size; replace hA2 := hide hA2) | (go_at_call 130; refine (builderText_any _ _ (quoteL s) _ (Or.inr hA2.out) (by omega)).mono ?_; rintro e w3 ⟨rfl, hB3⟩))
      go_ret
      exact ⟨rfl, (hB.trans hB2).trans hB3⟩
end Go.Proofs.YtlmgamnpfdgdeaaGreatDoor
namespace Go.Proofs.YtlmgamnpfdgdeaaGreatDoor
set_option linter.unusedVariables false
set_option linter.unusedSimpArgs false
open Go.RowKit
def waitsO (o : Oper) (p : Nat) : Bool := o.after.toList.any fun e => Region.binds .any e && Nat.beq e.on p
section
variable {P : Program} {ops : Array Oper} {Q : Exit → Act → World → Prop}
abbrev Pend := List (Nat × (World → Prop))
def alive (ops : Array Oper) (i : Nat) (pd : Pend) : Pend := match ops[i]? with
  | some o => pd.filter fun p => !waitsO o p.1
  | none => pd
def wpAnyP (P : Program) (ops : Array Oper) (Q : Exit → Act → World → Prop) : Nat → Pend → Array Bool → Act → World → Prop
  | 0, _, listed, a, w => Region.ready .any ops listed = [] ∧ Q .normal a w
  | fuel + 1, pd, listed, a, w => (Region.ready .any ops listed = [] → Q .normal a w) ∧
      ∀ i ∈ Region.ready .any ops listed, wpOp P ops Q i (fun a' w' => (∀ p ∈ alive ops i pd, p.2 w') ∧ wpAnyP P ops Q fuel (alive ops i pd) (listed.setIfInBounds i true) a' w') a w
theorem wU : ∀ (fuel : Nat) (pd : Pend) (listed : Array Bool) (a : Act) (w : World), wpAnyP P ops Q fuel pd listed a w → wpAny P .any ops Q fuel listed a w
  | 0, _, _, _, _, h => h
  | fuel + 1, _, _, _, _, h => ⟨h.1, fun i hi => wpOp_mono (fun a' w' h' => wU fuel _ _ a' w' h'.2) (h.2 i hi)⟩
def Covers (pd pd' : Pend) : Prop := ∀ p ∈ pd, (∀ x, p.2 x) ∨ ∃ p' ∈ pd', p'.1 = p.1 ∧ ∀ x, p'.2 x → p.2 x
theorem Covers.refl (pd : Pend) : Covers pd pd := fun p hp => .inr ⟨p, hp, rfl, fun _ h => h⟩
theorem mem_alive {i : Nat} {pd : Pend} {p : Nat × (World → Prop)} : p ∈ alive ops i pd ↔ p ∈ pd ∧ (∀ o, ops[i]? = some o → waitsO o p.1 = false) := by
  unfold alive
  cases h : ops[i]? with
  | none => simp
  | some o => simp [List.mem_filter]
theorem Covers.alive {pd pd' : Pend} (h : Covers pd pd') (i : Nat) : Covers (alive ops i pd) (Go.Proofs.YtlmgamnpfdgdeaaGreatDoor.alive ops i pd') := fun p hp => by
  obtain ⟨h1, h2⟩ := mem_alive.1 hp
  rcases h p h1 with h | ⟨p', h3, h4, h5⟩
  · exact .inl h
  · exact .inr ⟨p', mem_alive.2 ⟨h3, fun o ho => by rw [h4]; exact h2 o ho⟩, h4, h5⟩
theorem Covers.at {pd pd' : Pend} (h : Covers pd pd') {w : World} (hw : ∀ p ∈ pd', p.2 w) : ∀ p ∈ pd, p.2 w := fun p hp => by
  rcases h p hp with h | ⟨p', h3, h4, h5⟩
  · exact h w
  · exact h5 w (hw p' h3)
theorem wc : ∀ (f : Nat) {pd pd' : Pend} (_ : Covers pd pd') (ls : Array Bool) (a : Act) (w : World), wpAnyP P ops Q f pd' ls a w → wpAnyP P ops Q f pd ls a w
  | 0, _, _, _, _, _, _, h => h
  | f + 1, _, _, hc, ls, a, w, h => ⟨h.1, fun i hi => wpOp_mono (fun a' w' h' => ⟨(hc.alive i).at h'.1, wc f (hc.alive i) _ a' w' h'.2⟩) (h.2 i hi)⟩
theorem wpAnyP_first {i : Nat} {oi : Oper} {v : Value} (hi : ops[i]? = some oi) (hsel : ∀ (j : Nat) (o : Oper) cs b, ops[j]? = some o → o.op ≠ .select cs b)
    (hQ : ∀ c a w, Q (.panic c) (a.put oi.dst v) w → Q (.panic c) a w) {S : World → Prop} :
    ∀ (fuel : Nat) (pd : Pend) (listed : Array Bool) (a : Act) (w : World),
      (∀ j oj, ops[j]? = some oj → j ≠ i → listed.getD j true = false → (∀ e ∈ oj.after, Region.binds .any e = true → e.on ≠ i) → oi.apart ops oj = true) →
      i ∈ Region.ready .any ops listed → YieldsIf P ops S oi v a → S w → (∀ p ∈ pd, p.2 w) →
      wpAnyP P ops Q fuel ((i, S) :: pd) (listed.setIfInBounds i true) (a.put oi.dst v) w → wpAnyP P ops Q (fuel + 1) pd listed a w := by
  have drop : ∀ (pd : Pend), Covers (Go.Proofs.YtlmgamnpfdgdeaaGreatDoor.alive ops i pd) ((i, S) :: pd) := fun pd p hp => .inr ⟨p, List.mem_cons_of_mem _ (mem_alive.1 hp).1, rfl, fun _ h => h⟩
  intro fuel
  induction fuel with
  | zero =>
    intro pd listed a w _ hr hy hS hpd H
    refine ⟨fun h => (by rw [h] at hr; cases hr), fun j hj => ?_⟩
    by_cases hji : j = i
    · subst hji; exact hy.wpOp hi hS ⟨fun p hp => hpd p (mem_alive.1 hp).1, H⟩
    · have := ready_mono hj hji
      rw [H.1] at this
      cases this
  | succ fuel ih =>
    intro pd listed a w hfree hr hy hS hpd H
    refine ⟨fun h => (by rw [h] at hr; cases hr), fun j hj => ?_⟩
    by_cases hji : j = i
    · subst hji; exact hy.wpOp hi hS ⟨fun p hp => hpd p (mem_alive.1 hp).1, wc _ (drop pd) _ _ _ H⟩
    · have h1 := H.2 j (ready_mono hj hji)
      obtain ⟨hjun, oj, hoj, hall⟩ := mem_ready.1 hj
      have hnot : ∀ e ∈ oj.after, Region.binds .any e = true → e.on ≠ i := fun e he hb heq => by
        have h1 := hall e he hb
        have h0 := (mem_ready.1 hr).1
        rw [heq] at h1
        rcases Nat.lt_or_ge i listed.size with h' | h'
        · simp [h'] at h0 h1; rw [h0] at h1; cases h1
        · simp [Array.getElem?_eq_none h'] at h1
      have hwait : waitsO oj i = false := by
        unfold waitsO
        rw [List.any_eq_false]
        intro e he h
        rw [Bool.and_eq_true] at h
        exact hnot e (by simpa using he) h.1 (Nat.eq_of_beq_eq_true h.2)
      have hal : Go.Proofs.YtlmgamnpfdgdeaaGreatDoor.alive ops j ((i, S) :: pd) = (i, S) :: Go.Proofs.YtlmgamnpfdgdeaaGreatDoor.alive ops j pd := by
        unfold Go.Proofs.YtlmgamnpfdgdeaaGreatDoor.alive
        rw [hoj]
        simp [List.filter_cons, hwait]
      have h2 := wpOp_putIf hoj (hfree j oj hoj hji hjun hnot) (fun cs b => hsel i oi cs b hi) (fun cs b => hsel j oj cs b hoj) hQ hy h1
      have hfree' : ∀ k ok, ops[k]? = some ok → k ≠ i → (listed.setIfInBounds j true).getD k true = false →
          (∀ e ∈ ok.after, Region.binds .any e = true → e.on ≠ i) → oi.apart ops ok = true := fun k ok hk hki hun hno => by
        refine hfree k ok hk hki ?_ hno
        by_cases hjk : j = k
        · subst hjk; exact hjun
        · rw [getD_set_ne true hjk] at hun; exact hun
      refine wpOp_mono (fun a' w' h3 => ?_) h2
      obtain ⟨h31, h32, h33⟩ := h3
      rw [hal] at h32 h33
      have hpd' : ∀ p ∈ Go.Proofs.YtlmgamnpfdgdeaaGreatDoor.alive ops j pd, p.2 w' := fun p hp => h32 p (List.mem_cons_of_mem _ hp)
      refine ⟨hpd', ih _ (listed.setIfInBounds j true) a' w' hfree' (ready_mono hr (Ne.symm hji)) h31 (h32 _ (List.mem_cons_self ..)) hpd' ?_⟩
      rw [Array.setIfInBounds_comm _ _ hji]
      exact h33
end
section
variable {P : Program} {ops : Array Oper} {Q : Exit → Act → World → Prop}
def wpMoveP (P : Program) (ops : Array Oper) (Q : Exit → Act → World → Prop) : Pend → List (Nat × Bool) → Act → World → Prop
  | _, [], a, w => Q .normal a w
  | pd, (i, true) :: r, a, w => (∀ p ∈ pd, p.2 w) ∧ ∃ S o v pd', S w ∧ ops[i]? = some o ∧ YieldsIf P ops S o v a ∧ Covers ((i, S) :: pd) pd' ∧ wpMoveP P ops Q pd' r (a.put o.dst v) w
  | pd, (i, false) :: r, a, w => wpOp P ops Q i (fun a' w' => ∃ pd', Covers (alive ops i pd) pd' ∧ (∀ p ∈ pd', p.2 w') ∧ wpMoveP P ops Q pd' r a' w') a w
theorem anyP_of_move (hs : Region.noSelect ops = true) (hQ : ∀ c a d v w, Q (.panic c) (a.put d v) w → Q (.panic c) a w) : ∀ (r : List (Nat × Bool)) (pd : Pend) (ls : Array Bool) (a : Act) (w : World),
    jn .any ops r ls = true → wpMoveP P ops Q pd r a w → wpAnyP P ops Q r.length pd ls a w
  | [], pd, ls, a, w, hB, h => ⟨by simpa [jn] using hB, h⟩
  | (i, true) :: r, pd, ls, a, w, hB, h => by
    obtain ⟨hpd, S, o, v, pd', hS, ho, hy, hc, hr⟩ := h
    simp only [jn, if_true, Bool.and_eq_true] at hB
    exact wpAnyP_first ho (Region.noSelect_spec hs) (fun c a w h => hQ c a _ _ w h) r.length pd ls a w (Region.free_spec ho hB.1.1) (by simpa using hB.1.2) hy hS hpd (wc _ hc _ _ _ (anyP_of_move hs hQ r pd' _ _ w hB.2 hr))
  | (i, false) :: r, pd, ls, a, w, hB, h => by
    simp only [jn, Bool.false_eq_true, if_false, Bool.and_eq_true, beq_iff_eq] at hB
    refine ⟨fun h0 => (by rw [hB.1] at h0; cases h0), fun j hj => ?_⟩
    rw [hB.1] at hj
    obtain rfl : j = i := by simpa using hj
    exact wpOp_mono (fun a' w' h' => by
      obtain ⟨pd', h1, h2, h3⟩ := h'
      exact ⟨h1.at h2, wc _ h1 _ _ _ (anyP_of_move hs hQ r pd' _ _ _ hB.2 h3)⟩) h
end
abbrev Kap := List (Nat × List Nat)
def pendOf (γ : Nat → Value) (own : List (Nat × Box)) (w : World) (κ : Kap) : Pend := κ.map fun p => (p.1, fun x => SameOn (vis p.2 γ own) w x)
theorem wI {γ : Nat → Value} {own : List (Nat × Box)} {w : World} {κ : Kap} : ∀ p ∈ pendOf γ own w κ, p.2 w := fun p hp => by
  obtain ⟨q, _, rfl⟩ := List.mem_map.1 hp
  exact SameOn.refl _ _
def kapB (o : Oper) (κ : Kap) : Kap := κ.filter fun p => !waitsO o p.1
def SWP (P : Program) (ops : List Oper) (κ : Kap) (order : List (Nat × Bool)) (Q : St → Prop) (st : St) : Prop := ∀ (w0 : Base) (Sx : Nat → Prop) (γ : Nat → Value) (a : Act) (w : World) (QQ : Exit → Act → World → Prop), Sim w0 Sx γ st a w →
  (∀ st' γ' a' w', Sim w0 Sx γ' st' a' w' → Q st' → QQ .normal a' w') → wpMoveP P ops.toArray (NoPanic QQ) (pendOf γ st.own w κ) order a w
section
variable {P : Program} {ops : List Oper} {κ : Kap} {st : St} {Q : St → Prop} {i : Nat} {r : List (Nat × Bool)} {o : Oper}
theorem swp_nil (h : Q st) : SWP P ops κ [] Q st := fun _ _ γ a w _ hI hQ => hQ st γ a w hI h
theorem swp_skip {b : Bool} (hi : nthO ops i = some o) (hw : zF ops st o = some false) (hd : zn st o.dst = true) (h : SWP P ops κ r Q (st.put o.dst (.tup []))) : SWP P ops κ ((i, b) :: r) Q st := fun w0 Sx γ a w QQ hI hQ => by
  have hrest := h w0 Sx γ _ w QQ (hI.skip hd) hQ
  simp only [wR] at hrest
  cases b with
  | true => exact ⟨wI, fun _ => True, o, undef, _, trivial, (zd ops i).trans hi, Or.inr ⟨zq hI hw, rfl⟩, fun p hp => by
      rcases List.mem_cons.1 hp with rfl | hp
      · exact .inl fun _ => trivial
      · exact .inr ⟨p, hp, rfl, fun _ h => h⟩, hrest⟩
  | false =>
    unfold wpMoveP wpOp
    rw [(zd ops i).trans hi]
    simp only [zq hI hw, Bool.false_eq_true, if_false]
    exact ⟨_, fun p hp => .inr ⟨p, (mem_alive.1 hp).1, rfl, fun _ h => h⟩, wI, hrest⟩
theorem swp_act {Ws : List Nat} (hi : nthO ops i = some o) (hw : zF ops st o = some true) (hK : (kapB o κ).all (fun p => Ws.all fun j => p.2.contains j) = true) (h : ActOk P Ws o st (SWP P ops (kapB o κ) r Q)) : SWP P ops κ ((i, false) :: r) Q st := fun w0 Sx γ a w QQ hI hQ => by
  have hsub : ∀ p ∈ kapB o κ, ∀ j ∈ Ws, j ∈ p.2 := fun p hp j hj => by simpa using List.all_eq_true.1 (List.all_eq_true.1 hK p hp) j hj
  have hio := (zd ops i).trans hi
  unfold wpMoveP wpOp
  rw [hio]
  simp only [zq hI hw, if_true]
  refine Or.inl ?_
  have := h w0 Sx γ a w (NoPanic QQ) hI
  have mono : ∀ {a' w'}, (∃ γ' st', SWP P ops (kapB o κ) r Q st' ∧ Sim w0 Sx γ' st' a' w' ∧ SameOn (vis Ws γ st.own) w w' ∧ ∀ K : List Nat, (∀ i ∈ Ws, i ∈ K) → ∀ b, b < w.heap.size → vis K γ st.own b → vis K γ' st'.own b) →
      ∃ pd' : Pend, Covers (alive ops.toArray i (pendOf γ st.own w κ)) pd' ∧ (∀ p ∈ pd', p.2 w') ∧ wpMoveP P ops.toArray (NoPanic QQ) pd' r a' w' := fun {a' w'} ⟨γ', st', h1, h2, h3, h4⟩ => by
    refine ⟨pendOf γ' st'.own w' (kapB o κ), fun p hp => ?_, wI, h1 w0 Sx γ' a' w' QQ h2 hQ⟩
    obtain ⟨hp1, hp2⟩ := mem_alive.1 hp
    obtain ⟨q, hq, rfl⟩ := List.mem_map.1 hp1
    have hq' : q ∈ kapB o κ := List.mem_filter.2 ⟨hq, by rw [hp2 o hio]; rfl⟩
    have hs := hsub q hq'
    refine .inr ⟨_, List.mem_map.2 ⟨q, hq', rfl⟩, rfl, fun x hx => ⟨Nat.le_trans h3.size hx.size, fun b hb hv => ?_⟩⟩
    have e1 := h3.block b hb (fun j bx hj hjW hjb => hv j bx hj (by simpa using hs j (by simpa using hjW)) hjb)
    have e2 := hx.block b (Nat.lt_of_lt_of_le hb h3.size) (h4 q.2 hs b hb hv)
    exact e2.trans e1
  unfold Oper.wp at this ⊢
  generalize (execOp a.eval o).run P w = res at *
  cases res with
  | ok n w' =>
    cases n <;> simp only [Oper.upon] at this ⊢ <;> first
      | exact mono this
      | exact this
      | exact Calls.mono this (fun e w'' he => by cases e <;> first | exact mono he | exact he)
      | exact Rows.mono this (fun _ _ he => mono he)
  | halt x w' => cases x <;> simp only [Oper.upon] at this ⊢ <;> exact this
theorem sw_region_pend {id : Nat} {l : List Oper} {QS : SEx → St → Prop} (order : List (Nat × Bool)) (hm : P.follows .mixedOrders = true) (hs : Region.noSelect l.toArray = true)
    (hB : (jn .any l.toArray order (Array.replicate l.toArray.size false) && order.length == l.toArray.size) = true) (h : SWP P l [] order (QS .normal) st) : SW P (.region id l.toArray true) QS st := fun w0 Sx γ a w QQ hI hQ => by
  simp only [Bool.and_eq_true, beq_iff_eq] at hB
  refine wp_region_noPanic (wp_region_any hm (wU _ [] _ _ _ ?_))
  have h1 := h w0 Sx γ a w.drew QQ hI.drew fun s' γ' a' w' hI' hq => hQ .normal s' γ' a' w' hI' hq
  have := anyP_of_move hs (fun _ _ _ _ _ h => h) order _ (Array.replicate l.toArray.size false) a w.drew hB.1 h1
  rw [hB.2] at this
  exact this
end
end Go.Proofs.YtlmgamnpfdgdeaaGreatDoor
