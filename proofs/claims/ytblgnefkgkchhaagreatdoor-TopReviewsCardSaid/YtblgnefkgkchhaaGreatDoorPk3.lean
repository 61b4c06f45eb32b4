/- Part 3. -/
import Derived.Test.YtblgnefkgkchhaaGreatDoorChecked
import Derived.Test.YtblgnefkgkchhaaGreatDoorRows
import Derived.WalkLawsBesides
import Derived.WalkSpells
import Derived.Deep.Cut
import Derived.Deep.Light
import Derived.Test.YtblgnefkgkchhaaGreatDoorPk2
set_option maxHeartbeats 4000000
set_option linter.unusedSimpArgs false
set_option linter.unusedVariables false
namespace Go.Proofs.YtblgnefkgkchhaaGreatDoor
open _root_.Go.Proofs.Tryz
section
open Go.RowKit
theorem wG {P:Program} {t e:TypeId} (h:P.underlying t=some (.slice e)):jV P t (.sl e):=h
theorem in_of {P:Program} {t:TypeId} {k:IntKind} (h:P.underlying t=some (.int k)):jV P t (.int k):=h
theorem qS {p:Prop} (h:false=true):p:=nomatch h
abbrev y2:TyI:=⟨1,8,.int .i64,[.int .i64 0],false⟩
theorem ty2:TyOk prog 2 y2:=⟨qx DG,(in_of DG),qS⟩
abbrev y3:TyI:=⟨1,8,.int .i64,[.int .i64 0],false⟩
theorem eqt3 (d:Nat):EqT prog (d+1) 3 false [.int .i64 0]:=eqt_int d 0 DG
theorem ty3:TyOk prog 3 y3:=⟨qx DG,(in_of DG),qS⟩
abbrev y4:TyI:=⟨1,1,.bool,[.bool false],false⟩
theorem eqt4 (d:Nat):EqT prog (d+1) 4 false [.bool false]:=eqt_bool d false DG
theorem ty4:TyOk prog 4 y4:=⟨qx DG,(by kernel_rfl:prog.underlying 4=some (.bool)),qS⟩
abbrev y5:TyI:=⟨1,1,.int .u8,[.int .u8 0],false⟩
theorem ty5:TyOk prog 5 y5:=⟨qx DG,(in_of DG),qS⟩
abbrev y9:TyI:=⟨1,16,.str,[.string ⟨#[]⟩],false⟩
theorem eqt9 (d:Nat):EqT prog (d+1) 9 false [.string ⟨#[]⟩]:=eqt_str d _ DG
theorem ty9:TyOk prog 9 y9:=⟨qx DG,(by kernel_rfl:prog.underlying 9=some (.string)),qS⟩
abbrev y12:TyI:=⟨1,8,.int .u64,[.int .u64 0],false⟩
theorem ty12:TyOk prog 12 y12:=⟨qx DG,(in_of DG),qS⟩
abbrev y13:TyI:=⟨2,24,.st [(0,9),(1,12)],[.string ⟨#[]⟩,.int .u64 0],false⟩
theorem ty13:TyOk prog 13 y13:=⟨qx DG,(qH DG),qS⟩
abbrev y20:TyI:=⟨1,16,.ifc,[.nilIface],false⟩
theorem ty20:TyOk prog 20 y20:=⟨qx DG,(ifc_of DG),qS⟩
abbrev y21:TyI:=⟨1,4,.int .i32,[.int .i32 0],false⟩
theorem ty21:TyOk prog 21 y21:=⟨qx DG,(in_of DG),qS⟩
abbrev y22:TyI:=⟨1,24,.sl 9,[.slice none 0 0],false⟩
theorem ty22:TyOk prog 22 y22:=⟨qx DG,(wG DG),qS⟩
abbrev y23:TyI:=⟨1,8,.ptr,[.pointer none],false⟩
theorem ty23:TyOk prog 23 y23:=⟨qx DG,(ptr_of DG),qS⟩
abbrev y24:TyI:=⟨1,8,.ptr,[.pointer none],false⟩
theorem ty24:TyOk prog 24 y24:=⟨qx DG,(ptr_of DG),qS⟩
abbrev y28:TyI:=⟨1,24,.sl 91,[.slice none 0 0],false⟩
theorem ty28:TyOk prog 28 y28:=⟨qx DG,(wG DG),qS⟩
abbrev y29:TyI:=⟨1,24,.sl 69,[.slice none 0 0],false⟩
theorem ty29:TyOk prog 29 y29:=⟨qx DG,(wG DG),qS⟩
abbrev y30:TyI:=⟨1,24,.sl 123,[.slice none 0 0],false⟩
theorem ty30:TyOk prog 30 y30:=⟨qx DG,(wG DG),qS⟩
abbrev y31:TyI:=⟨1,24,.sl 52,[.slice none 0 0],false⟩
theorem ty31:TyOk prog 31 y31:=⟨qx DG,(wG DG),qS⟩
abbrev y32:TyI:=⟨1,24,.sl 215,[.slice none 0 0],false⟩
theorem ty32:TyOk prog 32 y32:=⟨qx DG,(wG DG),qS⟩
abbrev y33:TyI:=⟨1,24,.sl 215,[.slice none 0 0],false⟩
theorem ty33:TyOk prog 33 y33:=⟨qx DG,(wG DG),qS⟩
abbrev y34:TyI:=⟨1,24,.sl 150,[.slice none 0 0],false⟩
theorem ty34:TyOk prog 34 y34:=⟨qx DG,(wG DG),qS⟩
abbrev y35:TyI:=⟨1,24,.sl 38,[.slice none 0 0],false⟩
theorem ty35:TyOk prog 35 y35:=⟨qx DG,(wG DG),qS⟩
abbrev y36:TyI:=⟨1,24,.sl 64,[.slice none 0 0],false⟩
theorem ty36:TyOk prog 36 y36:=⟨qx DG,(wG DG),qS⟩
abbrev y37:TyI:=⟨7,128,.st [(0,9),(1,4),(2,3),(3,33),(4,34),(5,35),(6,36)],[.string ⟨#[]⟩,.bool false,.int .i64 0,.slice none 0 0,.slice none 0 0,.slice none 0 0,.slice none 0 0],false⟩
theorem ty37:TyOk prog 37 y37:=⟨qx DG,(qH DG),qS⟩
abbrev y38:TyI:=⟨7,128,.st [(0,9),(1,4),(2,3),(3,33),(4,34),(5,35),(6,36)],[.string ⟨#[]⟩,.bool false,.int .i64 0,.slice none 0 0,.slice none 0 0,.slice none 0 0,.slice none 0 0],false⟩
theorem ty38:TyOk prog 38 y38:=⟨qx DG,(qH DG),qS⟩
abbrev y39:TyI:=⟨13,240,.st [(0,3),(1,28),(2,29),(3,30),(4,31),(5,38),(12,3)],[.int .i64 0,.slice none 0 0,.slice none 0 0,.slice none 0 0,.slice none 0 0,.string ⟨#[]⟩,.bool false,.int .i64 0,.slice none 0 0,.slice none 0 0,.slice none 0 0,.slice none 0 0,.int .i64 0],false⟩
theorem ty39:TyOk prog 39 y39:=⟨qx DG,(qH DG),qS⟩
abbrev y40:TyI:=⟨13,240,.st [(0,3),(1,28),(2,29),(3,30),(4,31),(5,38),(12,3)],[.int .i64 0,.slice none 0 0,.slice none 0 0,.slice none 0 0,.slice none 0 0,.string ⟨#[]⟩,.bool false,.int .i64 0,.slice none 0 0,.slice none 0 0,.slice none 0 0,.slice none 0 0,.int .i64 0],false⟩
theorem ty40:TyOk prog 40 y40:=⟨qx DG,(qH DG),qS⟩
abbrev y43:TyI:=⟨3,32,.st [(0,3),(1,3),(2,9)],[.int .i64 0,.int .i64 0,.string ⟨#[]⟩],true⟩
theorem eqt43 (d:Nat):EqT prog (d+2) 43 true [.int .i64 0,.int .i64 0,.string ⟨#[]⟩]:=qW (d:=d+1) underlying43 DG (.cons (i:=y3) rfl DO ty3 rfl DO (eqt3 (d+0)) (.cons (i:=y3) rfl DO ty3 rfl DO (eqt3 (d+0)) (.cons (i:=y9) rfl DO ty9 rfl DO (eqt9 (d+0)) (.nil))))
theorem ty43:TyOk prog 43 y43:=⟨qx DG,(qH DG),fun _=>⟨by kernel_rfl,fun xs ys b w=>eqt43 9998 xs ys b w⟩⟩
abbrev y44:TyI:=⟨3,32,.st [(0,3),(1,3),(2,9)],[.int .i64 0,.int .i64 0,.string ⟨#[]⟩],true⟩
theorem eqt44 (d:Nat):EqT prog (d+2) 44 true [.int .i64 0,.int .i64 0,.string ⟨#[]⟩]:=qW (d:=d+1) underlying44 DG (.cons (i:=y3) rfl DO ty3 rfl DO (eqt3 (d+0)) (.cons (i:=y3) rfl DO ty3 rfl DO (eqt3 (d+0)) (.cons (i:=y9) rfl DO ty9 rfl DO (eqt9 (d+0)) (.nil))))
theorem ty44:TyOk prog 44 y44:=⟨qx DG,(qH DG),fun _=>⟨by kernel_rfl,fun xs ys b w=>eqt44 9998 xs ys b w⟩⟩
abbrev y45:TyI:=⟨12,152,.st [(0,3),(1,9),(2,9),(3,9),(4,9),(5,44),(8,3),(9,9),(10,9),(11,4)],[.int .i64 0,.string ⟨#[]⟩,.string ⟨#[]⟩,.string ⟨#[]⟩,.string ⟨#[]⟩,.int .i64 0,.int .i64 0,.string ⟨#[]⟩,.int .i64 0,.string ⟨#[]⟩,.string ⟨#[]⟩,.bool false],true⟩
theorem eqt45 (d:Nat):EqT prog (d+3) 45 true [.int .i64 0,.string ⟨#[]⟩,.string ⟨#[]⟩,.string ⟨#[]⟩,.string ⟨#[]⟩,.int .i64 0,.int .i64 0,.string ⟨#[]⟩,.int .i64 0,.string ⟨#[]⟩,.string ⟨#[]⟩,.bool false]:=qW (d:=d+2) underlying45 DG (.cons (i:=y3) rfl DO ty3 rfl DO (eqt3 (d+1)) (.cons (i:=y9) rfl DO ty9 rfl DO (eqt9 (d+1)) (.cons (i:=y9) rfl DO ty9 rfl DO (eqt9 (d+1)) (.cons (i:=y9) rfl DO ty9 rfl DO (eqt9 (d+1)) (.cons (i:=y9) rfl DO ty9 rfl DO (eqt9 (d+1)) (.cons (i:=y44) rfl DO ty44 rfl DO (eqt44 (d+0)) (.cons (i:=y3) rfl DO ty3 rfl DO (eqt3 (d+1)) (.cons (i:=y9) rfl DO ty9 rfl DO (eqt9 (d+1)) (.cons (i:=y9) rfl DO ty9 rfl DO (eqt9 (d+1)) (.cons (i:=y4) rfl DO ty4 rfl DO (eqt4 (d+1)) (.nil)))))))))))
theorem ty45:TyOk prog 45 y45:=⟨qx DG,(qH DG),fun _=>⟨by kernel_rfl,fun xs ys b w=>eqt45 9997 xs ys b w⟩⟩
abbrev y46:TyI:=⟨12,152,.st [(0,3),(1,9),(2,9),(3,9),(4,9),(5,44),(8,3),(9,9),(10,9),(11,4)],[.int .i64 0,.string ⟨#[]⟩,.string ⟨#[]⟩,.string ⟨#[]⟩,.string ⟨#[]⟩,.int .i64 0,.int .i64 0,.string ⟨#[]⟩,.int .i64 0,.string ⟨#[]⟩,.string ⟨#[]⟩,.bool false],true⟩
theorem eqt46 (d:Nat):EqT prog (d+3) 46 true [.int .i64 0,.string ⟨#[]⟩,.string ⟨#[]⟩,.string ⟨#[]⟩,.string ⟨#[]⟩,.int .i64 0,.int .i64 0,.string ⟨#[]⟩,.int .i64 0,.string ⟨#[]⟩,.string ⟨#[]⟩,.bool false]:=qW (d:=d+2) underlying46 DG (.cons (i:=y3) rfl DO ty3 rfl DO (eqt3 (d+1)) (.cons (i:=y9) rfl DO ty9 rfl DO (eqt9 (d+1)) (.cons (i:=y9) rfl DO ty9 rfl DO (eqt9 (d+1)) (.cons (i:=y9) rfl DO ty9 rfl DO (eqt9 (d+1)) (.cons (i:=y9) rfl DO ty9 rfl DO (eqt9 (d+1)) (.cons (i:=y44) rfl DO ty44 rfl DO (eqt44 (d+0)) (.cons (i:=y3) rfl DO ty3 rfl DO (eqt3 (d+1)) (.cons (i:=y9) rfl DO ty9 rfl DO (eqt9 (d+1)) (.cons (i:=y9) rfl DO ty9 rfl DO (eqt9 (d+1)) (.cons (i:=y4) rfl DO ty4 rfl DO (eqt4 (d+1)) (.nil)))))))))))
theorem ty46:TyOk prog 46 y46:=⟨qx DG,(qH DG),fun _=>⟨by kernel_rfl,fun xs ys b w=>eqt46 9997 xs ys b w⟩⟩
abbrev y51:TyI:=⟨2,32,.st [(0,9),(1,9)],[.string ⟨#[]⟩,.string ⟨#[]⟩],true⟩
theorem eqt51 (d:Nat):EqT prog (d+2) 51 true [.string ⟨#[]⟩,.string ⟨#[]⟩]:=qW (d:=d+1) underlying51 DG (.cons (i:=y9) rfl DO ty9 rfl DO (eqt9 (d+0)) (.cons (i:=y9) rfl DO ty9 rfl DO (eqt9 (d+0)) (.nil)))
theorem ty51:TyOk prog 51 y51:=⟨qx DG,(qH DG),fun _=>⟨by kernel_rfl,fun xs ys b w=>eqt51 9998 xs ys b w⟩⟩
abbrev y52:TyI:=⟨2,32,.st [(0,9),(1,9)],[.string ⟨#[]⟩,.string ⟨#[]⟩],true⟩
theorem eqt52 (d:Nat):EqT prog (d+2) 52 true [.string ⟨#[]⟩,.string ⟨#[]⟩]:=qW (d:=d+1) underlying52 DG (.cons (i:=y9) rfl DO ty9 rfl DO (eqt9 (d+0)) (.cons (i:=y9) rfl DO ty9 rfl DO (eqt9 (d+0)) (.nil)))
theorem ty52:TyOk prog 52 y52:=⟨qx DG,(qH DG),fun _=>⟨by kernel_rfl,fun xs ys b w=>eqt52 9998 xs ys b w⟩⟩
abbrev y54:TyI:=⟨1,16,.cpx,[.complex .f64 0 0],false⟩
theorem ty54:TyOk prog 54 y54:=⟨qx DG,(by kernel_rfl:prog.underlying 54=some (.complex .f64)),qS⟩
abbrev y55:TyI:=⟨1,16,.cpx,[.complex .f64 0 0],false⟩
theorem ty55:TyOk prog 55 y55:=⟨qx DG,(by kernel_rfl:prog.underlying 55=some (.complex .f64)),qS⟩
abbrev y56:TyI:=⟨2,40,.st [(0,55),(1,36)],[.complex .f64 0 0,.slice none 0 0],false⟩
theorem ty56:TyOk prog 56 y56:=⟨qx DG,(qH DG),qS⟩
abbrev y57:TyI:=⟨2,40,.st [(0,55),(1,36)],[.complex .f64 0 0,.slice none 0 0],false⟩
theorem ty57:TyOk prog 57 y57:=⟨qx DG,(qH DG),qS⟩
abbrev y58:TyI:=⟨1,8,.int .i64,[.int .i64 0],false⟩
theorem ty58:TyOk prog 58 y58:=⟨qx DG,(in_of DG),qS⟩
abbrev y61:TyI:=⟨1,24,.sl 129,[.slice none 0 0],false⟩
theorem ty61:TyOk prog 61 y61:=⟨qx DG,(wG DG),qS⟩
abbrev y63:TyI:=⟨3,32,.st [(0,3),(1,3),(2,9)],[.int .i64 0,.int .i64 0,.string ⟨#[]⟩],true⟩
theorem eqt63 (d:Nat):EqT prog (d+2) 63 true [.int .i64 0,.int .i64 0,.string ⟨#[]⟩]:=qW (d:=d+1) underlying63 DG (.cons (i:=y3) rfl DO ty3 rfl DO (eqt3 (d+0)) (.cons (i:=y3) rfl DO ty3 rfl DO (eqt3 (d+0)) (.cons (i:=y9) rfl DO ty9 rfl DO (eqt9 (d+0)) (.nil))))
theorem ty63:TyOk prog 63 y63:=⟨qx DG,(qH DG),fun _=>⟨by kernel_rfl,fun xs ys b w=>eqt63 9998 xs ys b w⟩⟩
abbrev y64:TyI:=⟨3,32,.st [(0,3),(1,3),(2,9)],[.int .i64 0,.int .i64 0,.string ⟨#[]⟩],true⟩
theorem eqt64 (d:Nat):EqT prog (d+2) 64 true [.int .i64 0,.int .i64 0,.string ⟨#[]⟩]:=qW (d:=d+1) underlying64 DG (.cons (i:=y3) rfl DO ty3 rfl DO (eqt3 (d+0)) (.cons (i:=y3) rfl DO ty3 rfl DO (eqt3 (d+0)) (.cons (i:=y9) rfl DO ty9 rfl DO (eqt9 (d+0)) (.nil))))
theorem ty64:TyOk prog 64 y64:=⟨qx DG,(qH DG),fun _=>⟨by kernel_rfl,fun xs ys b w=>eqt64 9998 xs ys b w⟩⟩
abbrev y68:TyI:=⟨7,88,.st [(0,3),(1,3),(2,9),(3,9),(4,9),(5,9),(6,4)],[.int .i64 0,.int .i64 0,.string ⟨#[]⟩,.string ⟨#[]⟩,.string ⟨#[]⟩,.string ⟨#[]⟩,.bool false],true⟩
theorem eqt68 (d:Nat):EqT prog (d+2) 68 true [.int .i64 0,.int .i64 0,.string ⟨#[]⟩,.string ⟨#[]⟩,.string ⟨#[]⟩,.string ⟨#[]⟩,.bool false]:=qW (d:=d+1) underlying68 DG (.cons (i:=y3) rfl DO ty3 rfl DO (eqt3 (d+0)) (.cons (i:=y3) rfl DO ty3 rfl DO (eqt3 (d+0)) (.cons (i:=y9) rfl DO ty9 rfl DO (eqt9 (d+0)) (.cons (i:=y9) rfl DO ty9 rfl DO (eqt9 (d+0)) (.cons (i:=y9) rfl DO ty9 rfl DO (eqt9 (d+0)) (.cons (i:=y9) rfl DO ty9 rfl DO (eqt9 (d+0)) (.cons (i:=y4) rfl DO ty4 rfl DO (eqt4 (d+0)) (.nil))))))))
theorem ty68:TyOk prog 68 y68:=⟨qx DG,(qH DG),fun _=>⟨by kernel_rfl,fun xs ys b w=>eqt68 9998 xs ys b w⟩⟩
abbrev y69:TyI:=⟨7,88,.st [(0,3),(1,3),(2,9),(3,9),(4,9),(5,9),(6,4)],[.int .i64 0,.int .i64 0,.string ⟨#[]⟩,.string ⟨#[]⟩,.string ⟨#[]⟩,.string ⟨#[]⟩,.bool false],true⟩
theorem eqt69 (d:Nat):EqT prog (d+2) 69 true [.int .i64 0,.int .i64 0,.string ⟨#[]⟩,.string ⟨#[]⟩,.string ⟨#[]⟩,.string ⟨#[]⟩,.bool false]:=qW (d:=d+1) underlying69 DG (.cons (i:=y3) rfl DO ty3 rfl DO (eqt3 (d+0)) (.cons (i:=y3) rfl DO ty3 rfl DO (eqt3 (d+0)) (.cons (i:=y9) rfl DO ty9 rfl DO (eqt9 (d+0)) (.cons (i:=y9) rfl DO ty9 rfl DO (eqt9 (d+0)) (.cons (i:=y9) rfl DO ty9 rfl DO (eqt9 (d+0)) (.cons (i:=y9) rfl DO ty9 rfl DO (eqt9 (d+0)) (.cons (i:=y4) rfl DO ty4 rfl DO (eqt4 (d+0)) (.nil))))))))
theorem ty69:TyOk prog 69 y69:=⟨qx DG,(qH DG),fun _=>⟨by kernel_rfl,fun xs ys b w=>eqt69 9998 xs ys b w⟩⟩
abbrev y73:TyI:=⟨8,80,.st [(0,58),(1,55),(2,4),(3,44),(6,4),(7,3)],[.int .i64 0,.complex .f64 0 0,.bool false,.int .i64 0,.int .i64 0,.string ⟨#[]⟩,.bool false,.int .i64 0],false⟩
theorem ty73:TyOk prog 73 y73:=⟨qx DG,(qH DG),qS⟩
abbrev y74:TyI:=⟨8,80,.st [(0,58),(1,55),(2,4),(3,44),(6,4),(7,3)],[.int .i64 0,.complex .f64 0 0,.bool false,.int .i64 0,.int .i64 0,.string ⟨#[]⟩,.bool false,.int .i64 0],false⟩
theorem ty74:TyOk prog 74 y74:=⟨qx DG,(qH DG),qS⟩
abbrev y79:TyI:=⟨16,208,.st [(0,46),(12,3),(13,55),(14,4),(15,36)],[.int .i64 0,.string ⟨#[]⟩,.string ⟨#[]⟩,.string ⟨#[]⟩,.string ⟨#[]⟩,.int .i64 0,.int .i64 0,.string ⟨#[]⟩,.int .i64 0,.string ⟨#[]⟩,.string ⟨#[]⟩,.bool false,.int .i64 0,.complex .f64 0 0,.bool false,.slice none 0 0],false⟩
theorem ty79:TyOk prog 79 y79:=⟨qx DG,(qH DG),qS⟩
abbrev y80:TyI:=⟨16,208,.st [(0,46),(12,3),(13,55),(14,4),(15,36)],[.int .i64 0,.string ⟨#[]⟩,.string ⟨#[]⟩,.string ⟨#[]⟩,.string ⟨#[]⟩,.int .i64 0,.int .i64 0,.string ⟨#[]⟩,.int .i64 0,.string ⟨#[]⟩,.string ⟨#[]⟩,.bool false,.int .i64 0,.complex .f64 0 0,.bool false,.slice none 0 0],false⟩
theorem ty80:TyOk prog 80 y80:=⟨qx DG,(qH DG),qS⟩
abbrev y88:TyI:=⟨1,24,.sl 96,[.slice none 0 0],false⟩
theorem ty88:TyOk prog 88 y88:=⟨qx DG,(wG DG),qS⟩
abbrev y89:TyI:=⟨1,24,.sl 119,[.slice none 0 0],false⟩
theorem ty89:TyOk prog 89 y89:=⟨qx DG,(wG DG),qS⟩
abbrev y90:TyI:=⟨5,96,.st [(0,9),(1,9),(2,9),(3,88),(4,89)],[.string ⟨#[]⟩,.string ⟨#[]⟩,.string ⟨#[]⟩,.slice none 0 0,.slice none 0 0],false⟩
theorem ty90:TyOk prog 90 y90:=⟨qx DG,(qH DG),qS⟩
abbrev y91:TyI:=⟨5,96,.st [(0,9),(1,9),(2,9),(3,88),(4,89)],[.string ⟨#[]⟩,.string ⟨#[]⟩,.string ⟨#[]⟩,.slice none 0 0,.slice none 0 0],false⟩
theorem ty91:TyOk prog 91 y91:=⟨qx DG,(qH DG),qS⟩
abbrev y95:TyI:=⟨4,48,.st [(0,9),(1,44)],[.string ⟨#[]⟩,.int .i64 0,.int .i64 0,.string ⟨#[]⟩],true⟩
theorem eqt95 (d:Nat):EqT prog (d+3) 95 true [.string ⟨#[]⟩,.int .i64 0,.int .i64 0,.string ⟨#[]⟩]:=qW (d:=d+2) underlying95 DG (.cons (i:=y9) rfl DO ty9 rfl DO (eqt9 (d+1)) (.cons (i:=y44) rfl DO ty44 rfl DO (eqt44 (d+0)) (.nil)))
theorem ty95:TyOk prog 95 y95:=⟨qx DG,(qH DG),fun _=>⟨by kernel_rfl,fun xs ys b w=>eqt95 9997 xs ys b w⟩⟩
abbrev y96:TyI:=⟨4,48,.st [(0,9),(1,44)],[.string ⟨#[]⟩,.int .i64 0,.int .i64 0,.string ⟨#[]⟩],true⟩
theorem eqt96 (d:Nat):EqT prog (d+3) 96 true [.string ⟨#[]⟩,.int .i64 0,.int .i64 0,.string ⟨#[]⟩]:=qW (d:=d+2) underlying96 DG (.cons (i:=y9) rfl DO ty9 rfl DO (eqt9 (d+1)) (.cons (i:=y44) rfl DO ty44 rfl DO (eqt44 (d+0)) (.nil)))
theorem ty96:TyOk prog 96 y96:=⟨qx DG,(qH DG),fun _=>⟨by kernel_rfl,fun xs ys b w=>eqt96 9997 xs ys b w⟩⟩
abbrev y97:TyI:=⟨1,8,.int .u64,[.int .u64 0],false⟩
theorem ty97:TyOk prog 97 y97:=⟨qx DG,(in_of DG),qS⟩
abbrev y100:TyI:=⟨1,24,.sl 5,[.slice none 0 0],false⟩
theorem ty100:TyOk prog 100 y100:=⟨qx DG,(wG DG),qS⟩
abbrev y105:TyI:=⟨1,24,.sl 80,[.slice none 0 0],false⟩
theorem ty105:TyOk prog 105 y105:=⟨qx DG,(wG DG),qS⟩
abbrev y108:TyI:=⟨1,8,.ptr,[.pointer none],false⟩
theorem ty108:TyOk prog 108 y108:=⟨qx DG,(ptr_of DG),qS⟩
abbrev y109:TyI:=⟨16,280,.st [(0,108),(1,40),(14,105),(15,97)],[.pointer none,.int .i64 0,.slice none 0 0,.slice none 0 0,.slice none 0 0,.slice none 0 0,.string ⟨#[]⟩,.bool false,.int .i64 0,.slice none 0 0,.slice none 0 0,.slice none 0 0,.slice none 0 0,.int .i64 0,.slice none 0 0,.int .u64 0],false⟩
theorem ty109:TyOk prog 109 y109:=⟨qx DG,(qH DG),qS⟩
abbrev y110:TyI:=⟨16,280,.st [(0,108),(1,40),(14,105),(15,97)],[.pointer none,.int .i64 0,.slice none 0 0,.slice none 0 0,.slice none 0 0,.slice none 0 0,.string ⟨#[]⟩,.bool false,.int .i64 0,.slice none 0 0,.slice none 0 0,.slice none 0 0,.slice none 0 0,.int .i64 0,.slice none 0 0,.int .u64 0],false⟩
theorem ty110:TyOk prog 110 y110:=⟨qx DG,(qH DG),qS⟩
abbrev y118:TyI:=⟨3,40,.st [(0,3),(1,9),(2,9)],[.int .i64 0,.string ⟨#[]⟩,.string ⟨#[]⟩],true⟩
theorem eqt118 (d:Nat):EqT prog (d+2) 118 true [.int .i64 0,.string ⟨#[]⟩,.string ⟨#[]⟩]:=qW (d:=d+1) underlying118 DG (.cons (i:=y3) rfl DO ty3 rfl DO (eqt3 (d+0)) (.cons (i:=y9) rfl DO ty9 rfl DO (eqt9 (d+0)) (.cons (i:=y9) rfl DO ty9 rfl DO (eqt9 (d+0)) (.nil))))
theorem ty118:TyOk prog 118 y118:=⟨qx DG,(qH DG),fun _=>⟨by kernel_rfl,fun xs ys b w=>eqt118 9998 xs ys b w⟩⟩
abbrev y119:TyI:=⟨3,40,.st [(0,3),(1,9),(2,9)],[.int .i64 0,.string ⟨#[]⟩,.string ⟨#[]⟩],true⟩
theorem eqt119 (d:Nat):EqT prog (d+2) 119 true [.int .i64 0,.string ⟨#[]⟩,.string ⟨#[]⟩]:=qW (d:=d+1) underlying119 DG (.cons (i:=y3) rfl DO ty3 rfl DO (eqt3 (d+0)) (.cons (i:=y9) rfl DO ty9 rfl DO (eqt9 (d+0)) (.cons (i:=y9) rfl DO ty9 rfl DO (eqt9 (d+0)) (.nil))))
theorem ty119:TyOk prog 119 y119:=⟨qx DG,(qH DG),fun _=>⟨by kernel_rfl,fun xs ys b w=>eqt119 9998 xs ys b w⟩⟩
abbrev y122:TyI:=⟨3,40,.st [(0,3),(1,9),(2,9)],[.int .i64 0,.string ⟨#[]⟩,.string ⟨#[]⟩],true⟩
theorem eqt122 (d:Nat):EqT prog (d+2) 122 true [.int .i64 0,.string ⟨#[]⟩,.string ⟨#[]⟩]:=qW (d:=d+1) underlying122 DG (.cons (i:=y3) rfl DO ty3 rfl DO (eqt3 (d+0)) (.cons (i:=y9) rfl DO ty9 rfl DO (eqt9 (d+0)) (.cons (i:=y9) rfl DO ty9 rfl DO (eqt9 (d+0)) (.nil))))
theorem ty122:TyOk prog 122 y122:=⟨qx DG,(qH DG),fun _=>⟨by kernel_rfl,fun xs ys b w=>eqt122 9998 xs ys b w⟩⟩
abbrev y123:TyI:=⟨3,40,.st [(0,3),(1,9),(2,9)],[.int .i64 0,.string ⟨#[]⟩,.string ⟨#[]⟩],true⟩
theorem eqt123 (d:Nat):EqT prog (d+2) 123 true [.int .i64 0,.string ⟨#[]⟩,.string ⟨#[]⟩]:=qW (d:=d+1) underlying123 DG (.cons (i:=y3) rfl DO ty3 rfl DO (eqt3 (d+0)) (.cons (i:=y9) rfl DO ty9 rfl DO (eqt9 (d+0)) (.cons (i:=y9) rfl DO ty9 rfl DO (eqt9 (d+0)) (.nil))))
theorem ty123:TyOk prog 123 y123:=⟨qx DG,(qH DG),fun _=>⟨by kernel_rfl,fun xs ys b w=>eqt123 9998 xs ys b w⟩⟩
abbrev y126:TyI:=⟨1,24,.sl 44,[.slice none 0 0],false⟩
theorem ty126:TyOk prog 126 y126:=⟨qx DG,(wG DG),qS⟩
abbrev y128:TyI:=⟨3,48,.st [(0,3),(1,9),(2,126)],[.int .i64 0,.string ⟨#[]⟩,.slice none 0 0],false⟩
theorem ty128:TyOk prog 128 y128:=⟨qx DG,(qH DG),qS⟩
abbrev y129:TyI:=⟨3,48,.st [(0,3),(1,9),(2,126)],[.int .i64 0,.string ⟨#[]⟩,.slice none 0 0],false⟩
theorem ty129:TyOk prog 129 y129:=⟨qx DG,(qH DG),qS⟩
abbrev y133:TyI:=⟨1,24,.sl 141,[.slice none 0 0],false⟩
theorem ty133:TyOk prog 133 y133:=⟨qx DG,(wG DG),qS⟩
abbrev y136:TyI:=⟨1,8,.ptr,[.pointer none],false⟩
theorem ty136:TyOk prog 136 y136:=⟨qx DG,(ptr_of DG),qS⟩
abbrev y137:TyI:=⟨5,56,.st [(0,133),(1,3),(2,3),(3,58),(4,3)],[.slice none 0 0,.int .i64 0,.int .i64 0,.int .i64 0,.int .i64 0],false⟩
theorem ty137:TyOk prog 137 y137:=⟨qx DG,(qH DG),qS⟩
abbrev y138:TyI:=⟨5,56,.st [(0,133),(1,3),(2,3),(3,58),(4,3)],[.slice none 0 0,.int .i64 0,.int .i64 0,.int .i64 0,.int .i64 0],false⟩
theorem ty138:TyOk prog 138 y138:=⟨qx DG,(qH DG),qS⟩
abbrev y140:TyI:=⟨4,40,.st [(0,3),(1,3),(2,3),(3,9)],[.int .i64 0,.int .i64 0,.int .i64 0,.string ⟨#[]⟩],true⟩
theorem eqt140 (d:Nat):EqT prog (d+2) 140 true [.int .i64 0,.int .i64 0,.int .i64 0,.string ⟨#[]⟩]:=qW (d:=d+1) underlying140 DG (.cons (i:=y3) rfl DO ty3 rfl DO (eqt3 (d+0)) (.cons (i:=y3) rfl DO ty3 rfl DO (eqt3 (d+0)) (.cons (i:=y3) rfl DO ty3 rfl DO (eqt3 (d+0)) (.cons (i:=y9) rfl DO ty9 rfl DO (eqt9 (d+0)) (.nil)))))
theorem ty140:TyOk prog 140 y140:=⟨qx DG,(qH DG),fun _=>⟨by kernel_rfl,fun xs ys b w=>eqt140 9998 xs ys b w⟩⟩
abbrev y141:TyI:=⟨4,40,.st [(0,3),(1,3),(2,3),(3,9)],[.int .i64 0,.int .i64 0,.int .i64 0,.string ⟨#[]⟩],true⟩
theorem eqt141 (d:Nat):EqT prog (d+2) 141 true [.int .i64 0,.int .i64 0,.int .i64 0,.string ⟨#[]⟩]:=qW (d:=d+1) underlying141 DG (.cons (i:=y3) rfl DO ty3 rfl DO (eqt3 (d+0)) (.cons (i:=y3) rfl DO ty3 rfl DO (eqt3 (d+0)) (.cons (i:=y3) rfl DO ty3 rfl DO (eqt3 (d+0)) (.cons (i:=y9) rfl DO ty9 rfl DO (eqt9 (d+0)) (.nil)))))
theorem ty141:TyOk prog 141 y141:=⟨qx DG,(qH DG),fun _=>⟨by kernel_rfl,fun xs ys b w=>eqt141 9998 xs ys b w⟩⟩
abbrev y148:TyI:=⟨1,24,.sl 155,[.slice none 0 0],false⟩
theorem ty148:TyOk prog 148 y148:=⟨qx DG,(wG DG),qS⟩
abbrev y149:TyI:=⟨5,96,.st [(0,9),(1,4),(2,33),(3,148),(4,36)],[.string ⟨#[]⟩,.bool false,.slice none 0 0,.slice none 0 0,.slice none 0 0],false⟩
theorem ty149:TyOk prog 149 y149:=⟨qx DG,(qH DG),qS⟩
abbrev y150:TyI:=⟨5,96,.st [(0,9),(1,4),(2,33),(3,148),(4,36)],[.string ⟨#[]⟩,.bool false,.slice none 0 0,.slice none 0 0,.slice none 0 0],false⟩
theorem ty150:TyOk prog 150 y150:=⟨qx DG,(qH DG),qS⟩
abbrev y152:TyI:=⟨3,32,.st [(0,3),(1,9),(2,4)],[.int .i64 0,.string ⟨#[]⟩,.bool false],true⟩
theorem eqt152 (d:Nat):EqT prog (d+2) 152 true [.int .i64 0,.string ⟨#[]⟩,.bool false]:=qW (d:=d+1) underlying152 DG (.cons (i:=y3) rfl DO ty3 rfl DO (eqt3 (d+0)) (.cons (i:=y9) rfl DO ty9 rfl DO (eqt9 (d+0)) (.cons (i:=y4) rfl DO ty4 rfl DO (eqt4 (d+0)) (.nil))))
theorem ty152:TyOk prog 152 y152:=⟨qx DG,(qH DG),fun _=>⟨by kernel_rfl,fun xs ys b w=>eqt152 9998 xs ys b w⟩⟩
abbrev y153:TyI:=⟨3,32,.st [(0,3),(1,9),(2,4)],[.int .i64 0,.string ⟨#[]⟩,.bool false],true⟩
theorem eqt153 (d:Nat):EqT prog (d+2) 153 true [.int .i64 0,.string ⟨#[]⟩,.bool false]:=qW (d:=d+1) underlying153 DG (.cons (i:=y3) rfl DO ty3 rfl DO (eqt3 (d+0)) (.cons (i:=y9) rfl DO ty9 rfl DO (eqt9 (d+0)) (.cons (i:=y4) rfl DO ty4 rfl DO (eqt4 (d+0)) (.nil))))
theorem ty153:TyOk prog 153 y153:=⟨qx DG,(qH DG),fun _=>⟨by kernel_rfl,fun xs ys b w=>eqt153 9998 xs ys b w⟩⟩
abbrev y154:TyI:=⟨7,72,.st [(0,3),(1,44),(4,153)],[.int .i64 0,.int .i64 0,.int .i64 0,.string ⟨#[]⟩,.int .i64 0,.string ⟨#[]⟩,.bool false],true⟩
theorem eqt154 (d:Nat):EqT prog (d+3) 154 true [.int .i64 0,.int .i64 0,.int .i64 0,.string ⟨#[]⟩,.int .i64 0,.string ⟨#[]⟩,.bool false]:=qW (d:=d+2) underlying154 DG (.cons (i:=y3) rfl DO ty3 rfl DO (eqt3 (d+1)) (.cons (i:=y44) rfl DO ty44 rfl DO (eqt44 (d+0)) (.cons (i:=y153) rfl DO ty153 rfl DO (eqt153 (d+0)) (.nil))))
theorem ty154:TyOk prog 154 y154:=⟨qx DG,(qH DG),fun _=>⟨by kernel_rfl,fun xs ys b w=>eqt154 9997 xs ys b w⟩⟩
abbrev y155:TyI:=⟨7,72,.st [(0,3),(1,44),(4,153)],[.int .i64 0,.int .i64 0,.int .i64 0,.string ⟨#[]⟩,.int .i64 0,.string ⟨#[]⟩,.bool false],true⟩
theorem eqt155 (d:Nat):EqT prog (d+3) 155 true [.int .i64 0,.int .i64 0,.int .i64 0,.string ⟨#[]⟩,.int .i64 0,.string ⟨#[]⟩,.bool false]:=qW (d:=d+2) underlying155 DG (.cons (i:=y3) rfl DO ty3 rfl DO (eqt3 (d+1)) (.cons (i:=y44) rfl DO ty44 rfl DO (eqt44 (d+0)) (.cons (i:=y153) rfl DO ty153 rfl DO (eqt153 (d+0)) (.nil))))
theorem ty155:TyOk prog 155 y155:=⟨qx DG,(qH DG),fun _=>⟨by kernel_rfl,fun xs ys b w=>eqt155 9997 xs ys b w⟩⟩
abbrev y160:TyI:=⟨1,8,.ptr,[.pointer none],false⟩
theorem ty160:TyOk prog 160 y160:=⟨qx DG,(ptr_of DG),qS⟩
abbrev y169:TyI:=⟨1,24,.sl 100,[.slice none 0 0],false⟩
theorem ty169:TyOk prog 169 y169:=⟨qx DG,(wG DG),qS⟩
abbrev y175:TyI:=⟨5,56,.st [(0,3),(1,100),(2,3),(3,3),(4,4)],[.int .i64 0,.slice none 0 0,.int .i64 0,.int .i64 0,.bool false],false⟩
theorem ty175:TyOk prog 175 y175:=⟨qx DG,(qH DG),qS⟩
abbrev y176:TyI:=⟨5,56,.st [(0,3),(1,100),(2,3),(3,3),(4,4)],[.int .i64 0,.slice none 0 0,.int .i64 0,.int .i64 0,.bool false],false⟩
theorem ty176:TyOk prog 176 y176:=⟨qx DG,(qH DG),qS⟩
abbrev y183:TyI:=⟨1,16,.ifc,[.nilIface],false⟩
theorem ty183:TyOk prog 183 y183:=⟨qx DG,(ifc_of DG),qS⟩
abbrev y184:TyI:=⟨1,16,.ifc,[.nilIface],false⟩
theorem ty184:TyOk prog 184 y184:=⟨qx DG,(ifc_of DG),qS⟩
abbrev y189:TyI:=⟨1,8,.ptr,[.pointer none],false⟩
theorem ty189:TyOk prog 189 y189:=⟨qx DG,(ptr_of DG),qS⟩
abbrev y190:TyI:=⟨1,8,.mp 9 345,[.map none],false⟩
theorem ty190:TyOk prog 190 y190:=⟨qx DG,(by kernel_rfl:prog.underlying 190=some (.map 9 345)),qS⟩
abbrev y191:TyI:=⟨2,16,.st [(0,190),(1,3)],[.map none,.int .i64 0],false⟩
theorem ty191:TyOk prog 191 y191:=⟨qx DG,(qH DG),qS⟩
abbrev y192:TyI:=⟨2,16,.st [(0,190),(1,3)],[.map none,.int .i64 0],false⟩
theorem ty192:TyOk prog 192 y192:=⟨qx DG,(qH DG),qS⟩
abbrev y195:TyI:=⟨1,24,.sl 57,[.slice none 0 0],false⟩
theorem ty195:TyOk prog 195 y195:=⟨qx DG,(wG DG),qS⟩
abbrev y208:TyI:=⟨3,40,.st [(0,24),(1,169),(2,4)],[.pointer none,.slice none 0 0,.bool false],false⟩
theorem ty208:TyOk prog 208 y208:=⟨qx DG,(qH DG),qS⟩
abbrev y209:TyI:=⟨3,40,.st [(0,24),(1,169),(2,4)],[.pointer none,.slice none 0 0,.bool false],false⟩
theorem ty209:TyOk prog 209 y209:=⟨qx DG,(qH DG),qS⟩
abbrev y210:TyI:=⟨1,8,.int .u64,[.int .u64 0],false⟩
theorem ty210:TyOk prog 210 y210:=⟨qx DG,(in_of DG),qS⟩
abbrev y215:TyI:=⟨1,24,.sl 219,[.slice none 0 0],false⟩
theorem ty215:TyOk prog 215 y215:=⟨qx DG,(wG DG),qS⟩
abbrev y217:TyI:=⟨7,72,.st [(0,153),(3,3),(4,44)],[.int .i64 0,.string ⟨#[]⟩,.bool false,.int .i64 0,.int .i64 0,.int .i64 0,.string ⟨#[]⟩],true⟩
theorem eqt217 (d:Nat):EqT prog (d+3) 217 true [.int .i64 0,.string ⟨#[]⟩,.bool false,.int .i64 0,.int .i64 0,.int .i64 0,.string ⟨#[]⟩]:=qW (d:=d+2) underlying217 DG (.cons (i:=y153) rfl DO ty153 rfl DO (eqt153 (d+0)) (.cons (i:=y3) rfl DO ty3 rfl DO (eqt3 (d+1)) (.cons (i:=y44) rfl DO ty44 rfl DO (eqt44 (d+0)) (.nil))))
theorem ty217:TyOk prog 217 y217:=⟨qx DG,(qH DG),fun _=>⟨by kernel_rfl,fun xs ys b w=>eqt217 9997 xs ys b w⟩⟩
abbrev y218:TyI:=⟨7,72,.st [(0,153),(3,3),(4,44)],[.int .i64 0,.string ⟨#[]⟩,.bool false,.int .i64 0,.int .i64 0,.int .i64 0,.string ⟨#[]⟩],true⟩
theorem eqt218 (d:Nat):EqT prog (d+3) 218 true [.int .i64 0,.string ⟨#[]⟩,.bool false,.int .i64 0,.int .i64 0,.int .i64 0,.string ⟨#[]⟩]:=qW (d:=d+2) underlying218 DG (.cons (i:=y153) rfl DO ty153 rfl DO (eqt153 (d+0)) (.cons (i:=y3) rfl DO ty3 rfl DO (eqt3 (d+1)) (.cons (i:=y44) rfl DO ty44 rfl DO (eqt44 (d+0)) (.nil))))
theorem ty218:TyOk prog 218 y218:=⟨qx DG,(qH DG),fun _=>⟨by kernel_rfl,fun xs ys b w=>eqt218 9997 xs ys b w⟩⟩
abbrev y219:TyI:=⟨1,24,.sl 218,[.slice none 0 0],false⟩
theorem ty219:TyOk prog 219 y219:=⟨qx DG,(wG DG),qS⟩
abbrev y227:TyI:=⟨1,8,.ptr,[.pointer none],false⟩
theorem ty227:TyOk prog 227 y227:=⟨qx DG,(ptr_of DG),qS⟩
abbrev y253:TyI:=⟨1,24,.sl 55,[.slice none 0 0],false⟩
theorem ty253:TyOk prog 253 y253:=⟨qx DG,(wG DG),qS⟩
abbrev y274:TyI:=⟨1,4,.int .u32,[.int .u32 0],false⟩
theorem ty274:TyOk prog 274 y274:=⟨qx DG,(in_of DG),qS⟩
abbrev y276:TyI:=⟨1,24,.sl 3,[.slice none 0 0],false⟩
theorem ty276:TyOk prog 276 y276:=⟨qx DG,(wG DG),qS⟩
abbrev y286:TyI:=⟨1,8,.ptr,[.pointer none],false⟩
theorem ty286:TyOk prog 286 y286:=⟨qx DG,(ptr_of DG),qS⟩
abbrev y287:TyI:=⟨2,32,.st [(0,286),(1,100)],[.pointer none,.slice none 0 0],false⟩
theorem ty287:TyOk prog 287 y287:=⟨qx DG,(qH DG),qS⟩
abbrev y288:TyI:=⟨2,32,.st [(0,286),(1,100)],[.pointer none,.slice none 0 0],false⟩
theorem ty288:TyOk prog 288 y288:=⟨qx DG,(qH DG),qS⟩
abbrev y292:TyI:=⟨1,8,.ptr,[.pointer none],false⟩
theorem ty292:TyOk prog 292 y292:=⟨qx DG,(ptr_of DG),qS⟩
abbrev y300:TyI:=⟨1,8,.ptr,[.pointer none],false⟩
theorem ty300:TyOk prog 300 y300:=⟨qx DG,(ptr_of DG),qS⟩
abbrev y309:TyI:=⟨5,64,.st [(0,126),(1,44),(4,58)],[.slice none 0 0,.int .i64 0,.int .i64 0,.string ⟨#[]⟩,.int .i64 0],false⟩
theorem ty309:TyOk prog 309 y309:=⟨qx DG,(qH DG),qS⟩
abbrev y310:TyI:=⟨5,64,.st [(0,126),(1,44),(4,58)],[.slice none 0 0,.int .i64 0,.int .i64 0,.string ⟨#[]⟩,.int .i64 0],false⟩
theorem ty310:TyOk prog 310 y310:=⟨qx DG,(qH DG),qS⟩
abbrev y329:TyI:=⟨24,24,.arr 24 5,List.replicate 24 (.int .u8 0),false⟩
theorem ty329:TyOk prog 329 y329:=⟨qx DG,(by kernel_rfl:prog.underlying 329=some (.array 24 5)),qS⟩
abbrev y334:TyI:=⟨1,8,.ptr,[.pointer none],false⟩
theorem ty334:TyOk prog 334 y334:=⟨qx DG,(ptr_of DG),qS⟩
abbrev y335:TyI:=⟨3,40,.st [(0,100),(1,3),(2,4)],[.slice none 0 0,.int .i64 0,.bool false],false⟩
theorem ty335:TyOk prog 335 y335:=⟨qx DG,(qH DG),qS⟩
abbrev y336:TyI:=⟨3,40,.st [(0,100),(1,3),(2,4)],[.slice none 0 0,.int .i64 0,.bool false],false⟩
theorem ty336:TyOk prog 336 y336:=⟨qx DG,(qH DG),qS⟩
abbrev y342:TyI:=⟨3,48,.st [(0,9),(1,9),(2,184)],[.string ⟨#[]⟩,.string ⟨#[]⟩,.nilIface],false⟩
theorem ty342:TyOk prog 342 y342:=⟨qx DG,(qH DG),qS⟩
abbrev y343:TyI:=⟨3,48,.st [(0,9),(1,9),(2,184)],[.string ⟨#[]⟩,.string ⟨#[]⟩,.nilIface],false⟩
theorem ty343:TyOk prog 343 y343:=⟨qx DG,(qH DG),qS⟩
abbrev y345:TyI:=⟨0,0,.st [],[],false⟩
theorem ty345:TyOk prog 345 y345:=⟨qx DG,(qH DG),qS⟩
abbrev y348:TyI:=⟨1,24,.sl 4,[.slice none 0 0],false⟩
theorem ty348:TyOk prog 348 y348:=⟨qx DG,(wG DG),qS⟩
abbrev y355:TyI:=⟨1,24,.sl 310,[.slice none 0 0],false⟩
theorem ty355:TyOk prog 355 y355:=⟨qx DG,(wG DG),qS⟩
abbrev y357:TyI:=⟨1,8,.flt,[.float .f64 0],false⟩
theorem ty357:TyOk prog 357 y357:=⟨qx DG,(by kernel_rfl:prog.underlying 357=some (.float .f64)),qS⟩
abbrev y371:TyI:=⟨20,160,.arr 20 97,List.replicate 20 (.int .u64 0),false⟩
theorem ty371:TyOk prog 371 y371:=⟨qx DG,(by kernel_rfl:prog.underlying 371=some (.array 20 97)),qS⟩
abbrev y372:TyI:=⟨65,65,.arr 65 5,List.replicate 65 (.int .u8 0),false⟩
theorem ty372:TyOk prog 372 y372:=⟨qx DG,(by kernel_rfl:prog.underlying 372=some (.array 65 5)),qS⟩
abbrev y380:TyI:=⟨1,8,.ptr,[.pointer none],false⟩
theorem ty380:TyOk prog 380 y380:=⟨qx DG,(ptr_of DG),qS⟩
abbrev y381:TyI:=⟨1,16,.st [(0,9)],[.string ⟨#[]⟩],true⟩
theorem eqt381 (d:Nat):EqT prog (d+2) 381 true [.string ⟨#[]⟩]:=qW (d:=d+1) underlying381 DG (.cons (i:=y9) rfl DO ty9 rfl DO (eqt9 (d+0)) (.nil))
theorem ty381:TyOk prog 381 y381:=⟨qx DG,(qH DG),fun _=>⟨by kernel_rfl,fun xs ys b w=>eqt381 9998 xs ys b w⟩⟩
abbrev y382:TyI:=⟨1,16,.st [(0,9)],[.string ⟨#[]⟩],true⟩
theorem eqt382 (d:Nat):EqT prog (d+2) 382 true [.string ⟨#[]⟩]:=qW (d:=d+1) underlying382 DG (.cons (i:=y9) rfl DO ty9 rfl DO (eqt9 (d+0)) (.nil))
theorem ty382:TyOk prog 382 y382:=⟨qx DG,(qH DG),fun _=>⟨by kernel_rfl,fun xs ys b w=>eqt382 9998 xs ys b w⟩⟩
abbrev y407:TyI:=⟨32,32,.arr 32 5,List.replicate 32 (.int .u8 0),false⟩
theorem ty407:TyOk prog 407 y407:=⟨qx DG,(by kernel_rfl:prog.underlying 407=some (.array 32 5)),qS⟩
abbrev y408:TyI:=⟨64,64,.arr 64 5,List.replicate 64 (.int .u8 0),false⟩
theorem ty408:TyOk prog 408 y408:=⟨qx DG,(by kernel_rfl:prog.underlying 408=some (.array 64 5)),qS⟩
def TTab:TT:=[(2,y2),
 (3,y3),
 (4,y4),
 (9,y9),
 (58,y58),
 (5,y5),
 (12,y12),
 (13,y13),
 (20,y20),
 (21,y21),
 (22,y22),
 (23,y23),
 (24,y24),
 (28,y28),
 (29,y29),
 (30,y30),
 (31,y31),
 (32,y32),
 (33,y33),
 (34,y34),
 (35,y35),
 (36,y36),
 (37,y37),
 (38,y38),
 (39,y39),
 (40,y40),
 (43,y43),
 (44,y44),
 (45,y45),
 (46,y46),
 (51,y51),
 (52,y52),
 (54,y54),
 (55,y55),
 (56,y56),
 (57,y57),
 (61,y61),
 (63,y63),
 (64,y64),
 (68,y68),
 (69,y69),
 (73,y73),
 (74,y74),
 (79,y79),
 (80,y80),
 (88,y88),
 (89,y89),
 (90,y90),
 (91,y91),
 (95,y95),
 (96,y96),
 (97,y97),
 (100,y100),
 (105,y105),
 (108,y108),
 (109,y109),
 (110,y110),
 (118,y118),
 (119,y119),
 (122,y122),
 (123,y123),
 (126,y126),
 (128,y128),
 (129,y129),
 (133,y133),
 (136,y136),
 (137,y137),
 (138,y138),
 (140,y140),
 (141,y141),
 (148,y148),
 (149,y149),
 (150,y150),
 (152,y152),
 (153,y153),
 (154,y154),
 (155,y155),
 (160,y160),
 (169,y169),
 (175,y175),
 (176,y176),
 (183,y183),
 (184,y184),
 (189,y189),
 (190,y190),
 (191,y191),
 (192,y192),
 (195,y195),
 (208,y208),
 (209,y209),
 (210,y210),
 (215,y215),
 (217,y217),
 (218,y218),
 (219,y219),
 (227,y227),
 (253,y253),
 (274,y274),
 (276,y276),
 (286,y286),
 (287,y287),
 (288,y288),
 (292,y292),
 (300,y300),
 (309,y309),
 (310,y310),
 (329,y329),
 (334,y334),
 (335,y335),
 (336,y336),
 (342,y342),
 (343,y343),
 (345,y345),
 (348,y348),
 (355,y355),
 (357,y357),
 (371,y371),
 (372,y372),
 (380,y380),
 (381,y381),
 (382,y382),
 (407,y407),
 (408,y408)]
theorem qc:zm prog TTab:=
 qk ty2<|qk ty3<|qk ty4<|qk ty9<|qk ty58<|qk ty5<|qk ty12<|qk ty13<|qk ty20<|qk ty21<|qk ty22<|qk ty23<|qk ty24<|qk ty28<|qk ty29<|qk ty30<|qk ty31<|qk ty32<|qk ty33<|qk ty34<|qk ty35<|qk ty36<|qk ty37<|qk ty38<|qk ty39<|qk ty40<|qk ty43<|qk ty44<|qk ty45<|qk ty46<|qk ty51<|qk ty52<|qk ty54<|qk ty55<|qk ty56<|qk ty57<|qk ty61<|qk ty63<|qk ty64<|qk ty68<|qk ty69<|qk ty73<|qk ty74<|qk ty79<|qk ty80<|qk ty88<|qk ty89<|qk ty90<|qk ty91<|qk ty95<|qk ty96<|qk ty97<|qk ty100<|qk ty105<|qk ty108<|qk ty109<|qk ty110<|qk ty118<|qk ty119<|qk ty122<|qk ty123<|qk ty126<|qk ty128<|qk ty129<|qk ty133<|qk ty136<|qk ty137<|qk ty138<|qk ty140<|qk ty141<|qk ty148<|qk ty149<|qk ty150<|qk ty152<|qk ty153<|qk ty154<|qk ty155<|qk ty160<|qk ty169<|qk ty175<|qk ty176<|qk ty183<|qk ty184<|qk ty189<|qk ty190<|qk ty191<|qk ty192<|qk ty195<|qk ty208<|qk ty209<|qk ty210<|qk ty215<|qk ty217<|qk ty218<|qk ty219<|qk ty227<|qk ty253<|qk ty274<|qk ty276<|qk ty286<|qk ty287<|qk ty288<|qk ty292<|qk ty300<|qk ty309<|qk ty310<|qk ty329<|qk ty334<|qk ty335<|qk ty336<|qk ty342<|qk ty343<|qk ty345<|qk ty348<|qk ty355<|qk ty357<|qk ty371<|qk ty372<|qk ty380<|qk ty381<|qk ty382<|qk ty407<|qk ty408<|typesOk_nil
def WkG (st st':St):Prop:=∀(w0:Base) (Sx:Nat->Prop) (γ:Nat->Value) (a:Act) (w:World),Sim w0 Sx γ st a w->Sim w0 Sx γ st' a w
theorem WkG.wk {st st':St} (h:WkG st st'):Wk st st':=fun w0 Sx γ a w hI=>⟨γ,h w0 Sx γ a w hI⟩
theorem WkG.trans {a b c:St} (h:WkG a b) (k:WkG b c):WkG a c:=fun w0 Sx γ x w hI=>k w0 Sx γ x w (h w0 Sx γ x w hI)
theorem wkg_frz {st:St} {k:Nat} {e:TypeId} {z:Nat} {l:List (List PV)} (hk:lk k st.own=some (.row e z l)):WkG st (st.frz k z l):=fun _ _ _ _ _ hI=>sim_frz hk hI
theorem SWM.wkg {P:Program} {ops:List Oper} {K:List Nat} {r:List (Nat×Bool)} {Q:St->Prop} {st st':St} (h:SWM P ops K r Q st') (hw:WkG st st') (hv:K.all (fun i=>(lk i st'.own).isSome==(lk i st.own).isSome)=true):SWM P ops K r Q st:=fun w0 Sx γ a w QQ hI hQ=>by
 have h1:=h w0 Sx γ a w QQ (hw w0 Sx γ a w hI) hQ;have e:vis K γ st'.own=vis K γ st.own:=by
  funext b;apply propext;have hs:∀i,K.contains i=true->(lk i st'.own).isSome=(lk i st.own).isSome:=fun i hi=>by
   have:=YE.1 hv i Di;simpa using this
  constructor
  · intro hb i bx hi hK;have:(lk i st'.own).isSome=true:=by rw[hs i hK,hi];rfl
    obtain⟨by_,h2⟩:=Yv.1 this;exact hb i by_ h2 hK
  · intro hb i bx hi hK;have:(lk i st.own).isSome=true:=by rw[<-hs i hK,hi];rfl
    obtain⟨by_,h2⟩:=Yv.1 this;exact hb i by_ h2 hK
 rw[e]at h1;exact h1
theorem flatG_get {α β:Type} {f:α->List β} {z:Nat}:∀(l:List α) (_:∀x∈l,(f x).length=z) (i:Nat) (hi:i<l.length) (j:Nat),j<z->(l.flatMap f)[i*z+j]?=(f l[i])[j]?
 |[],_,i,hi,_,_=>absurd hi DQ
 |x::l,hf,0,_,j,hj=>by
  simp only[Nat.zero_mul,Xk,YW,Xu];rw[Yw (by rw[hf x DQ];exact hj)]
 |x::l,hf,i+1,hi,j,hj=>by
  have hx:=hf x DQ;rw[YW,Yy (by rw[hx];have:=Nat.le_mul_of_pos_left z (show 0<i+1 by omega);omega),hx];have e:(i+1)*z+j-z=i*z+j:=by rw[Nat.succ_mul];omega
  rw[e,flatG_get l (fun y hy=>hf y (by simp[hy])) i Di j hj];rfl
theorem chunk {z:Nat}:∀(n:Nat) (us:List Value),us.length=n*z->(∀u∈us,u.oneCell'=true)->∃css:List (Cel z),css.length=n/\css.flatMap Subtype.val=us
 |0,us,h,_=>⟨[],rfl,by rw[Nat.zero_mul]at h;rw[List.length_eq_zero_iff.1 h];rfl⟩
 |n+1,us,h,h1=>by
  rw[Nat.succ_mul]at h;obtain⟨css,c1,c2⟩:=chunk n (us.drop z) (by rw[Yo,h,Nat.add_sub_cancel]) fun u hu=>h1 u (YX hu)
  refine⟨⟨us.take z,by rw[Yd,h];exact Nat.min_eq_left (Nat.le_add_left _ _),fun u hu=>h1 u (Xd hu)⟩::css,by simp[c1],?_⟩;rw[YW,c2,Xq]
theorem flat_one {z:Nat} (css:List (Cel z)):∀u∈css.flatMap Subtype.val,u.oneCell'=true:=fun u hu=>by
 obtain⟨c,_,hc⟩:=List.mem_flatMap.1 hu;exact c.2.2 u hc
section
variable {w0:Base} {Sx:Nat->Prop} {γ:Nat->Value} {st:St} {a:Act} {w:World}
theorem Sim.rebox (hI:Sim w0 Sx γ st a w) {j:Nat} {bx bx':Box} (hj:lk j st.own=some bx)
 (hbx:∀own',own'=setB j bx' st.own->(∀c,okO Sx γ own' c↔okO Sx γ st.own c)->(∀i c,wE Sx γ own' i c↔wE Sx γ st.own i c)->(∀i,hp γ own' i=hp γ st.own i)->BoxOk w0 Sx γ own' w j bx'):
 Sim w0 Sx γ ⟨st.n,st.fr,setB j bx' st.own⟩ a w:=by
 have lk':∀i,lk i (setB j bx' st.own)=if i=j then some bx' else lk i st.own:=fun i=>by
  rw[lk_setB,hj];rfl
 have hsome:∀i,(lk i (setB j bx' st.own)).isSome=(lk i st.own).isSome:=fun i=>by
  rw[lk'];split
  · rename_i e;subst e;rw[hj];rfl
  · rfl
 generalize hown':setB j bx' st.own=own' at*;have hp':∀i,hp γ own' i=hp γ st.own i:=fun i=>by
  have:=hsome i;unfold hp;cases h2:lk i own'<;>cases h3:lk i st.own<;>rw[h2,h3]at this<;>first|rfl|cases this
 have some_of:∀{i bx},lk i own'=some bx->∃by_,lk i st.own=some by_:=fun{i bx} hi=>by
  have:=hsome i;rw[hi]at this;exact Yv.1 this.symm
 have some_to:∀{i bx},lk i st.own=some bx->∃by_,lk i own'=some by_:=fun{i bx} hi=>by
  have:=hsome i;rw[hi]at this;exact Yv.1 this
 have okc:∀c,okO Sx γ own' c↔okO Sx γ st.own c:=fun c=>and_congr Iff.rfl
  ⟨fun hk i bx hi=>by obtain⟨_,h⟩:=some_to hi;exact hk i _ h,fun hk i bx hi=>by obtain⟨_,h⟩:=some_of hi;exact hk i _ h⟩
 have okb:∀i c,wE Sx γ own' i c↔wE Sx γ st.own i c:=fun i c=>and_congr Iff.rfl
  ⟨fun hk k bx hi=>by obtain⟨_,h⟩:=some_to hi;exact hk k _ h,fun hk k bx hi=>by obtain⟨_,h⟩:=some_of hi;exact hk k _ h⟩
 have keepS:∀{s:SV} {u:Value},RelS (okO Sx γ st.own) (hp γ st.own) w s u->RelS (okO Sx γ own') (hp γ own') w s u:=fun h=>h.keep2 (Yk _) (fun c _ hok=>⟨rfl,(okc c).2 hok⟩) fun i _=>hp' i
 refine⟨hI.below,hI.size,hI.defers,fun t s ht=>keepS (hI.fr t s ht),⟨fun i bx hi=>?_,fun i k bi bk c hi hk hbi hbk=>?_,hI.heap.sx.keep (Yk _) fun i bx hi=>Or.inr ⟨rfl,by rw[<-hsome i,hi];rfl⟩⟩⟩
 · rw[lk']at hi;by_cases e:i=j
   · subst e;rw[Yi rfl]at hi;cases hi;exact hbx own' rfl okc okb hp'
   · rw[Yc e]at hi;exact(hI.heap.box i bx hi).keep (Box.rel_refl _) rfl (Yk _) (fun b hb=>⟨rfl,(hI.heap.blk hi hb).1⟩) (fun c _ hok=>⟨rfl,(okc c).2 hok⟩) fun s u s' hs es=>by subst es;exact keepS hs
 · obtain⟨_,h2⟩:=some_of hi;obtain⟨_,h3⟩:=some_of hk;exact hI.heap.inj i k _ _ c h2 h3 hbi hbk
end
theorem rowF_app (a b:List (List PV)):rowF (a++b)=rowF a++rowF b:=by simp[rowF]
theorem wkg_rws {st:St} {k:Nat} {e:TypeId} {z:Nat} {l:List (List PV)} (pre m post:List (List PV)) (hk:lk k st.own=some (.row e z l)) (hl:l=pre++(m++post):=by rfl) (hz:Nat.blt 0 z=true:=by rfl):WkG st ⟨st.n,st.fr,setB k (.rws e z pre (rowF m) post) st.own⟩:=fun w0 Sx γ a w hI=>by
 have hz':0<z:=by simpa [Nat.blt,YJ]using hz
 refine hI.rebox hk fun own' _ okc okb hp'=>?_
 cases hI.heap.box k _ hk with
 |row hr he hm hkk=>
  obtain⟨css,h1,h2,h3⟩:=hr;have hoi:(γ k).ownBlock=zg (γ k):=by rcases h1.2 with⟨hv,_⟩|⟨g,cap,cur,hv,_⟩<;>rw[hv]<;>rfl
  have hlen:∀x∈l,(x.map SV.p).length=z:=fun x hx=>by rw[Yb];exact(he x hx).1
  have hrw:rwC pre (rowF m) post=rowF l:=by rw[hl,rowF_app,rowF_app];rfl
  refine .rws (css:=css) (nm:=m.length) h1 hz' (fun x hx=>he x (by rw[hl];simp only[YL]at hx⊢;rcases hx with h|h<;>simp[h])) (by rw[h2,hl];simp) (qbg fun x hx=>(he x (by rw[hl];simp[hx])).1) (fun j s u hs hu=>?_) (by rw[h2];exact hm) hkk;rw[hrw]at hs;have hj:j<css.length*z:=by rw[<-zU (fun x:Cel z=>x.2.1) css];exact(Yq.1 hu).1
  have hd:j/z<css.length:=(Nat.div_lt_iff_lt_mul hz').2 hj;have hmd:j%z<z:=Nat.mod_lt _ hz';have hjj:j/z*z+j%z=j:=by rw[Nat.mul_comm];exact Nat.div_add_mod j z
  have g1:=flat_get (fun x:Cel z=>x.2.1) css (j/z) hd (j%z) hmd;have g2:=flatG_get l hlen (j/z) DP (j%z) hmd;rw[hjj]at g1 g2;rw[rowF,g2,YH]at hs;obtain⟨p,hp1,rfl⟩:=YP.1 hs;rw[g1]at hu;refine .p (((h3 (j/z) hd DP).2 (j%z) p u hp1 hu).weak fun b _ hb=>(okc b).2 ⟨hb.1.1,fun i bx hi hib=>?_⟩);by_cases e:i=k
  · subst e;exact hb.2 (by rw[hoi,hib])
  · exact hb.1.2 i bx hi e hib
theorem wk_rws {st:St} {k:Nat} {e:TypeId} {z:Nat} {l:List (List PV)} (pre m post:List (List PV)) (hk:lk k st.own=some (.row e z l)) (hl:l=pre++(m++post):=by rfl) (hz:Nat.blt 0 z=true:=by rfl):Wk st ⟨st.n,st.fr,setB k (.rws e z pre (rowF m) post) st.own⟩:=(wkg_rws pre m post hk hl hz).wk
theorem wkg_part {st:St} {k:Nat} {e:TypeId} {z:Nat} {pre post:List (List PV)} {mid:List SV} (pre':List (List PV)) (mid':List SV) (post':List (List PV)) (nm:Nat) (hk:lk k st.own=some (.rws e z pre mid post)) (hc:rwC pre mid post=rwC pre' mid' post') (hp':∀x∈pre'++post',x.length=z/\∀s∈x,oneP s=true) (hm':mid'.length=nm*z):WkG st ⟨st.n,st.fr,setB k (.rws e z pre' mid' post') st.own⟩:=fun w0 Sx γ a w hI=>by
 refine hI.rebox hk fun own' _ okc okb hpq=>?_
 cases hI.heap.box k _ hk with
 |@rws _ _ _ _ _ css n0 h1 hz hpp hn hmid hr hm hkk=>
  have l1:=rwC_len hpp hn hmid;have l2:=rwC_len (mid:=mid') hp' (n:=pre'.length+(nm+post'.length)) rfl hm';rw[hc,l2]at l1;refine .rws (css:=css) (nm:=nm) h1 hz hp' (Nat.eq_of_mul_eq_mul_right hz l1).symm hm' (fun j s u hs hu=>?_) hm hkk;rw[<-hc]at hs;exact(hr j s u hs hu).keep2 (Yk _) (fun b _ hb=>⟨rfl,(okc b).2 hb⟩) fun i _=>hpq i
theorem wk_part {st:St} {k:Nat} {e:TypeId} {z:Nat} {pre post:List (List PV)} {mid:List SV} (pre':List (List PV)) (mid':List SV) (post':List (List PV)) (nm:Nat) (hk:lk k st.own=some (.rws e z pre mid post)) (hc:rwC pre mid post=rwC pre' mid' post') (hp':∀x∈pre'++post',x.length=z/\∀s∈x,oneP s=true) (hm':mid'.length=nm*z):Wk st ⟨st.n,st.fr,setB k (.rws e z pre' mid' post') st.own⟩:=(wkg_part pre' mid' post' nm hk hc hp' hm').wk
theorem wkg_row {st:St} {k:Nat} {e:TypeId} {z:Nat} {pre post:List (List PV)} {mid:List SV} (m:List (List PV)) (hk:lk k st.own=some (.rws e z pre mid post)) (hm:mid=rowF m) (hl:∀x∈m,x.length=z/\∀s∈x,oneP s=true):WkG st ⟨st.n,st.fr,setB k (.row e z (pre++(m++post))) st.own⟩:=fun w0 Sx γ a w hI=>by
 subst hm;refine hI.rebox hk fun own' _ okc okb hp'=>?_
 cases hI.heap.box k _ hk with
 |@rws _ _ _ _ _ css n0 h1 hz hpp hn hmid hr hm hkk=>
  have hoi:(γ k).ownBlock=zg (γ k):=by rcases h1.2 with⟨hv,_⟩|⟨g,cap,cur,hv,_⟩<;>rw[hv]<;>rfl
  have hall:∀x∈pre++(m++post),x.length=z/\∀s∈x,oneP s=true:=fun x hx=>by
   simp only[YL]at hx;rcases hx with h|h|h
   · exact hpp x (List.mem_append_left _ h)
   · exact hl x h
   · exact hpp x (List.mem_append_right _ h)
  have hlen:∀x∈pre++(m++post),(x.map SV.p).length=z:=fun x hx=>by rw[Yb];exact(hall x hx).1
  have hrw:rwC pre (rowF m) post=rowF (pre++(m++post)):=by rw[rowF_app,rowF_app];rfl
  rw[hrw]at hr;have hm0:n0=m.length:=by
   rw[qbg fun x hx=>(hl x hx).1]at hmid;exact(Nat.eq_of_mul_eq_mul_right hz hmid).symm
  have h2:css.length=(pre++(m++post)).length:=by rw[hn,hm0];simp
  refine .row ⟨css,h1,h2,fun i a1 a2=>⟨by rw[css[i].2.1,(hall _ (Yn a2)).1],fun j s u hs hu=>?_⟩⟩ hall (by rw[<-h2];exact hm) hkk;have hj:j<z:=by rw[<-(hall _ (Yn a2)).1];exact(Yq.1 hs).1
  have g1:=flat_get (fun x:Cel z=>x.2.1) css i a1 j hj;have g2:=flatG_get (pre++(m++post)) hlen i a2 j hj;have:=(hr (i*z+j) (.p s) u (by rw[rowF,g2,YH,hs];rfl) (by rw[g1,hu])).p_inv;refine this.weak fun b _ hb=>⟨(okb k b).2 ⟨hb.1,fun i bx hi _=>hb.2 i bx hi⟩,fun e=>?_⟩
  exact hb.2 k _ hk (by rw[<-hoi,<-e])
theorem qaT {st:St} {k:Nat} {e:TypeId} {z:Nat} {pre post:List (List PV)} {mid:List SV} (m:List (List PV)) (hk:lk k st.own=some (.rws e z pre mid post)) (hm:mid=rowF m) (hl:∀x∈m,x.length=z/\∀s∈x,oneP s=true):Wk st ⟨st.n,st.fr,setB k (.row e z (pre++(m++post))) st.own⟩:=(wkg_row m hk hm hl).wk
section
variable {P:Program} {T:TT} (hT:zm P T) {st:St}
include hT
theorem jU {o:Oper} {t:TypeId} {ad x:Operand} (ho:o.op=.store t ad x) (hdst:o.dst=none) {ti:TyI} (ht:lk t T=some ti) {j off:Nat} (had:evS st ad=some (.ptr j off)) {e:TypeId} {z:Nat} {pre post:List (List PV)} {mid:List SV} (hj:lk j st.own=some (.rws e z pre mid post)) {k:Nat} (hoff:off=pre.length*z+k)
 {s:SV} (hx:evS st x=some s) {xs:List SV} (hxs:cellsOf s=some xs) (h1:xs.all oneS=true) (hlen:Nat.beq xs.length ti.size=true) (hfit:k+xs.length<=mid.length)
 {Q:St->Prop} (h:Q ⟨st.n,st.fr,setB j (.rws e z pre (mid.take k++xs++mid.drop (k+xs.length)) post) st.own⟩):ActOk P [j] o st Q:=by
 intro w0 Sx γ a w QQ hI;have hlen':xs.length=ti.size:=YK hlen;cases hI.heap.box j _ hj with
 |@rws _ _ _ _ _ css n0 hr hz hpp hn hmid hrel hm hk=>
 have hl:=rwC_len hpp hn hmid;have hpl:(rowF pre).length=pre.length*z:=qbg fun x hx=>(hpp x (List.mem_append_left _ hx)).1
 generalize hcs0:rwC pre mid post=cs at*;have hcl:cs.length=pre.length*z+(mid.length+(rowF post).length):=by rw[<-hcs0,rwC,Ya,Ya,hpl]
 have hnew:cs.take off++xs++cs.drop (off+xs.length)=rwC pre (mid.take k++xs++mid.drop (k+xs.length)) post:=by
  rw[<-hcs0,hoff,<-hpl,rwC,rwC,Nat.add_assoc,List.take_length_add_append,List.drop_length_add_append,Y7 DP,List.drop_append_of_le_length DP];simp only[YU]
 have hfit:off+xs.length<=cs.length:=by omega
 have hfl:(css.flatMap Subtype.val).length=css.length*z:=zU (fun x:Cel z=>x.2.1) css;obtain⟨c1,c2⟩:=qaW hI.heap.one (qK hI hx) hxs;generalize hvs:(a.eval x).cells.toList=vs at c1 c2;have hvl:vs.length=xs.length:=c1;have hv1:∀v∈vs,v.oneCell'=true:=fun v hv=>by
  obtain⟨i,hi,rfl⟩:=List.mem_iff_getElem.1 hv;exact(c2 i (xs[i]'DP) _ (Yj DP) (Yj hi)).one hI.heap.one (YE.1 h1 _ (Yn _))
 rcases hr.2 with⟨hv,h0⟩|⟨b,cap,cur,hv,hbase,hh,hnc,hcm,hcs,htake⟩
 · -- nothing lies there
   exfalso;have he:=qK hI had;generalize a.eval ad=u at he;cases he with
   |ptr hg hb=>
    rw[zb hj]at hg;cases hg;rw[hv]at hb;cases hb
 have hblk:zg (γ j)=some b:=by rw[hv];rfl
 have hadv:a.eval ad=.pointer (some ⟨b,off,none⟩):=by
  have he:=qK hI had;generalize a.eval ad=u at he⊢;cases he with
  |ptr hg hb=>rw[zb hj]at hg;cases hg;rw[hblk]at hb;cases hb;rfl
 have hcur:css.length*z<=cur.toList.length:=by rw[show cur.toList.length=cur.size from Yx,hcs];exact Xl _ hnc
 have hst:=run_storeCells_at P b off e vs 0 cur w hh (by rw[hvl,<-Yx];omega) hv1;simp only[Nat.add_zero]at hst;obtain⟨cur',hcur'⟩:∃cur',cur'=(cur.toList.take off++vs++cur.toList.drop (off+vs.length)).toArray:=⟨_,rfl⟩;rw[<-hcur']at hst;obtain⟨us',hus'⟩:∃us',us'=(css.flatMap Subtype.val).take off++vs++(css.flatMap Subtype.val).drop (off+vs.length):=⟨_,rfl⟩;have hul:us'.length=css.length*z:=by rw[hus'];simp only[Ya,Yd,Yo,hfl];omega
 have htk:cur'.toList.take (css.length*z)=us':=by
  rw[hcur',hus',<-htake];show List.take _ (cur.toList.take off++vs++cur.toList.drop (off+vs.length))=_;have l1:(cur.toList.take off).length=off:=by rw[Yd];omega
  rw[YU,YU,List.take_append,l1,List.take_append,List.take_take,List.take_take,Nat.min_eq_right DP,Nat.min_eq_left DP,YN (show vs.length<=css.length*z-off by omega),List.drop_take];congr 3;omega
 obtain⟨css',g1,g2⟩:=chunk css.length us' hul fun u hu=>by
  rw[hus']at hu;simp only[YL]at hu;rcases hu with(hu|hu)|hu
  · exact flat_one css u (Xd hu)
  · exact hv1 u hu
  · exact flat_one css u (YX hu)
 have run:(execOp a.eval o).run P w=.ok .skip (w.setRow b cur'):=by
  have hsz:=(hT t ti ht).size w;have hcs:(a.eval x).cells.size=ti.size:=by rw[<-Yx,hvs,hvl,hlen']
  refine GE ?_;simp[hst]
 have key:=Sim.setBox (w':=w.setRow b cur') (bx':=.rws e z pre (mid.take k++xs++mid.drop (k+xs.length)) post) hI hj hblk ⟨rfl,rfl,rfl,by simp,fun k hk=>absurd hk (Nat.not_lt_zero _)⟩ (fun k hk=>setRow_other w b k _ hk) fun own' _ okc keepS=>by
  refine .rws (css:=css') (nm:=n0) ⟨by rw[g2,hul,g1],Or.inr ⟨b,cap,cur',by rw[g1];exact hv,Yl _,setRow_heap w b _ _ e _ hh,by rw[g1];exact hnc,hcm,?_,by rw[g1,g2];exact htk⟩⟩ hz hpp (by rw[g1];exact hn) (by rw[<-hmid];simp only[Ya,Yd,Yo];omega) (fun k s u hs hu=>?_) (by rw[g1];exact hm) hk
  · rw[hcur',Xt];simp only[Ya,Yd,Yo,Yx]at hcur⊢;rw[<-hcs];omega
  · rw[<-hnew]at hs;rw[g2,hus']at hu;have:RelS (okO Sx γ st.own) (hp γ st.own) w s u:=by
     have ln:((css.flatMap Subtype.val).take off++vs).length=(cs.take off++xs).length:=by simp only[Ya,Yd,hfl,hvl,hl]
     by_cases hk1:k<(cs.take off++xs).length
     · rw[Yw hk1]at hs;rw[Yw E8]at hu;have l2:((css.flatMap Subtype.val).take off).length=(cs.take off).length:=by simp only[Yd,hfl,hl]
       by_cases hk2:k<(cs.take off).length
       · rw[Yw hk2]at hs;rw[Yw E9]at hu;rw[Xv]at hs hu;split at hs
         · rename_i hlt;rw[Yi hlt]at hu;exact hrel k s u hs hu
         · cases hs
       · rw[Yy DP]at hs;rw[Yy DP,l2]at hu;exact c2 _ s u hs hu
     · rw[Yy DP]at hs;rw[Yy DP,ln]at hu;rw[YV]at hs hu;rw[hvl]at hu;exact hrel _ s u hs hu
    exact keepS this
 unfold Oper.wp;rw[run,Oper.upon_skip,hdst];exact⟨γ,_,h,key.1,key.2.1,key.2.2⟩
end
def bCells (st:St) (size:Nat):List Operand->Option (List SV)
 |[]=>some []
 |x::r=>match evS st x with
  |some s=>match cellsOf s with
   |some ps=>bif Nat.beq ps.length size&&ps.all oneS then(match bCells st size r with|some l=>some (ps++l)|none=>none)else none
   |none=>none
  |none=>none
theorem bCells_ok {w0:Base} {Sx:Nat->Prop} {γ:Nat->Value} {st:St} {a:Act} {w:World} (hI:Sim w0 Sx γ st a w) {size:Nat}:∀{xs:List Operand} {cs:List SV},bCells st size xs=some cs->
 cs.length=xs.length*size/\∃css:List (Cel size),css.length=xs.length/\(∀(i:Nat) (h:i<css.length) (h2:i<xs.length),css[i].val=(a.eval xs[i]).cells.toList)/\
  ∀(j:Nat) (s:SV) (u:Value),cs[j]?=some s->(css.flatMap Subtype.val)[j]?=some u->RelS (okO Sx γ st.own) (hp γ st.own) w s u
 |[],cs,h=>by simp only[bCells,Ye]at h;subst h;exact⟨by simp,[],rfl,fun i h=>absurd h DQ,fun j s u hs=>by simp at hs⟩
 |x::r,cs,h=>by
  unfold bCells at h;split at h
  · rename_i s hs;split at h
    · rename_i ps hps;cases hb:(Nat.beq ps.length size&&ps.all oneS)with
      |false=>rw[hb]at h;cases h
      |true=>
       rw[hb]at h;simp only[cond_true]at h;simp only[Yp]at hb;have hsz:ps.length=size:=YK hb.1;split at h
       · rename_i l hl;simp only[Ye]at h;subst h;obtain⟨i1,css,i3,i4,i5⟩:=bCells_ok hI hl;obtain⟨c1,c2⟩:=qaW hI.heap.one (qK hI hs) hps;refine⟨by rw[Ya,i1,hsz,Yg,Nat.succ_mul];omega,⟨(a.eval x).cells.toList,by rw[c1,hsz],fun u hu=>?_⟩::css,by simp[i3],fun i h h2=>?_,fun j s' u hs' hu=>?_⟩
         · obtain⟨i,hi,rfl⟩:=List.mem_iff_getElem.1 hu;exact(c2 i (ps[i]'DP) _ (Yj DP) (Yj hi)).one hI.heap.one (YE.1 hb.2 _ (Yn _))
         · cases i with
           |zero=>rfl
           |succ i=>exact i4 i DA Dl
         · rw[YW]at hu;by_cases hj:j<ps.length
           · rw[Yw hj]at hs';rw[Yw (by rw[c1];exact hj)]at hu;exact c2 j s' u hs' hu
           · rw[Yy DP]at hs';rw[Yy (by rw[c1];omega),c1]at hu;exact i5 _ s' u hs' hu
       · cases h
    · cases h
  · cases h
section
variable {P:Program} {T:TT} (hT:zm P T) {st:St}
include hT
theorem act_buildW {o:Oper} {t e:TypeId} {len:Nat} {parts:Array (Nat×Operand)} (ho:o.op=.buildSlice t len parts) {d:Nat} (hdst:o.dst=some d) {ti ei:TyI} (ht:lk t T=some ti) (hte:ti.d=.sl e) (he:lk e T=some ei)
 (hsz:Nat.blt 0 ei.size=true) (hsmall:Nat.ble (len*ei.size) 16777216=true) {xs:List Operand} (hxs:jM 0 parts.toList=some xs) (hlen:Nat.beq xs.length len=true) {cs:List SV} (hl:bCells st ei.size xs=some cs)
 (hd:lk d st.own=none) (hn:Nat.blt d st.n=true) {Q:St->Prop} (h:Q ⟨st.n,(d,.row d)::st.fr,(d,.rws e ei.size [] cs [])::st.own⟩):ActOk P [] o st Q:=by
 intro w0 Sx γ a w QQ hI;have hpos:0<ei.size:=by simpa [Nat.blt,YJ]using hsz
 have hlen':xs.length=len:=YK hlen;have hsm:len*ei.size<=16777216:=Y8 hsmall;obtain⟨i1,css,i3,i4,i5⟩:=bCells_ok hI hl;have hcl:css.length=len:=by rw[i3,hlen']
 have run:=build_run hT (a:=a) (w:=w) ht hte he hsz hsmall hxs hlen' hcl i4;have hw:Below w.heap.size w (w.alloc (.cells (css.flatMap Subtype.val).toArray e)):=(Below.refl _ w).alloc (Yk _) _;have hlm:len<=16777216:=Xj (Nat.le_mul_of_pos_right len hpos) hsm;have hrow:BoxOk w0 Sx (upd γ d (.slice (some ⟨w.heap.size,0,none⟩) len len)) ((d,.rws e ei.size [] cs [])::st.own) (w.alloc (.cells (css.flatMap Subtype.val).toArray e)) d (.rws e ei.size [] cs []):=by
  have hcc:rwC [] cs []=cs:=by simp[rwC,rowF]
  refine .rws (css:=css) (nm:=xs.length) ?_ hpos (fun x hx=>by cases hx) (by rw[i3];simp) i1 (fun j s u hs hu=>?_) (by rw[hcl];unfold reachBytes;omega) (fun b hb hk=>by simp only[upd,if_true,zg,Ye]at hb;have:=hI.heap.sx.lt _ hk;omega)
  · refine GL ?_;refine⟨by rw[zU (fun x:Cel ei.size=>x.2.1)],Or.inr ⟨w.heap.size,len,_,by rw[hcl],Yl _,heap_alloc_new w _,by omega,by unfold maxLen;omega,by rw[Xt,zU (fun x:Cel ei.size=>x.2.1),hcl],?_⟩⟩;show(css.flatMap Subtype.val).take (css.length*ei.size)=_;rw[<-zU (fun x:Cel ei.size=>x.2.1) css,Yu]
  · rw[hcc]at hs;have hr:=i5 j s u hs hu;refine hr.keep2 hw.size (fun b hb hok=>⟨hw.block b hb,hok.1,fun k bx hk hkb=>?_⟩) fun i hi=>?_
    · have e:i≠d:=fun e=>by subst e;rw[hr.live (jO hd)]at hi;cases hi
      unfold hp;rw[qL,Yc e];simp only[upd,Yc e]
    · rw[qL]at hk;by_cases e:k=d
      · subst e;simp only[upd,if_true,zg,Ye]at hkb;omega
      · rw[Yc e]at hk;simp only[upd,Yc e]at hkb;exact hok.2 k bx hk hkb
 have key:=hI.addBox hw hd hn (s:=.row d) (v:=.slice (some ⟨w.heap.size,0,none⟩) len len) (fun b hb=>by simp only[zg,Ye]at hb;omega) hrow (.row EO);unfold Oper.wp;have:(execOp a.eval o).run P w=.ok (.value (.slice (some ⟨w.heap.size,0,none⟩) len len)) (w.alloc (.cells (css.flatMap Subtype.val).toArray e)):=by
  simp only[execOp,ho,YG,run,Ys];rfl
 refine R8 ?_;exact Ki
end
section
variable {P:Program} {T:TT} (hT:zm P T) {st:St}
include hT
end
theorem takeS_app {i:TyI} {A B:List SV} {s:SV} (h:takeS i A=some s):takeS i (A++B)=some s:=by
 unfold takeS at h⊢;split at h
 · cases hb:Nat.ble i.size A.length with
   |false=>rw[hb]at h;cases h
   |true=>
    have hle:=Y8 hb;rw[hb,cond_true]at h;rw[show Nat.ble i.size (A++B).length=true from Nat.ble_eq_true_of_le (by rw[Ya];omega),cond_true,Y7 hle];exact h
 · cases A with
   |nil=>cases h
   |cons a A=>exact h
theorem wf {T:TT} {K:List Nat} {st:St} {t:TypeId} {ad:Operand} {i:TyI} {j off:Nat} (k:Nat) {e:TypeId} {z:Nat} {pre post:List (List PV)} {mid:List SV} {s:SV} (ht:lk t T=some i) (had:evS st ad=some (.ptr j off)) (hK:K.contains j=false) (hj:lk j st.own=some (.rws e z pre mid post)) (hpre:∀x∈pre,x.length=z) (ho:off=pre.length*z+k) (hs:takeS i (mid.drop k)=some s) (hk:k<=mid.length):opR T K st (.load t ad)=some (True,s):=by
 show rLoad T K st t (evS st ad)=_;unfold rLoad;rw[had,ht];simp only[hK,hj,Box.cs?];rw[ho,<-qbg hpre,<-List.drop_drop,rwC,List.drop_left,List.drop_append_of_le_length hk,takeS_app hs];rfl
section
variable {ops:List Oper} {o:Oper} {rest:List Oper} {st:St} {Q:St->Prop}
theorem aM {t:TypeId} (ho:o.op=.makeMap t none:=by rfl) {d:Nat} (hdst:o.dst=some d:=by rfl) (hd:lk d st.own=none:=by rfl) (hn:Nat.blt d st.n=true:=by rfl) (h:Q ⟨st.n,(d,.row d)::st.fr,(d,.mp [])::st.own⟩):ActOk prog [] o st Q:=act_makeMap ho hdst hd hn h
theorem aB {e:TypeId} {x:Operand} (ho:o.op=.box e x:=by rfl) {d:Nat} (hdst:o.dst=some d:=by rfl) {s:SV} (hx:evS st x=some s:=by rfl) {cs:List SV} (hc:cellsOf s=some cs:=by rfl) (h1:cs.all oneS=true:=by rfl) (hd:lk d st.own=none:=by rfl) (hn:Nat.blt d st.n=true:=by rfl)
 (h:Q ⟨st.n,(d,.ptr d 0)::st.fr,(d,.cells cs)::st.own⟩):ActOk prog [] o st Q:=act_box ho hdst hx hc h1 hd hn h
theorem aA {e:TypeId} (ho:o.op=.alloc e:=by rfl) {d:Nat} (hdst:o.dst=some d:=by rfl) {i:TyI} (hi:lk e TTab=some i:=by rfl) (hz:i.zero.all plain=true:=by rfl) (hd:lk d st.own=none:=by rfl) (hn:Nat.blt d st.n=true:=by rfl)
 (h:Q ⟨st.n,(d,.ptr d 0)::st.fr,(d,.cells (i.zero.map fun z=>.p (.v z)))::st.own⟩):ActOk prog [] o st Q:=act_alloc qc ho hdst hi hz hd hn h
theorem aS {t:TypeId} {ad x:Operand} (ho:o.op=.store t ad x:=by rfl) (hdst:o.dst=none:=by rfl) {ti:TyI} (ht:lk t TTab=some ti:=by rfl) {j off:Nat} (had:evS st ad=some (.ptr j off):=by rfl) {cs:List SV} (hj:lk j st.own=some (.cells cs):=by rfl)
 {s:SV} (hx:evS st x=some s:=by rfl) {xs:List SV} (hxs:cellsOf s=some xs:=by rfl) (h1:xs.all oneS=true:=by rfl) (hlen:Nat.beq xs.length ti.size=true:=by rfl) (hfit:Nat.ble (off+xs.length) cs.length=true:=by rfl)
 (h:Q ⟨st.n,st.fr,setB j (.cells (cs.take off++xs++cs.drop (off+xs.length))) st.own⟩):ActOk prog [j] o st Q:=act_store qc ho hdst ht had hj hx hxs h1 hlen hfit h
theorem aL {t e:TypeId} {len:Nat} {parts:Array (Nat×Operand)} (ho:o.op=.buildSlice t len parts:=by rfl) {d:Nat} (hdst:o.dst=some d:=by rfl) {ti ei:TyI} (ht:lk t TTab=some ti:=by rfl) (hte:ti.d=.sl e:=by rfl) (he:lk e TTab=some ei:=by rfl)
 (hsz:Nat.blt 0 ei.size=true:=by rfl) (hsmall:Nat.ble (len*ei.size) 16777216=true:=by rfl) {xs:List Operand} (hxs:jM 0 parts.toList=some xs:=by rfl) (hlen:Nat.beq xs.length len=true:=by rfl) {l:List (List PV)} (hl:bElems st ei.size xs=some l:=by rfl)
 (hd:lk d st.own=none:=by rfl) (hn:Nat.blt d st.n=true:=by rfl) (h:Q ⟨st.n,(d,.row d)::st.fr,(d,.row e ei.size l)::st.own⟩):ActOk prog [] o st Q:=zj qc ho hdst ht hte he hsz hsmall hxs hlen hl hd hn h
theorem sT {Ws:List Nat} (hw:wl ops st o=some true:=by rfl) (h:ActOk prog Ws o st (SWT prog ops rest Q)):SWT prog ops (o::rest) Q st:=qy hw h
theorem zR {c:Prop} {s:SV} (h:SWT prog ops rest Q (st.put o.dst s)) (hw:wl ops st o=some true:=by rfl) (hr:opR TTab [] st o.op=some (c,s):=by rfl) (hc:c:=by exact True.intro) (hd:jW st o.dst=true:=by rfl):SWT prog ops (o::rest) Q st:=qm qc hw hr hc hd h
theorem zK (h:SWT prog ops rest Q (st.put o.dst (.tup []))) (hw:wl ops st o=some false:=by rfl) (hd:jW st o.dst=true:=by rfl):SWT prog ops (o::rest) Q st:=swt_skip hw hd h
theorem zM {t:TypeId} {d:Nat} (h:SWT prog ops rest Q ⟨st.n,(d,.row d)::st.fr,(d,.mp [])::st.own⟩) (hw:wl ops st o=some true:=by rfl) (ho:o.op=.makeMap t none:=by rfl) (hdst:o.dst=some d:=by rfl) (hd:lk d st.own=none:=by rfl) (hn:Nat.blt d st.n=true:=by rfl):SWT prog ops (o::rest) Q st:=sT hw (aM ho hdst hd hn h)
theorem zB {e:TypeId} {x:Operand} {d:Nat} {s:SV} {cs:List SV} (h:SWT prog ops rest Q ⟨st.n,(d,.ptr d 0)::st.fr,(d,.cells cs)::st.own⟩) (hw:wl ops st o=some true:=by rfl) (ho:o.op=.box e x:=by rfl) (hdst:o.dst=some d:=by rfl) (hx:evS st x=some s:=by rfl) (hc:cellsOf s=some cs:=by rfl) (h1:cs.all oneS=true:=by rfl) (hd:lk d st.own=none:=by rfl) (hn:Nat.blt d st.n=true:=by rfl):SWT prog ops (o::rest) Q st:=sT hw (aB ho hdst hx hc h1 hd hn h)
theorem zA {e:TypeId} {d:Nat} {i:TyI} (h:SWT prog ops rest Q ⟨st.n,(d,.ptr d 0)::st.fr,(d,.cells (i.zero.map fun z=>.p (.v z)))::st.own⟩) (hw:wl ops st o=some true:=by rfl) (ho:o.op=.alloc e:=by rfl) (hdst:o.dst=some d:=by rfl) (hi:lk e TTab=some i:=by rfl) (hz:i.zero.all plain=true:=by rfl) (hd:lk d st.own=none:=by rfl) (hn:Nat.blt d st.n=true:=by rfl):SWT prog ops (o::rest) Q st:=sT hw (aA ho hdst hi hz hd hn h)
theorem zS {t:TypeId} {ad x:Operand} {ti:TyI} {j off:Nat} {cs:List SV} {s:SV} {xs:List SV} (h:SWT prog ops rest Q ⟨st.n,st.fr,setB j (.cells (cs.take off++xs++cs.drop (off+xs.length))) st.own⟩) (hw:wl ops st o=some true:=by rfl) (ho:o.op=.store t ad x:=by rfl) (hdst:o.dst=none:=by rfl) (ht:lk t TTab=some ti:=by rfl) (had:evS st ad=some (.ptr j off):=by rfl) (hj:lk j st.own=some (.cells cs):=by rfl) (hx:evS st x=some s:=by rfl) (hxs:cellsOf s=some xs:=by rfl) (h1:xs.all oneS=true:=by rfl) (hlen:Nat.beq xs.length ti.size=true:=by rfl) (hfit:Nat.ble (off+xs.length) cs.length=true:=by rfl):SWT prog ops (o::rest) Q st:=sT hw (aS ho hdst ht had hj hx hxs h1 hlen hfit h)
theorem zL {t e:TypeId} {len:Nat} {parts:Array (Nat×Operand)} {d:Nat} {ti ei:TyI} {xs:List Operand} {l:List (List PV)} (h:SWT prog ops rest Q ⟨st.n,(d,.row d)::st.fr,(d,.row e ei.size l)::st.own⟩) (hw:wl ops st o=some true:=by rfl) (ho:o.op=.buildSlice t len parts:=by rfl) (hdst:o.dst=some d:=by rfl) (ht:lk t TTab=some ti:=by rfl) (hte:ti.d=.sl e:=by rfl) (he:lk e TTab=some ei:=by rfl) (hsz:Nat.blt 0 ei.size=true:=by rfl) (hsmall:Nat.ble (len*ei.size) 16777216=true:=by rfl) (hxs:jM 0 parts.toList=some xs:=by rfl) (hlen:Nat.beq xs.length len=true:=by rfl) (hl:bElems st ei.size xs=some l:=by rfl) (hd:lk d st.own=none:=by rfl) (hn:Nat.blt d st.n=true:=by rfl):SWT prog ops (o::rest) Q st:=sT hw (aL ho hdst ht hte he hsz hsmall hxs hlen hl hd hn h)
theorem zV {t:TypeId} {ad x:Operand} {ti:TyI} {j off:Nat} {e:TypeId} {z:Nat} {pre post:List (List PV)} {mid:List SV} {s:SV} {xs:List SV} (h:SWT prog ops rest Q ⟨st.n,st.fr,setB j (.rws e z pre (mid.take (off-pre.length*z)++xs++mid.drop (off-pre.length*z+xs.length)) post) st.own⟩) (hw:wl ops st o=some true:=by rfl) (ho:o.op=.store t ad x:=by rfl) (hdst:o.dst=none:=by rfl) (ht:lk t TTab=some ti:=by rfl) (had:evS st ad=some (.ptr j off):=by rfl) (hj:lk j st.own=some (.rws e z pre mid post):=by rfl) (hx:evS st x=some s:=by rfl) (hxs:cellsOf s=some xs:=by rfl) (h1:xs.all oneS=true:=by rfl) (hlen:Nat.beq xs.length ti.size=true:=by rfl) (ho2:Nat.ble (pre.length*z) off=true:=by rfl) (hfit:Nat.ble (off-pre.length*z+xs.length) mid.length=true:=by rfl):SWT prog ops (o::rest) Q st:=sT hw (jU qc ho hdst ht had hj (by have:=Nat.le_of_ble_eq_true ho2;omega) hx hxs h1 hlen (Nat.le_of_ble_eq_true hfit) h)
theorem zN {t e:TypeId} {len:Nat} {parts:Array (Nat×Operand)} {d:Nat} {ti ei:TyI} {xs:List Operand} {cs:List SV} (h:SWT prog ops rest Q ⟨st.n,(d,.row d)::st.fr,(d,.rws e ei.size [] cs [])::st.own⟩) (hw:wl ops st o=some true:=by rfl) (ho:o.op=.buildSlice t len parts:=by rfl) (hdst:o.dst=some d:=by rfl) (ht:lk t TTab=some ti:=by rfl) (hte:ti.d=.sl e:=by rfl) (he:lk e TTab=some ei:=by rfl) (hsz:Nat.blt 0 ei.size=true:=by rfl) (hsmall:Nat.ble (len*ei.size) 16777216=true:=by rfl) (hxs:jM 0 parts.toList=some xs:=by rfl) (hlen:Nat.beq xs.length len=true:=by rfl) (hl:bCells st ei.size xs=some cs:=by rfl) (hd:lk d st.own=none:=by rfl) (hn:Nat.blt d st.n=true:=by rfl):SWT prog ops (o::rest) Q st:=sT hw (act_buildW qc ho hdst ht hte he hsz hsmall hxs hlen hl hd hn h)
end
section
variable {ops:List Oper} {K:List Nat} {o:Oper} {r:List (Nat×Bool)} {st:St} {Q:St->Prop} {i:Nat}
theorem mT {Ws:List Nat} (hi:nthO ops i=some o:=by rfl) (hw:wl ops st o=some true:=by rfl) (h:ActOk prog Ws o st (SWM prog ops K r Q)) (hK:Ws.all (fun j=>K.contains j)=true:=by rfl):SWM prog ops K ((i,false)::r) Q st:=swm_act hi hw hK h
theorem yR {b:Bool} {c:Prop} {s:SV} (h:SWM prog ops K r Q (st.put o.dst s)) (hi:nthO ops i=some o:=by rfl) (hw:wl ops st o=some true:=by rfl) (hr:opR TTab (bif b then K else []) st o.op=some (c,s):=by rfl) (hc:c:=by exact True.intro) (hd:jW st o.dst=true:=by rfl):SWM prog ops K ((i,b)::r) Q st:=qJ qc hi hw hr hc hd h
theorem yK {b:Bool} (h:SWM prog ops K r Q (st.put o.dst (.tup []))) (hi:nthO ops i=some o:=by rfl) (hw:wl ops st o=some false:=by rfl) (hd:jW st o.dst=true:=by rfl):SWM prog ops K ((i,b)::r) Q st:=swm_skip hi hw hd h
theorem yM {t:TypeId} {d:Nat} (h:SWM prog ops K r Q ⟨st.n,(d,.row d)::st.fr,(d,.mp [])::st.own⟩) (hi:nthO ops i=some o:=by rfl) (hw:wl ops st o=some true:=by rfl) (ho:o.op=.makeMap t none:=by rfl) (hdst:o.dst=some d:=by rfl) (hd:lk d st.own=none:=by rfl) (hn:Nat.blt d st.n=true:=by rfl) (hK:([]:List Nat).all (fun j=>K.contains j)=true:=by rfl):SWM prog ops K ((i,false)::r) Q st:=mT hi hw (aM ho hdst hd hn h) hK
theorem yB {e:TypeId} {x:Operand} {d:Nat} {s:SV} {cs:List SV} (h:SWM prog ops K r Q ⟨st.n,(d,.ptr d 0)::st.fr,(d,.cells cs)::st.own⟩) (hi:nthO ops i=some o:=by rfl) (hw:wl ops st o=some true:=by rfl) (ho:o.op=.box e x:=by rfl) (hdst:o.dst=some d:=by rfl) (hx:evS st x=some s:=by rfl) (hc:cellsOf s=some cs:=by rfl) (h1:cs.all oneS=true:=by rfl) (hd:lk d st.own=none:=by rfl) (hn:Nat.blt d st.n=true:=by rfl) (hK:([]:List Nat).all (fun j=>K.contains j)=true:=by rfl):SWM prog ops K ((i,false)::r) Q st:=mT hi hw (aB ho hdst hx hc h1 hd hn h) hK
theorem yA {e:TypeId} {d:Nat} {ii:TyI} (h:SWM prog ops K r Q ⟨st.n,(d,.ptr d 0)::st.fr,(d,.cells (ii.zero.map fun z=>.p (.v z)))::st.own⟩) (hi:nthO ops i=some o:=by rfl) (hw:wl ops st o=some true:=by rfl) (ho:o.op=.alloc e:=by rfl) (hdst:o.dst=some d:=by rfl) (hi2:lk e TTab=some ii:=by rfl) (hz:ii.zero.all plain=true:=by rfl) (hd:lk d st.own=none:=by rfl) (hn:Nat.blt d st.n=true:=by rfl) (hK:([]:List Nat).all (fun j=>K.contains j)=true:=by rfl):SWM prog ops K ((i,false)::r) Q st:=mT hi hw (aA ho hdst hi2 hz hd hn h) hK
theorem yS {t:TypeId} {ad x:Operand} {ti:TyI} {j off:Nat} {cs:List SV} {s:SV} {xs:List SV} (h:SWM prog ops K r Q ⟨st.n,st.fr,setB j (.cells (cs.take off++xs++cs.drop (off+xs.length))) st.own⟩) (hi:nthO ops i=some o:=by rfl) (hw:wl ops st o=some true:=by rfl) (ho:o.op=.store t ad x:=by rfl) (hdst:o.dst=none:=by rfl) (ht:lk t TTab=some ti:=by rfl) (had:evS st ad=some (.ptr j off):=by rfl) (hj:lk j st.own=some (.cells cs):=by rfl) (hx:evS st x=some s:=by rfl) (hxs:cellsOf s=some xs:=by rfl) (h1:xs.all oneS=true:=by rfl) (hlen:Nat.beq xs.length ti.size=true:=by rfl) (hfit:Nat.ble (off+xs.length) cs.length=true:=by rfl) (hK:([j]:List Nat).all (fun j=>K.contains j)=true:=by rfl):SWM prog ops K ((i,false)::r) Q st:=mT hi hw (aS ho hdst ht had hj hx hxs h1 hlen hfit h) hK
theorem yL {t e:TypeId} {len:Nat} {parts:Array (Nat×Operand)} {d:Nat} {ti ei:TyI} {xs:List Operand} {l:List (List PV)} (h:SWM prog ops K r Q ⟨st.n,(d,.row d)::st.fr,(d,.row e ei.size l)::st.own⟩) (hi:nthO ops i=some o:=by rfl) (hw:wl ops st o=some true:=by rfl) (ho:o.op=.buildSlice t len parts:=by rfl) (hdst:o.dst=some d:=by rfl) (ht:lk t TTab=some ti:=by rfl) (hte:ti.d=.sl e:=by rfl) (he:lk e TTab=some ei:=by rfl) (hsz:Nat.blt 0 ei.size=true:=by rfl) (hsmall:Nat.ble (len*ei.size) 16777216=true:=by rfl) (hxs:jM 0 parts.toList=some xs:=by rfl) (hlen:Nat.beq xs.length len=true:=by rfl) (hl:bElems st ei.size xs=some l:=by rfl) (hd:lk d st.own=none:=by rfl) (hn:Nat.blt d st.n=true:=by rfl) (hK:([]:List Nat).all (fun j=>K.contains j)=true:=by rfl):SWM prog ops K ((i,false)::r) Q st:=mT hi hw (aL ho hdst ht hte he hsz hsmall hxs hlen hl hd hn h) hK
end
def Tag {α:Type} (_:α):Prop:=True
section
variable {P:Program} {st:St}
theorem acW {o:Oper} {cl:Call} {fo:Operand} {f:FuncId} {caps:List PV} {ρ:List (Nat×Nat)} (_:Tag ρ) {args:List SV} {own:List (Nat×Box)} {r:SV} {own':List (Nat×Box)} (ho:o.op=.call cl) (hcl:cl.callee=.value fo) (hfo:evS st fo=some (.p (.fn f caps)))
 (hown:ownR ρ st.own ρ=some own) (hρ:((dist (ρ.map (·.1))&&dist (ρ.map (·.2)))&&ρ.all (fun p=>Nat.ble 1000000 p.2))=true) (hargs:argWs st ρ cl.args.toList=some args)
 (H:HoldsW P f (args++caps.map .p) own r own') (hd:jW st o.dst=true) {st':St} (hb:st.back ρ o.dst r own'=some st') (hk:backOk st ρ o.dst own'=true) {Q:St->Prop} (h:Q st'):ActOk P (ρ.map (·.1)) o st Q:=act_call_W ρ ho hcl hfo hown hρ hargs H hd hb hk h
end
def oN:List Nat->List (Nat×Bool)
 |[]=>[]
 |n::r=>(n/2,Nat.beq (n%2) 1)::oN r
section
variable {id:Nat} {l:List Oper} {QS:SEx->St->Prop} {st:St} {c:Code}
theorem swrd {K o:List Nat} (_:Tag (K,o)) (hm:(prog).follows .mixedOrders=true) (hs:Region.noSelect l.toArray=true) (hB:(qaQ .any l.toArray (oN o) (Array.replicate l.toArray.size false)&&(oN o).length==l.toArray.size)=true) (h:SWM prog l K (oN o) (QS .normal) st):SW prog (.region id l.toArray true) QS st:=sw_region_draw K (oN o) hm hs hB h
theorem uZ (a:List Nat) (b:List (Nat×Nat)) {st':St} (h:SW prog c QS st') (h1:st.only a b=some st':=by rfl) (h2:renOk b=true:=by rfl):SW prog c QS st:=SW.wk (qj a b h1 h2) h
end
section
variable {α p q r a b:Prop}
theorem uA (hq:q) (h:q->p:=by intro hq;(repeat refine qA ?_);refine sw_region ?_;(repeat(first|refine zR ?_|refine zK ?_|refine zM ?_|refine zB ?_|refine zA ?_|refine zS ?_|refine zL ?_|refine zV ?_|refine zN ?_));refine qe ?_;exact hq):p:=h hq
theorem uR (hq:q) (h:q->p:=by intro hq;(repeat refine qA ?_);refine sw_region ?_;(repeat(first|refine zR ?_|refine zK ?_|refine zM ?_|refine zB ?_|refine zA ?_|refine zS ?_|refine zL ?_|refine zV ?_|refine zN ?_));exact hq):p:=h hq
theorem uS (hq:q) (h:q->p:=by intro hq;(repeat(first|refine zR ?_|refine zK ?_|refine zM ?_|refine zB ?_|refine zA ?_|refine zS ?_|refine zL ?_|refine zV ?_|refine zN ?_));exact hq):p:=h hq
theorem uK (H:α) (hq:q) (h:α->q->p:=by intro H hq;refine qy rfl (act_call_flat rfl rfl rfl rfl H rfl rfl ?_);(repeat(first|refine zR ?_|refine zK ?_|refine zM ?_|refine zB ?_|refine zA ?_|refine zS ?_|refine zL ?_|refine zV ?_|refine zN ?_));exact hq):p:=h H hq
theorem uO (H:α) (hq:q) (h:α->q->p:=by intro H hq;refine qy rfl (qt rfl rfl rfl rfl H rfl rfl rfl ?_);(repeat(first|refine zR ?_|refine zK ?_|refine zM ?_|refine zB ?_|refine zA ?_|refine zS ?_|refine zL ?_|refine zV ?_|refine zN ?_));exact hq):p:=h H hq
theorem uW (ρ:List (Nat×Nat)) (H:α) (hq:q) (h:Tag ρ->α->q->p:=by intro t H hq;refine qy rfl (acW t rfl rfl rfl rfl rfl rfl H rfl rfl rfl ?_);(repeat(first|refine zR ?_|refine zK ?_|refine zM ?_|refine zB ?_|refine zA ?_|refine zS ?_|refine zL ?_|refine zV ?_|refine zN ?_));exact hq):p:=h trivial H hq
theorem uD (K o:List Nat) (hq:q) (h:Tag (K,o)->q->p:=by intro t hq;(repeat refine qA ?_);refine swrd t DG DG DG ?_;(repeat(first|refine yR ?_|refine yK ?_|refine yM ?_|refine yB ?_|refine yA ?_|refine yS ?_|refine yL ?_));exact hq):p:=h trivial hq
theorem uT (hq:q) (h:q->p:=by intro hq;(repeat(first|refine yR ?_|refine yK ?_|refine yM ?_|refine yB ?_|refine yA ?_|refine yS ?_|refine yL ?_));exact hq):p:=h hq
theorem uk (H:α) (hq:q) (h:α->q->p:=by intro H hq;refine swm_act rfl rfl rfl (act_call_flat rfl rfl rfl rfl H rfl rfl ?_);(repeat(first|refine yR ?_|refine yK ?_|refine yM ?_|refine yB ?_|refine yA ?_|refine yS ?_|refine yL ?_));exact hq):p:=h H hq
theorem uo (H:α) (hq:q) (h:α->q->p:=by intro H hq;refine swm_act rfl rfl rfl (qt rfl rfl rfl rfl H rfl rfl rfl ?_);(repeat(first|refine yR ?_|refine yK ?_|refine yM ?_|refine yB ?_|refine yA ?_|refine yS ?_|refine yL ?_));exact hq):p:=h H hq
theorem uw (ρ:List (Nat×Nat)) (H:α) (hq:q) (h:Tag ρ->α->q->p:=by intro t H hq;refine swm_act rfl rfl rfl (acW t rfl rfl rfl rfl rfl rfl H rfl rfl rfl ?_);(repeat(first|refine yR ?_|refine yK ?_|refine yM ?_|refine yB ?_|refine yA ?_|refine yS ?_|refine yL ?_));exact hq):p:=h trivial H hq
theorem uC (hq:a->q) (hr:b->r) (h:(a->q)->(b->r)->p:=by intro hq hr;(repeat refine qA ?_);refine sw_cond rfl ?_ ?_;exact hq;exact hr):p:=h hq hr
theorem uB (hq:q) (h:q->p:=by intro hq;(repeat refine qA ?_);refine sw_block ?_;exact hq):p:=h hq
theorem uQ (hq:q) (h:q->p:=by intro hq;(repeat refine qA ?_);refine sw_ret ?_;exact hq):p:=h hq
end
theorem uF (ρ:List (Nat×Nat)) {ts:List Tmp} {r:SV} {own':List (Nat×Box)} {st:St} {s:SV} (hs:resS st ts=some s:=by rfl) (hm:s.mapR ρ=some r:=by rfl) (ho:ownR ρ st.own ρ=some own':=by rfl) (hρ:renOk ρ=true:=by rfl):Fin ts r own' .ret st:=⟨Or.inr rfl,st,s,ρ,Wk.refl _,hs,hm,ho,hρ⟩
def Val.pv (x:Val):List PV:=[.v (.int .i64 x.kind),.v (.int .i64 x.n),.v (.string x.s)]
def Atr.pv (x:Atr):List PV:=[.v (.int .i64 x.cat),.v (.string x.name),.v (.bool x.must)]
def Mat.pv (x:Mat):List PV:=[.v (.int .i64 x.attr.cat),.v (.string x.attr.name),.v (.bool x.attr.must),.v (.int .i64 x.op),.v (.int .i64 x.val.kind),.v (.int .i64 x.val.n),.v (.string x.val.s)]
def valsP (l:List Val):PV:=.sl 3 (l.map Val.pv)
def Giv.pv (x:Giv):List PV:=[.v (.int .i64 x.cat),.v (.string x.name),valsP x.bag]
def js (l:List Giv):PV:=.sl 3 (l.map Giv.pv)
def wF (l:List Mat):PV:=.sl 7 (l.map Mat.pv)
def anyP (l:List (List Mat)):PV:=.sl 1 (l.map fun x=>[wF x])
def tgtP (l:List (List (List Mat))):PV:=.sl 1 (l.map fun x=>[anyP x])
abbrev pI (n:Int):PV:=.v (.int .i64 n)
abbrev pB (b:Bool):PV:=.v (.bool b)
abbrev pS (s:DT):PV:=.v (.string s)
def qQ {α:Type} (f:α->Nat) (l:List α):Nat:=(l.map f).sum
theorem sumBy_step {α:Type} {f:α->Nat} {l:List α} {k:Nat} (hk:k<l.length):qQ f (l.take (k+1))=qQ f (l.take k)+f l[k]:=by
 unfold qQ;rw[Ym hk,Yr,List.sum_append];simp
theorem sumBy_le {α:Type} {f:α->Nat} {l:List α} {x:α} (h:x∈l):f x<=qQ f l:=by
 unfold qQ
 induction l with
 |nil=>cases h
 |cons y l ih=>
  rcases Y0.1 h with rfl|h
  · simp
  · have:=ih h;simp;omega
def txt (s:DT):Nat:=1+s.size/8
def msz (m:Mat):Nat:=txt m.attr.name+txt m.val.s
def asz (y:List Mat):Nat:=1+y.length+qQ msz y
def xsz (x:List (List Mat)):Nat:=1+x.length+qQ asz x
def tsz (t:List (List (List Mat))):Nat:=1+t.length+qQ xsz t
structure Nod where
 op:Int
 val:Val
 attr:Atr
structure Obli where
 on:Int
 kind:Int
 arg:DT
abbrev Tar:=List (List (List Mat))
structure Rul where
 id:DT
 deny:Bool
 target:Tar
 cond:List Nod
 obls:List Obli
inductive Pol where
 |mk (id:DT) (set:Bool) (alg:Int) (target:Tar) (rules:List Rul) (kids:List Pol) (obls:List Obli)
def Pol.id:Pol->DT| .mk x _ _ _ _ _ _=>x
def Pol.set:Pol->Bool| .mk _ x _ _ _ _ _=>x
def Pol.alg:Pol->Int| .mk _ _ x _ _ _ _=>x
def Pol.target:Pol->Tar| .mk _ _ _ x _ _ _=>x
def Pol.rules:Pol->List Rul| .mk _ _ _ _ x _ _=>x
def Pol.kids:Pol->List Pol| .mk _ _ _ _ _ x _=>x
def Pol.obls:Pol->List Obli| .mk _ _ _ _ _ _ x=>x
structure Nod.Fit (x:Nod):Prop where
 op:R64 x.op
 val:x.val.Fit
 attr:x.attr.Fit
structure Obli.Fit (x:Obli):Prop where
 on:R64 x.on
 kind:R64 x.kind
 arg:x.arg.size<=reachBytes
def SlV {α:Type} (R:Rp α) (size:Nat) (w:World) (v:Value) (l:List α):Prop:=∃A c,v=.slice A l.length c/\l.length<=c/\(l.length<=reachBytes/\c<=maxLen)/\SlAt R size w A l
theorem SlV.keep {α:Type} {R:Rp α} (hR:Keeps R) {size:Nat} {w w':World} {v:Value} {l:List α} (hb:Below w.heap.size w w') (h:SlV R size w v l):SlV R size w' v l:=by
 obtain⟨A,c,h1,h2,h3,h4⟩:=h;exact⟨A,c,h1,h2,h3,h4.keep hR hb⟩
theorem SlV.of {α:Type} {R:Rp α} {size:Nat} {w:World} {v:Value} {l:List α} (h:rSl R size w [v] l):SlV R size w v l:=by
 obtain⟨A,c,h1,h2⟩:=h;simp only[List.cons.injEq,and_true]at h1;exact⟨A,c,h1,h2⟩
theorem SlV.nil {α:Type} (R:Rp α) (size:Nat) (w:World):SlV R size w (.slice none 0 0) []:=⟨none,0,rfl,Nat.le_refl _,⟨Nat.zero_le _,Nat.zero_le _⟩,SlAt.nil⟩
section
variable {w0 w:World} {A:Option Addr}
end
def osz (l:List Obli):Nat:=l.length+qQ (fun o=>txt o.arg) l
def nsz (n:Nod):Nat:=txt n.attr.name+txt n.val.s
def rusz (r:Rul):Nat:=txt r.id+tsz r.target+r.cond.length+osz r.obls+qQ nsz r.cond
mutual
def Pol.sz:Pol->Nat
 | .mk id _ _ t rs ks os=>1+rs.length+txt id+tsz t+osz os+qQ rusz rs+Pol.szs ks
def Pol.szs:List Pol->Nat
 |[]=>0
 |k::ks=>k.sz+Pol.szs ks
end
theorem Pol.szs_eq:∀l:List Pol,Pol.szs l=qQ Pol.sz l
 |[]=>rfl
 |k::ks=>by simp[Pol.szs,qQ,Pol.szs_eq ks]
theorem Pol.sz_eq (p:Pol):p.sz=1+p.rules.length+txt p.id+tsz p.target+osz p.obls+qQ rusz p.rules+qQ Pol.sz p.kids:=by
 cases p with
 |mk id a b t rs ks os=>rw[<-Pol.szs_eq];rfl
theorem val_back {ok:Nat->Prop} {w:World} {cs:List Value} {x:Val} (h:rPV ok w cs x.pv):cs=x.cells:=rPV_plain (xs:=x.cells) h
theorem vals_typed {ok:Nat->Prop} {w:World} {u:Value} {l:List Val} (h:RelP ok w (valsP l) u) (hf:∀x∈l,x.Fit):∃A c,u=.slice A l.length c/\l.length<=c/\(l.length<=reachBytes/\c<=maxLen)/\SlAt rVal 3 w A l:=
 sl_typed h fun x hx cs hcs=>⟨val_back hcs,hf x hx⟩
theorem SlAt.fit {α:Type} {R:Rp α} {size:Nat} {w:World} {A:Option Addr} {l:List α} {F:α->Prop} (h:SlAt R size w A l) (hR:∀cs x,R w cs x->F x):∀x∈l,F x:=fun x hx=>by
 obtain⟨i,hi,rfl⟩:=List.mem_iff_getElem.1 hx;obtain⟨b,o,_,_,hc⟩:=h DP;obtain⟨cs,_,_,h3⟩:=hc i hi;exact hR cs _ h3
structure Giv.Fit (x:Giv):Prop where
 cat:R64 x.cat
 name:x.name.size<=reachBytes
 bag:∀v∈x.bag,v.Fit
end
section
open Go.RowKit
attribute [local go_sem] wY jA
attribute [local go_sem low] jz zZ
theorem eql_val (a b:Int) (s:DT) (a' b':Int) (s':DT) (w:World):
 (binOp .eql 44 (.agg #[.int .i64 a,.int .i64 b,.string s]) (.agg #[.int .i64 a',.int .i64 b',.string s'])).run prog w=.ok (.bool (wO ⟨a,b,s⟩ ⟨a',b',s'⟩)) w:=by
 unfold wO;by_cases h1:a=a'
 · by_cases h2:b=b'
   · by_cases h3:s=s'
     · subst h1;subst h2;subst h3;go_simp
     · have:s.toList≠s'.toList:=fun h=>h3 (toList_inj h)
       subst h1;subst h2;go_simp
   · subst h1;go_simp
 · go_simp
set_option maxHeartbeats 2000000 in
theorem name_any (s:DT) (w:World) (hs:s.size<=reachBytes):
 Calls prog 94 #[.string s] w fun e w'=>e=.returned (.bool (qad s))/\w=w':=by
 unfold reachBytes at hs;go_enter func94,ntmps94
 go_wp2
 go_loop [3,4,5,6,9] (fun _ _ _ _ i=>∃k:Nat,k<=s.size/\i=.int .i64 k/\Hid (∀i (h:i<s.size),i<k->okC (i==0) s[i].toNat=true)) (fun _ _ _ _ i=>s.size-(intOf i).toNat)
 case atStart=>exact⟨0,Yl _,rfl,fun i _ h=>absurd h DP⟩
 case round=>
  obtain⟨k,hk,rfl,hok⟩:=hrel;by_cases hlt:k<s.size
  · skip
    go_upto_region 5 with(fail)
    refine GC ?_
    repeat(refine qU ?_;intro K hK;go_big_quiet_op;go_big_quiet_on)
    refine zX ?_;intro us;refine Vy ?_;go_upto_region 6 with(fail)
    refine GC ?_
    repeat(refine qU ?_;intro K hK;go_big_quiet_op;go_big_quiet_on)
    refine zX ?_;intro us;refine Vy ?_;go_upto_region 7 with(fail)
    refine GC ?_
    repeat(refine qU ?_;intro K hK;go_big_quiet_op;go_big_quiet_on)
    refine zX ?_;intro us;refine Vy ?_;go_wp2
    · go_ret
      refine⟨wW (nameS_no hlt ?_).symm,rfl⟩;go_light
      simp[okC]at*;omega
    · go_round
      case rel=>
       refine⟨k+1,by omega,by go_num,name_step hlt hok.out ?_⟩;go_light
       simp[okC]at*;omega
      case measure=>simp[intOf];omega
  · obtain rfl:k=s.size:=by omega
    have e1:=hide (nameS_end hok.out);go_upto_region 10 with(fail)
    refine GC ?_
    repeat(refine qU ?_;intro K hK;go_big_quiet_op;go_big_quiet_on)
    refine zX ?_;intro us;refine Vy ?_;go_wp2
    go_ret
    refine⟨wW ?_,rfl⟩;rw[e1.out,qbu,YO];simp only[Yp,Yf,Xo,Yh];omega
theorem right_any (k n:Int) (s:DT) (w:World) (hs:s.size<=reachBytes):
 Calls prog 97 #[.agg #[.int .i64 k,.int .i64 n,.string s]] w fun e w'=>e=.returned (.bool (Val.right ⟨k,n,s⟩))/\Below w.heap.size w w':=by
 unfold reachBytes at hs;have hs':s.size<=reachBytes:=hs;go_enter func97,ntmps97
 go_wp2_with (go_at_call 94;refine(name_any _ _ hs').mono ?_;rintro e w1 ⟨rfl,rfl⟩)
 all_goals
  go_ret
  refine⟨wW ?_,(Below.refl _ _).alloc (Yk _) _⟩;go_light
  simp only[beq_iff_eq,beq_eq_false_iff_ne,ne_eq]at*;simp[Val.right,qbu, *]
  try omega
end
section
def attrS (a:Atr):Bool:=decide (1<=a.cat)&&decide (a.cat<=4)&&qad a.name
def manyS (n:Nat):Int:=if n=0 then 1 else if 8<n then 6 else 0
def matchS (m:Mat):Bool:=attrS m.attr&&decide (1<=m.op)&&decide (m.op<=3)&&m.val.right
def firstE {α:Type} (f:α->Int):List α->Int
 |[]=>0
 |x::r=>if f x=0 then firstE f r else f x
def okE (b:Bool):Int:=if b then 0 else 1
def allOfS (l:List Mat):Int:=if manyS l.length=0 then firstE (fun m=>okE (matchS m)) l else manyS l.length
def anyOfS (l:List (List Mat)):Int:=if manyS l.length=0 then firstE allOfS l else manyS l.length
def wR (t:Tar):Int:=if 8<t.length then 6 else firstE anyOfS t
def oblS (o:Obli):Bool:=decide (1<=o.on)&&decide (o.on<=2)&&decide (1<=o.kind)&&decide (o.kind<=4)&&qad o.arg
def oblsS (l:List Obli):Int:=if 8<l.length then 6 else firstE (fun o=>okE (oblS o)) l
def jP (op:Int):Option (List Bool):=
 if op=1\/op=2 then some []
 else if op=3\/op=4 then some [true]
 else if op=5 then some [true,false]
 else if op=11 then some [false]
 else if 6<=op/\op<=13 then some [false,false]
 else none
def noAtr:Atr:=⟨0,⟨#[]⟩,false⟩
def isNoVal (v:Val):Bool:=decide (v.kind=0)&&decide (v.n=0)&&decide (v.s.size=0)
def isNoAtr (a:Atr):Bool:=decide (a.cat=0)&&decide (a.name.size=0)&&!a.must
def fieldsS (n:Nod):Bool:=
 if n.op=1 then n.val.right&&isNoAtr n.attr
 else if n.op=2 then attrS n.attr&&isNoVal n.val
 else isNoVal n.val&&isNoAtr n.attr
def qaf (l:List Bool) (n:Nod):Option (List Bool):=match jP n.op with
 |none=>none
 |some w=>if fieldsS n=true/\w.length<=l.length/\l.drop (l.length-w.length)=w then some (l.take (l.length-w.length)++[decide (n.op=2)])else none
def jI:List Bool->List Nod->Option (List Bool)
 |l,[]=>some l
 |l,n::r=>match qaf l n with
  |some l'=>jI l' r
  |none=>none
def exprS (l:List Nod):Int:=
 if 32<l.length then 6 else match jI [] l with
  |none=>1
  |some made=>if l=[]\/made=[false]then 0 else 1
structure Wlk where
 met:List DT
 rules:Int
def hasS (m:List DT) (s:DT):Bool:=m.any fun t=>decide (s=t)
def wH (m:List DT) (s:DT):Bool:=!hasS m s&&qad s
def nameM (m:List DT) (s:DT):List DT:=if wH m s then m++[s]else m
def ruleE (r:Rul):Int:=if wR r.target=0 then(if exprS r.cond=0 then oblsS r.obls else exprS r.cond)else wR r.target
def jy (w:Wlk) (r:Rul):Int×Wlk:=
 if wH w.met r.id then(if 64<w.rules+1 then 6 else ruleE r,⟨w.met++[r.id],w.rules+1⟩)else(1,w)
def headE (p:Pol):Int:=
 if(p.set&&decide (0<p.rules.length))||(!p.set&&(decide (0<p.kids.length)||decide (p.alg=4)))then 1
 else if wR p.target=0 then(if oblsS p.obls=0 then(if 16<p.rules.length\/16<p.kids.length then 6 else 0)else oblsS p.obls)else wR p.target
def jZ (w:Wlk) (p:Pol):Int×Wlk:=
 (if wH w.met p.id&&decide (1<=p.alg)&&decide (p.alg<=6)then headE p else 1,⟨nameM w.met p.id,w.rules⟩)
def seqS {α:Type} (f:Wlk->α->Int×Wlk):Wlk->List α->Int×Wlk
 |w,[]=>(0,w)
 |w,x::r=>if(f w x).1=0 then seqS f (f w x).2 r else f w x
def polS:Nat->Wlk->Pol->Int×Wlk
 |0,w,_=>(6,w)
 |n+1,w,p=>
  if(jZ w p).1=0 then
   if(seqS jy (jZ w p).2 p.rules).1=0 then seqS (polS n) (seqS jy (jZ w p).2 p.rules).2 p.kids
   else seqS jy (jZ w p).2 p.rules
  else jZ w p
def zW (p:Pol):Int:=(polS 4 ⟨[],0⟩ p).1
theorem seqS_some {α:Type} {f:Wlk->α->Int×Wlk}:∀{l:List α} {w:Wlk} {k:Nat} (hk:k<l.length),(seqS f w (l.take k)).1=0->seqS f w (l.take (k+1))=f (seqS f w (l.take k)).2 l[k]
 |x::r,w,0,_,_=>by
  simp only[Xk,Y4,List.take_zero,seqS,Xu];split
  · rename_i h;rw[<-h]
  · rfl
 |x::r,w,k+1,hk,h=>by
  rw[Y4,seqS]at h;rw[Y4,Y4,seqS,seqS];by_cases h0:(f w x).1=0
  · rw[Yi h0]at h;rw[Yi h0,Yi h0];exact seqS_some Dn h
  · rw[Yc h0]at h;exact absurd h h0
theorem seqS_stop {α:Type} {f:Wlk->α->Int×Wlk}:∀{l:List α} {w:Wlk} (k:Nat),(seqS f w (l.take k)).1≠0->seqS f w l=seqS f w (l.take k)
 |[],w,k,_=>by simp
 |x::r,w,0,h=>by simp[seqS]at h
 |x::r,w,k+1,h=>by
  rw[Y4,seqS]at h⊢;rw[seqS];by_cases h0:(f w x).1=0
  · rw[Yi h0]at h⊢;rw[Yi h0];exact seqS_stop k h
  · rw[Yc h0,Yc h0]
theorem qaU {α:Type} {f:α->Int}:∀{l:List α} {k:Nat} (hk:k<l.length),(∀x∈l.take k,f x=0)->f l[k]≠0->firstE f l=f l[k]
 |x::r,0,_,_,h=>by simp only[Xu]at h⊢;rw[firstE,Yc h]
 |x::r,k+1,hk,ha,h=>by
  have h0:f x=0:=ha x DQ;rw[firstE,Yi h0];simp only[List.getElem_cons_succ]at h⊢;exact qaU Dn (fun y hy=>ha y (by rw[Y4];exact Y3 _ hy)) h
theorem qaZ {α:Type} {f:α->Int}:∀{l:List α},(∀x∈l,f x=0)->firstE f l=0
 |[],_=>rfl
 |x::r,h=>by rw[firstE,Yi (h x List.mem_cons_self)];exact qaZ fun y hy=>h y (Y3 _ hy)
theorem take_ok {α:Type} {p:α->Prop} {l:List α} {k:Nat} (h:k<l.length) (ha:∀x∈l.take k,p x) (hk:p l[k]):∀x∈l.take (k+1),p x:=by
 intro x hx;rw[Ym h,YL,YA]at hx;rcases hx with hx|rfl
 · exact ha x hx
 · exact hk
end
section
open Go.RowKit
theorem one_arg {vs:List Value} (h:vs.length=1):∃u,vs=[u]:=by
 match vs,h with
 |[u],_=>exact⟨u,rfl⟩
theorem name_h (s:DT) (hs:s.size<=reachBytes):Holds prog 94 [pS s] (.p (pB (qad s))) []:=
 .of_calls func94 DG rfl (fun w vs hl hr=>by
  obtain⟨u,rfl⟩:=one_arg hl;have h:=jn (hr 0 _ u rfl rfl) rfl;subst h;exact(name_any s w hs).mono fun e w' ⟨h1,h2⟩=>⟨h1,h2▸Below.refl _ _⟩) rfl fun w=>.p (.v rfl)
theorem wA (v:Val) (hs:v.s.size<=reachBytes):Holds prog 97 [.agg v.pv] (.p (pB v.right)) []:=
 .of_calls func97 DG rfl (fun w vs hl hr=>by
  obtain⟨u,rfl⟩:=one_arg hl;have h:=jn (hr 0 _ u rfl rfl) rfl;subst h;exact right_any v.kind v.n v.s w hs) rfl fun w=>.p (.v rfl)
theorem jS (a b:DT):(a.toList==b.toList)=decide (a=b):=by
 rw[YO];exact LS
theorem eqL_val (x y:Val):eqL x.pv y.pv=some (wO x y):=by
 have h:eqL x.pv y.pv=some ((x.kind==y.kind)&&((x.n==y.n)&&((x.s.toList==y.s.toList)&&true))):=rfl;rw[h,jS,Bool.and_true];congr 1;rw[YO];simp[wO,and_assoc]
theorem opR_eqV {T:TT} {K:List Nat} {st:St} {o:Op} {t t':TypeId} {a b:Operand} (x y:Val) (ho:o=.binOp .eql t a b t') {n m:Nat} {d:Ty} {z:List Value} (ht:lk t T=some ⟨n,m,d,z,true⟩) (ha:evS st a=some (.p (.agg x.pv))) (hb:evS st b=some (.p (.agg y.pv))):opR T K st o=some (jh x.pv z=true,.p (pB (wO x y))):=by
 subst ho;show rBin T .eql t (evS st a) (evS st b)=_;rw[ha,hb];unfold rBin;simp only[ht,eqL_val]
def Nod.pv (x:Nod):List PV:=[pI x.op,pI x.val.kind,pI x.val.n,pS x.val.s,pI x.attr.cat,pS x.attr.name,pB x.attr.must]
def Obli.pv (x:Obli):List PV:=[pI x.on,pI x.kind,pS x.arg]
def nodsP (l:List Nod):PV:=.sl 7 (l.map Nod.pv)
def zh (l:List Obli):PV:=.sl 3 (l.map Obli.pv)
def wv (l:List Bool):List (List PV):=l.map fun b=>[pB b]
def zo (r:Rul):List PV:=[pS r.id,pB r.deny,tgtP r.target,nodsP r.cond,zh r.obls]
theorem attr_h (a:Atr) (ha:a.name.size<=reachBytes):Holds prog 309 [.agg a.pv] (.p (pB (attrS a))) []:=by
 refine qo (ts:=[2]) func309 DG rfl rfl rfl ?_;refine LM ?_;refine qV rfl rfl rfl rfl (name_h a.name ha) rfl rfl ?_;refine Ky ?_;refine Lg ?_;unfold attrS;cases h1:decide (1<=a.cat)<;>cases h2:decide (a.cat<=4)<;>simp_all
theorem many_h (n:Nat):Holds prog 291 [pI n] (.p (pI (manyS n))) []:=by
 refine qo (ts:=[2]) func291 DG rfl rfl rfl ?_;refine uA ?_;refine Kz ?_;refine uC (fun h=>?_) (fun h=>?_)
 · have h0:n=0:=by simpa using h
   subst h0;exact KK
 · have h0:n≠0:=by simpa using h
   refine uA ?_;refine uC (fun h2=>?_) (fun h2=>?_)
   · refine KC ?_;simp at h2;simp[manyS,h0];omega
   · refine KA ?_;refine VJ ?_;simp at h2;simp[manyS,h0];omega
theorem match_h (m:Mat) (hm:m.Fit):Holds prog 308 [.agg m.pv] (.p (pB (matchS m))) []:=by
 refine qo (ts:=[2]) func308 DG rfl rfl rfl ?_;refine LM ?_;refine qV rfl rfl rfl rfl (attr_h m.attr hm.attr.name) rfl rfl ?_;refine Xz ?_;refine qV rfl rfl rfl rfl (wA m.val hm.val.s) rfl rfl ?_;refine Ky ?_;refine Lg ?_;unfold matchS;cases attrS m.attr<;>cases h1:decide (1<=m.op)<;>cases h2:decide (m.op<=3)<;>simp_all
theorem allOf_h (l:List Mat) (hf:∀x∈l,x.Fit):Holds prog 292 [wF l] (.p (pI (allOfS l))) []:=by
 refine qo (ts:=[2]) func292 DG rfl rfl rfl ?_;refine sw_len (t:=0) (z:=7) (l:=l.map Mat.pv) rfl fun hlen=>?_
 rw[Yb]at hlen;unfold reachBytes at hlen;refine Kq ?_;refine uK (many_h (l.map Mat.pv).length) ?_;refine KF ?_;rw[Yb];refine uC (fun hm=>?_) (fun hm=>?_)
 · refine KC ?_;have h0:manyS l.length≠0:=by simpa using hm
   simp[allOfS,h0]
 · refine qh ?_;have h0:manyS l.length=0:=by simpa using hm
   refine KJ ?_;refine uZ [12,13,14] [] ?_;refine qG (fun n s=>∃(k:Nat) (kk:Int),k<=l.length/\n=l.length-k/\kk=k/\(∀x∈l.take k,(fun m=>okE (matchS m)) x=0)/\s=⟨22,[(12,.p (wF l)),(13,.p (pI (l.map Mat.pv).length)),(14,.p (pI kk))],[]⟩) l.length ⟨0,0,Yl _,rfl,rfl,by simp,rfl⟩ ?_;rintro n s ⟨k,_,hk,rfl,rfl,ha,rfl⟩;refine uA ?_;refine uC (fun hlt=>?_) (fun hlt=>?_)
   · refine qh ?_;simp only[Yb,Yf]at hlt;have hlt':k<l.length:=by omega
     refine Kx ?_;refine Lp ?_;refine Kt ?_;refine uK (match_h l[k] (hf _ (Yn hlt'))) ?_;refine qe ?_;refine uC (fun hp=>?_) (fun hp=>?_)
     · refine KC ?_;have hq:okE (matchS l[k])=1:=by simpa [okE]using hp
       rw[allOfS,Yi h0,qaU (f:=fun m=>okE (matchS m)) hlt' ha (by rw[hq];decide),hq]
     · refine Kw ?_;refine⟨_,_,?_,qj [12,13,14] [] rfl rfl,k+1,_,hlt',rfl,qq hlt' DP,take_ok hlt' ha (by simpa [okE]using hp),rfl⟩;omega
   · refine qC ?_;simp only[Yb,Yh]at hlt;have hkk:k=l.length:=by omega
     subst hkk;rw[Yu]at ha;refine KC ?_;simp[allOfS,h0,qaZ ha]
theorem anyOf_h (l:List (List Mat)) (hf:∀x∈l,∀m∈x,m.Fit):Holds prog 261 [anyP l] (.p (pI (anyOfS l))) []:=by
 refine qo (ts:=[2]) func261 DG rfl rfl rfl ?_;refine sw_len (t:=0) (z:=1) (l:=l.map (fun x=>[wF x])) rfl fun hlen=>?_
 rw[Yb]at hlen;unfold reachBytes at hlen;refine Kq ?_;refine uK (many_h (l.map (fun x=>[wF x])).length) ?_;refine KF ?_;rw[Yb];refine uC (fun hm=>?_) (fun hm=>?_)
 · refine KC ?_;have h0:manyS l.length≠0:=by simpa using hm
   simp[anyOfS,h0]
 · refine qh ?_;have h0:manyS l.length=0:=by simpa using hm
   refine KJ ?_;refine uZ [13,14,15] [] ?_;refine qG (fun n s=>∃(k:Nat) (kk:Int),k<=l.length/\n=l.length-k/\kk=k/\(∀x∈l.take k,allOfS x=0)/\s=⟨25,[(13,.p (anyP l)),(14,.p (pI (l.map (fun x=>[wF x])).length)),(15,.p (pI kk))],[]⟩) l.length ⟨0,0,Yl _,rfl,rfl,by simp,rfl⟩ ?_;rintro n s ⟨k,_,hk,rfl,rfl,ha,rfl⟩;refine uA ?_;refine uC (fun hlt=>?_) (fun hlt=>?_)
   · refine qh ?_;simp only[Yb,Yf]at hlt;have hlt':k<l.length:=by omega
     refine Kx ?_;refine Lp ?_;refine Kt ?_;refine uK (allOf_h l[k] (hf _ (Yn hlt'))) ?_;refine KF ?_;refine uC (fun hp=>?_) (fun hp=>?_)
     · refine KC ?_;have hq:allOfS l[k]≠0:=by simpa using hp
       rw[anyOfS,Yi h0,qaU hlt' ha hq]
     · refine Kw ?_;refine⟨_,_,?_,qj [13,14,15] [] rfl rfl,k+1,_,hlt',rfl,qq hlt' DP,take_ok hlt' ha (by simpa using hp),rfl⟩;omega
   · refine qC ?_;simp only[Yb,Yh]at hlt;have hkk:k=l.length:=by omega
     subst hkk;rw[Yu]at ha;refine KC ?_;simp[anyOfS,h0,qaZ ha]
theorem target_h (l:List (List (List Mat))) (hf:∀x∈l,∀y∈x,∀m∈y,m.Fit):Holds prog 214 [tgtP l] (.p (pI (wR l))) []:=by
 refine qo (ts:=[2]) func214 DG rfl rfl rfl ?_;refine sw_len (t:=0) (z:=1) (l:=l.map (fun x=>[anyP x])) rfl fun hlen=>?_
 rw[Yb]at hlen;unfold reachBytes at hlen;refine Kr ?_;rw[Yb];refine uC (fun hm=>?_) (fun hm=>?_)
 · refine KC ?_;have h0:8<l.length:=by simp at hm;omega
   simp[wR,h0]
 · refine qh ?_;have h0:¬8<l.length:=by simp at hm;omega
   refine KJ ?_;refine uZ [9,10,11] [] ?_;refine qG (fun n s=>∃(k:Nat) (kk:Int),k<=l.length/\n=l.length-k/\kk=k/\(∀x∈l.take k,anyOfS x=0)/\s=⟨21,[(9,.p (tgtP l)),(10,.p (pI (l.map (fun x=>[anyP x])).length)),(11,.p (pI kk))],[]⟩) l.length ⟨0,0,Yl _,rfl,rfl,by simp,rfl⟩ ?_;rintro n s ⟨k,_,hk,rfl,rfl,ha,rfl⟩;refine uA ?_;refine uC (fun hlt=>?_) (fun hlt=>?_)
   · refine qh ?_;simp only[Yb,Yf]at hlt;have hlt':k<l.length:=by omega
     refine Kx ?_;refine Lp ?_;refine Kt ?_;refine uK (anyOf_h l[k] (hf _ (Yn hlt'))) ?_;refine KF ?_;refine uC (fun hp=>?_) (fun hp=>?_)
     · refine KC ?_;have hq:anyOfS l[k]≠0:=by simpa using hp
       rw[wR,Yc h0,qaU hlt' ha hq]
     · refine Kw ?_;refine⟨_,_,?_,qj [9,10,11] [] rfl rfl,k+1,_,hlt',rfl,qq hlt' DP,take_ok hlt' ha (by simpa using hp),rfl⟩;omega
   · refine qC ?_;simp only[Yb,Yh]at hlt;have hkk:k=l.length:=by omega
     subst hkk;rw[Yu]at ha;refine KC ?_;simp[wR,h0,qaZ ha]
theorem oblS_eq (o:Obli):(!oblS o)=(decide (o.on<1)||decide (2<o.on)||decide (o.kind<1)||decide (4<o.kind)||!qad o.arg):=by
 rw[YO];simp[oblS]
theorem obls_h (l:List Obli) (hf:∀x∈l,x.Fit):Holds prog 215 [zh l] (.p (pI (oblsS l))) []:=by
 refine qo (ts:=[2]) func215 DG rfl rfl rfl ?_;refine sw_len (t:=0) (z:=3) (l:=l.map Obli.pv) rfl fun hlen=>?_
 rw[Yb]at hlen;unfold reachBytes at hlen;refine Kr ?_;rw[Yb];refine uC (fun hm=>?_) (fun hm=>?_)
 · refine KC ?_;have h0:8<l.length:=by simp at hm;omega
   simp[oblsS,h0]
 · refine qh ?_;have h0:¬8<l.length:=by simp at hm;omega
   refine KJ ?_;refine uZ [8,9,10] [] ?_;refine qG (fun n s=>∃(k:Nat) (kk:Int),k<=l.length/\n=l.length-k/\kk=k/\(∀x∈l.take k,(fun m=>okE (oblS m)) x=0)/\s=⟨39,[(8,.p (zh l)),(9,.p (pI (l.map Obli.pv).length)),(10,.p (pI kk))],[]⟩) l.length ⟨0,0,Yl _,rfl,rfl,by simp,rfl⟩ ?_;rintro n s ⟨k,_,hk,rfl,rfl,ha,rfl⟩;refine uA ?_;refine uC (fun hlt=>?_) (fun hlt=>?_)
   · refine qh ?_;simp only[Yb,Yf]at hlt;have hlt':k<l.length:=by omega
     refine Kx ?_;refine Lp ?_;refine Ko ?_;refine KM ?_;refine qV rfl rfl rfl rfl (name_h l[k].arg (hf _ (Yn hlt')).arg) rfl rfl ?_;refine Ky ?_;refine uC (fun hp=>?_) (fun hp=>?_)
     · refine KC ?_;have hq:okE (oblS l[k])=1:=by
        have:=oblS_eq l[k];cases h1:oblS l[k]with
        |false=>rfl
        |true=>
         exfalso;rw[h1]at this;simp at this hp;rcases hp with((((h|h)|h)|h)|h)<;>first|omega|simp_all
       rw[oblsS,Yc h0,qaU (f:=fun m=>okE (oblS m)) hlt' ha (by rw[hq];decide),hq]
     · refine Kw ?_;refine⟨_,_,?_,qj [8,9,10] [] rfl rfl,k+1,_,hlt',rfl,qq hlt' DP,take_ok hlt' ha ?_,rfl⟩
       · omega
       · have:=oblS_eq l[k];cases h1:oblS l[k]with
         |true=>simp[okE,h1]
         |false=>
          exfalso;rw[h1]at this;simp at this hp;rcases this with((((h|h)|h)|h)|h)<;>first|omega|simp_all
   · refine qC ?_;simp only[Yb,Yh]at hlt;have hkk:k=l.length:=by omega
     subst hkk;rw[Yu]at ha;refine KC ?_;simp[oblsS,h0,qaZ ha]
theorem wk_nilp {st:St} (t d:Nat) (e:TypeId) (z:Nat) (ht:lk t st.fr=some (.p (.v (.slice none 0 0)))) (hd:lk d st.own=none) (hdl:Nat.blt d 1000000=true:=by rfl):Wk st (St.frz ⟨st.n,(t,.row d)::st.fr,(d,.row e z [])::st.own⟩ d z []):=
 (zw t d e z ht hd hdl).trans (qu (e:=e) (by show lk d ((d,Box.row e z [])::st.own)=_;rw[qL,Yi rfl]))
theorem wants_h (op:Int):Holds prog 293 [pI op] (.tup [.p (.sl 1 (wv ((jP op).getD []))),.p (pB (jP op).isSome)]) []:=by
 refine qo (ts:=[2,3]) func293 DG rfl rfl rfl ?_;refine KJ ?_;refine KB ?_;refine uC (fun h=>?_) (fun h=>?_)
 · have e:jP op=some []:=by
    unfold jP;rw[Yi DA]
   rw[e];refine Kp ?_;exact⟨Or.inr rfl,_,_,[],wk_nilp 2 0 4 1 rfl rfl,rfl,rfl,rfl,rfl⟩
 · have n1:¬(op=1\/op=2):=by simpa using h
   refine KB ?_;refine uC (fun h=>?_) (fun h=>?_)
   · have e:jP op=some [true]:=by
      unfold jP;rw[Yc n1,Yi DA]
     rw[e];refine Kp ?_;exact⟨Or.inr rfl,_,_,[],qu (k:=18) rfl,rfl,rfl,rfl,rfl⟩
   · have n2:¬(op=3\/op=4):=by simpa using h
     refine uA ?_;refine uC (fun h=>?_) (fun h=>?_)
     · have e:jP op=some [true,false]:=by
        unfold jP;rw[Yc n1,Yc n2,Yi DA]
       rw[e];refine Kp ?_;exact⟨Or.inr rfl,_,_,[],qu (k:=22) rfl,rfl,rfl,rfl,rfl⟩
     · have n3:¬op=5:=by simpa using h
       refine uA ?_;refine uC (fun h=>?_) (fun h=>?_)
       · have e:jP op=some [false]:=by
          unfold jP;rw[Yc n1,Yc n2,Yc n3,Yi DA]
         rw[e];refine Kp ?_;exact⟨Or.inr rfl,_,_,[],qu (k:=26) rfl,rfl,rfl,rfl,rfl⟩
       · have n4:¬op=11:=by simpa using h
         refine KB ?_;refine uC (fun h=>?_) (fun h=>?_)
         · have e:jP op=some [false,false]:=by
            unfold jP;rw[Yc n1,Yc n2,Yc n3,Yc n4,Yi Dd]
           rw[e];refine Kp ?_;exact⟨Or.inr rfl,_,_,[],qu (k:=34) rfl,rfl,rfl,rfl,rfl⟩
         · have e:jP op=none:=by
            unfold jP;rw[Yc n1,Yc n2,Yc n3,Yc n4,Yc Dd]
           rw[e];refine KA ?_;exact⟨Or.inr rfl,_,_,[],wk_nilp 2 0 4 1 rfl rfl,rfl,rfl,rfl,rfl⟩
theorem noVal_eq (v:Val):(v.kind==0&&(v.n==0&&v.s.toList.isEmpty))=isNoVal v:=by
 rw[qbu,YO];simp[isNoVal,and_assoc]
theorem noAtr_eq (a:Atr):(a.cat==0&&(a.name.toList.isEmpty&&!a.must))=isNoAtr a:=by
 rw[qbu,YO];simp[isNoAtr,and_assoc]
theorem fields_h (n:Nod) (hn:n.Fit):Holds prog 294 [.agg n.pv] (.p (pB (fieldsS n))) []:=by
 refine qo (ts:=[2]) func294 DG rfl rfl rfl ?_;refine K2 ?_;refine uC (fun h=>?_) (fun h=>?_)
 · have h1:n.op=1:=by simpa using h
   refine KM ?_;refine qV rfl rfl rfl rfl (wA n.val hn.val.s) rfl rfl ?_;refine Xz ?_;refine LV ?_;refine Lg ?_;unfold fieldsS;rw[Yi h1];cases n.val.right<;>simp[<-noAtr_eq]
 · have n1:¬n.op=1:=by simpa using h
   refine uA ?_;refine uC (fun h=>?_) (fun h=>?_)
   · have h2:n.op=2:=by simpa using h
     refine KM ?_;refine qV rfl rfl rfl rfl (attr_h n.attr hn.attr.name) rfl rfl ?_;refine Xz ?_;refine LV ?_;refine Lg ?_;unfold fieldsS;rw[Yc n1,Yi h2];cases attrS n.attr<;>simp[<-noVal_eq]
   · have n2:¬n.op=2:=by simpa using h
     refine qh ?_;refine KM ?_;refine qn qc rfl (rfl) rfl ?_;refine Xz ?_;refine LV ?_;refine Lg ?_;unfold fieldsS;rw[Yc n1,Yc n2];simp[<-noVal_eq,<-noAtr_eq]
def isG (cat:Int) (name:DT) (g:Giv):Bool:=decide (g.cat=cat)&&decide (g.name=name)
def placeS (cat:Int) (name:DT) (l:List Giv):Int:=if l.findIdx (isG cat name)<l.length then(l.findIdx (isG cat name):Int)else-1
theorem placeS_at {cat:Int} {name:DT} {l:List Giv} {k:Nat} (hk:k<l.length) (h:∀g∈l.take k,isG cat name g=false) (hg:isG cat name l[k]=true):placeS cat name l=k:=by
 have e:l.findIdx (isG cat name)=k:=(Xx hk).2 ⟨hg,fun j hj=>h _ (List.mem_take_iff_getElem.2 ⟨j,by omega,rfl⟩)⟩;unfold placeS;rw[e,Yi hk]
theorem placeS_no {cat:Int} {name:DT} {l:List Giv} (h:∀g∈l,isG cat name g=false):placeS cat name l=-1:=by
 have e:l.findIdx (isG cat name)=l.length:=List.findIdx_eq_length.2 h;unfold placeS;rw[e,Yc (Nat.lt_irrefl _)]
def bagS (cat:Int) (name:DT) (l:List Giv):List Val:=match l.find? (isG cat name)with|some g=>g.bag|none=>[]
def getS (a:Atr) (l:List Giv):List Val×Int:=if(bagS a.cat a.name l).isEmpty&&a.must then([],4)else(bagS a.cat a.name l,0)
theorem bagS_no {cat:Int} {name:DT} {l:List Giv} (h:∀g∈l,isG cat name g=false):bagS cat name l=[]:=by
 have:l.find? (isG cat name)=none:=List.find?_eq_none.2 fun g hg=>by simp[h g hg]
 simp[bagS,this]
theorem bagS_at {cat:Int} {name:DT} {l:List Giv} {k:Nat} (hk:k<l.length) (h:∀g∈l.take k,isG cat name g=false) (hg:isG cat name l[k]=true):bagS cat name l=l[k].bag:=by
 have e:l=l.take k++l[k]::l.drop (k+1):=by rw[<-Xf hk,Xq]
 have:l.find? (isG cat name)=some l[k]:=by
  conv=>lhs;rw[e]
  rw[List.find?_append,List.find?_eq_none.2 fun g hm=>by simp[h g hm],List.find?_cons,hg];rfl
 simp[bagS,this]
theorem place_cases (cat:Int) (name:DT) (l:List Giv):(placeS cat name l=-1/\bagS cat name l=[]/\∀g∈l,isG cat name g=false)\/∃(k:Nat) (hk:k<l.length),placeS cat name l=k/\bagS cat name l=l[k].bag/\isG cat name l[k]=true/\∀g∈l.take k,isG cat name g=false:=by
 by_cases h:l.findIdx (isG cat name)<l.length
 · right;have h1:isG cat name l[l.findIdx (isG cat name)]=true:=List.findIdx_getElem (w:=h);have h2:∀g∈l.take (l.findIdx (isG cat name)),isG cat name g=false:=by
    intro g hg;obtain⟨j,hj,rfl⟩:=List.mem_take_iff_getElem.1 hg;exact List.not_of_lt_findIdx DP
   exact⟨_,h,placeS_at h h2 h1,bagS_at h h2 h1,h1,h2⟩
 · left;have h1:l.findIdx (isG cat name)=l.length:=Nat.le_antisymm List.findIdx_le_length DP;have h2:=List.findIdx_eq_length.1 h1;exact⟨placeS_no h2,bagS_no h2,h2⟩
end
section
def hasV (l:List Val) (v:Val):Bool:=l.any fun x=>wO v x
end
section
open Go.RowKit
theorem eExpr_made {a:List Nod} (h:exprS a=0) (hn:a≠[]):jI [] a=some [false]/\a.length<=32:=by
 unfold exprS at h;split at h
 · cases h
 · cases hs:jI [] a with
   |none=>rw[hs]at h;cases h
   |some m=>
    rw[hs]at h;simp only at h;split at h
    · rename_i hc;rcases hc with hc|hc
      · exact absurd hc hn
      · subst hc;exact⟨rfl,by omega⟩
    · cases h
structure Itm where
 bag:List Val
 v:Val
 e:Int
def Itm.pv (x:Itm):List PV:=[valsP x.bag,pI x.v.kind,pI x.v.n,pS x.v.s,pI x.e]
def noItm:Itm:=⟨[],noVal,0⟩
def itmT (b:Bool):Itm:=⟨[],truthS b,0⟩
def isT (v:Val) (n:Int):Bool:=wO v ⟨1,n,⟨#[]⟩⟩
def Itm.is (x:Itm) (n:Int):Bool:=decide (x.e=0)&&isT x.v n
def jg (op:Int):Nat:=if op=1\/op=2 then 0 else if op=3\/op=4\/op=11 then 1 else 2
def decS (op:Int) (l:List Itm):Bool:=(decide (op=12)||decide (op=13))&&((l.getD 0 noItm).is (op-12)||(l.getD 1 noItm).is (op-12))
def errS:List Itm->Int
 |[]=>0
 |x::r=>if x.e=0 then errS r else x.e
def lastS (op:Int) (l:List Itm):Itm:=
 if op=3 then(if(l.getD 0 noItm).bag.length=1 then⟨[],(l.getD 0 noItm).bag.getD 0 noVal,0⟩else⟨[],noVal,4⟩)
 else if op=4 then⟨[],⟨2,(l.getD 0 noItm).bag.length,⟨#[]⟩⟩,0⟩
 else if op=5 then itmT (hasV (l.getD 0 noItm).bag (l.getD 1 noItm).v)
 else⟨[],(jr op (l.map Itm.v)).1,(jr op (l.map Itm.v)).2⟩
def qaM (n:Nod) (l:List Itm) (g:List Giv):Itm:=
 if n.op=1 then⟨[],n.val,0⟩
 else if n.op=2 then⟨(getS n.attr g).1,noVal,(getS n.attr g).2⟩
 else if decS n.op l then itmT (decide (n.op=13))
 else if errS l≠0 then⟨[],noVal,errS l⟩
 else lastS n.op l
def stepI (g:List Giv) (s:List Itm) (n:Nod):List Itm:=s.take (s.length-jg n.op)++[qaM n (s.drop (s.length-jg n.op)) g]
def evalI (g:List Giv) (l:List Nod):List Itm:=l.foldl (stepI g) []
def valueS (l:List Nod) (g:List Giv):Val×Int:=
 if l=[]\/exprS l≠0 then(noVal,1)else(((evalI g l).getD 0 noItm).v,((evalI g l).getD 0 noItm).e)
def condV (x:Val×Int):Int:=if(Itm.mk [] x.1 x.2).is 1 then 2 else if(Itm.mk [] x.1 x.2).is 0 then 0 else 1
def condS (l:List Nod) (g:List Giv):Int:=if l=[]then 2 else condV (valueS l g)
theorem operandsS_wants {op:Int} {w:List Bool} (h:jP op=some w):w.length=jg op:=by
 unfold jP at h;unfold jg
 repeat' split at h
 all_goals(cases h;try (simp;try omega))
 all_goals(try (split<;>simp_all<;>omega))
theorem stepI_len {g:List Giv} {s:List Itm} {n:Nod} {l l':List Bool} (hl:s.length=l.length) (h:qaf l n=some l'):(stepI g s n).length=l'.length/\jg n.op<=s.length:=by
 unfold qaf at h;split at h
 · cases h
 · rename_i w hw;split at h
   · rename_i hc;cases h;have:=operandsS_wants hw;simp only[stepI,Ya,Yd,YF];omega
   · cases h
theorem evalI_len {g:List Giv}:∀{r:List Nod} {s:List Itm} {l l':List Bool},s.length=l.length->jI l r=some l'->(r.foldl (stepI g) s).length=l'.length
 |[],s,l,l',hl,h=>by cases h;exact hl
 |n::r,s,l,l',hl,h=>by
  rw[jI]at h;cases hs:qaf l n with
  |none=>rw[hs]at h;cases h
  |some m=>
   rw[hs]at h;rw[List.foldl_cons];exact evalI_len (s:=stepI g s n) (l:=m) (stepI_len (g:=g) hl hs).1 h
theorem evalI_one {g:List Giv} {l:List Nod} (h:exprS l=0) (hn:l≠[]):∃x,evalI g l=[x]:=by
 have h1:=evalI_len (g:=g) (s:=[]) (l:=[]) rfl (eExpr_made h hn).1;exact List.length_eq_one_iff.1 h1
theorem valueS_one {g:List Giv} {l:List Nod} {x:Itm} (h:exprS l=0) (hn:l≠[]) (hx:evalI g l=[x]):valueS l g=(x.v,x.e):=by
 unfold valueS;rw[Yc (by simp[h,hn]),hx];rfl
section
variable {s:DT} (hs:qad s=true)
include hs
end
def againstT (m:Mat) (v:Val):Bool×Int:=
 if m.op=1 then(if v.kind≠m.val.kind then(false,2)else(wO v m.val,0))else if m.op=2 then lessS v m.val else lessS m.val v
def okT (m:Mat) (v:Val):Bool:=(againstT m v).1
def badT (m:Mat) (v:Val):Bool:=decide ((againstT m v).2≠0)
def wD (m:Mat) (l:List Giv):Int:=
 if(getS m.attr l).2≠0 then 1 else if(getS m.attr l).1.any (okT m)then 2 else if(getS m.attr l).1.any (badT m)then 1 else 0
def allTT (l:List Mat) (g:List Giv):Int:=l.foldl (fun o m=>min o (wD m g)) 2
def anyTT (l:List (List Mat)) (g:List Giv):Int:=l.foldl (fun o x=>max o (allTT x g)) 0
def metT (t:Tar) (g:List Giv):Int:=t.foldl (fun o x=>min o (anyTT x g)) 2
theorem matchT_range (m:Mat) (l:List Giv):0<=wD m l/\wD m l<=2:=by
 unfold wD;split
 · omega
 · split
   · omega
   · split<;>omega
theorem foldl_min {α:Type} {f:α->Int} (hf:∀x,0<=f x/\f x<=2):∀(l:List α) (o:Int),0<=o/\o<=2->0<=l.foldl (fun o x=>min o (f x)) o/\l.foldl (fun o x=>min o (f x)) o<=2
 |[],o,h=>h
 |x::l,o,h=>by
  rw[List.foldl_cons];have:=hf x;exact foldl_min hf l _ DP
theorem foldl_max {α:Type} {f:α->Int} (hf:∀x,0<=f x/\f x<=2):∀(l:List α) (o:Int),0<=o/\o<=2->0<=l.foldl (fun o x=>max o (f x)) o/\l.foldl (fun o x=>max o (f x)) o<=2
 |[],o,h=>h
 |x::l,o,h=>by
  rw[List.foldl_cons];have:=hf x;exact foldl_max hf l _ DP
theorem allTT_range (l:List Mat) (g:List Giv):0<=allTT l g/\allTT l g<=2:=foldl_min (fun m=>matchT_range m g) l 2 DP
theorem anyTT_range (l:List (List Mat)) (g:List Giv):0<=anyTT l g/\anyTT l g<=2:=foldl_max (fun m=>allTT_range m g) l 0 DP
abbrev Mk:=Nat×Nat
def mks:List Mk:=[(0,0),(2,0),(0,2),(1,0),(0,1),(1,1)]
def qaw (a b:Mk):Mk:=(max a.1 b.1,max a.2 b.2)
def overM (j:Mk):Mk:=if j.2=2 then(0,2)else if j.2=1/\1<=j.1 then(1,1)else if j.2=1 then(0,1)else if j.1=2 then(2,0)else if j.1=1 then(1,0)else(0,0)
def turnM (j:Mk):Mk:=(j.2,j.1)
def indetM (m:Mk):Mk:=if m=(2,0)then(1,0)else if m=(0,2)then(0,1)else m
def joinL (l:List Mk):Mk:=l.foldl qaw (0,0)
def wK:List Mk->Mk
 |[]=>(0,0)
 |m::r=>if m=(0,0)then wK r else m
def sureM (m:Mk):Bool:=decide (m=(0,0))||decide (m=(2,0))||decide (m=(0,2))
def stepJ (j m:Mk):Mk:=if j=(0,0)then m else if m≠(0,0)then(1,1)else j
def onlyM:Mk->List Mk->Mk
 |j,[]=>j
 |j,m::r=>if sureM m then onlyM (stepJ j m) r else(1,1)
def qaL (l:List Mk) (m other:Mk):Mk:=if other∈l then other else m
def allM (alg:Int) (l:List Mk):Mk:=
 if alg=1 then overM (joinL l)else if alg=2 then turnM (overM (turnM (joinL l)))else if alg=3 then wK l
 else if alg=4 then onlyM (0,0) l else if alg=5 then qaL l (0,2) (2,0)else if alg=6 then qaL l (2,0) (0,2)else(0,0)
theorem overM_mem (j:Mk):overM j∈mks:=by
 unfold overM mks
 repeat' split
 all_goals simp
theorem turnM_mem {j:Mk} (h:j∈mks):turnM j∈mks:=by
 unfold mks at h⊢;simp only[Y0,Xn,or_false]at h;rcases h with rfl|rfl|rfl|rfl|rfl|rfl<;>simp[turnM]
theorem indetM_mem {j:Mk} (h:j∈mks):indetM j∈mks:=by
 unfold mks at h⊢;simp only[Y0,Xn,or_false]at h;rcases h with rfl|rfl|rfl|rfl|rfl|rfl<;>simp[indetM]
theorem firstM_mem:∀{l:List Mk},(∀m∈l,m∈mks)->wK l∈mks
 |[],_=>by simp[wK,mks]
 |m::r,h=>by
  rw[wK];split
  · exact firstM_mem fun x hx=>h x (Y3 _ hx)
  · exact h m DQ
theorem onlyM_mem:∀{l:List Mk} {j:Mk},j∈mks->(∀m∈l,m∈mks)->onlyM j l∈mks
 |[],j,hj,_=>hj
 |m::r,j,hj,h=>by
  rw[onlyM];split
  · refine onlyM_mem ?_ fun x hx=>h x (Y3 _ hx)
    unfold stepJ;split
    · exact h m DQ
    · split
      · simp[mks]
      · exact hj
  · simp[mks]
theorem allM_mem {alg:Int} {l:List Mk} (h:∀m∈l,m∈mks):allM alg l∈mks:=by
 unfold allM qaL
 repeat' split
 all_goals first|exact overM_mem _|exact turnM_mem (overM_mem _)|exact firstM_mem h|exact onlyM_mem DH h|(simp[mks])
structure Rs where
 m:Mk
 obls:List Obli
def noRs:Rs:=⟨(0,0),[]⟩
def dutyS (m:Mk) (o:Obli):Bool:=(decide (o.on=1)&&decide (m=(2,0)))||(decide (o.on=2)&&decide (m=(0,2)))
def qap (l:List Obli) (m:Mk):List Obli:=l.filter (dutyS m)
def effM (r:Rul):Mk:=if r.deny then(0,2)else(2,0)
def effectS (r:Rul) (t c:Int):Rs:=
 if t=0\/(t=2/\c=0)then⟨(0,0),[]⟩else if t=1\/c=1 then⟨indetM (effM r),[]⟩else⟨effM r,qap r.obls (effM r)⟩
def ruleR (g:List Giv) (r:Rul):Rs:=effectS r (metT r.target g) (condS r.cond g)
def qaC (alg:Int) (m:Mk):List Rs->List Obli
 |[]=>[]
 |x::r=>if x.m=m then(if alg=3 then x.obls else x.obls++qaC alg m r)else qaC alg m r
def joinR (p:Pol) (t:Int) (parts:List Rs):Rs:=
 if t=0 then⟨(0,0),[]⟩else if t=1 then⟨indetM (allM p.alg (parts.map Rs.m)),[]⟩
 else if allM p.alg (parts.map Rs.m)≠(2,0)/\allM p.alg (parts.map Rs.m)≠(0,2)then⟨allM p.alg (parts.map Rs.m),[]⟩
 else⟨allM p.alg (parts.map Rs.m),qaC p.alg (allM p.alg (parts.map Rs.m)) parts++qap p.obls (allM p.alg (parts.map Rs.m))⟩
def qX (g:List Giv):Nat->Pol->Rs
 |0,_=>noRs
 |n+1,p=>if metT p.target g=0 then noRs else joinR p (metT p.target g) (p.rules.map (ruleR g)++p.kids.map (qX g n))
def jp (p:Pol) (g:List Giv):Rs×Int:=if zW p=0 then(qX g 4 p,0)else(noRs,1)
theorem effM_mem (r:Rul):effM r∈mks:=by unfold effM mks;split<;>simp
theorem effectS_mem (r:Rul) (t c:Int):(effectS r t c).m∈mks:=by
 unfold effectS
 repeat' split
 · simp[mks]
 · exact indetM_mem (effM_mem r)
 · exact effM_mem r
theorem joinR_mem {p:Pol} {t:Int} {l:List Rs} (h:∀x∈l,x.m∈mks):(joinR p t l).m∈mks:=by
 have h0:allM p.alg (l.map Rs.m)∈mks:=allM_mem fun m hm=>by
  obtain⟨x,hx,rfl⟩:=Y1.1 hm;exact h x hx
 unfold joinR
 repeat' split
 · simp[mks]
 · exact indetM_mem h0
 · exact h0
 · exact h0
theorem qak (g:List Giv):∀(n:Nat) (p:Pol),(qX g n p).m∈mks
 |0,_=>by simp[qX,noRs,mks]
 |n+1,p=>by
  rw[qX];split
  · simp[noRs,mks]
  · refine joinR_mem fun x hx=>?_
    rcases YL.1 hx with hx|hx
    · obtain⟨r,_,rfl⟩:=Y1.1 hx;exact effectS_mem _ _ _
    · obtain⟨k,_,rfl⟩:=Y1.1 hx;exact qak g n k
def Rs.ok (x:Rs):Prop:=x.m∈mks/\(x.m≠(2,0)->x.m≠(0,2)->x.obls=[])
def hb:Nat->Nat
 |0=>0
 |1=>4602678819172646912
 |_=>4607182418800017408
def mkP (m:Mk):PV:=.v (.complex .f64 (hb m.1) (hb m.2))
def pF (a:Nat):PV:=.v (.float .f64 (hb a))
def mkE (a b:Mk):Bool:=FloatKind.f64.format.order (hb a.1) (hb b.1)==some .eq&&FloatKind.f64.format.order (hb a.2) (hb b.2)==some .eq
theorem hb_eq {a b:Nat} (ha:a<=2) (hb':b<=2):(FloatKind.f64.format.order (hb a) (hb b)==some .eq)=decide (a=b):=by
 have h1:a=0\/a=1\/a=2:=by omega
 have h2:b=0\/b=1\/b=2:=by omega
 rcases h1 with rfl|rfl|rfl<;>rcases h2 with rfl|rfl|rfl<;>decide +kernel
theorem mks_le {m:Mk} (h:m∈mks):m.1<=2/\m.2<=2:=by
 unfold mks at h;simp only[Y0,Xn,or_false]at h;rcases h with rfl|rfl|rfl|rfl|rfl|rfl<;>exact⟨by decide,by decide⟩
theorem zt {a b:Mk} (ha:a∈mks) (hb':b∈mks):mkE a b=decide (a=b):=by
 obtain⟨h1,h2⟩:=mks_le ha;obtain⟨h3,h4⟩:=mks_le hb';unfold mkE;rw[hb_eq h1 h3,hb_eq h2 h4];obtain⟨a1,a2⟩:=a;obtain⟨b1,b2⟩:=b;rw[YO];simp
def mkN (m:Mk):DT:=
 if m=(0,0)then⟨#[78,111,116,65,112,112,108,105,99,97,98,108,101]⟩
 else if m=(2,0)then⟨#[80,101,114,109,105,116]⟩
 else if m=(0,2)then⟨#[68,101,110,121]⟩
 else if m=(1,0)then⟨#[73,110,100,101,116,101,114,109,105,110,97,116,101,123,80,125]⟩
 else if m=(0,1)then⟨#[73,110,100,101,116,101,114,109,105,110,97,116,101,123,68,125]⟩
 else⟨#[73,110,100,101,116,101,114,109,105,110,97,116,101,123,68,80,125]⟩
theorem mkName_h (m:Mk) (hm:m∈mks):Holds prog 41 [mkP m] (.p (pS (mkN m))) []:=by
 refine qo (ts:=[2]) func41 DG rfl rfl rfl ?_;refine K2 ?_;refine uC (fun h0=>?_) (fun h0=>?_)
 · have e:m=(0,0):=YM ((zt hm DH).symm.trans h0);subst e;exact KI
 replace h0:m≠(0,0):=of_decide_eq_false ((zt hm DH).symm.trans h0)
 refine uA ?_;refine uC (fun h1=>?_) (fun h1=>?_)
 · have e:m=(2,0):=YM ((zt hm DH).symm.trans h1);subst e;exact KI
 replace h1:m≠(2,0):=of_decide_eq_false ((zt hm DH).symm.trans h1)
 refine uA ?_;refine uC (fun h2=>?_) (fun h2=>?_)
 · have e:m=(0,2):=YM ((zt hm DH).symm.trans h2);subst e;exact KI
 replace h2:m≠(0,2):=of_decide_eq_false ((zt hm DH).symm.trans h2)
 refine uA ?_;refine uC (fun h3=>?_) (fun h3=>?_)
 · have e:m=(1,0):=YM ((zt hm DH).symm.trans h3);subst e;exact KI
 replace h3:m≠(1,0):=of_decide_eq_false ((zt hm DH).symm.trans h3)
 refine uA ?_;refine uC (fun h4=>?_) (fun h4=>?_)
 · have e:m=(0,1):=YM ((zt hm DH).symm.trans h4);subst e;exact KI
 replace h4:m≠(0,1):=of_decide_eq_false ((zt hm DH).symm.trans h4)
 refine uA ?_;refine uC (fun h5=>?_) (fun h5=>?_)
 · have e:m=(1,1):=YM ((zt hm DH).symm.trans h5);subst e;exact KI
 replace h5:m≠(1,1):=of_decide_eq_false ((zt hm DH).symm.trans h5)
 exfalso;simp only[mks,Y0,Xn,or_false]at hm;rcases hm with h|h|h|h|h|h<;>first|exact h0 h|exact h1 h|exact h2 h|exact h3 h|exact h4 h|exact h5 h
theorem mkRight_h (m:Mk) (hm:m∈mks):Holds prog 220 [mkP m] (.p (pB true)) []:=by
 have HN:=mkName_h m hm;have e:((mkN m).toList==(⟨#[]⟩:DT).toList)=false:=by
  rw[ByteArray.toList_eq,ByteArray.toList_eq];unfold mkN
  repeat' split
  all_goals decide
 refine qo (ts:=[2]) func220 DG rfl rfl rfl ?_;refine Kq ?_;refine uK HN ?_;rw[e];exact Lo
theorem mkIndet_h (m:Mk) (hm:m∈mks):Holds prog 162 [mkP m] (.p (mkP (indetM m))) []:=by
 refine qo (ts:=[2]) func162 DG rfl rfl rfl ?_;refine K2 ?_;refine uC (fun h0=>?_) (fun h0=>?_)
 · have e:m=(2,0):=YM ((zt hm DH).symm.trans h0);subst e;exact KI
 replace h0:m≠(2,0):=of_decide_eq_false ((zt hm DH).symm.trans h0)
 refine uA ?_;refine uC (fun h1=>?_) (fun h1=>?_)
 · have e:m=(0,2):=YM ((zt hm DH).symm.trans h1);subst e;exact KI
 replace h1:m≠(0,2):=of_decide_eq_false ((zt hm DH).symm.trans h1)
 refine KA ?_;rw[show indetM m=m by unfold indetM;rw[Yc h0,Yc h1]];exact Vf
theorem applies_h (m:Mk) (hm:m∈mks):Holds prog 270 [mkP m] (.p (pB (decide (m≠(0,0))))) []:=by
 have e:decide (m≠(0,0))=!(mkE m (0,0)):=by rw[zt hm DH];simp
 rw[e];refine qo (ts:=[2]) func270 DG rfl rfl rfl ?_;refine uA ?_;exact KI
theorem sure_h (m:Mk) (hm:m∈mks):Holds prog 271 [mkP m] (.p (pB (sureM m))) []:=by
 have e:sureM m=(bif (bif mkE m (0,0)then true else mkE m (2,0))then true else mkE m (0,2)):=by
  rw[zt hm DH,zt hm DH,zt hm DH];unfold sureM;cases decide (m=(0,0))<;>cases decide (m=(2,0))<;>rfl
 rw[e];refine qo (ts:=[2]) func271 DG rfl rfl rfl ?_;refine uA ?_;refine KB ?_;refine uQ ?_;exact Vf
theorem step4_h (j m:Mk) (hj:j∈mks) (hm:m∈mks):Holds prog 272 [pI 4,mkP j,mkP m] (.p (mkP (stepJ j m))) []:=by
 refine qo (ts:=[6]) func272 DG rfl rfl rfl ?_;refine K2 ?_;refine uC (fun hc=>?_) (fun hc=>?_)
 · cases hc
 refine uA ?_;refine uC (fun hc=>?_) (fun hc=>?_)
 · cases hc
 refine uA ?_;refine uC (fun hc=>?_) (fun hc=>?_)
 · cases hc
 refine uA ?_;refine uC (fun hc=>?_) (fun hc=>?_)
 · cases hc
 refine uA ?_;refine uC (fun hc=>?_) (fun hc=>?_)
 · cases hc
 refine uA ?_;refine uC (fun hc=>?_) (fun hc=>?_);rotate_left
 · cases hc
 refine Kz ?_;refine uC (fun h0=>?_) (fun h0=>?_)
 · have e:j=(0,0):=YM ((zt hj DH).symm.trans h0);subst e;exact KI
 replace h0:j≠(0,0):=of_decide_eq_false ((zt hj DH).symm.trans h0)
 refine uA ?_;refine uC (fun hq=>?_) (fun hq=>?_)
 · have e:m≠(0,0):=fun e=>by
    have h2:mkE m (0,0)=true:=(zt hm DH).trans (Yz e);have h3:(!(mkE m (0,0)))=true:=hq;rw[h2]at h3;cases h3
   refine Kp ?_;rw[show stepJ j m=(1,1)by unfold stepJ;rw[Yc h0,Yi e]];exact Vf
 · have e:m=(0,0):=Xa fun e=>by
    have h2:mkE m (0,0)=false:=(zt hm DH).trans (YB e);have h3:(!(mkE m (0,0)))=false:=hq;rw[h2]at h3;cases h3
   refine KA ?_;rw[show stepJ j m=j by unfold stepJ;rw[Yc h0,Yc (fun h=>h e)]];exact Vf
theorem parts_h (m:Mk):Holds prog 267 [mkP m] (.tup [.p (pF m.1),.p (pF m.2)]) []:=by
 refine qo (ts:=[2,3]) func267 DG rfl rfl rfl ?_;refine Kr ?_;exact KI
theorem of_h (a b:Nat):Holds prog 268 [pF a,pF b] (.p (mkP (a,b))) []:=by
 refine qo (ts:=[4]) func268 DG rfl rfl rfl ?_;refine uA ?_;exact KI
theorem mkTurn_h (a b:Nat) (ha:a<=2) (hb':b<=2):Holds prog 223 [mkP (a,b)] (.p (mkP (b,a))) []:=by
 have HP:=parts_h (a,b);have HO:=of_h b a;refine qo (ts:=[2]) func223 DG rfl rfl rfl ?_;refine Kq ?_;refine uK HP ?_;refine Kt ?_;refine uK HO ?_;exact Lo
theorem mkOver_h (a b:Nat) (ha:a<=2) (hb':b<=2):Holds prog 222 [mkP (a,b)] (.p (mkP (overM (a,b)))) []:=by
 have HP:=parts_h (a,b);have h1:a=0\/a=1\/a=2:=by omega
 have h2:b=0\/b=1\/b=2:=by omega
 refine qo (ts:=[2]) func222 DG rfl rfl rfl ?_;refine Kq ?_;refine uK HP ?_;refine Lx ?_;rcases h1 with rfl|rfl|rfl<;>rcases h2 with rfl|rfl|rfl
 all_goals(repeat first|(refine uQ ?_;exact uF [])|refine uA ?_|(refine uC (fun hc=>?_) (fun hc=>?_);first|exact absurd hc Do|(rotate_left;exact absurd hc Do))|refine qh ?_)
theorem mkJoin_h (j m:Mk) (hj:j.1<=2/\j.2<=2) (hm:m∈mks):Holds prog 221 [mkP j,mkP m] (.p (mkP (qaw j m))) []:=by
 obtain⟨a,b⟩:=j;obtain⟨c,d⟩:=m;obtain⟨h1,h2⟩:=hj;obtain⟨h3,h4⟩:=mks_le hm;have HP:=parts_h (a,b);have HQ:=parts_h (c,d);have HO:=of_h (max a c) (max b d);refine qo (ts:=[4]) func221 DG rfl rfl rfl ?_;refine Kq ?_;refine uK HP ?_;refine Kt ?_;refine uK HQ ?_;refine Ko ?_;have e1:a=0\/a=1\/a=2:=by omega
 have e2:b=0\/b=1\/b=2:=by omega
 have e3:c=0\/c=1\/c=2:=by omega
 have e4:d=0\/d=1\/d=2:=by omega
 clear h1 h2 h3 h4 hm
 rcases e1 with rfl|rfl|rfl<;>rcases e3 with rfl|rfl|rfl<;>rcases e2 with rfl|rfl|rfl<;>rcases e4 with rfl|rfl|rfl
 all_goals
  refine uR ?_;refine uK HO ?_;exact Lv
theorem joinM_le {a b:Mk} (ha:a.1<=2/\a.2<=2) (hb':b.1<=2/\b.2<=2):(qaw a b).1<=2/\(qaw a b).2<=2:=by
 unfold qaw;simp only;omega
def marksP (l:List Mk):PV:=.sl 1 (l.map fun m=>[mkP m])
theorem indexMk_h (l:List Mk) (hn:l.length<=1000000) (f:FuncId) (caps:List PV) (p:Mk->Bool) (hF:∀m∈l,Holds prog f ([mkP m]++caps) (.p (pB (p m))) []):
 Holds prog 269 [marksP l,.fn f caps] (.p (pI (if l.findIdx p<l.length then(l.findIdx p:Int)else-1))) []:=by
 refine qo (ts:=[4]) func269 DG rfl rfl rfl ?_;refine KH ?_;refine GS ?_;refine qG (fun n s=>∃(k:Nat) (kk:Int),k<=l.length/\n=l.length-k/\kk=k/\(∀g∈l.take k,p g=false)/\s=⟨19,[(0,.p (marksP l)),(1,.p (.fn f caps)),(7,.p (pI (l.map fun m=>[mkP m]).length)),(8,.p (pI kk))],[]⟩) l.length ⟨0,0,Yl _,rfl,rfl,by simp,rfl⟩ ?_;rintro n s ⟨k,_,hk,rfl,rfl,ha,rfl⟩;refine uA ?_;refine uC (fun hlt=>?_) (fun hlt=>?_)
 · refine qh ?_;simp only[Yb,Yf]at hlt;have hlt':k<l.length:=by omega
   refine uB ?_;refine Kq ?_;refine Lp ?_;refine uS ?_;refine uK (hF l[k] (Yn hlt')) ?_;refine qe ?_;refine uC (fun hp=>?_) (fun hp=>?_)
   · refine KC ?_;have e:l.findIdx p=k:=(Xx hlt').2 ⟨hp,fun j hj=>ha _ (List.mem_take_iff_getElem.2 ⟨j,by omega,rfl⟩)⟩;rw[e,Yi hlt']
   · refine Kw ?_;refine⟨_,_,?_,qj [0,1,7,8] [] rfl rfl,k+1,_,hlt',rfl,qq hlt' DP,?_,rfl⟩
     · omega
     · intro g hg;rw[Ym hlt',YL,YA]at hg;rcases hg with hg|rfl
       · exact ha g hg
       · exact hp
 · refine qC ?_;simp only[Yb,Yh]at hlt;have hkk:k=l.length:=by omega
   subst hkk;refine KC ?_;rw[Yu]at ha;rw[Yc];have:=Xg ha;omega
theorem indexEq_h (l:List Mk) (hn:l.length<=1000000) (hl:∀m∈l,m∈mks) (v:Mk) (hv:v∈mks):
 Holds prog 301 [marksP l,mkP v] (.p (pI (if l.findIdx (fun m=>decide (v=m))<l.length then(l.findIdx (fun m=>decide (v=m)):Int)else-1))) []:=by
 refine qo (ts:=[4]) func301 DG rfl rfl rfl ?_;refine KH ?_;refine GS ?_;refine qG (fun n s=>∃(k:Nat) (kk:Int),k<=l.length/\n=l.length-k/\kk=k/\(∀g∈l.take k,decide (v=g)=false)/\s=⟨19,[(0,.p (marksP l)),(1,.p (mkP v)),(7,.p (pI (l.map fun m=>[mkP m]).length)),(8,.p (pI kk))],[]⟩) l.length ⟨0,0,Yl _,rfl,rfl,by simp,rfl⟩ ?_;rintro n s ⟨k,_,hk,rfl,rfl,ha,rfl⟩;refine uA ?_;refine uC (fun hlt=>?_) (fun hlt=>?_)
 · refine qh ?_;simp only[Yb,Yf]at hlt;have hlt':k<l.length:=by omega
   refine uB ?_;refine Kq ?_;refine Lp ?_;refine Ko ?_;refine uC (fun hp=>?_) (fun hp=>?_)
   · refine KC ?_;change mkE v l[k]=true at hp;rw[zt hv (hl _ (Yn hlt'))]at hp;have e:l.findIdx (fun m=>decide (v=m))=k:=(Xx hlt').2 ⟨hp,fun j hj=>ha _ (List.mem_take_iff_getElem.2 ⟨j,by omega,rfl⟩)⟩;rw[e,Yi hlt']
   · change mkE v l[k]=false at hp;rw[zt hv (hl _ (Yn hlt'))]at hp;refine Kw ?_;refine⟨_,_,?_,qj [0,1,7,8] [] rfl rfl,k+1,_,hlt',rfl,qq hlt' DP,?_,rfl⟩
     · omega
     · intro g hg;rw[Ym hlt',YL,YA]at hg;rcases hg with hg|rfl
       · exact ha g hg
       · exact hp
 · refine qC ?_;simp only[Yb,Yh]at hlt;have hkk:k=l.length:=by omega
   subst hkk;refine KC ?_;rw[Yu]at ha;rw[Yc];have:=Xg ha;omega
theorem contMk_h (l:List Mk) (hn:l.length<=1000000) (hl:∀m∈l,m∈mks) (v:Mk) (hv:v∈mks):
 Holds prog 273 [marksP l,mkP v] (.p (pB (decide (v∈l)))) []:=by
 refine qo (ts:=[4]) func273 DG rfl rfl rfl ?_;refine Kq ?_;refine uK (indexEq_h l hn hl v hv) ?_;refine KD ?_;refine VI ?_;by_cases h:v∈l
 · have:l.findIdx (fun m=>decide (v=m))<l.length:=List.findIdx_lt_length_of_exists ⟨v,h,by simp⟩
   rw[Yi this];simp[h]
 · have:l.findIdx (fun m=>decide (v=m))=l.length:=Xg fun x hx=>by
    simp only[Yh];exact fun e=>h (e▸hx)
   rw[Yc DP];simp[h]
theorem unless_h (l:List Mk) (hn:l.length<=1000000) (hl:∀m∈l,m∈mks) (m o:Mk) (ho:o∈mks):Holds prog 226 [marksP l,mkP m,mkP o] (.p (mkP (qaL l m o))) []:=by
 unfold qaL;refine qo (ts:=[6]) func226 DG rfl rfl rfl ?_;refine Kq ?_;refine uK (contMk_h l hn hl o ho) ?_;refine qe ?_;refine uC (fun hc=>?_) (fun hc=>?_)
 · refine Kp ?_;rw[Yi (YM hc)];exact Vf
 · refine KA ?_;rw[Yc (of_decide_eq_false hc)];exact Vf
theorem firstM_idx:∀{l:List Mk} {k:Nat} (h:k<l.length),l.findIdx (fun m=>decide (m≠(0,0)))=k->wK l=l[k]
 |m::l,k,h,e=>by
  rw[List.findIdx_cons]at e;rw[wK];by_cases hm:m=(0,0)
  · rw[Yi hm];rw[show decide (m≠(0,0))=false by simp[hm],cond_false]at e;obtain⟨j,rfl⟩:∃j,k=j+1:=⟨k-1,by omega⟩;rw[List.getElem_cons_succ];exact firstM_idx DA DP
  · rw[Yc hm];rw[show decide (m≠(0,0))=true by simp[hm],cond_true]at e;subst e;rfl
theorem firstM_none:∀{l:List Mk},(∀m∈l,m=(0,0))->wK l=(0,0)
 |[],_=>rfl
 |m::l,h=>by rw[wK,Yi (h m DQ)];exact firstM_none fun x hx=>h x (Y3 _ hx)
theorem first_h (l:List Mk) (hn:l.length<=1000000) (hl:∀m∈l,m∈mks):Holds prog 224 [marksP l] (.p (mkP (wK l))) []:=by
 refine qo (ts:=[2]) func224 DG rfl rfl rfl ?_;refine Kq ?_;refine uK (indexMk_h l hn _ _ (fun m=>decide (m≠(0,0))) (fun m hm=>applies_h m (hl m hm))) ?_;refine qe ?_;by_cases hf:l.findIdx (fun m=>decide (m≠(0,0)))<l.length
 · obtain⟨k,hk,e1,e⟩:∃k,∃h:k<l.length,l.findIdx (fun m=>decide (m≠(0,0)))=k/\wK l=l[k]:=⟨_,hf,rfl,firstM_idx hf rfl⟩;rw[Yi hf,e1,e];clear e1 hf
   refine uA ?_;refine uC (fun hc=>?_) (fun hc=>?_)
   · refine uR ?_;refine Vc ?_;rw[qw hk];exact Lo
   · exfalso;simp at hc
 · have e:wK l=(0,0):=firstM_none fun m hm=>Xa fun hne=>hf (List.findIdx_lt_length_of_exists ⟨m,hm,by simp[hne]⟩)
   rw[Yc hf,e];refine uA ?_;refine uC (fun hc=>?_) (fun hc=>?_)
   · cases hc
   · refine KA ?_;exact Vf
theorem stepJ_mem {j m:Mk} (hj:j∈mks) (hm:m∈mks):stepJ j m∈mks:=by
 unfold stepJ
 repeat' split
 · exact hm
 · simp[mks]
 · exact hj
theorem only_h (l:List Mk) (hn:l.length<=1000000) (hl:∀m∈l,m∈mks):Holds prog 225 [marksP l] (.p (mkP (onlyM (0,0) l))) []:=by
 refine qo (ts:=[2]) func225 DG rfl rfl rfl ?_;refine Lr ?_;refine uZ [3,6,7,8] [] ?_;refine qG (fun n s=>∃(k:Nat) (kk:Int) (j:Mk),k<=l.length/\n=l.length-k/\kk=k/\j∈mks/\onlyM (0,0) l=onlyM j (l.drop k)/\s=⟨20,[(3,.p (mkP j)),(6,.p (marksP l)),(7,.p (pI (l.map fun m=>[mkP m]).length)),(8,.p (pI kk))],[]⟩) l.length ⟨0,0,(0,0),Yl _,rfl,rfl,by simp[mks],rfl,rfl⟩ ?_;rintro n s ⟨k,_,j,hk,rfl,rfl,hj,ha,rfl⟩;refine uA ?_;refine uC (fun hlt=>?_) (fun hlt=>?_)
 · refine qh ?_;simp only[Yb,Yf]at hlt;have hlt':k<l.length:=by omega
   have hm:=hl _ (Yn hlt');rw[Xf hlt',onlyM]at ha;refine Kx ?_;refine Lp ?_;refine Kt ?_;refine uK (sure_h l[k] hm) ?_;refine qe ?_;cases hs:sureM l[k]with
   |false=>
    rw[hs,Yc DQ]at ha;refine uC (fun hc=>?_) (fun hc=>?_)
    · refine Kp ?_;rw[ha];exact Vf
    · cases hc
   |true=>
    rw[hs,Yi rfl]at ha;refine uC (fun hc=>?_) (fun hc=>?_)
    · cases hc
    refine Kv ?_;refine uK (step4_h j l[k] hj hm) ?_;refine KF ?_;refine⟨_,_,?_,qj [3,6,7,8] [] rfl rfl,k+1,_,stepJ j l[k],hlt',rfl,qq hlt' DP,stepJ_mem hj hm,ha,rfl⟩;omega
 · refine qC ?_;simp only[Yb,Yh]at hlt;have hkk:k=l.length:=by omega
   subst hkk;rw[List.drop_length]at ha;rw[ha];exact KI
theorem joinL_take {l:List Mk} {k:Nat} (h:k<l.length):qaw (joinL (l.take k)) l[k]=joinL (l.take (k+1)):=by
 unfold joinL;rw[Ym h,List.foldl_append];rfl
theorem combAll_h (alg:Int) (l:List Mk) (hn:l.length<=1000000) (hl:∀m∈l,m∈mks):Holds prog 161 [pI alg,marksP l] (.tup [.p (mkP (allM alg l)),.p (pI (if 1<=alg/\alg<=6 then 0 else 1))]) []:=by
 refine qo (ts:=[4,5]) func161 DG rfl rfl rfl ?_;refine Lr ?_;refine uZ [0,1,6,9,10,11] [] ?_;refine qG (fun m s=>∃(k:Nat) (kk:Int) (j:Mk),k<=l.length/\m=l.length-k/\kk=k/\j=joinL (l.take k)/\(j.1<=2/\j.2<=2)/\s=⟨49,[(0,.p (pI alg)),(1,.p (marksP l)),(6,.p (mkP j)),(9,.p (marksP l)),(10,.p (pI (l.map fun m=>[mkP m]).length)),(11,.p (pI kk))],[]⟩) l.length ⟨0,0,(0,0),Yl _,rfl,rfl,rfl,⟨by decide,by decide⟩,rfl⟩ ?_;rintro m s ⟨k,_,j,hk,rfl,rfl,hj,hj2,rfl⟩;refine uA ?_;refine uC (fun hlt=>?_) (fun hlt=>?_)
 · refine qh ?_;simp only[Yb,Yf]at hlt;have hlt':k<l.length:=by omega
   have hm:=hl _ (Yn hlt');refine Kx ?_;refine Lp ?_;refine Kt ?_;refine uK (mkRight_h l[k] hm) ?_;refine qe ?_;refine uC (fun hc=>?_) (fun hc=>?_)
   · cases hc
   refine Kv ?_;refine uK (mkJoin_h j l[k] hj2 hm) ?_;refine KF ?_;refine⟨_,_,?_,qj [0,1,6,9,10,11] [] rfl rfl,k+1,_,qaw j l[k],hlt',rfl,qq hlt' DP,?_,joinM_le hj2 (mks_le hm),rfl⟩
   · omega
   · rw[hj];exact joinL_take hlt'
 · refine qC ?_;simp only[Yb,Yh]at hlt;have hkk:k=l.length:=by omega
   subst hkk;rw[Yu]at hj;obtain⟨a,b⟩:=j;obtain⟨h1,h2⟩:=hj2;simp only at h1 h2;refine uA ?_;refine Kz ?_;refine uC (fun c1=>?_) (fun c1=>?_)
   · have e:alg=1:=by simpa using c1
     subst e;have e:allM 1 l=overM (a,b):=by rw[hj];rfl
     rw[e];refine uR ?_;refine uK (mkOver_h a b h1 h2) ?_;exact Lv
   have n1:¬alg=1:=by simpa using c1
   refine uA ?_;refine uC (fun c2=>?_) (fun c2=>?_)
   · have e:alg=2:=by simpa using c2
     subst e;have e:allM 2 l=turnM (overM (b,a)):=by
      show turnM (overM (turnM (joinL l)))=_;rw[<-hj];rfl
     rw[e];obtain⟨ho1,ho2⟩:=mks_le (overM_mem (b,a));have HO:=mkOver_h b a h2 h1;generalize overM (b,a)=o at*;obtain⟨x,y⟩:=o;refine uR ?_;refine uK (mkTurn_h a b h1 h2) ?_;refine uK HO ?_;refine uK (mkTurn_h x y ho1 ho2) ?_;exact Lv
   have n2:¬alg=2:=by simpa using c2
   refine uA ?_;refine uC (fun c3=>?_) (fun c3=>?_)
   · have e:alg=3:=by simpa using c3
     subst e;rw[show allM 3 l=wK l from rfl];refine uR ?_;refine uK (first_h l hn hl) ?_;exact Lv
   have n3:¬alg=3:=by simpa using c3
   refine uA ?_;refine uC (fun c4=>?_) (fun c4=>?_)
   · have e:alg=4:=by simpa using c4
     subst e;rw[show allM 4 l=onlyM (0,0) l from rfl];refine uR ?_;refine uK (only_h l hn hl) ?_;exact Lv
   have n4:¬alg=4:=by simpa using c4
   refine uA ?_;refine uC (fun c5=>?_) (fun c5=>?_)
   · have e:alg=5:=by simpa using c5
     subst e;rw[show allM 5 l=qaL l (0,2) (2,0)from rfl];refine uR ?_;refine uK (unless_h l hn hl (0,2) (2,0) DH) ?_;exact Lv
   have n5:¬alg=5:=by simpa using c5
   refine uA ?_;refine uC (fun c6=>?_) (fun c6=>?_)
   · have e:alg=6:=by simpa using c6
     subst e;rw[show allM 6 l=qaL l (2,0) (0,2)from rfl];refine uR ?_;refine uK (unless_h l hn hl (2,0) (0,2) DH) ?_;exact Lv
   · have n6:¬alg=6:=by simpa using c6
     have e:allM alg l=(0,0):=by unfold allM;rw[Yc n1,Yc n2,Yc n3,Yc n4,Yc n5,Yc n6]
     rw[e,Yc DP];refine KA ?_;exact Vf
theorem beq_bytes (a b:DT):(a.toList==b.toList)=decide (a=b):=by
 rw[YO];exact LS
theorem cloneV_h (l:List Val) (hn:l.length<=1000000):Holds prog 296 [valsP l] (.row 0) [(0,.row 44 3 (l.map Val.pv))]:=by
 refine qo (ts:=[2]) func296 DG rfl rfl rfl ?_;refine Kq ?_;refine qy rfl (zP qc rfl rfl rfl rfl rfl rfl (fun b hb=>?_));refine qe ?_;refine uC (fun hc=>?_) (fun hc=>?_)
 · have hl:=hb hc;have hl':l=[]:=by simpa using hl
   subst hl';refine Kp ?_;exact⟨Or.inr rfl,_,_,[(0,0)],zw 2 0 44 3 rfl rfl,rfl,rfl,rfl,rfl⟩
 · exact LE
theorem place1_h (cat:Int) (name:DT) (g:Giv):Holds prog 311 [.agg g.pv,.rp [pI cat],.rp [pS name]] (.p (pB (isG cat name g))) []:=by
 refine qo (ts:=[4]) func311 DG rfl rfl rfl ?_;refine uA ?_;refine KB ?_;refine Lg ?_;unfold isG;rw[beq_bytes];cases h:decide (g.cat=cat)<;>simp_all
theorem index_h (l:List Giv) (hn:l.length<=1000000) (f:FuncId) (caps:List PV) (p:Giv->Bool) (hF:∀g,Holds prog f ([.agg g.pv]++caps) (.p (pB (p g))) []):
 Holds prog 310 [js l,.fn f caps] (.p (pI (if l.findIdx p<l.length then(l.findIdx p:Int)else-1))) []:=by
 refine qo (ts:=[4]) func310 DG rfl rfl rfl ?_;refine KH ?_;refine GS ?_;refine qG (fun n s=>∃(k:Nat) (kk:Int),k<=l.length/\n=l.length-k/\kk=k/\(∀g∈l.take k,p g=false)/\s=⟨19,[(0,.p (js l)),(1,.p (.fn f caps)),(7,.p (pI (l.map Giv.pv).length)),(8,.p (pI kk))],[]⟩) l.length ⟨0,0,Yl _,rfl,rfl,by simp,rfl⟩ ?_;rintro n s ⟨k,_,hk,rfl,rfl,ha,rfl⟩;refine uA ?_;refine uC (fun hlt=>?_) (fun hlt=>?_)
 · refine qh ?_;simp only[Yb,Yf]at hlt;have hlt':k<l.length:=by omega
   refine uB ?_;refine Kq ?_;refine Lp ?_;refine Eh ?_;refine qe ?_;refine uC (fun hp=>?_) (fun hp=>?_)
   · refine KC ?_;have e:l.findIdx p=k:=(Xx hlt').2 ⟨hp,fun j hj=>ha _ (List.mem_take_iff_getElem.2 ⟨j,by omega,rfl⟩)⟩;rw[e,Yi hlt']
   · refine Kw ?_;refine⟨_,_,?_,qj [0,1,7,8] [] rfl rfl,k+1,_,hlt',rfl,qq hlt' DP,?_,rfl⟩
     · omega
     · intro g hg;rw[Ym hlt',YL,YA]at hg;rcases hg with hg|rfl
       · exact ha g hg
       · exact hp
 · refine qC ?_;simp only[Yb,Yh]at hlt;have hkk:k=l.length:=by omega
   subst hkk;refine KC ?_;rw[Yu]at ha;rw[Yc];have:=Xg ha;omega
theorem place_h (cat:Int) (name:DT) (l:List Giv) (hn:l.length<=1000000):Holds prog 295 [js l,pI cat,pS name] (.p (pI (placeS cat name l))) []:=by
 refine qo (ts:=[6]) func295 DG rfl rfl rfl ?_;refine Kq ?_;refine uK (index_h l hn _ _ (isG cat name) (fun g=>place1_h cat name g)) ?_;refine KD ?_;exact V9
theorem get_h (a:Atr) (l:List Giv) (hn:l.length<=1000000) (hb:∀g∈l,g.bag.length<=1000000):Holds prog 263 [js l,.agg a.pv] (.tup [.p (valsP (getS a l).1),.p (pI (getS a l).2)]) []:=by
 refine qo (ts:=[4,5]) func263 DG rfl rfl rfl ?_;refine uA ?_;refine Kq ?_;refine uK (place_h a.cat a.name l hn) ?_;refine qe ?_;rcases place_cases a.cat a.name l with⟨hp,hbag,_⟩|⟨k,hk,hp,hbag,_,_⟩
 · rw[hp];refine uA ?_;refine uC (fun hc=>?_) (fun hc=>?_)
   · simp at hc
   · refine Kw ?_;refine uC (fun hm=>?_) (fun hm=>?_)
     · replace hm:a.must=true:=hm
       have e:getS a l=([],4):=by simp[getS,hbag,hm]
       rw[e];refine Kp ?_;exact G7
     · replace hm:a.must=false:=hm
       have e:getS a l=([],0):=by simp[getS,hbag,hm]
       rw[e];refine KA ?_;exact G7
 · rw[hp];refine uA ?_;refine uC (fun hc=>?_) (fun hc=>?_)
   · refine uR ?_;refine Vc ?_;rw[qw hk];refine uS ?_;refine uO ((cloneV_h l[k].bag (hb _ (Yn hk))).row_sl) ?_;refine qe ?_;generalize l[k].bag=b at*;cases b with
     |nil=>
      refine uA ?_;refine uC (fun hm=>?_) (fun hm=>?_)
      · replace hm:a.must=true:=hm
        have e:getS a l=([],4):=by simp[getS,hbag,hm]
        rw[e];refine Kp ?_;exact G7
      · replace hm:a.must=false:=hm
        have e:getS a l=([],0):=by simp[getS,hbag,hm]
        rw[e];refine KA ?_;exact Vf
     |cons v r=>
      have e:getS a l=(v::r,0):=by simp[getS,hbag]
      rw[e];refine uR ?_;rw[show((((v::r).map Val.pv).length:Int)==0)=false by simp;omega];refine Ko ?_;refine uC (fun hm=>?_) (fun hm=>?_)
      · cases hm
      · refine KA ?_;exact Vf
   · exfalso;simp at hc
theorem texts_h (k:Int):Holds prog 235 [pI k] (.p (pB (textsS k))) []:=by
 refine qo (ts:=[2]) func235 DG rfl rfl rfl ?_;refine uA ?_;refine KB ?_;refine Lg ?_;unfold textsS;rw[YO];simp
theorem less_h (a b:Val) (ha:a.s.size<=reachBytes) (hb:b.s.size<=reachBytes):Holds prog 297 [.agg a.pv,.agg b.pv] (.tup [.p (pB (lessS a b).1),.p (pI (lessS a b).2)]) []:=by
 unfold lessS;cases hra:a.right with
 |false=>
  refine MX ?_;refine uA ?_;refine Kx ?_;refine uK (wA a ha) ?_;rw[hra];refine Ko ?_;refine uC (fun hc=>?_) (fun hc=>?_)
  · exact KI
  · cases hc
 |true=>
  cases hrb:b.right with
  |false=>
   refine MX ?_;refine uA ?_;refine Kx ?_;refine uK (wA a ha) ?_;rw[hra];refine uS ?_;refine uK (wA b hb) ?_;rw[hrb];refine Ko ?_;refine uC (fun hc=>?_) (fun hc=>?_)
   · exact KI
   · cases hc
  |true=>
   refine MX ?_;refine uA ?_;refine Kx ?_;refine uK (wA a ha) ?_;rw[hra];refine uS ?_;refine uK (wA b hb) ?_;rw[hrb];refine Ko ?_;refine uC (fun hc=>?_) (fun hc=>?_)
   · cases hc
   simp only[Bool.not_true,Bool.or_self,YC,if_false];refine KB ?_;refine uC (fun hk=>?_) (fun hk=>?_)
   · rw[Yi (by revert hk;by_cases h:a.kind=b.kind<;>simp[h])];exact KI
   · rw[Yc (by revert hk;by_cases h:a.kind=b.kind<;>simp[h])];refine uR ?_;refine uK (texts_h a.kind) ?_;refine qe ?_;refine uC (fun ht=>?_) (fun ht=>?_)
     · rw[Yi ht];exact KI
     · rw[Yc (by rw[ht];simp)];refine KA ?_;exact Vf
end
section
open Go.RowKit
attribute [local go_sem] wY jA
attribute [local go_sem low] jz zZ
theorem texts_any (k:Int) (w:World):
 Calls prog 235 #[.int .i64 k] w fun e w'=>e=.returned (.bool (textsS k))/\w=w':=by
 go_enter func235,ntmps235
 go_upto_region 1 with(fail)
 refine GC ?_
 repeat(refine qU ?_;intro K hK;go_big_quiet_op;go_big_quiet_on)
 refine zX ?_;intro us;refine Vy ?_;go_wp2
 go_ret
 exact⟨wW (by rw[YO];simp[textsS]),rfl⟩
theorem less_any (k n:Int) (s:DT) (k' n':Int) (s':DT) (w:World) (hs:s.size<=reachBytes) (hs':s'.size<=reachBytes):
 Calls prog 297 #[.agg #[.int .i64 k,.int .i64 n,.string s],.agg #[.int .i64 k',.int .i64 n',.string s']] w
  fun e w'=>e=.returned (.tuple #[.bool (lessS ⟨k,n,s⟩ ⟨k',n',s'⟩).1,.int .i64 (lessS ⟨k,n,s⟩ ⟨k',n',s'⟩).2])/\Below w.heap.size w w':=by
 go_enter func297,ntmps297
 go_upto_region 1 with(fail)
 refine wp_spec_ext DG ?_
 repeat(refine qU ?_;intro K hK;go_big_quiet_op;go_big_quiet_on)
 refine qU ?_;intro K hK;go_big_quiet_op;refine⟨_,fun _=>qaV (right_any _ _ _ _ hs),?_⟩;go_big_quiet_on
 repeat(refine qU ?_;intro K hK;go_big_quiet_op;go_big_quiet_on)
 refine qU ?_;intro K hK;go_big_quiet_op;refine⟨_,fun _=>qaV (right_any _ _ _ _ hs'),?_⟩;go_big_quiet_on
 repeat(refine qU ?_;intro K hK;go_big_quiet_op;go_big_quiet_on)
 refine zX ?_;intro us w1 hB1;refine Vy ?_;obtain⟨hc1,hf1⟩:=wq hB1;have hz1:=hB1.size;try simp only[YY,YZ]at hc1 hf1 hz1
 go_upto_region 3 with(fail)
 · go_ret2
   refine⟨ret_bi ?_,Es⟩;go_light
   simp_all [lessS]
 · have h:(!{kind:=k,n:=n,s:=s:Val}.right)=false/\(!{kind:=k',n:=n',s:=s':Val}.right)=false:=by assumption
   have H:=hide h;clear h
   refine GC ?_
   repeat(refine qU ?_;intro K hK;go_big_quiet_op;go_big_quiet_on)
   refine zX ?_;intro us;refine Vy ?_;go_wp2_with (go_at_call 235;refine(texts_any _ _).mono ?_;rintro e w2 ⟨rfl,rfl⟩)
   all_goals
    go_ret2
    refine⟨ret_bi ?_,Es⟩;have h:=H.out;go_light
    simp_all [lessS,jx]
    try (intro h1;simp_all)
end
section
open Go.RowKit
attribute [local go_sem] wY jA
attribute [local go_sem low] jz zZ
theorem add_any (a b:Int) (w:World) (ha:R64 a) (hb:R64 b):
 Calls prog 316 #[.int .i64 a,.int .i64 b] w fun e w'=>e=.returned (.tuple #[.int .i64 (addS a b).1,.int .i64 (addS a b).2])/\w=w':=by
 obtain⟨ha,ha'⟩:=ha;obtain⟨hb,hb'⟩:=hb;go_enter func316,ntmps316
 go_wp2
 all_goals
  go_ret2
  refine⟨ret_ii ?_,rfl⟩;go_light
  unfold addS inI
  first|rw[Yi DE]|rw[Yc DE]
theorem sub_any (a b:Int) (w:World) (ha:R64 a) (hb:R64 b):
 Calls prog 317 #[.int .i64 a,.int .i64 b] w fun e w'=>e=.returned (.tuple #[.int .i64 (subS a b).1,.int .i64 (subS a b).2])/\w=w':=by
 obtain⟨ha,ha'⟩:=ha;obtain⟨hb,hb'⟩:=hb;go_enter func317,ntmps317
 go_wp2
 all_goals
  go_ret2
  refine⟨ret_ii ?_,rfl⟩;go_light
  unfold subS inI
  first|rw[Yi DE]|rw[Yc DE]
theorem mul_any (a b:Int) (w:World) (ha:R64 a) (hb:R64 b):
 Calls prog 318 #[.int .i64 a,.int .i64 b] w fun e w'=>e=.returned (.tuple #[.int .i64 (mulS a b).1,.int .i64 (mulS a b).2])/\w=w':=by
 obtain⟨ha,ha'⟩:=ha;obtain⟨hb,hb'⟩:=hb;by_cases h0:a=0
 · subst h0;go_enter func318,ntmps318
   go_wp2
   all_goals
    go_ret2
    refine⟨ret_ii ?_,rfl⟩;simp[mulS,inI]
 · have H:=hide (mul_over ha ha' hb hb' h0);go_enter func318,ntmps318
   go_upto_region 2 with(fail)
   refine GC ?_
   repeat(refine qU ?_;intro K hK;go_big_quiet_op;go_big_quiet_on)
   refine zX ?_;intro us;refine Vy ?_;go_wp2
   · go_ret2
     refine⟨ret_ii ?_,rfl⟩;go_light
     unfold mulS;rw[H.out.1 (by simp_all)];rfl
   · go_ret2
     refine⟨ret_ii ?_,rfl⟩;go_light
     have hin:inI (a*b)=true:=by
      cases hc:inI (a*b)with
      |true=>rfl
      |false=>
       exfalso;have:=H.out.2 hc;simp_all
       first|omega|(rcases this with h|h<;>simp_all)
     unfold mulS;rw[hin];simp only[inI,Yp,Yf]at hin;have:wrap64 (a*b)=a*b:=by unfold wrap64;omega
     rw[this];rfl
theorem truth_any (b:Bool) (w:World):
 Calls prog 314 #[.bool b] w fun e w'=>e=.returned (.agg #[.int .i64 1,.int .i64 (bitI b),.string ⟨#[]⟩])/\Below w.heap.size w w':=by
 cases b
 · go_enter func314,ntmps314
   go_wp2
   refine bodyPost_ret (v:=.agg #[.int .i64 1,.int .i64 0,.string ⟨#[]⟩]) (by simp[results,results314,go_sem,↓IntWalk.iteOmega]) rfl ?_;exact⟨rfl,Es⟩
 · go_enter func314,ntmps314
   go_wp2
   refine bodyPost_ret (v:=.agg #[.int .i64 1,.int .i64 1,.string ⟨#[]⟩]) (by simp[results,results314,go_sem,↓IntWalk.iteOmega]) rfl ?_;exact⟨rfl,Es⟩
theorem all_any (kind:Int) (l:List Val) (A:Option Addr) (c:Nat) (w:World) (hn:l.length<=reachBytes) (h:SlAt rVal 3 w A l):
 Calls prog 319 #[.int .i64 kind,.slice A l.length c] w fun e w'=>e=.returned (.bool (allS kind l))/\Below w.heap.size w w':=by
 unfold reachBytes at hn;go_enter func319,ntmps319
 go_wp2
 go_loopw [6,9] (fun _ i wr=>∃k:Nat,k<=l.length/\i=.int .i64 k/\Below w.heap.size w wr/\Hid (allS kind (l.take k)=true)) (fun _ i _=>l.length-(intOf i).toNat)
 case atStart=>exact⟨0,Yl _,rfl,Below.refl _ _,rfl⟩
 case round=>
  obtain⟨k,hk,rfl,hB,hall⟩:=hrel;by_cases hlt:k<l.length
  · obtain⟨b,o,rfl,hb,c0,c1,c2,hf⟩:=(h.keep zD hB).val hlt;have H:=hide h;clear h
    go_wp2
    · go_ret
      refine⟨wW (all_no hlt ?_).symm,Es⟩;go_light
      simp_all
    · go_roundw
      case rel=>
       refine⟨k+1,by omega,by go_num,Es,all_step hlt hall.out ?_⟩;go_light
       simp_all
      case measure=>simp[intOf];omega
  · obtain rfl:k=l.length:=by omega
    have e:=hall.out;rw[take_all]at e;have E:=hide e;clear e hall
    go_wp2
    go_ret
    exact⟨wW E.out.symm,Es⟩
theorem qbt (op:Int) (l:List Val) (A:Option Addr) (c:Nat) (w:World) (hn:l.length<=reachBytes) (h:SlAt rVal 3 w A l):
 Calls prog 313 #[.int .i64 op,.slice A l.length c] w fun e w'=>e=.returned (.bool (mayS op l))/\Below w.heap.size w w':=by
 unfold reachBytes at hn;have H:=hide h;clear h
 rcases Bool.eq_false_or_eq_true (op==11)with h11|h11
 all_goals
  have g:mayS op l=(decide (6<=op)&&decide (op<=13)&&decide ((l.length:Int)=if op==11 then 1 else 2)&&l.all Val.right):=by unfold mayS;simp
  rw[h11]at g;replace g:=hide g
  go_enter func313,ntmps313
  go_upto_region 4 with(fail)
  refine GC ?_
  repeat(refine qU ?_;intro K hK;go_big_quiet_op;go_big_quiet_on)
  refine zX ?_;intro us;refine Vy ?_;go_upto_region 6 with(fail)
  · go_ret
    refine⟨wW ?_,Es⟩;rw[g.out];go_light
    simp_all
    try omega
  · have hl:=g.out;have hl2:mayS op l=l.all Val.right:=by
     rw[hl];clear hl
     go_light
     simp_all
    have G:=hide hl2;rename _/\_=>ht
    replace ht:=hide ht
    clear hl hl2 g
    go_wp2
    go_loopw [7,24] (fun _ i wr=>∃k:Nat,k<=l.length/\i=.int .i64 k/\Below w.heap.size w wr/\Hid ((l.take k).all Val.right=true)) (fun _ i _=>l.length-(intOf i).toNat)
    case atStart=>exact⟨0,Yl _,rfl,Es,rfl⟩
    case round=>
     obtain⟨k,hk,rfl,hB,hall⟩:=hrel;by_cases hlt:k<l.length
     · obtain⟨b,o,rfl,hb,c0,c1,c2,hf⟩:=(H.out.keep zD hB).val hlt;go_wp2_with (go_at_call 97;refine(right_any _ _ _ _ hf.s).mono ?_;rintro e w2 ⟨rfl,hB2⟩)
       · go_ret
         refine⟨wW ?_,Es⟩;rw[G.out];refine(all_no hlt ?_).symm;go_light
         simp_all
       · go_roundw
         case rel=>
          refine⟨k+1,by omega,by go_num,Es,all_step hlt hall.out ?_⟩;go_light
          simp_all
         case measure=>simp[intOf];omega
     · obtain rfl:k=l.length:=by omega
       have e:=hall.out;rw[take_all]at e;have E:=hide e;clear e hall
       go_wp2
       go_ret
       exact⟨wW (by rw[G.out,E.out]),Es⟩
theorem number_any (f:FuncId) (hcf:∀args w,(callFunc f args).run prog w=.ok (.enter f args) w) (F:Int->Int->Int×Int) (hF:∀a b w,R64 a->R64 b->Calls prog f #[.int .i64 a,.int .i64 b] w fun e w'=>e=.returned (.tuple #[.int .i64 (F a b).1,.int .i64 (F a b).2])/\w=w')
 (x y:Val) (A:Option Addr) (c:Nat) (w:World) (h:SlAt rVal 3 w A [x,y]):
 Calls prog 315 #[.func (.func f) #[] #[],.slice A 2 c] w fun e w'=>e=.returned (.tuple #[.agg #[.int .i64 ((zp F x y).1).kind,.int .i64 ((zp F x y).1).n,.string ((zp F x y).1).s],.int .i64 (zp F x y).2])/\Below w.heap.size w w':=by
 have H:=hide h;have HF:=hide hF;obtain⟨b,o,rfl,hb,⟨c0,c1,c2⟩,⟨d0,d1,d2⟩,hx,hy⟩:=h.pair;clear hF h
 go_enter func315,ntmps315
 go_wp2_with (go_at_call 319;refine(all_any 2 [x,y] _ _ _ Dc (H.out.keep zD ?_)).mono ?_;rotate_left;rintro e w2 ⟨rfl,hB2⟩;obtain⟨hc2,hf2⟩:=wq hB2;have hz2:=hB2.size;try simp only[YY,YZ]at hc2 hf2 hz2)
 · have e:zp F x y=(noVal,2):=by
    go_light
    simp_all [zp,allS]
   refine bodyPost_ret (v:=.tuple #[.agg #[.int .i64 0,.int .i64 0,.string ⟨#[]⟩],.int .i64 2]) (by simp[results,results315,go_sem,↓IntWalk.iteOmega,hc2]) rfl ?_;exact⟨by rw[e];rfl,Es⟩
 · rename _=false=>ht
   replace ht:=hide ht
   refine Kg ?_
   repeat(refine qU ?_;intro K hK;go_big_quiet_op;go_big_quiet_on)
   refine qU ?_;intro K hK;go_big_quiet_op;refine⟨_,fun _=>quiet_eq (HF.out _ _ _ hx.n hy.n),?_⟩;go_big_quiet_on
   repeat(refine qU ?_;intro K hK;go_big_quiet_op;go_big_quiet_on)
   refine zX ?_;intro us w3 hB3;refine Vy ?_;obtain⟨hc3,hf3⟩:=wq hB3;have hz3:=hB3.size;try simp only[YY,YZ]at hc3 hf3 hz3
   have hk:=ht.out;have hkk:x.kind=2/\y.kind=2:=by
    clear ht
    go_light
    simp_all [allS]
   have HK:=hide hkk;clear hk hkk
   go_wp2
   · refine bodyPost_ret (v:=.tuple #[.agg #[.int .i64 0,.int .i64 0,.string ⟨#[]⟩],.int .i64 (F x.n y.n).2]) (by simp[results,results315,go_sem,↓IntWalk.iteOmega,hc2,hc3]) rfl ?_;refine⟨?_,Es⟩;have:zp F x y=(noVal,(F x.n y.n).2):=by
      have:=HK.out;go_light
      simp_all [zp]
     rw[this];rfl
   · refine bodyPost_ret (v:=.tuple #[.agg #[.int .i64 2,.int .i64 (F x.n y.n).1,.string ⟨#[]⟩],.int .i64 0]) (by simp[results,results315,go_sem,↓IntWalk.iteOmega,hc2,hc3]) rfl ?_;refine⟨?_,Es⟩;have:zp F x y=(⟨2,(F x.n y.n).1,⟨#[]⟩⟩,0):=by
      have:=HK.out;go_light
      simp_all [zp]
     rw[this]
 · exact Es
end
section
open Go.RowKit
attribute [local go_sem] wY jA
attribute [local go_sem low] jz zZ
attribute [local go_sem ↓] eql_val
abbrev wz (op:Int) (l:List Val) (w:World):Ending->World->Prop:=fun e w'=>e=.returned (.tuple #[.agg #[.int .i64 ((jr op l).1).kind,.int .i64 ((jr op l).1).n,.string ((jr op l).1).s],.int .i64 (jr op l).2])/\Below w.heap.size w w'
theorem call_no (op:Int) (l:List Val) (A:Option Addr) (c:Nat) (w:World) (hn:l.length<=reachBytes) (h:SlAt rVal 3 w A l) (hm:mayS op l=false):
 Calls prog 300 #[.int .i64 op,.slice A l.length c] w (wz op l w):=by
 have H:=hide h;clear h
 have hr:jr op l=(noVal,1):=by simp[jr,hm]
 go_enter func300,ntmps300
 go_wp2_with (go_at_call 313;refine(qbt _ _ _ _ _ hn (H.out.keep zD Es)).mono ?_;rintro e w2 ⟨rfl,hB2⟩;obtain⟨hc2,hf2⟩:=wq hB2;have hz2:=hB2.size;try simp only[YY,YZ]at hc2 hf2 hz2)
 refine bodyPost_ret (v:=.tuple #[.agg #[.int .i64 0,.int .i64 0,.string ⟨#[]⟩],.int .i64 1]) (by simp[results,results300,go_sem,↓IntWalk.iteOmega,hc2]) rfl ?_;exact⟨by rw[hr];rfl,Es⟩
theorem call_eq (x y:Val) (A:Option Addr) (c:Nat) (w:World) (h:SlAt rVal 3 w A [x,y]) (hm:mayS 6 [x,y]=true):
 Calls prog 300 #[.int .i64 6,.slice A 2 c] w (wz 6 [x,y] w):=by
 have H:=hide h;have hr:Hid (jr 6 [x,y]=if x.kind≠y.kind then(noVal,2)else(truthS (wO x y),0)):=by show _=_;simp[jr,hm]
 obtain⟨b,o,rfl,hb,⟨c0,c1,c2⟩,⟨d0,d1,d2⟩,hx,hy⟩:=h.pair;clear h
 go_enter func300,ntmps300
 go_wp2_with (go_at_call 313;refine(qbt 6 [x,y] _ _ _ Dc (H.out.keep zD Es)).mono ?_;rintro e w2 ⟨rfl,hB2⟩;obtain⟨hc2,hf2⟩:=wq hB2;have hz2:=hB2.size;try simp only[YY,YZ]at hc2 hf2 hz2)
 refine Kg ?_
 repeat(refine qU ?_;intro K hK;go_big_quiet_op;go_big_quiet_on)
 refine zX ?_;intro us w5 hB5;refine Vy ?_;obtain⟨hc5,hf5⟩:=wq hB5;have hz5:=hB5.size;try simp only[YY,YZ]at hc5 hf5 hz5
 go_upto_region 7 with(fail)
 · refine bodyPost_ret (v:=.tuple #[.agg #[.int .i64 0,.int .i64 0,.string ⟨#[]⟩],.int .i64 2]) (by simp[results,results300,go_sem,↓IntWalk.iteOmega,hc2,hc5]) rfl ?_;refine⟨?_,Es⟩;rw[hr.out,Yi (by go_light;simp_all)];rfl
 · rename _=false=>ht
   replace ht:=hide ht
   refine wp_spec_draw_tail 8 DG DG DG ?_;refine MY ?_
   repeat(refine qU ?_;intro K hK;go_big_quiet_op;go_big_quiet_on)
   refine qU ?_;intro K hK;go_big_quiet_op;refine⟨_,fun _=>qaV (truth_any _ _),?_⟩;go_big_quiet_on
   repeat(refine qU ?_;intro K hK;go_big_quiet_op;go_big_quiet_on)
   refine zX ?_;intro us w7 hB7;refine Vy ?_;obtain⟨hc7,hf7⟩:=wq hB7;have hz7:=hB7.size;try simp only[YY,YZ]at hc7 hf7 hz7
   go_wp2
   refine bodyPost_ret (v:=.tuple #[.agg #[.int .i64 1,.int .i64 (bitI (wO x y)),.string ⟨#[]⟩],.int .i64 0]) (by simp[results,results300,go_sem,↓IntWalk.iteOmega,hc2,hc5,hc7]) rfl ?_;refine⟨?_,Es⟩;rw[hr.out,Yc (by have:=ht.out;clear ht;go_light;simp_all)];rfl
theorem call_less (x y:Val) (A:Option Addr) (c:Nat) (w:World) (h:SlAt rVal 3 w A [x,y]) (hm:mayS 7 [x,y]=true):
 Calls prog 300 #[.int .i64 7,.slice A 2 c] w (wz 7 [x,y] w):=by
 have H:=hide h;have hr:Hid (jr 7 [x,y]=if(lessS x y).2≠0 then(noVal,(lessS x y).2)else(truthS (lessS x y).1,0)):=by show _=_;simp[jr,hm]
 obtain⟨b,o,rfl,hb,⟨c0,c1,c2⟩,⟨d0,d1,d2⟩,hx,hy⟩:=h.pair;clear h
 go_enter func300,ntmps300
 go_wp2_with (go_at_call 313;refine(qbt 7 [x,y] _ _ _ Dc (H.out.keep zD Es)).mono ?_;rintro e w2 ⟨rfl,hB2⟩;obtain⟨hc2,hf2⟩:=wq hB2;have hz2:=hB2.size;try simp only[YY,YZ]at hc2 hf2 hz2)
 refine Kg ?_
 repeat(refine qU ?_;intro K hK;go_big_quiet_op;go_big_quiet_on)
 refine qU ?_;intro K hK;go_big_quiet_op;refine⟨_,fun _=>qaV (less_any _ _ _ _ _ _ _ hx.s hy.s),?_⟩;go_big_quiet_on
 repeat(refine qU ?_;intro K hK;go_big_quiet_op;go_big_quiet_on)
 refine zX ?_;intro us w9 hB9;refine Vy ?_;obtain⟨hc9,hf9⟩:=wq hB9;have hz9:=hB9.size;try simp only[YY,YZ]at hc9 hf9 hz9
 go_wp2_with (go_at_call 314;refine(truth_any _ _).mono ?_;rintro e w3 ⟨rfl,hB3⟩;obtain⟨hc3,hf3⟩:=wq hB3;have hz3:=hB3.size;try simp only[YY,YZ]at hc3 hf3 hz3)
 · refine bodyPost_ret (v:=.tuple #[.agg #[.int .i64 0,.int .i64 0,.string ⟨#[]⟩],.int .i64 (lessS x y).2]) (by simp[results,results300,go_sem,↓IntWalk.iteOmega,hc2,hc9]) rfl ?_;refine⟨?_,Es⟩;rw[hr.out,Yi (by go_light;simp_all)];rfl
 · refine bodyPost_ret (v:=.tuple #[.agg #[.int .i64 1,.int .i64 (bitI (lessS x y).1),.string ⟨#[]⟩],.int .i64 0]) (by simp[results,results300,go_sem,↓IntWalk.iteOmega,hc2,hc9,hc3]) rfl ?_;refine⟨?_,Es⟩;rw[hr.out,Yc (by go_light;simp_all)];rfl
theorem call_add (x y:Val) (A:Option Addr) (c:Nat) (w:World) (h:SlAt rVal 3 w A [x,y]) (hm:mayS 8 [x,y]=true):
 Calls prog 300 #[.int .i64 8,.slice A 2 c] w (wz 8 [x,y] w):=by
 have H:=hide h;have hr:Hid (jr 8 [x,y]=zp addS x y):=by show _=_;simp[jr,hm]
 clear h
 go_enter func300,ntmps300
 go_wp2_with (first|(go_at_call 313;refine(qbt 8 [x,y] _ _ _ Dc (H.out.keep zD Es)).mono ?_;rintro e w2 ⟨rfl,hB2⟩;obtain⟨hc2,hf2⟩:=wq hB2;have hz2:=hB2.size;try simp only[YY,YZ]at hc2 hf2 hz2)|(go_at_call 315;refine(number_any 316 (qav func316 DG DG) addS add_any x y _ _ _ (H.out.keep zD Es)).mono ?_;rintro e w3 ⟨rfl,hB3⟩;obtain⟨hc3,hf3⟩:=wq hB3;have hz3:=hB3.size;try simp only[YY,YZ]at hc3 hf3 hz3))
 refine bodyPost_ret (v:=.tuple #[.agg #[.int .i64 ((zp addS x y).1).kind,.int .i64 ((zp addS x y).1).n,.string ((zp addS x y).1).s],.int .i64 (zp addS x y).2]) (by simp[results,results300,go_sem,↓IntWalk.iteOmega,hc2,hc3]) rfl ?_;exact⟨by rw[hr.out],Es⟩
theorem call_sub (x y:Val) (A:Option Addr) (c:Nat) (w:World) (h:SlAt rVal 3 w A [x,y]) (hm:mayS 9 [x,y]=true):
 Calls prog 300 #[.int .i64 9,.slice A 2 c] w (wz 9 [x,y] w):=by
 have H:=hide h;have hr:Hid (jr 9 [x,y]=zp subS x y):=by show _=_;simp[jr,hm]
 clear h
 go_enter func300,ntmps300
 go_wp2_with (first|(go_at_call 313;refine(qbt 9 [x,y] _ _ _ Dc (H.out.keep zD Es)).mono ?_;rintro e w2 ⟨rfl,hB2⟩;obtain⟨hc2,hf2⟩:=wq hB2;have hz2:=hB2.size;try simp only[YY,YZ]at hc2 hf2 hz2)|(go_at_call 315;refine(number_any 317 (qav func317 DG DG) subS sub_any x y _ _ _ (H.out.keep zD Es)).mono ?_;rintro e w3 ⟨rfl,hB3⟩;obtain⟨hc3,hf3⟩:=wq hB3;have hz3:=hB3.size;try simp only[YY,YZ]at hc3 hf3 hz3))
 refine bodyPost_ret (v:=.tuple #[.agg #[.int .i64 ((zp subS x y).1).kind,.int .i64 ((zp subS x y).1).n,.string ((zp subS x y).1).s],.int .i64 (zp subS x y).2]) (by simp[results,results300,go_sem,↓IntWalk.iteOmega,hc2,hc3]) rfl ?_;exact⟨by rw[hr.out],Es⟩
theorem call_mul (x y:Val) (A:Option Addr) (c:Nat) (w:World) (h:SlAt rVal 3 w A [x,y]) (hm:mayS 10 [x,y]=true):
 Calls prog 300 #[.int .i64 10,.slice A 2 c] w (wz 10 [x,y] w):=by
 have H:=hide h;have hr:Hid (jr 10 [x,y]=zp mulS x y):=by show _=_;simp[jr,hm]
 clear h
 go_enter func300,ntmps300
 go_wp2_with (first|(go_at_call 313;refine(qbt 10 [x,y] _ _ _ Dc (H.out.keep zD Es)).mono ?_;rintro e w2 ⟨rfl,hB2⟩;obtain⟨hc2,hf2⟩:=wq hB2;have hz2:=hB2.size;try simp only[YY,YZ]at hc2 hf2 hz2)|(go_at_call 315;refine(number_any 318 (qav func318 DG DG) mulS mul_any x y _ _ _ (H.out.keep zD Es)).mono ?_;rintro e w3 ⟨rfl,hB3⟩;obtain⟨hc3,hf3⟩:=wq hB3;have hz3:=hB3.size;try simp only[YY,YZ]at hc3 hf3 hz3))
 refine bodyPost_ret (v:=.tuple #[.agg #[.int .i64 ((zp mulS x y).1).kind,.int .i64 ((zp mulS x y).1).n,.string ((zp mulS x y).1).s],.int .i64 (zp mulS x y).2]) (by simp[results,results300,go_sem,↓IntWalk.iteOmega,hc2,hc3]) rfl ?_;exact⟨by rw[hr.out],Es⟩
end
section
open Go.RowKit
attribute [local go_sem] wY jA
attribute [local go_sem low] jz zZ
attribute [local go_sem ↓] eql_val
theorem call_not (x:Val) (A:Option Addr) (c:Nat) (w:World) (h:SlAt rVal 3 w A [x]) (hm:mayS 11 [x]=true):
 Calls prog 300 #[.int .i64 11,.slice A 1 c] w (wz 11 [x] w):=by
 have H:=hide h;have hr:Hid (jr 11 [x]=if allS 1 [x]then(truthS (x.n==0),0)else(noVal,2)):=by show _=_;simp[jr,hm];cases allS 1 _<;>rfl
 obtain⟨b,o,rfl,hb,⟨c0,c1,c2⟩,hx⟩:=h.lone;clear h
 go_enter func300,ntmps300
 go_wp2_with (first|(go_at_call 313;refine(qbt 11 [x] _ _ _ Dc (H.out.keep zD Es)).mono ?_;rintro e w2 ⟨rfl,hB2⟩;obtain⟨hc2,hf2⟩:=wq hB2;have hz2:=hB2.size;try simp only[YY,YZ]at hc2 hf2 hz2)|(go_at_call 319;refine(all_any 1 [x] _ _ _ Dc (H.out.keep zD Es)).mono ?_;rintro e w4 ⟨rfl,hB4⟩;obtain⟨hc4,hf4⟩:=wq hB4;have hz4:=hB4.size;try simp only[YY,YZ]at hc4 hf4 hz4)|(go_at_call 314;refine(truth_any _ _).mono ?_;rintro e w3 ⟨rfl,hB3⟩;obtain⟨hc3,hf3⟩:=wq hB3;have hz3:=hB3.size;try simp only[YY,YZ]at hc3 hf3 hz3))
 · refine bodyPost_ret (v:=.tuple #[.agg #[.int .i64 0,.int .i64 0,.string ⟨#[]⟩],.int .i64 2]) (by simp[results,results300,go_sem,↓IntWalk.iteOmega,hc2,hc4]) rfl ?_;refine⟨?_,Es⟩;rw[hr.out,Yc (by go_light;simp_all)];rfl
 · refine bodyPost_ret (v:=.tuple #[.agg #[.int .i64 1,.int .i64 (bitI (x.n==0)),.string ⟨#[]⟩],.int .i64 0]) (by simp[results,results300,go_sem,↓IntWalk.iteOmega,hc2,hc4,hc3]) rfl ?_;refine⟨?_,Es⟩;rw[hr.out,Yi (by go_light;simp_all)];rfl
theorem call_and (x y:Val) (A:Option Addr) (c:Nat) (w:World) (h:SlAt rVal 3 w A [x,y]) (hm:mayS 12 [x,y]=true):
 Calls prog 300 #[.int .i64 12,.slice A 2 c] w (wz 12 [x,y] w):=by
 have H:=hide h;have hr:Hid (jr 12 [x,y]=if allS 1 [x,y]then(truthS (x.n==1&&y.n==1),0)else(noVal,2)):=by show _=_;simp[jr,hm];cases allS 1 _<;>rfl
 obtain⟨b,o,rfl,hb,⟨c0,c1,c2⟩,⟨d0,d1,d2⟩,hx,hy⟩:=h.pair;clear h
 go_enter func300,ntmps300
 go_upto_region 25 with(first|(go_at_call 313;refine(qbt 12 [x,y] _ _ _ Dc (H.out.keep zD Es)).mono ?_;rintro e w2 ⟨rfl,hB2⟩;obtain⟨hc2,hf2⟩:=wq hB2;have hz2:=hB2.size;try simp only[YY,YZ]at hc2 hf2 hz2)|(go_at_call 319;refine(all_any 1 [x,y] _ _ _ Dc (H.out.keep zD Es)).mono ?_;rintro e w4 ⟨rfl,hB4⟩;obtain⟨hc4,hf4⟩:=wq hB4;have hz4:=hB4.size;try simp only[YY,YZ]at hc4 hf4 hz4))
 · refine bodyPost_ret (v:=.tuple #[.agg #[.int .i64 0,.int .i64 0,.string ⟨#[]⟩],.int .i64 2]) (by simp[results,results300,go_sem,↓IntWalk.iteOmega,hc2,hc4]) rfl ?_;refine⟨?_,Es⟩;rw[hr.out,Yc (by go_light;simp_all)];rfl
 · skip
   refine wp_spec_tail 13 DG ?_;refine MY ?_
   repeat(refine qU ?_;intro K hK;go_big_quiet_op;go_big_quiet_on)
   refine qU ?_;intro K hK;go_big_quiet_op;refine⟨_,fun _=>qaV (truth_any _ _),?_⟩;go_big_quiet_on
   repeat(refine qU ?_;intro K hK;go_big_quiet_op;go_big_quiet_on)
   refine zX ?_;intro us w25 hB25;refine Vy ?_;obtain⟨hc25,hf25⟩:=wq hB25;have hz25:=hB25.size;try simp only[YY,YZ]at hc25 hf25 hz25
   go_wp2
   refine bodyPost_ret (v:=.tuple #[.agg #[.int .i64 1,.int .i64 (bitI (x.n==1&&y.n==1)),.string ⟨#[]⟩],.int .i64 0]) (by simp[results,results300,go_sem,↓IntWalk.iteOmega,hc2,hc4,hc25]) rfl ?_;refine⟨?_,Es⟩;rw[hr.out,Yi (by go_light;simp_all)];rfl
theorem call_or (x y:Val) (A:Option Addr) (c:Nat) (w:World) (h:SlAt rVal 3 w A [x,y]) (hm:mayS 13 [x,y]=true):
 Calls prog 300 #[.int .i64 13,.slice A 2 c] w (wz 13 [x,y] w):=by
 have H:=hide h;have hr:Hid (jr 13 [x,y]=if allS 1 [x,y]then(truthS (x.n==1||y.n==1),0)else(noVal,2)):=by show _=_;simp[jr,hm];cases allS 1 _<;>rfl
 obtain⟨b,o,rfl,hb,⟨c0,c1,c2⟩,⟨d0,d1,d2⟩,hx,hy⟩:=h.pair;clear h
 go_enter func300,ntmps300
 go_upto_region 26 with(first|(go_at_call 313;refine(qbt 13 [x,y] _ _ _ Dc (H.out.keep zD Es)).mono ?_;rintro e w2 ⟨rfl,hB2⟩;obtain⟨hc2,hf2⟩:=wq hB2;have hz2:=hB2.size;try simp only[YY,YZ]at hc2 hf2 hz2)|(go_at_call 319;refine(all_any 1 [x,y] _ _ _ Dc (H.out.keep zD Es)).mono ?_;rintro e w4 ⟨rfl,hB4⟩;obtain⟨hc4,hf4⟩:=wq hB4;have hz4:=hB4.size;try simp only[YY,YZ]at hc4 hf4 hz4))
 · refine bodyPost_ret (v:=.tuple #[.agg #[.int .i64 0,.int .i64 0,.string ⟨#[]⟩],.int .i64 2]) (by simp[results,results300,go_sem,↓IntWalk.iteOmega,hc2,hc4]) rfl ?_;refine⟨?_,Es⟩;rw[hr.out,Yc (by go_light;simp_all)];rfl
 · skip
   refine wp_spec_tail 13 DG ?_;refine MY ?_
   repeat(refine qU ?_;intro K hK;go_big_quiet_op;go_big_quiet_on)
   refine qU ?_;intro K hK;go_big_quiet_op;refine⟨_,fun _=>qaV (truth_any _ _),?_⟩;go_big_quiet_on
   repeat(refine qU ?_;intro K hK;go_big_quiet_op;go_big_quiet_on)
   refine zX ?_;intro us w26 hB26;refine Vy ?_;obtain⟨hc26,hf26⟩:=wq hB26;have hz26:=hB26.size;try simp only[YY,YZ]at hc26 hf26 hz26
   go_wp2
   refine bodyPost_ret (v:=.tuple #[.agg #[.int .i64 1,.int .i64 (bitI (x.n==1||y.n==1)),.string ⟨#[]⟩],.int .i64 0]) (by simp[results,results300,go_sem,↓IntWalk.iteOmega,hc2,hc4,hc26]) rfl ?_;refine⟨?_,Es⟩;rw[hr.out,Yi (by go_light;simp_all)];rfl
theorem call_any (op:Int) (l:List Val) (A:Option Addr) (c:Nat) (w:World) (hn:l.length<=reachBytes) (h:SlAt rVal 3 w A l):
 Calls prog 300 #[.int .i64 op,.slice A l.length c] w (wz op l w):=by
 cases hm:mayS op l with
 |false=>exact call_no op l A c w hn h hm
 |true=>
  have hm':=hm;simp only[mayS,Yp,Yf]at hm';obtain⟨⟨⟨h1,h2⟩,h3⟩,_⟩:=hm';rcases(show op=6\/op=7\/op=8\/op=9\/op=10\/op=11\/op=12\/op=13 by omega)with rfl|rfl|rfl|rfl|rfl|rfl|rfl|rfl
  all_goals
   simp only[Int.reduceEq,if_true,if_false]at h3
   match l,h3 with
   |[x],h3=>first|exact call_not x A c w h hm|(simp at h3)
   |[x,y],h3=>first|exact call_eq x y A c w h hm|exact call_less x y A c w h hm|exact call_add x y A c w h hm|exact call_sub x y A c w h hm|exact call_mul x y A c w h hm|exact call_and x y A c w h hm|exact call_or x y A c w h hm|(simp at h3)
   |[],h3=>simp at h3
   |_::_::_::_,h3=>simp at h3;omega
end
section
open Go.RowKit
structure Itm.Fit (x:Itm):Prop where
 bag:∀v∈x.bag,v.Fit
 v:x.v.Fit
 len:x.bag.length<=1000000
theorem wL:noVal.Fit:=⟨⟨by decide,by decide⟩,⟨by decide,by decide⟩,by decide⟩
theorem truthS_fit (b:Bool):(truthS b).Fit:=by cases b<;>exact⟨⟨by decide,by decide⟩,⟨by decide,by decide⟩,by decide⟩
theorem num_fit {n:Int} (h:R64 n):(⟨2,n,⟨#[]⟩⟩:Val).Fit:=⟨⟨by show _<=(2:Int);omega,by show(2:Int)<=_;omega⟩,h,by show(⟨#[]⟩:DT).size<=reachBytes;decide⟩
theorem inI_r64 {n:Int} (h:inI n=true):R64 n:=by
 simp only[inI,Yp,Yf]at h;exact V5
theorem number_fit {f:Int->Int->Int×Int} (hf:∀a b,(f a b).2=0->R64 (f a b).1) (x y:Val):(zp f x y).1.Fit:=by
 unfold zp;split
 · exact wL
 · split
   · exact wL
   · rename_i h;exact num_fit (hf _ _ (Xa h))
theorem add_fit (a b:Int):(addS a b).2=0->R64 (addS a b).1:=by
 unfold addS;split
 · rename_i h;exact fun _=>inI_r64 h
 · intro h;cases h
theorem sub_fit (a b:Int):(subS a b).2=0->R64 (subS a b).1:=by
 unfold subS;split
 · rename_i h;exact fun _=>inI_r64 h
 · intro h;cases h
theorem mul_fit (a b:Int):(mulS a b).2=0->R64 (mulS a b).1:=by
 unfold mulS;split
 · rename_i h;exact fun _=>inI_r64 h
 · intro h;cases h
theorem callS_fit (op:Int) (l:List Val):(jr op l).1.Fit:=by
 unfold jr;split
 · exact wL
 · simp only
   repeat' split
   all_goals first|exact wL|exact truthS_fit _|exact number_fit add_fit _ _|exact number_fit sub_fit _ _|exact number_fit mul_fit _ _
theorem bagS_mem {cat:Int} {name:DT} {g:List Giv} {Q:List Val->Prop} (h0:Q []) (h:∀x∈g,Q x.bag):Q (bagS cat name g):=by
 rcases place_cases cat name g with⟨_,hb,_⟩|⟨k,hk,_,hb,_⟩
 · rw[hb];exact h0
 · rw[hb];exact h _ (Yn hk)
theorem getS_mem {a:Atr} {g:List Giv} {Q:List Val->Prop} (h0:Q []) (h:∀x∈g,Q x.bag):Q (getS a g).1:=by
 unfold getS;split
 · exact h0
 · exact bagS_mem h0 h
theorem nodeS_fit {n:Nod} (hn:n.Fit) {l:List Itm} (hl:∀x∈l,x.Fit) {g:List Giv} (hg:∀x∈g,x.Fit) (hb:∀x∈g,x.bag.length<=1000000):(qaM n l g).Fit:=by
 have e0:∀v∈([]:List Val),v.Fit:=fun v hv=>by simp at hv
 have d0:(l.getD 0 noItm).Fit:=by
  cases l with
  |nil=>exact⟨e0,wL,Yl _⟩
  |cons x r=>exact hl x DQ
 have sz:∀{v:Val},v.Fit->(Itm.mk [] v 0).Fit:=fun h=>⟨e0,h,Yl _⟩
 have sz':∀{v:Val} (e:Int),v.Fit->(Itm.mk [] v e).Fit:=fun _ h=>⟨e0,h,Yl _⟩
 unfold qaM;split
 · exact sz hn.val
 · split
   · exact⟨getS_mem (Q:=fun b=>∀v∈b,v.Fit) e0 fun x hx=>(hg x hx).bag,wL,getS_mem (Q:=fun b=>b.length<=1000000) (Yl _) hb⟩
   · split
     · exact sz (truthS_fit _)
     · split
       · exact sz' _ wL
       · unfold lastS
         repeat' split
         · refine sz ?_;rename_i h1
           match hb:(l.getD 0 noItm).bag,h1 with
           |[v],_=>exact d0.bag v (by rw[hb];simp)
         · exact sz' _ wL
         · have:=d0.len;exact sz (num_fit ⟨by omega,by omega⟩)
         · exact sz (truthS_fit _)
         · exact sz' _ (callS_fit _ _)
theorem rel_val {ok:Nat->Prop} {w:World} (x:Val):RelP ok w (.agg x.pv) x.v:=by
 refine .agg rfl fun i s u hs hu=>?_
 match i,hs,hu with
 |0,hs,hu=>cases hs;cases hu;exact .v rfl
 |1,hs,hu=>cases hs;cases hu;exact .v rfl
 |2,hs,hu=>cases hs;cases hu;exact .v rfl
theorem rel_two {ok:Nat->Prop} {H:Nat->Option Value} {w:World} {p q:PV} {u v:Value} (h:RelP ok w p u) (k:RelP ok w q v):RelS ok H w (.tup [.p p,.p q]) (.tuple #[u,v]):=by
 refine .tup rfl fun i s x hs hx=>?_
 match i,hs,hx with
 |0,hs,hx=>cases hs;cases hx;exact .p h
 |1,hs,hx=>cases hs;cases hx;exact .p k
theorem call_h (op:Int) (l:List Val) (hf:∀x∈l,x.Fit):Holds prog 300 [pI op,valsP l] (.tup [.p (.agg (jr op l).1.pv),.p (pI (jr op l).2)]) []:=
 .of_calls func300 DG rfl (fun w vs hl hr=>by
  obtain⟨u,v,rfl⟩:∃u v,vs=[u,v]:=by
   match vs,hl with
   |[u,v],_=>exact⟨u,v,rfl⟩
  have h:=jn (hr 0 _ u rfl rfl) rfl;subst h;obtain⟨A,c,rfl,h1,h2,h3⟩:=vals_typed (hr 1 _ v rfl rfl) hf;exact call_any op l A c w h2.1 h3) rfl fun w=>rel_two (rel_val _) (.v rfl)
theorem against_h (m:Mat) (v:Val) (hm:m.val.s.size<=reachBytes) (hv:v.s.size<=reachBytes):Holds prog 264 [.agg m.pv,.agg v.pv] (.tup [.p (pB (againstT m v).1),.p (pI (againstT m v).2)]) []:=by
 obtain⟨a,op,val⟩:=m;unfold againstT;simp only at hm⊢;by_cases h1:op=1
 · subst h1;rw[Yi rfl];refine qo (ts:=[4,5]) func264 DG rfl rfl rfl ?_;refine KJ ?_;refine KB ?_;refine uC (fun hk=>?_) (fun hk=>?_)
   · have hk':v.kind≠val.kind:=by simpa using hk
     rw[Yi hk'];exact KI
   · have hk':¬v.kind≠val.kind:=by simpa using hk
     rw[Yc hk'];refine uA ?_;refine uC (fun h3=>?_) (fun h3=>?_)
     · refine uR ?_;refine qm qc rfl (opR_eqV v val rfl rfl rfl rfl) rfl rfl ?_;exact Lo
     · cases h3
 · have hn1:(op==1)=false:=by simpa using h1
   rw[Yc h1];refine qo (ts:=[4,5]) func264 DG rfl rfl rfl ?_;refine KJ ?_;refine KM ?_;rw[hn1];refine Ky ?_;refine uC (fun hk=>?_) (fun hk=>?_)
   · cases hk
   refine uA ?_;rw[hn1];refine uC (fun h3=>?_) (fun h3=>?_)
   · cases h3
   by_cases h2:op=2
   · rw[Yi h2];refine uA ?_;refine uC (fun h4=>?_) (fun h4=>?_)
     · refine uR ?_;refine uK (less_h v val hv hm) ?_;exact Lv
     · simp[h2]at h4
   · rw[Yc h2];refine uA ?_;refine uC (fun h4=>?_) (fun h4=>?_)
     · simp[h2]at h4
     refine Kv ?_;refine uK (less_h val v hm hv) ?_;exact Lv
theorem any_take {α:Type} {p:α->Bool} {l:List α} {k:Nat} (h:k<l.length):(l.take (k+1)).any p=((l.take k).any p||p l[k]):=by
 rw[Ym h,List.any_append];simp
theorem match2_h (m:Mat) (l:List Giv) (hm:m.Fit) (hf:∀x∈l,x.Fit) (hn:l.length<=1000000) (hb:∀x∈l,x.bag.length<=1000000):Holds prog 217 [.agg m.pv,js l] (.p (pI (wD m l))) []:=by
 have H:=get_h m.attr l hn hb;have hbag:=getS_mem (a:=m.attr) (g:=l) (Q:=fun b=>b.length<=1000000) (Yl _) hb;have hfit:=getS_mem (a:=m.attr) (g:=l) (Q:=fun b=>∀v∈b,v.Fit) (fun v hv=>by cases hv) fun x hx=>(hf x hx).bag
 unfold wD;generalize getS m.attr l=r at*;obtain⟨bag,e⟩:=r;simp only at H hbag hfit⊢;have lb:(bag.map Val.pv).length=bag.length:=by simp
 refine qo (ts:=[4]) func217 DG rfl rfl rfl ?_;refine Kq ?_;refine uO H ?_;refine KF ?_;refine uC (fun he=>?_) (fun he=>?_)
 · have he':e≠0:=by simpa using he
   rw[Yi he'];exact KK
 have he':¬e≠0:=by simpa using he
 rw[Yc he'];refine qh ?_;refine KH ?_;refine uZ [2,7,21,22,23] [(2,2)] ?_;refine qG (fun n s=>∃(k:Nat) (kk o:Int),k<=bag.length/\n=bag.length-k/\kk=k/\o=(if(bag.take k).any (badT m)then 1 else 0)/\(bag.take k).any (okT m)=false/\s=⟨38,[(2,.ptr 2 0),(7,.p (pI o)),(21,.p (valsP bag)),(22,.p (pI (bag.map Val.pv).length)),(23,.p (pI kk))],[(2,.cells (m.pv.map .p))]⟩) bag.length ⟨0,0,0,Yl _,rfl,rfl,rfl,rfl,rfl⟩ ?_;rintro n s ⟨k,_,o,hk,rfl,rfl,ho,ha,rfl⟩;refine uA ?_;refine uC (fun hlt=>?_) (fun hlt=>?_)
 · refine qh ?_;rw[lb]at hlt;simp only[Yf]at hlt;have hlt':k<bag.length:=by omega
   have a1:=any_take (p:=okT m) hlt';have a2:=any_take (p:=badT m) hlt';have a3:okT m bag[k]=true->bag.any (okT m)=true:=fun h=>List.any_eq_true.2 ⟨_,Yn hlt',h⟩
   have H2:=against_h m bag[k] hm.val.s (hfit _ (Yn hlt')).s;refine Kx ?_;refine qm qc rfl rfl (by rw[lb];omega) rfl ?_;rw[qw hlt'];refine Kt ?_;refine uK H2 ?_;refine KF ?_;refine uC (fun hp=>?_) (fun hp=>?_)
   · rw[Yi (a3 hp)];exact KK
   have hp':okT m bag[k]=false:=hp;refine Kw ?_;refine uC (fun hq=>?_) (fun hq=>?_)
   · have hq':badT m bag[k]=true:=by unfold badT;simpa using hq
     refine Kr ?_;refine⟨_,_,?_,qj [2,7,21,22,23] [(2,2)] rfl rfl,k+1,_,1,hlt',rfl,qq hlt' DP,?_,?_,rfl⟩
     · omega
     · rw[a2,hq',Bool.or_true,Yi rfl]
     · rw[a1,ha,hp'];rfl
   · have hq':badT m bag[k]=false:=by unfold badT;simpa using hq
     refine Kw ?_;refine⟨_,_,?_,qj [2,7,21,22,23] [(2,2)] rfl rfl,k+1,_,o,hlt',rfl,qq hlt' DP,?_,?_,rfl⟩
     · omega
     · rw[a2,hq',Bool.or_false];exact ho
     · rw[a1,ha,hp'];rfl
 · refine qC ?_;rw[lb]at hlt;simp only[Yh]at hlt;have hkk:k=bag.length:=by omega
   subst hkk;rw[Yu]at ho ha;rw[ha,Yc DQ,<-ho];exact KK
theorem allTT_take {l:List Mat} {g:List Giv} {k:Nat} (h:k<l.length):min (allTT (l.take k) g) (wD l[k] g)=allTT (l.take (k+1)) g:=by
 unfold allTT;rw[Ym h,List.foldl_append];rfl
theorem anyTT_take {l:List (List Mat)} {g:List Giv} {k:Nat} (h:k<l.length):max (anyTT (l.take k) g) (allTT l[k] g)=anyTT (l.take (k+1)) g:=by
 unfold anyTT;rw[Ym h,List.foldl_append];rfl
theorem metT_take {l:Tar} {g:List Giv} {k:Nat} (h:k<l.length):min (metT (l.take k) g) (anyTT l[k] g)=metT (l.take (k+1)) g:=by
 unfold metT;rw[Ym h,List.foldl_append];rfl
theorem allT_h (l:List Mat) (g:List Giv) (hm:∀m∈l,m.Fit) (hl:l.length<=1000000) (hf:∀x∈g,x.Fit) (hn:g.length<=1000000) (hb:∀x∈g,x.bag.length<=1000000):Holds prog 158 [wF l,js g] (.p (pI (allTT l g))) []:=by
 have lm:(l.map Mat.pv).length=l.length:=by simp
 refine qo (ts:=[4]) func158 DG rfl rfl rfl ?_;refine Lr ?_;refine uZ [1,5,8,9,10] [] ?_;refine qG (fun n s=>∃(k:Nat) (kk o:Int),k<=l.length/\n=l.length-k/\kk=k/\o=allTT (l.take k) g/\s=⟨21,[(1,.p (js g)),(5,.p (pI o)),(8,.p (wF l)),(9,.p (pI (l.map Mat.pv).length)),(10,.p (pI kk))],[]⟩) l.length ⟨0,0,2,Yl _,rfl,rfl,rfl,rfl⟩ ?_;rintro n s ⟨k,_,o,hk,rfl,rfl,ho,rfl⟩;refine uA ?_;refine uC (fun hlt=>?_) (fun hlt=>?_)
 · refine qh ?_;rw[lm]at hlt;simp only[Yf]at hlt;have hlt':k<l.length:=by omega
   have H:=match2_h l[k] g (hm _ (Yn hlt')) hf hn hb;have hs:=allTT_take (g:=g) hlt';refine Kx ?_;refine GH ?_;rw[qw hlt'];refine Kt ?_;refine uK H ?_;refine KF ?_;refine⟨_,_,?_,qj [1,5,8,9,10] [] rfl rfl,k+1,_,_,hlt',rfl,qq hlt' DP,?_,rfl⟩
   · omega
   · rw[<-hs,<-ho];dsimp only;split<;>omega
 · refine qC ?_;rw[lm]at hlt;simp only[Yh]at hlt;have hkk:k=l.length:=by omega
   subst hkk;rw[Yu]at ho;rw[<-ho];exact KK
def TarSm (t:Tar):Prop:=t.length<=1000000/\∀x∈t,x.length<=1000000/\∀y∈x,y.length<=1000000
theorem metT_h (t:Tar) (g:List Giv) (hm:∀x∈t,∀y∈x,∀m∈y,m.Fit) (hl:TarSm t) (hf:∀x∈g,x.Fit) (hn:g.length<=1000000) (hb:∀x∈g,x.bag.length<=1000000):Holds prog 100 [tgtP t,js g] (.p (pI (metT t g))) []:=by
 have lt:(t.map fun x=>[anyP x]).length=t.length:=by simp
 have ht0:=hl.1;refine qo (ts:=[4]) func100 DG rfl rfl rfl ?_;refine Lr ?_;refine uZ [1,5,11,12,13] [] ?_;refine qG (fun n s=>∃(k:Nat) (kk o:Int),k<=t.length/\n=t.length-k/\kk=k/\o=metT (t.take k) g/\s=⟨34,[(1,.p (js g)),(5,.p (pI o)),(11,.p (tgtP t)),(12,.p (pI (t.map fun x=>[anyP x]).length)),(13,.p (pI kk))],[]⟩) t.length ⟨0,0,2,Yl _,rfl,rfl,rfl,rfl⟩ ?_;rintro n s ⟨k,_,o,hk,rfl,rfl,ho,rfl⟩;refine uA ?_;refine uC (fun hlt=>?_) (fun hlt=>?_)
 · refine qh ?_;rw[lt]at hlt;simp only[Yf]at hlt;have hlt':k<t.length:=by omega
   have hs:=metT_take (g:=g) hlt';have hxl:=hl.2 _ (Yn hlt');have hxm:=hm _ (Yn hlt');refine Kx ?_;refine qm qc rfl rfl Dq rfl ?_;rw[qw hlt'];refine Ko ?_;generalize t[k]=x at*;have lx:(x.map fun y=>[wF y]).length=x.length:=by simp
   have hx0:=hxl.1;refine KH ?_;refine uZ [1,5,8,11,12,13,17,18,19] [] ?_;refine qG (fun n s=>∃(j:Nat) (jj b:Int),j<=x.length/\n=x.length-j/\jj=j/\b=anyTT (x.take j) g/\s=⟨34,[(1,.p (js g)),(5,.p (pI o)),(8,.p (pI b)),(11,.p (tgtP t)),(12,.p (pI (t.map fun x=>[anyP x]).length)),(13,.p (pI k)),(17,.p (anyP x)),(18,.p (pI (x.map fun y=>[wF y]).length)),(19,.p (pI jj))],[]⟩) x.length ⟨0,0,0,Yl _,rfl,rfl,rfl,rfl⟩ ?_;rintro n s ⟨j,_,b,hj,rfl,rfl,hbb,rfl⟩;refine uA ?_;refine uC (fun hlj=>?_) (fun hlj=>?_)
   · refine qh ?_;rw[lx]at hlj;simp only[Yf]at hlj;have hlj':j<x.length:=by omega
     have hs2:=anyTT_take (g:=g) hlj';have H:=allT_h x[j] g (hxm _ (Yn hlj')) (hxl.2 _ (Yn hlj')) hf hn hb;refine Kx ?_;refine qm qc rfl rfl Dr rfl ?_;rw[qw hlj'];refine Kt ?_;refine uK H ?_;refine KF ?_;refine⟨_,_,?_,qj [1,5,8,11,12,13,17,18,19] [] rfl rfl,j+1,_,_,hlj',rfl,qq hlj' DP,?_,rfl⟩
     · omega
     · rw[<-hs2,<-hbb];dsimp only;split<;>omega
   · refine qC ?_;rw[lx]at hlj;simp only[Yh]at hlj;have hjj:j=x.length:=by omega
     subst hjj;rw[Yu]at hbb;refine Kr ?_;refine⟨_,_,?_,qj [1,5,11,12,13] [] rfl rfl,k+1,_,_,hlt',rfl,qq hlt' DP,?_,rfl⟩
     · omega
     · rw[<-hs,<-ho,<-hbb];dsimp only;split<;>omega
 · refine qC ?_;rw[lt]at hlt;simp only[Yh]at hlt;have hkk:k=t.length:=by omega
   subst hkk;rw[Yu]at ho;rw[<-ho];exact KK
structure GivOk (g:List Giv):Prop where
 fit:∀x∈g,x.Fit
 len:g.length<=1000000
 bags:∀x∈g,x.bag.length<=1000000
def waitsO (o:Oper) (p:Nat):Bool:=o.after.toList.any fun e=>Region.binds .any e&&Nat.beq e.on p
section
variable {P:Program} {ops:Array Oper} {Q:Exit->Act->World->Prop}
abbrev Pend:=List (Nat×(World->Prop))
def alive (ops:Array Oper) (i:Nat) (pd:Pend):Pend:=match ops[i]? with
 |some o=>pd.filter fun p=>!waitsO o p.1
 |none=>pd
def wpAnyP (P:Program) (ops:Array Oper) (Q:Exit->Act->World->Prop):Nat->Pend->Array Bool->Act->World->Prop
 |0,_,listed,a,w=>Region.ready .any ops listed=[]/\Q .normal a w
 |fuel+1,pd,listed,a,w=>(Region.ready .any ops listed=[]->Q .normal a w)/\
  ∀i∈Region.ready .any ops listed,wpOp P ops Q i (fun a' w'=>(∀p∈alive ops i pd,p.2 w')/\wpAnyP P ops Q fuel (alive ops i pd) (listed.setIfInBounds i true) a' w') a w
theorem wpAny_of_pend:∀(fuel:Nat) (pd:Pend) (listed:Array Bool) (a:Act) (w:World),wpAnyP P ops Q fuel pd listed a w->wpAny P .any ops Q fuel listed a w
 |0,_,_,_,_,h=>h
 |fuel+1,_,_,_,_,h=>⟨h.1,fun i hi=>wpOp_mono (fun a' w' h'=>wpAny_of_pend fuel _ _ a' w' h'.2) (h.2 i hi)⟩
def Covers (pd pd':Pend):Prop:=∀p∈pd,(∀x,p.2 x)\/∃p'∈pd',p'.1=p.1/\∀x,p'.2 x->p.2 x
theorem Covers.refl (pd:Pend):Covers pd pd:=fun p hp=>.inr ⟨p,hp,rfl,fun _ h=>h⟩
theorem mem_alive {i:Nat} {pd:Pend} {p:Nat×(World->Prop)}:p∈alive ops i pd↔p∈pd/\(∀o,ops[i]?=some o->waitsO o p.1=false):=by
 unfold alive;cases h:ops[i]? with
 |none=>simp
 |some o=>simp[List.mem_filter]
theorem Covers.alive {pd pd':Pend} (h:Covers pd pd') (i:Nat):Covers (alive ops i pd) (Go.Proofs.YtblgnefkgkchhaaGreatDoor.alive ops i pd'):=fun p hp=>by
 obtain⟨h1,h2⟩:=mem_alive.1 hp;rcases h p h1 with h|⟨p',h3,h4,h5⟩
 · exact .inl h
 · exact .inr ⟨p',mem_alive.2 ⟨h3,fun o ho=>by rw[h4];exact h2 o ho⟩,h4,h5⟩
theorem Covers.at {pd pd':Pend} (h:Covers pd pd') {w:World} (hw:∀p∈pd',p.2 w):∀p∈pd,p.2 w:=fun p hp=>by
 rcases h p hp with h|⟨p',h3,h4,h5⟩
 · exact h w
 · exact h5 w (hw p' h3)
theorem wpAnyP_weak:∀(f:Nat) {pd pd':Pend} (_:Covers pd pd') (ls:Array Bool) (a:Act) (w:World),wpAnyP P ops Q f pd' ls a w->wpAnyP P ops Q f pd ls a w
 |0,_,_,_,_,_,_,h=>h
 |f+1,_,_,hc,ls,a,w,h=>⟨h.1,fun i hi=>wpOp_mono (fun a' w' h'=>⟨(hc.alive i).at h'.1,wpAnyP_weak f (hc.alive i) _ a' w' h'.2⟩) (h.2 i hi)⟩
theorem wpAnyP_first {i:Nat} {oi:Oper} {v:Value} (hi:ops[i]?=some oi) (hsel:∀(j:Nat) (o:Oper) cs b,ops[j]?=some o->o.op≠.select cs b)
 (hQ:∀c a w,Q (.panic c) (a.put oi.dst v) w->Q (.panic c) a w) {S:World->Prop}:
 ∀(fuel:Nat) (pd:Pend) (listed:Array Bool) (a:Act) (w:World),
  (∀j oj,ops[j]?=some oj->j≠i->listed.getD j true=false->(∀e∈oj.after,Region.binds .any e=true->e.on≠i)->oi.apart ops oj=true)->
  i∈Region.ready .any ops listed->YieldsIf P ops S oi v a->S w->(∀p∈pd,p.2 w)->
  wpAnyP P ops Q fuel ((i,S)::pd) (listed.setIfInBounds i true) (a.put oi.dst v) w->wpAnyP P ops Q (fuel+1) pd listed a w:=by
 have drop:∀(pd:Pend),Covers (Go.Proofs.YtblgnefkgkchhaaGreatDoor.alive ops i pd) ((i,S)::pd):=fun pd p hp=>.inr ⟨p,Y3 _ (mem_alive.1 hp).1,rfl,fun _ h=>h⟩
 intro fuel
 induction fuel with
 |zero=>
  intro pd listed a w _ hr hy hS hpd H;refine⟨fun h=>(by rw[h]at hr;cases hr),fun j hj=>?_⟩;by_cases hji:j=i
  · subst hji;exact hy.wpOp hi hS ⟨fun p hp=>hpd p (mem_alive.1 hp).1,H⟩
  · have:=ready_mono hj hji;rw[H.1]at this;cases this
 |succ fuel ih=>
  intro pd listed a w hfree hr hy hS hpd H;refine⟨fun h=>(by rw[h]at hr;cases hr),fun j hj=>?_⟩;by_cases hji:j=i
  · subst hji;exact hy.wpOp hi hS ⟨fun p hp=>hpd p (mem_alive.1 hp).1,wpAnyP_weak _ (drop pd) _ _ _ H⟩
  · have h1:=H.2 j (ready_mono hj hji);obtain⟨hjun,oj,hoj,hall⟩:=mem_ready.1 hj;have hnot:∀e∈oj.after,Region.binds .any e=true->e.on≠i:=fun e he hb heq=>by
     have h1:=hall e he hb;have h0:=(mem_ready.1 hr).1;rw[heq]at h1;rcases Nat.lt_or_ge i listed.size with h'|h'
     · simp[h']at h0 h1;rw[h0]at h1;cases h1
     · simp[Array.getElem?_eq_none h']at h1
    have hwait:waitsO oj i=false:=by
     unfold waitsO;rw[List.any_eq_false];intro e he h;rw[Yp]at h;exact hnot e (by simpa using he) h.1 (YK h.2)
    have hal:Go.Proofs.YtblgnefkgkchhaaGreatDoor.alive ops j ((i,S)::pd)=(i,S)::Go.Proofs.YtblgnefkgkchhaaGreatDoor.alive ops j pd:=by
     unfold Go.Proofs.YtblgnefkgkchhaaGreatDoor.alive;rw[hoj];simp[List.filter_cons,hwait]
    have h2:=wpOp_putIf hoj (hfree j oj hoj hji hjun hnot) (fun cs b=>hsel i oi cs b hi) (fun cs b=>hsel j oj cs b hoj) hQ hy h1
    have hfree':∀k ok,ops[k]?=some ok->k≠i->(listed.setIfInBounds j true).getD k true=false->
     (∀e∈ok.after,Region.binds .any e=true->e.on≠i)->oi.apart ops ok=true:=fun k ok hk hki hun hno=>by
     refine hfree k ok hk hki ?_ hno;by_cases hjk:j=k
     · subst hjk;exact hjun
     · rw[getD_set_ne true hjk]at hun;exact hun
    refine wpOp_mono (fun a' w' h3=>?_) h2;obtain⟨h31,h32,h33⟩:=h3;rw[hal]at h32 h33;have hpd':∀p∈Go.Proofs.YtblgnefkgkchhaaGreatDoor.alive ops j pd,p.2 w':=fun p hp=>h32 p (Y3 _ hp)
    refine⟨hpd',ih _ (listed.setIfInBounds j true) a' w' hfree' (ready_mono hr (Ne.symm hji)) h31 (h32 _ (List.mem_cons_self ..)) hpd' ?_⟩;rw[Array.setIfInBounds_comm _ _ hji];exact h33
end
section
variable {P:Program} {ops:Array Oper} {Q:Exit->Act->World->Prop}
end
abbrev Kap:=List (Nat×List Nat)
def pendOf (γ:Nat->Value) (own:List (Nat×Box)) (w:World) (κ:Kap):Pend:=κ.map fun p=>(p.1,fun x=>SameOn (vis p.2 γ own) w x)
theorem pendOf_at {γ:Nat->Value} {own:List (Nat×Box)} {w:World} {κ:Kap}:∀p∈pendOf γ own w κ,p.2 w:=fun p hp=>by
 obtain⟨q,_,rfl⟩:=Y1.1 hp;exact SameOn.refl _ _
def kapB (o:Oper) (κ:Kap):Kap:=κ.filter fun p=>!waitsO o p.1
section
variable {P:Program} {ops:List Oper} {κ:Kap} {st:St} {Q:St->Prop} {i:Nat} {r:List (Nat×Bool)} {o:Oper}
end
section
variable {α:Type}
def fNat (n:Nat) (k:Nat->α):α:=match n with
 |0=>k 0
 | .succ m=>k (.succ m)
theorem fNat_eq (n:Nat) (k:Nat->α):fNat n k=k n:=by cases n<;>rfl
def fInt (n:Int) (k:Int->α):α:=match n with
 | .ofNat a=>fNat a fun a=>k (.ofNat a)
 | .negSucc a=>fNat a fun a=>k (.negSucc a)
theorem fInt_eq (n:Int) (k:Int->α):fInt n k=k n:=by cases n<;>simp[fInt,fNat_eq]
def fBool (b:Bool) (k:Bool->α):α:=match b with
 |true=>k true
 |false=>k false
theorem fBool_eq (b:Bool) (k:Bool->α):fBool b k=k b:=by cases b<;>rfl
def fList {β:Type}:List β->(List β->α)->α
 |[],k=>k []
 |x::r,k=>fList r fun r=>k (x::r)
theorem fList_eq {β:Type}:∀(l:List β) (k:List β->α),fList l k=k l
 |[],k=>rfl
 |x::r,k=>by rw[fList,fList_eq r]
def fStr (s:DT) (k:DT->α):α:=match s with
 |⟨⟨l⟩⟩=>fList l fun l=>k ⟨⟨l⟩⟩
theorem fStr_eq (s:DT) (k:DT->α):fStr s k=k s:=by
 obtain⟨⟨l⟩⟩:=s;simp[fStr,fList_eq]
def fVal (v:Value) (k:Value->α):α:=match v with
 | .int q n=>fInt n fun n=>k (.int q n)
 | .bool b=>fBool b fun b=>k (.bool b)
 | .string s=>fStr s fun s=>k (.string s)
 |v=>k v
theorem fVal_eq (v:Value) (k:Value->α):fVal v k=k v:=by
 cases v<;>simp[fVal,fInt_eq,fBool_eq,fStr_eq]
def fLeaf (p:PV) (k:PV->α):α:=match p with
 | .v x=>fVal x fun x=>k (.v x)
 |p=>k p
theorem fLeaf_eq (p:PV) (k:PV->α):fLeaf p k=k p:=by cases p<;>simp[fLeaf,fVal_eq]
def fLeafs:List PV->(List PV->α)->α
 |[],k=>k []
 |p::r,k=>fLeaf p fun p=>fLeafs r fun r=>k (p::r)
theorem fLeafs_eq:∀(l:List PV) (k:List PV->α),fLeafs l k=k l
 |[],k=>rfl
 |p::r,k=>by rw[fLeafs,fLeaf_eq,fLeafs_eq r]
def fPV (p:PV) (k:PV->α):α:=match p with
 | .v x=>fVal x fun x=>k (.v x)
 | .agg cs=>fLeafs cs fun cs=>k (.agg cs)
 | .rp cs=>fLeafs cs fun cs=>k (.rp cs)
 | .sl z l=>fList l fun l=>k (.sl z l)
 |p=>k p
theorem fPV_eq (p:PV) (k:PV->α):fPV p k=k p:=by cases p<;>simp[fPV,fVal_eq,fLeafs_eq,fList_eq]
def fOne (s:SV) (k:SV->α):α:=match s with
 | .p x=>fPV x fun x=>k (.p x)
 | .ptr i o=>fNat i fun i=>fNat o fun o=>k (.ptr i o)
 | .eptr i z x o=>fNat x fun x=>fNat o fun o=>k (.eptr i z x o)
 | .view i z lo hi=>fNat lo fun lo=>fNat hi fun hi=>k (.view i z lo hi)
 |s=>k s
theorem fOne_eq (s:SV) (k:SV->α):fOne s k=k s:=by cases s<;>simp[fOne,fPV_eq,fNat_eq]
def fOnes:List SV->(List SV->α)->α
 |[],k=>k []
 |s::r,k=>fOne s fun s=>fOnes r fun r=>k (s::r)
theorem fOnes_eq:∀(l:List SV) (k:List SV->α),fOnes l k=k l
 |[],k=>rfl
 |s::r,k=>by rw[fOnes,fOne_eq,fOnes_eq r]
def fMid (s:SV) (k:SV->α):α:=match s with
 | .agg cs=>fOnes cs fun cs=>k (.agg cs)
 | .fn f cs=>fOnes cs fun cs=>k (.fn f cs)
 |s=>fOne s k
theorem fMid_eq (s:SV) (k:SV->α):fMid s k=k s:=by cases s<;>simp[fMid,fOne_eq,fOnes_eq]
def fMids:List SV->(List SV->α)->α
 |[],k=>k []
 |s::r,k=>fMid s fun s=>fMids r fun r=>k (s::r)
theorem fMids_eq:∀(l:List SV) (k:List SV->α),fMids l k=k l
 |[],k=>rfl
 |s::r,k=>by rw[fMids,fMid_eq,fMids_eq r]
def fSV (s:SV) (k:SV->α):α:=match s with
 | .tup cs=>fMids cs fun cs=>k (.tup cs)
 |s=>fMid s k
theorem fSV_eq (s:SV) (k:SV->α):fSV s k=k s:=by cases s<;>simp[fSV,fMid_eq,fMids_eq]
end
noncomputable def lkF {α:Type} (t:Nat) (l:List (Nat×α)):Option α:=@List.rec (Nat×α) (fun _=>Option α) none (fun p _ ih=>@Prod.rec Nat α (fun _=>Option α) (fun u s=>@Bool.rec (fun _=>Option α) ih (some s) (Nat.beq t u)) p) l
theorem lkF_eq {α:Type} (t:Nat):∀l:List (Nat×α),lkF t l=lk t l
 |[]=>rfl
 |(u,s)::r=>by
  have ih:=lkF_eq t r;unfold lkF at ih⊢;rw[lk];show@Bool.rec (fun _=>Option α) _ _ _=_;cases h:Nat.beq t u<;>simp[ih]
noncomputable section
def rLoadC (st:St) (a:Option SV):Bool:=match a with
 |some (.eptr j _ k _)=>(match lkF j st.own with
  |some (.row _ _ l)=>Nat.blt k l.length
  |_=>false)
 |_=>true
section
variable {β:Type}
def goF (r:Option (Prop×SV)) (c:Bool) (k:SV->Option β):Option β:=match r with
 |some (_,s)=>bif c then fSV s k else none
 |none=>none
def byteOf:List PV->Option UInt8
 |[.v (.int .u8 n)]=>some (UInt8.ofNat n.toNat)
 |_=>none
def bytesOf:List (List PV)->Option (List UInt8)
 |[]=>some []
 |c::r=>match byteOf c with
  |some b=>match bytesOf r with
   |some l=>some (b::l)
   |none=>none
  |none=>none
def eText (T:TT) (s d:TypeId) (l:List (List PV)) (k:SV->Option β):Option β:=match lkF s T,lkF d T with
 |some ⟨_,_,.sl e,_,_⟩,some ⟨_,_,.str,_,_⟩=>(match lkF e T,bytesOf l with
  |some ⟨_,_,.int .u8,_,_⟩,some bs=>fList bs fun bs=>k (.p (.v (.string ⟨⟨bs⟩⟩)))
  |_,_=>none)
 |_,_=>none
def eConv (T:TT) (K:List Nat) (st:St) (s d:TypeId) (a:Option SV) (k:SV->Option β):Option β:=match a with
 |some (.p (.sl _ l))=>eText T s d l k
 |some (.p (.v (.slice none 0 0)))=>eText T s d [] k
 |some (.row j)=>bif K.contains j then none else(match lkF j st.own with
  |some (.row _ _ l)=>eText T s d l k
  |_=>none)
 |a=>goF (rConv T s d a) true k
end
def mem (i:Nat):List Nat->Bool
 |[]=>false
 |j::r=>bif Nat.beq i j then true else mem i r
mutual
def refs:SV->List Nat
 | .p _=>[]
 | .junk=>[]
 | .row i=>[i]
 | .ptr i _=>[i]
 | .eptr i _ _ _=>[i]
 | .view i _ _ _=>[i]
 | .agg cs=>refss cs
 | .tup cs=>refss cs
 | .fn _ cs=>refss cs
def refss:List SV->List Nat
 |[]=>[]
 |s::r=>refs s++refss r
end
section
variable {α:Type}
end
section
variable {β:Type}
structure FnI where
 n:Nat
 c:Code
 ts:List ResultVar
 ords:List (Nat×List (Nat×Bool))
structure Cx where
 T:TT
 F:List (FuncId×FnI)
 C:FuncId->List PV->Option SV
abbrev Ret:=Option (SV×List (Nat×Box))
end
def lent:List (Nat×Box)->List Nat
 |[]=>[]
 |(i,_)::r=>bif Nat.ble 1000000 i then i::lent r else lent r
def resO (T:TT) (st:St):ResultVar->Option SV
 | .tmp t=>lk t st.fr
 | .cell a t=>match rLoad T [] st t (lk a st.fr),lk a st.fr with
   |some (_,s),some (.ptr _ _)=>some s
   |_,_=>none
def resOs (T:TT) (st:St):List ResultVar->Option (List SV)
 |[]=>some []
 |t::r=>match resO T st t with
  |some s=>match resOs T st r with
   |some l=>some (s::l)
   |none=>none
  |none=>none
def resC (T:TT) (st:St):List ResultVar->Option SV
 |[t]=>resO T st t
 |ts=>match resOs T st ts with
  |some l=>some (.tup l)
  |none=>none
def chkR (ords:List (Nat×List (Nat×Bool))) (id:Nat) (ops:Array Oper):Bool:=match lk id ords with
 |some od=>Region.noSelect ops&&(qaQ .any ops od (Array.replicate ops.size false)&&od.length==ops.size)
 |none=>true
def chkC (ords:List (Nat×List (Nat×Bool))):Code->Bool
 | .region id ops true=>chkR ords id ops
 | .seq a b=>chkC ords a&&chkC ords b
 | .cond _ a b=>chkC ords a&&chkC ords b
 | .block _ b=>chkC ords b
 | .loop b=>chkC ords b
 | .scope b=>chkC ords b
 |_=>true
end
end
end Go.Proofs.YtblgnefkgkchhaaGreatDoor
