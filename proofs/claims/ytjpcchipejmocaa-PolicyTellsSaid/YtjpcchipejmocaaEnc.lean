/-
  Shades: how typed things are spelled as plain trees.
-/
import Derived.Test.YtjpcchipejmocaaSpec
import Derived.Test.YtjpcchipejmocaaTypes
namespace Go.Proofs.Ytjpcchipejmocaa
set_option linter.unusedVariables false
set_option linter.unusedSimpArgs false
open Go.RowKit
def Val.pv (x : Val) : List PV := [.v (.int .i64 x.kind), .v (.int .i64 x.n), .v (.string x.s)]
def Atr.pv (x : Atr) : List PV := [.v (.int .i64 x.cat), .v (.string x.name), .v (.bool x.must)]
def Mat.pv (x : Mat) : List PV := [.v (.int .i64 x.attr.cat), .v (.string x.attr.name), .v (.bool x.attr.must), .v (.int .i64 x.op), .v (.int .i64 x.val.kind), .v (.int .i64 x.val.n), .v (.string x.val.s)]
def valsP (l : List Val) : PV := .sl 3 (l.map Val.pv)
def Giv.pv (x : Giv) : List PV := [.v (.int .i64 x.cat), .v (.string x.name), valsP x.bag]
def givsP (l : List Giv) : PV := .sl 3 (l.map Giv.pv)
def matsP (l : List Mat) : PV := .sl 7 (l.map Mat.pv)
def anyP (l : List (List Mat)) : PV := .sl 1 (l.map fun x => [matsP x])
def tgtP (l : List (List (List Mat))) : PV := .sl 1 (l.map fun x => [anyP x])
abbrev pI (n : Int) : PV := .v (.int .i64 n)
abbrev pB (b : Bool) : PV := .v (.bool b)
abbrev pS (s : ByteArray) : PV := .v (.string s)
end Go.Proofs.Ytjpcchipejmocaa
