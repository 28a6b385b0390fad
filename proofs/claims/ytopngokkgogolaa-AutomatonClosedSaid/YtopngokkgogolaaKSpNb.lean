/- Numbers in texts; bytes. -/
import Derived.Test.YtopngokkgogolaaKSpMod
set_option linter.unusedVariables false
set_option linter.unusedSimpArgs false
namespace Go.VS
variable{P:Pg}
abbrev Bs:=List UInt8
def byt(s:Bs)(a:Nat):Int:=((UInt8.toNat (List.getD s a 0):Nat):Int)
def isc(s:Bs)(a:Nat)(c:Int):Bool:=decide (a<s.length)&&(byt s a==c)
theorem V7{s:Bs}{a:Nat}{c:Int}:isc s a c=true↔a<s.length∧byt s a=c:=by simp[isc]
end Go.VS
