/- The program has these functions. -/
import Derived.Test.YtfkfmokccekccaaGreatDoorKGf0
import Derived.Test.YtfkfmokccekccaaGreatDoorKGf1
import Derived.Test.YtfkfmokccekccaaGreatDoorKGf2
import Derived.Test.YtfkfmokccekccaaGreatDoorKGf3
import Derived.Test.YtfkfmokccekccaaGreatDoorProg
import Derived.KernelRfl
set_option linter.unusedVariables false
set_option linter.unusedSimpArgs false
namespace Go.VS
open Go.Proofs.Tryz
variable{kp:Value→Prop}
abbrev ZH2(kp:Value→Prop)(A:AFn):=Has (⟨prog,kp⟩:Pg) A
theorem ZO2{A:AFn}(i:Nat)(g:Func)(h1:AlR (⟨prog,kp⟩:Pg) A.name i=true:=by kernel_rfl)(h2:prog.funcs[i]?=some g:=by kernel_rfl)(h3:(g.name== "runtime.NumGoroutine")=false:=by kernel_rfl)(h4:A.np≤g.ntmps:=by decide)(h5:Ki (⟨prog,kp⟩:Pg) g.results.toList=some A.res:=by kernel_rfl)(h6:g.body.bind (codeOf (⟨prog,kp⟩:Pg) g.ntmps)=some A.code:=by kernel_rfl):ZH2 kp A:=Ay i g h1 h2 h3 h4 h5 h6
theorem Zg:ZH2 kp H7:=ZO2 97 f97
theorem To:ZH2 kp FC:=ZO2 141 f141
theorem RZ:ZH2 kp EX:=ZO2 99 f99
theorem Xd:ZH2 kp Ht:=ZO2 63 f63
theorem PA:ZH2 kp D5:=ZO2 139 f139
theorem QI:ZH2 kp EC:=ZO2 98 f98
theorem PB:ZH2 kp D6:=ZO2 138 f138
theorem R6:ZH2 kp EY:=ZO2 62 f62
theorem Zm:ZH2 kp Ie:=ZO2 23 f23
theorem WU:ZH2 kp Hg:=ZO2 180 f180
theorem WT:ZH2 kp Hf:=ZO2 179 f179
theorem Aa7:ZH2 kp JQ:=ZO2 142 f142
theorem AdA:ZH2 kp LO:=ZO2 101 f101
theorem Zi:ZH2 kp H9:=ZO2 65 f65
theorem Zh:ZH2 kp H8:=ZO2 182 f182
theorem WX:ZH2 kp Hj:=ZO2 181 f181
theorem Zj:ZH2 kp Ia:=ZO2 143 f143
theorem WW:ZH2 kp Hi:=ZO2 100 f100
theorem WV:ZH2 kp Hh:=ZO2 64 f64
theorem Xa:ZH2 kp Hq:=ZO2 24 f24
theorem Aa6:ZH2 kp JP:=ZO2 30 f30
theorem Zn:ZH2 kp Ig:=ZO2 25 f25
theorem Xb:ZH2 kp Hr:=ZO2 27 f27
theorem Xe:ZH2 kp Hu:=ZO2 28 f28
theorem Aij:ZH2 kp P4:=ZO2 67 f67
theorem Vh:ZH2 kp F5:=ZO2 29 f29
theorem Pz:ZH2 kp D4:=ZO2 5 f5
end Go.VS
