/- The program has these functions. -/
import Derived.Test.YtfkfmokccekccaaGreatDoorKGf0
import Derived.Test.YtfkfmokccekccaaGreatDoorKGf1
import Derived.Test.YtfkfmokccekccaaGreatDoorKGf2
import Derived.Test.YtfkfmokccekccaaGreatDoorKGf3
import Derived.Test.YtfkfmokccekccaaGreatDoorProg
import Derived.KernelRfl
set_option linter.unusedVariables false
set_option linter.unusedSimpArgs false
namespace Go.VS
open Go.Proofs.Tryz
variable{kp:Value→Prop}
abbrev ZH0(kp:Value→Prop)(A:AFn):=Has (⟨prog,kp⟩:Pg) A
theorem ZO0{A:AFn}(i:Nat)(g:Func)(h1:AlR (⟨prog,kp⟩:Pg) A.name i=true:=by kernel_rfl)(h2:prog.funcs[i]?=some g:=by kernel_rfl)(h3:(g.name== "runtime.NumGoroutine")=false:=by kernel_rfl)(h4:A.np≤g.ntmps:=by decide)(h5:Ki (⟨prog,kp⟩:Pg) g.results.toList=some A.res:=by kernel_rfl)(h6:g.body.bind (codeOf (⟨prog,kp⟩:Pg) g.ntmps)=some A.code:=by kernel_rfl):ZH0 kp A:=Ay i g h1 h2 h3 h4 h5 h6
theorem Agb:ZH0 kp NZ:=ZO0 9 f9
theorem QH:ZH0 kp EB:=ZO0 121 f121
theorem Aik:ZH0 kp P5:=ZO0 32 f32
theorem WQ:ZH0 kp Hd:=ZO0 69 f69
theorem Zq:ZH0 kp Ij:=ZO0 166 f166
theorem Zp:ZH0 kp Ii:=ZO0 124 f124
theorem Zr:ZH0 kp Ik:=ZO0 82 f82
theorem Vj:ZH0 kp F8:=ZO0 148 f148
theorem Vk:ZH0 kp F9:=ZO0 151 f151
theorem Ds:ZH0 kp A0:=ZO0 184 f184
theorem Dt:ZH0 kp A1:=ZO0 184 f184
theorem C9:ZH0 kp AW:=ZO0 147 f147
theorem Da:ZH0 kp AX:=ZO0 147 f147
theorem QJ:ZH0 kp F7:=ZO0 107 f107
theorem WY:ZH0 kp Hk:=ZO0 122 f122
theorem WO:ZH0 kp Hc:=ZO0 123 f123
theorem O4:ZH0 kp Fc:=ZO0 79 f79
theorem Aa9:ZH0 kp JS:=ZO0 59 f59
theorem Zl:ZH0 kp Ic:=ZO0 42 f42
theorem Aba:ZH0 kp JT:=ZO0 70 f70
theorem WZ:ZH0 kp Hl:=ZO0 85 f85
theorem W7:ZH0 kp Hn:=ZO0 127 f127
theorem Zd:ZH0 kp H4:=ZO0 104 f104
theorem L7:ZH0 kp Dd:=ZO0 183 f183
theorem JG:ZH0 kp CE:=ZO0 145 f145
theorem Aa8:ZH0 kp JR:=ZO0 126 f126
theorem CY:ZH0 kp AP:=ZO0 146 f146
theorem Tn:ZH0 kp FB:=ZO0 144 f144
end Go.VS
