/- The program has these functions. -/
import Derived.Test.YtfkfmokccekccaaGreatDoorKGf0
import Derived.Test.YtfkfmokccekccaaGreatDoorKGf1
import Derived.Test.YtfkfmokccekccaaGreatDoorKGf2
import Derived.Test.YtfkfmokccekccaaGreatDoorKGf3
import Derived.Test.YtfkfmokccekccaaGreatDoorProg
import Derived.KernelRfl
set_option linter.unusedVariables false
set_option linter.unusedSimpArgs false
namespace Go.VS
open Go.Proofs.Tryz
variable{kp:Value→Prop}
abbrev ZH1(kp:Value→Prop)(A:AFn):=Has (⟨prog,kp⟩:Pg) A
theorem ZO1{A:AFn}(i:Nat)(g:Func)(h1:AlR (⟨prog,kp⟩:Pg) A.name i=true:=by kernel_rfl)(h2:prog.funcs[i]?=some g:=by kernel_rfl)(h3:(g.name== "runtime.NumGoroutine")=false:=by kernel_rfl)(h4:A.np≤g.ntmps:=by decide)(h5:Ki (⟨prog,kp⟩:Pg) g.results.toList=some A.res:=by kernel_rfl)(h6:g.body.bind (codeOf (⟨prog,kp⟩:Pg) g.ntmps)=some A.code:=by kernel_rfl):ZH1 kp A:=Ay i g h1 h2 h3 h4 h5 h6
theorem CJ:ZH1 kp AN:=ZO1 105 f105
theorem WL:ZH1 kp G9:=ZO1 102 f102
theorem Db:ZH1 kp AY:=ZO1 146 f146
theorem WK:ZH1 kp G8:=ZO1 106 f106
theorem CV:ZH1 kp AO:=ZO1 105 f105
theorem WM:ZH1 kp Ha:=ZO1 103 f103
theorem Aa3:ZH1 kp JM:=ZO1 66 f66
theorem W0:ZH1 kp Hm:=ZO1 84 f84
theorem Vg:ZH1 kp F4:=ZO1 51 f51
theorem Zk:ZH1 kp Ib:=ZO1 40 f40
theorem Ady:ZH1 kp LM:=ZO1 68 f68
theorem Adx:ZH1 kp LL:=ZO1 31 f31
theorem Aa4:ZH1 kp JN:=ZO1 26 f26
theorem QG:ZH1 kp EA:=ZO1 58 f58
theorem Adz:ZH1 kp LN:=ZO1 33 f33
theorem Zf:ZH1 kp H6:=ZO1 45 f45
theorem Ze:ZH1 kp H5:=ZO1 46 f46
theorem Aa5:ZH1 kp JO:=ZO1 13 f13
theorem W8:ZH1 kp Ho:=ZO1 49 f49
theorem W9:ZH1 kp Hp:=ZO1 50 f50
theorem Xc:ZH1 kp Hs:=ZO1 93 f93
theorem Xf:ZH1 kp Hv:=ZO1 88 f88
theorem Zo:ZH1 kp Ih:=ZO1 128 f128
theorem AdC:ZH1 kp LQ:=ZO1 89 f89
theorem AdB:ZH1 kp LP:=ZO1 60 f60
theorem Xg:ZH1 kp Hw:=ZO1 90 f90
theorem WN:ZH1 kp Hb:=ZO1 22 f22
theorem WR:ZH1 kp He:=ZO1 80 f80
end Go.VS
