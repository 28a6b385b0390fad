/- The program has these functions. -/
import Derived.Test.YtopngokkgogolaaKGf0
import Derived.Test.YtopngokkgogolaaKGf1
import Derived.Test.YtopngokkgogolaaProg
import Derived.KernelRfl
set_option linter.unusedVariables false
set_option linter.unusedSimpArgs false
namespace Go.VS
open Go.Proofs.Try
variable{kp:Value→Prop}
abbrev ZH2(kp:Value→Prop)(A:AFn):=Has (⟨prog,kp⟩:Pg) A
theorem ZO2{A:AFn}(i:Nat)(g:Func)(h1:Yb (⟨prog,kp⟩:Pg) A.name i=true:=by kernel_rfl)(h2:prog.funcs[i]?=some g:=by kernel_rfl)(h3:(g.name== "runtime.NumGoroutine")=false:=by kernel_rfl)(h4:A.np≤g.ntmps:=by decide)(h5:G4 (⟨prog,kp⟩:Pg) g.results.toList=some A.res:=by kernel_rfl)(h6:g.body.bind (codeOf (⟨prog,kp⟩:Pg) g.ntmps)=some A.code:=by kernel_rfl):ZH2 kp A:=BD i g h1 h2 h3 h4 h5 h6
theorem K3:ZH2 kp Dx:=ZO2 28 f28
theorem Jr:ZH2 kp CQ:=ZO2 29 f29
theorem Jq:ZH2 kp CP:=ZO2 36 f36
theorem Iw:ZH2 kp CB:=ZO2 34 f34
theorem Gp:ZH2 kp BM:=ZO2 27 f27
theorem HJ:ZH2 kp Cj:=ZO2 18 f18
theorem OK:ZH2 kp Fb:=ZO2 10 f10
theorem OJ:ZH2 kp Fa:=ZO2 4 f4
theorem Jp:ZH2 kp CO:=ZO2 7 f7
theorem Qa:ZH2 kp FI:=ZO2 5 f5
end Go.VS
