/- The program has these functions. -/
import Derived.Test.YtopngokkgogolaaKGf0
import Derived.Test.YtopngokkgogolaaKGf1
import Derived.Test.YtopngokkgogolaaProg
import Derived.KernelRfl
set_option linter.unusedVariables false
set_option linter.unusedSimpArgs false
namespace Go.VS
open Go.Proofs.Try
variable{kp:Value→Prop}
abbrev ZH0(kp:Value→Prop)(A:AFn):=Has (⟨prog,kp⟩:Pg) A
theorem ZO0{A:AFn}(i:Nat)(g:Func)(h1:Yb (⟨prog,kp⟩:Pg) A.name i=true:=by kernel_rfl)(h2:prog.funcs[i]?=some g:=by kernel_rfl)(h3:(g.name== "runtime.NumGoroutine")=false:=by kernel_rfl)(h4:A.np≤g.ntmps:=by decide)(h5:G4 (⟨prog,kp⟩:Pg) g.results.toList=some A.res:=by kernel_rfl)(h6:g.body.bind (codeOf (⟨prog,kp⟩:Pg) g.ntmps)=some A.code:=by kernel_rfl):ZH0 kp A:=BD i g h1 h2 h3 h4 h5 h6
theorem UD:ZH0 kp I1:=ZO0 6 f6
theorem V2:ZH0 kp Kq:=ZO0 15 f15
theorem Rg:ZH0 kp GQ:=ZO0 16 f16
theorem Rf:ZH0 kp GP:=ZO0 25 f25
theorem OL:ZH0 kp Fc:=ZO0 12 f12
theorem Jo:ZH0 kp CN:=ZO0 26 f26
theorem K1:ZH0 kp Dv:=ZO0 14 f14
theorem OM:ZH0 kp Fe:=ZO0 24 f24
theorem SF:ZH0 kp HC:=ZO0 8 f8
theorem MQ:ZH0 kp Eg:=ZO0 38 f38
theorem Qc:ZH0 kp FK:=ZO0 35 f35
end Go.VS
