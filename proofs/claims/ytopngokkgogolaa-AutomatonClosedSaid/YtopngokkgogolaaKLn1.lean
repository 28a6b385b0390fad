/- The program has these functions. -/
import Derived.Test.YtopngokkgogolaaKGf0
import Derived.Test.YtopngokkgogolaaKGf1
import Derived.Test.YtopngokkgogolaaProg
import Derived.KernelRfl
set_option linter.unusedVariables false
set_option linter.unusedSimpArgs false
namespace Go.VS
open Go.Proofs.Try
variable{kp:Value→Prop}
abbrev ZH1(kp:Value→Prop)(A:AFn):=Has (⟨prog,kp⟩:Pg) A
theorem ZO1{A:AFn}(i:Nat)(g:Func)(h1:Yb (⟨prog,kp⟩:Pg) A.name i=true:=by kernel_rfl)(h2:prog.funcs[i]?=some g:=by kernel_rfl)(h3:(g.name== "runtime.NumGoroutine")=false:=by kernel_rfl)(h4:A.np≤g.ntmps:=by decide)(h5:G4 (⟨prog,kp⟩:Pg) g.results.toList=some A.res:=by kernel_rfl)(h6:g.body.bind (codeOf (⟨prog,kp⟩:Pg) g.ntmps)=some A.code:=by kernel_rfl):ZH1 kp A:=BD i g h1 h2 h3 h4 h5 h6
theorem ON:ZH1 kp Ff:=ZO1 30 f30
theorem Qb:ZH1 kp FJ:=ZO1 13 f13
theorem NG:ZH1 kp Ew:=ZO1 31 f31
theorem MP:ZH1 kp Ef:=ZO1 21 f21
theorem NF:ZH1 kp Ev:=ZO1 20 f20
theorem Hq:ZH1 kp Cd:=ZO1 22 f22
theorem K0:ZH1 kp Du:=ZO1 11 f11
theorem GL:ZH1 kp BA:=ZO1 23 f23
theorem Gm:ZH1 kp A2:=ZO1 32 f32
theorem Gn:ZH1 kp A3:=ZO1 33 f33
theorem K2:ZH1 kp Dw:=ZO1 17 f17
end Go.VS
