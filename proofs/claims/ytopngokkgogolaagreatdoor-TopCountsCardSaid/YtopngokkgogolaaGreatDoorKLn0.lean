/- The program has these functions. -/
import Derived.Test.YtopngokkgogolaaGreatDoorKGf0
import Derived.Test.YtopngokkgogolaaGreatDoorKGf1
import Derived.Test.YtopngokkgogolaaGreatDoorKGf2
import Derived.Test.YtopngokkgogolaaGreatDoorProg
import Derived.KernelRfl
set_option linter.unusedVariables false
set_option linter.unusedSimpArgs false
namespace Go.VS
open Go.Proofs.Tryz
variable{kp:Value→Prop}
abbrev zH0(kp:Value→Prop)(A:AFn):=Has (⟨prog,kp⟩:Pg) A
theorem zO0{A:AFn}(i:Nat)(g:Func)(h1:Alz (⟨prog,kp⟩:Pg) A.name i=true:=by kernel_rfl)(h2:prog.funcs[i]?=some g:=by kernel_rfl)(h3:(g.name== "runtime.NumGoroutine")=false:=by kernel_rfl)(h4:A.np≤g.ntmps:=by decide)(h5:MQ (⟨prog,kp⟩:Pg) g.results.toList=some A.res:=by kernel_rfl)(h6:g.body.bind (codeOf (⟨prog,kp⟩:Pg) g.ntmps)=some A.code:=by kernel_rfl):zH0 kp A:=Au i g h1 h2 h3 h4 h5 h6
theorem Agf:zH0 kp Pj:=zO0 8 f8
theorem Aie:zH0 kp Q6:=zO0 36 f36
theorem XX:zH0 kp IB:=zO0 34 f34
theorem RN:zH0 kp F0:=zO0 113 f113
theorem RM:zH0 kp FZ:=zO0 118 f118
theorem Wi:zH0 kp Hs:=zO0 206 f206
theorem Wj:zH0 kp Ht:=zO0 209 f209
theorem D4:zH0 kp A7:=zO0 272 f272
theorem D5:zH0 kp A8:=zO0 272 f272
theorem DM:zH0 kp A1:=zO0 205 f205
theorem DN:zH0 kp A2:=zO0 205 f205
theorem RO:zH0 kp Hr:=zO0 139 f139
theorem ZC:zH0 kp Jt:=zO0 148 f148
theorem RG:zH0 kp Ft:=zO0 87 f87
theorem XW:zH0 kp IA:=zO0 28 f28
theorem Ur:zH0 kp Hb:=zO0 79 f79
theorem Abi:zH0 kp Ll:=zO0 210 f210
theorem Zy:zH0 kp Jq:=zO0 136 f136
theorem Np:zH0 kp DR:=zO0 271 f271
theorem La:zH0 kp CW:=zO0 203 f203
theorem Dv:zH0 kp A0:=zO0 204 f204
theorem UQ:zH0 kp GP:=zO0 202 f202
theorem Dc:zH0 kp AX:=zO0 137 f137
theorem XU:zH0 kp Iy:=zO0 134 f134
theorem DQ:zH0 kp A3:=zO0 204 f204
theorem XT:zH0 kp Iw:=zO0 138 f138
theorem Dr:zH0 kp AY:=zO0 137 f137
theorem XV:zH0 kp Iz:=zO0 135 f135
theorem Abd:zH0 kp Li:=zO0 69 f69
theorem AdG:zH0 kp MZ:=zO0 95 f95
theorem AdE:zH0 kp MY:=zO0 35 f35
theorem Abf:zH0 kp Lj:=zO0 59 f59
theorem UP:zH0 kp GO:=zO0 76 f76
theorem Abe:zH0 kp Oc:=zO0 70 f70
end Go.VS
