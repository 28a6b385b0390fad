/- The program has these functions. -/
import Derived.Test.YtopngokkgogolaaGreatDoorKGf0
import Derived.Test.YtopngokkgogolaaGreatDoorKGf1
import Derived.Test.YtopngokkgogolaaGreatDoorKGf2
import Derived.Test.YtopngokkgogolaaGreatDoorProg
import Derived.KernelRfl
set_option linter.unusedVariables false
set_option linter.unusedSimpArgs false
namespace Go.VS
open Go.Proofs.Tryz
variable{kp:Value→Prop}
abbrev zH2(kp:Value→Prop)(A:AFn):=Has (⟨prog,kp⟩:Pg) A
theorem zO2{A:AFn}(i:Nat)(g:Func)(h1:Alz (⟨prog,kp⟩:Pg) A.name i=true:=by kernel_rfl)(h2:prog.funcs[i]?=some g:=by kernel_rfl)(h3:(g.name== "runtime.NumGoroutine")=false:=by kernel_rfl)(h4:A.np≤g.ntmps:=by decide)(h5:MQ (⟨prog,kp⟩:Pg) g.results.toList=some A.res:=by kernel_rfl)(h6:g.body.bind (codeOf (⟨prog,kp⟩:Pg) g.ntmps)=some A.code:=by kernel_rfl):zH2 kp A:=Au i g h1 h2 h3 h4 h5 h6
theorem RJ:zH2 kp Hp:=zO2 63 f63
theorem RB:zH2 kp Hl:=zO2 125 f125
theorem MD:zH2 kp EA:=zO2 194 f194
theorem K7:zH2 kp Ec:=zO2 195 f195
theorem Kn:zH2 kp DY:=zO2 261 f261
theorem Ko:zH2 kp DZ:=zO2 262 f262
theorem We:zH2 kp JR:=zO2 192 f192
theorem XY:zH2 kp LW:=zO2 259 f259
theorem ZD:zH2 kp M3:=zO2 290 f290
theorem UT:zH2 kp I9:=zO2 322 f322
theorem US:zH2 kp I8:=zO2 193 f193
theorem Wg:zH2 kp JS:=zO2 260 f260
theorem Hk:zH2 kp CI:=zO2 64 f64
theorem Dq:zH2 kp Bn:=zO2 126 f126
theorem DO:zH2 kp Bw:=zO2 196 f196
theorem RI:zH2 kp Ho:=zO2 65 f65
theorem QB:zH2 kp G0:=zO2 66 f66
theorem ZB:zH2 kp M1:=zO2 50 f50
theorem ZE:zH2 kp M4:=zO2 129 f129
theorem RC:zH2 kp Hm:=zO2 199 f199
theorem PK:zH2 kp Gt:=zO2 263 f263
theorem XZ:zH2 kp LX:=zO2 200 f200
theorem K9:zH2 kp Ee:=zO2 266 f266
theorem OH:zH2 kp FC:=zO2 265 f265
theorem RD:zH2 kp Hn:=zO2 291 f291
theorem N7:zH2 kp Fk:=zO2 267 f267
theorem N8:zH2 kp Fl:=zO2 268 f268
theorem Wh:zH2 kp JT:=zO2 264 f264
theorem RL:zH2 kp Hq:=zO2 90 f90
theorem QG:zH2 kp G4:=zO2 151 f151
theorem UU:zH2 kp Ja:=zO2 225 f225
theorem QH:zH2 kp G5:=zO2 150 f150
theorem Abh:zH2 kp Od:=zO2 130 f130
theorem ZF:zH2 kp M5:=zO2 49 f49
end Go.VS
