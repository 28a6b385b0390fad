/- The program has these functions. -/
import Derived.Test.YtopngokkgogolaaGreatDoorKGf0
import Derived.Test.YtopngokkgogolaaGreatDoorKGf1
import Derived.Test.YtopngokkgogolaaGreatDoorKGf2
import Derived.Test.YtopngokkgogolaaGreatDoorProg
import Derived.KernelRfl
set_option linter.unusedVariables false
set_option linter.unusedSimpArgs false
namespace Go.VS
open Go.Proofs.Tryz
variable{kp:Value→Prop}
abbrev zH1(kp:Value→Prop)(A:AFn):=Has (⟨prog,kp⟩:Pg) A
theorem zO1{A:AFn}(i:Nat)(g:Func)(h1:Alz (⟨prog,kp⟩:Pg) A.name i=true:=by kernel_rfl)(h2:prog.funcs[i]?=some g:=by kernel_rfl)(h3:(g.name== "runtime.NumGoroutine")=false:=by kernel_rfl)(h4:A.np≤g.ntmps:=by decide)(h5:MQ (⟨prog,kp⟩:Pg) g.results.toList=some A.res:=by kernel_rfl)(h6:g.body.bind (codeOf (⟨prog,kp⟩:Pg) g.ntmps)=some A.code:=by kernel_rfl):zH1 kp A:=Au i g h1 h2 h3 h4 h5 h6
theorem LG:zH1 kp Dx:=zO1 78 f78
theorem RE:zH1 kp FX:=zO1 77 f77
theorem UO:zH1 kp GN:=zO1 23 f23
theorem NU:zH1 kp Eh:=zO1 86 f86
theorem Lb:zH1 kp CX:=zO1 140 f140
theorem ME:zH1 kp Dy:=zO1 71 f71
theorem TD:zH1 kp FY:=zO1 27 f27
theorem PL:zH1 kp Ex:=zO1 85 f85
theorem Du:zH1 kp AZ:=zO1 196 f196
theorem Db:zH1 kp AW:=zO1 126 f126
theorem GI:zH1 kp BV:=zO1 64 f64
theorem RH:zH1 kp Fu:=zO1 26 f26
theorem AdH:zH1 kp M0:=zO1 37 f37
theorem ZA:zH1 kp Js:=zO1 60 f60
theorem Zz:zH1 kp Jr:=zO1 61 f61
theorem Abg:zH1 kp Lk:=zO1 17 f17
theorem UW:zH1 kp GQ:=zO1 5 f5
theorem QC:zH1 kp G1:=zO1 289 f289
theorem OE:zH1 kp FA:=zO1 258 f258
theorem PN:zH1 kp Gu:=zO1 287 f287
theorem N5:zH1 kp Fi:=zO1 319 f319
theorem PO:zH1 kp Gv:=zO1 320 f320
theorem QD:zH1 kp G2:=zO1 257 f257
theorem K8:zH1 kp Ed:=zO1 321 f321
theorem TE:zH1 kp Ih:=zO1 350 f350
theorem PQ:zH1 kp Gw:=zO1 351 f351
theorem QE:zH1 kp G3:=zO1 349 f349
theorem N6:zH1 kp Fj:=zO1 340 f340
theorem OG:zH1 kp FB:=zO1 288 f288
theorem Kp:zH1 kp D0:=zO1 256 f256
theorem Nn:zH1 kp EL:=zO1 191 f191
theorem AdI:zH1 kp Qe:=zO1 18 f18
theorem AdF:zH1 kp Qd:=zO1 62 f62
theorem UR:zH1 kp I7:=zO1 20 f20
end Go.VS
