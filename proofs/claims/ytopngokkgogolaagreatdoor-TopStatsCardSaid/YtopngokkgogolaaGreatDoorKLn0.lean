/- The program has these functions. -/
import Derived.Test.YtopngokkgogolaaGreatDoorKGf0
import Derived.Test.YtopngokkgogolaaGreatDoorKGf1
import Derived.Test.YtopngokkgogolaaGreatDoorKGf2
import Derived.Test.YtopngokkgogolaaGreatDoorProg
import Derived.KernelRfl
set_option linter.unusedVariables false
set_option linter.unusedSimpArgs false
namespace Go.VS
open Go.Proofs.Tryz
variable{kp:Value→Prop}
theorem zN0:ndP prog=true:=by kernel_rfl
abbrev zH0(kp:Value→Prop)(A:AnF):=Has (⟨prog,kp⟩:Pg) (A.A prog)
theorem zO0{F:AnF}(g:Func)(h1:g.name=F.nm:=by kernel_rfl)(h2:prog.funcs[F.i]?=some g:=by kernel_rfl)(h3:(g.name== "runtime.NumGoroutine")=false:=by kernel_rfl)(h4:F.np≤g.ntmps:=by decide)(h5:LQ (⟨prog,kp⟩:Pg) g.results.toList=some F.res:=by kernel_rfl)(h6:(g.body.bind (codeOf (⟨prog,kp⟩:Pg).toProgram g.ntmps)).isSome=true:=by kernel_rfl):zH0 kp F:=ArB zN0 g h1 h2 h3 h4 h5 h6
theorem Aiw:zH0 kp Ps:=zO0 f8
theorem AkT:zH0 kp Rp:=zO0 f36
theorem Y7:zH0 kp IH:=zO0 f34
theorem Sl:zH0 kp F7:=zO0 f113
theorem Sk:zH0 kp F6:=zO0 f118
theorem Sm:zH0 kp F8:=zO0 f49
theorem Xz:zH0 kp Hz:=zO0 f206
theorem XA:zH0 kp HA:=zO0 f209
theorem D5:zH0 kp A7:=zO0 f272
theorem D6:zH0 kp A8:=zO0 f272
theorem DD:zH0 kp A0:=zO0 f205
theorem DE:zH0 kp A4:=zO0 f205
theorem Sn:zH0 kp Hy:=zO0 f139
theorem UU:zH0 kp Hb:=zO0 f79
theorem AcX:zH0 kp Lr:=zO0 f210
theorem Aa2:zH0 kp Jq:=zO0 f136
theorem Nu:zH0 kp DH:=zO0 f271
theorem Lg:zH0 kp CL:=zO0 f203
theorem Dj:zH0 kp AY:=zO0 f204
theorem Vx:zH0 kp GQ:=zO0 f202
theorem C6:zH0 kp AU:=zO0 f137
theorem Y4:zH0 kp ID:=zO0 f134
theorem DG:zH0 kp A5:=zO0 f204
theorem Y3:zH0 kp IC:=zO0 f138
theorem Dg:zH0 kp AX:=zO0 f137
theorem Y5:zH0 kp IE:=zO0 f135
theorem AcS:zH0 kp Ln:=zO0 f69
theorem Afz:zH0 kp M4:=zO0 f95
theorem Afx:zH0 kp M3:=zO0 f35
theorem AcT:zH0 kp Lo:=zO0 f59
theorem Vw:zH0 kp GP:=zO0 f76
theorem Xs:zH0 kp Mi:=zO0 f70
theorem LM:zH0 kp Dm:=zO0 f78
theorem Sf:zH0 kp FY:=zO0 f77
theorem Lh:zH0 kp CN:=zO0 f140
theorem ML:zH0 kp Dp:=zO0 f71
theorem AfA:zH0 kp M5:=zO0 f37
theorem Aa4:zH0 kp Js:=zO0 f60
theorem Aa3:zH0 kp Jr:=zO0 f61
theorem AcU:zH0 kp Lp:=zO0 f17
theorem Za:zH0 kp IJ:=zO0 f110
theorem Q8:zH0 kp ER:=zO0 f112
theorem Sg:zH0 kp FZ:=zO0 f50
theorem NY:zH0 kp Ej:=zO0 f225
theorem Ud:zH0 kp F0:=zO0 f279
theorem Zc:zH0 kp IL:=zO0 f224
theorem KI:zH0 kp CS:=zO0 f151
theorem LN:zH0 kp Dn:=zO0 f90
theorem KJ:zH0 kp CT:=zO0 f150
theorem Uf:zH0 kp F5:=zO0 f223
theorem Aa8:zH0 kp Ju:=zO0 f149
theorem Q4:zH0 kp G3:=zO0 f289
theorem OT:zH0 kp FB:=zO0 f258
theorem P5:zH0 kp Gt:=zO0 f287
theorem N8:zH0 kp Fm:=zO0 f319
theorem P6:zH0 kp Gu:=zO0 f320
theorem Q5:zH0 kp G4:=zO0 f257
theorem Ld:zH0 kp Eg:=zO0 f321
theorem Uc:zH0 kp Io:=zO0 f350
theorem P7:zH0 kp Gv:=zO0 f351
theorem Q6:zH0 kp G5:=zO0 f349
theorem N9:zH0 kp Fo:=zO0 f340
theorem OU:zH0 kp FC:=zO0 f288
theorem KF:zH0 kp DV:=zO0 f256
theorem Nt:zH0 kp EP:=zO0 f191
theorem AfB:zH0 kp Qw:=zO0 f18
theorem Afy:zH0 kp Qv:=zO0 f62
theorem Vy:zH0 kp Jf:=zO0 f20
theorem Sj:zH0 kp Hu:=zO0 f63
theorem Sc:zH0 kp Ho:=zO0 f125
theorem MK:zH0 kp EC:=zO0 f194
theorem Lc:zH0 kp Ef:=zO0 f195
theorem Kz:zH0 kp DT:=zO0 f261
theorem KE:zH0 kp DU:=zO0 f262
theorem Xt:zH0 kp JW:=zO0 f192
theorem Y9:zH0 kp LX:=zO0 f259
theorem Aa6:zH0 kp M6:=zO0 f290
theorem VB:zH0 kp Ji:=zO0 f322
theorem VA:zH0 kp Jh:=zO0 f193
theorem Xu:zH0 kp JX:=zO0 f260
theorem Hm:zH0 kp Cw:=zO0 f64
theorem Vz:zH0 kp Jg:=zO0 f86
theorem Df:zH0 kp Bw:=zO0 f126
theorem DF:zH0 kp Bz:=zO0 f196
theorem Si:zH0 kp Ht:=zO0 f65
theorem QZ:zH0 kp G2:=zO0 f66
theorem Aa7:zH0 kp M7:=zO0 f129
theorem Sd:zH0 kp Hp:=zO0 f199
theorem P4:zH0 kp Gs:=zO0 f263
theorem Zd:zH0 kp LY:=zO0 f200
theorem Lf:zH0 kp Eh:=zO0 f266
theorem OV:zH0 kp FD:=zO0 f265
theorem Se:zH0 kp Hr:=zO0 f291
theorem Oa:zH0 kp Fp:=zO0 f267
theorem Oc:zH0 kp Fq:=zO0 f268
theorem Xx:zH0 kp JY:=zO0 f264
theorem AcV:zH0 kp Oe:=zO0 f130
theorem Xv:zH0 kp Hv:=zO0 f156
theorem Ue:zH0 kp F4:=zO0 f311
theorem Xw:zH0 kp Hw:=zO0 f281
theorem Zb:zH0 kp IK:=zO0 f230
theorem Y6:zH0 kp IG:=zO0 f157
theorem Aa5:zH0 kp Jt:=zO0 f92
theorem VC:zH0 kp GR:=zO0 f31
theorem VE:zH0 kp GV:=zO0 f234
theorem Ug:zH0 kp F9:=zO0 f160
theorem XC:zH0 kp HC:=zO0 f94
theorem XB:zH0 kp HB:=zO0 f30
theorem VD:zH0 kp GS:=zO0 f89
theorem Y8:zH0 kp II:=zO0 f32
theorem Vv:zH0 kp GO:=zO0 f23
theorem Aa9:zH0 kp Jv:=zO0 f88
theorem Ze:zH0 kp IM:=zO0 f29
theorem Xr:zH0 kp Hs:=zO0 f24
theorem AcW:zH0 kp Lq:=zO0 f33
theorem Xy:zH0 kp Hx:=zO0 f6
end Go.VS
