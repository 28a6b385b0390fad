/- The contracts, each shown once. -/
import Derived.Test.YtopngokkgogolaaGreatDoorKS0
import Derived.Test.YtopngokkgogolaaGreatDoorKKShelf
import Derived.Test.YtopngokkgogolaaGreatDoorKKT
import Derived.Test.YtopngokkgogolaaGreatDoorKKW
import Derived.Test.YtopngokkgogolaaGreatDoorKKV
import Derived.Test.YtopngokkgogolaaGreatDoorKKM
import Derived.Test.YtopngokkgogolaaGreatDoorKKN
import Derived.Test.YtopngokkgogolaaGreatDoorKKX
import Derived.Test.YtopngokkgogolaaGreatDoorKKY
import Derived.Test.YtopngokkgogolaaGreatDoorKKZ
import Derived.Test.YtopngokkgogolaaGreatDoorKKRW
import Derived.Test.YtopngokkgogolaaGreatDoorKKRI
import Derived.Test.YtopngokkgogolaaGreatDoorKKPR
import Derived.Test.YtopngokkgogolaaGreatDoorKKFP
import Derived.Test.YtopngokkgogolaaGreatDoorKKFM
import Derived.Test.YtopngokkgogolaaGreatDoorKKDI
import Derived.Test.YtopngokkgogolaaGreatDoorKKSW
import Derived.Test.YtopngokkgogolaaGreatDoorKKSX
import Derived.Test.YtopngokkgogolaaGreatDoorKKSY
import Derived.Test.YtopngokkgogolaaGreatDoorKKNU
import Derived.Test.YtopngokkgogolaaGreatDoorKKNW
import Derived.Test.YtopngokkgogolaaGreatDoorKKNX
import Derived.Test.YtopngokkgogolaaGreatDoorKKNY
import Derived.Test.YtopngokkgogolaaGreatDoorKKNZ
import Derived.Test.YtopngokkgogolaaGreatDoorKKIA
import Derived.Test.YtopngokkgogolaaGreatDoorKKHP
import Derived.Test.YtopngokkgogolaaGreatDoorKKHQ
import Derived.Test.YtopngokkgogolaaGreatDoorKKHR
import Derived.Test.YtopngokkgogolaaGreatDoorKKGC
import Derived.Test.YtopngokkgogolaaGreatDoorKKWO
import Derived.Test.YtopngokkgogolaaGreatDoorKKWP
import Derived.Test.YtopngokkgogolaaGreatDoorKKRC
import Derived.Test.YtopngokkgogolaaGreatDoorKKCC
import Derived.Test.YtopngokkgogolaaGreatDoorKKCD
import Derived.Test.YtopngokkgogolaaGreatDoorKLn0
import Derived.Test.YtopngokkgogolaaGreatDoorKLn1
import Derived.Test.YtopngokkgogolaaGreatDoorKLn2
set_option linter.unusedVariables false
set_option linter.unusedSimpArgs false
namespace Go.Proofs.YtopngokkgogolaaGreatDoor.topCounts
open Go.VS Go.Proofs.YtopngokkgogolaaGreatDoor

theorem TM:PW (Pg.of Tryz.prog):=AnP Aie
theorem Sm:Na (Pg.of Tryz.prog):=AmE Agf
theorem YV:Ra (Pg.of Tryz.prog):=Ai3 AdG Sm
theorem AgD:Vr (Pg.of Tryz.prog):=Ai0 AdE TM Sm YV
theorem YU:Mp (Pg.of Tryz.prog):=Ai2 Abf TM AgD
theorem Ab3:Qj (Pg.of Tryz.prog):=Aeq XX
theorem AgG:Vu (Pg.of Tryz.prog):=Ai5 AdH TM YV Ab3
theorem Ad4:SQ (Pg.of Tryz.prog):=AgN ZA TM Sm AgG YU
theorem Aed:Ta (Pg.of Tryz.prog):=AgY Zz TM
theorem Ad6:SS (Pg.of Tryz.prog):=AgQ Abg TM Sm YU Ad4 Aed
theorem Akw:AcP (Pg.of Tryz.prog):=Amz Dv UQ
theorem Akz:AcS (Pg.of Tryz.prog):=AmC Dc Akw
theorem Ab2:Qi (Pg.of Tryz.prog):=Aep XU Akz
theorem AiF:Y9 (Pg.of Tryz.prog):=AkU Np
theorem AgE:Vs (Pg.of Tryz.prog):=Ai1 La AiF
theorem Ab4:Qk (Pg.of Tryz.prog):=Aes XV AgE
theorem Aee:Tb (Pg.of Tryz.prog):=AgZ Zy
theorem Akx:AcQ (Pg.of Tryz.prog):=AmA DQ XT
theorem AkA:AcT (Pg.of Tryz.prog):=AmD Dr Akx
theorem X3:Hz (Pg.of Tryz.prog):=Go.Proofs.Tryz.Zj (fun _=>False)
theorem AkB:AcV (Pg.of Tryz.prog):=AmF Wi X3
theorem AkD:AcX (Pg.of Tryz.prog):=AmH D4 AkB
theorem AkF:AcZ (Pg.of Tryz.prog):=AmJ DM AkD
theorem AbY:Ql (Pg.of Tryz.prog):=Go.Proofs.Tryz.AdQ
theorem UB:G8 (Pg.of Tryz.prog):=Go.Proofs.Tryz.Adp (fun _=>False)
theorem Sk:FK (Pg.of Tryz.prog):=Go.Proofs.Tryz.Acs (fun _=>False)
theorem Aec:S9 (Pg.of Tryz.prog):=AgX RN Sk
theorem Aeb:S8 (Pg.of Tryz.prog):=AgW RM UB Aec
theorem AkC:AcW (Pg.of Tryz.prog):=AmG Wj Aeb
theorem AkE:AcY (Pg.of Tryz.prog):=AmI D5 AkC
theorem AkG:Ac0 (Pg.of Tryz.prog):=AmK DN AkE
theorem P6:F5 (Pg.of Tryz.prog):=Aaa RO AkF AbY AkG
theorem WW:LZ (Pg.of Tryz.prog):=X6 RO P6
theorem Sl:Lw (Pg.of Tryz.prog):=Aco Abd Ab2 Ab4 Aee AkA WW
theorem Aky:AcR (Pg.of Tryz.prog):=AmB Abe
theorem Ab1:Qh (Pg.of Tryz.prog):=Aeo Lb
theorem ZZ:Oi (Pg.of Tryz.prog):=Acn ME Ab1
theorem WU:Mr (Pg.of Tryz.prog):=Go.Proofs.Tryz.Aix Sl Aky ZZ
theorem UD:Nb (Pg.of Tryz.prog):=Aer LG
theorem AgI:Vw (Pg.of Tryz.prog):=Ai7 Abi P6
theorem YT:Oj (Pg.of Tryz.prog):=Go.Proofs.Tryz.Aj1 AgI
theorem AiI:AeQ (Pg.of Tryz.prog):=AnQ RE UD YT
theorem AgJ:Ol (Pg.of Tryz.prog):=Ai8 Ur
theorem WV:Pk (Pg.of Tryz.prog):=AgU NU UD AiI AgJ
theorem UA:Ka (Pg.of Tryz.prog):=Go.Proofs.Tryz.Adn
theorem Ad0:SU (Pg.of Tryz.prog):=Go.Proofs.Tryz.Agg (fun _=>False)
theorem AgH:Vv (Pg.of Tryz.prog):=Ai6 ZC Ad0
theorem AiK:Zc (Pg.of Tryz.prog):=AkY RG AgH
theorem QM:Mo (Pg.of Tryz.prog):=AgO XW AiK
theorem AiG:Za (Pg.of Tryz.prog):=AkV PL QM
theorem AgF:Vt (Pg.of Tryz.prog):=Ai4 Du AiG
theorem Ad9:SZ (Pg.of Tryz.prog):=AgT Db AgF
theorem Ad8:SY (Pg.of Tryz.prog):=AgS GI WU WV UA Ad9
theorem AiH:Zb (Pg.of Tryz.prog):=AkW RH Ad8
theorem Ab0:Qg (Pg.of Tryz.prog):=Aen UP Abe Sl
theorem Ad7:SX (Pg.of Tryz.prog):=AgR UO Ab0 AiI
theorem Ad5:SR (Pg.of Tryz.prog):=AgP TD Ad7 WV QM
theorem AbX:M9 (Pg.of Tryz.prog):=Go.Proofs.Tryz.Ado
theorem AiJ:Rb (Pg.of Tryz.prog):=AkX QC OE PN N5 PO QD K8 TE PQ QE N6 OG Kp Nn
theorem Ad1:Pl (Pg.of Tryz.prog):=Go.Proofs.Tryz.Agz AiJ
theorem ZY:Lx (Pg.of Tryz.prog):=Go.Proofs.Tryz.WH
theorem AgC:Rc (Pg.of Tryz.prog):=Go.Proofs.Tryz.Aja
theorem AiE:U6 (Pg.of Tryz.prog):=Go.Proofs.Tryz.Akm
theorem TL:Ei (Pg.of Tryz.prog):=Go.Proofs.Tryz.X7 (fun _=>False)
theorem Ad2:JJ (Pg.of Tryz.prog):=Go.Proofs.Tryz.Ag8 (fun _=>False)
theorem Aea:Mq (Pg.of Tryz.prog):=AgV AdI AdF UR RJ RB MD K7 Kn Ko We XY ZD UT US Wg Hk NU RE LG Ur Dq DO RI QB ZB ZE RC PK XZ K9 OH RD N7 N8 Wh RL QG UU QH Abh ZF RM RN WU YT UA AbX Ad1 ZY AgC AiE TL UB Ad2 Sk
theorem AlT(x:DP DD.ps)(gx:(tyP DD.ps).Good x):Go.VS.Fn (Pg.of Tryz.prog) "mergelens/mergelenstop.TopCounts" DD x fun(d:Bool) _=>d=true:=Z9 UW Ad6 Sm AiH Ad5 QM Aea x
end Go.Proofs.YtopngokkgogolaaGreatDoor.topCounts
