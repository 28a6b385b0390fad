/- The contracts, each shown once. -/
import Derived.Test.YtopngokkgogolaaGreatDoorKS1
import Derived.Test.YtopngokkgogolaaGreatDoorKKShelf
import Derived.Test.YtopngokkgogolaaGreatDoorKM0
import Derived.Test.YtopngokkgogolaaGreatDoorKM1
import Derived.Test.YtopngokkgogolaaGreatDoorKM2
import Derived.Test.YtopngokkgogolaaGreatDoorKLn0
set_option linter.unusedVariables false
set_option linter.unusedSimpArgs false
namespace Go.Proofs.YtopngokkgogolaaGreatDoor.topStats
open Go.VS Go.Proofs.YtopngokkgogolaaGreatDoor

theorem Up:Qd (Pg.of Tryz.prog):=Ark AkT
theorem SU:Ng (Pg.of Tryz.prog):=Aqg Aiw
theorem Aah:Rs (Pg.of Tryz.prog):=AlR Afz SU
theorem AiW:Wc (Pg.of Tryz.prog):=AlK Afx Up SU Aah
theorem Aag:Mm (Pg.of Tryz.prog):=AlO AcT Up AiW
theorem U8:Nf (Pg.of Tryz.prog):=Agq Y7
theorem Ai2:Wh (Pg.of Tryz.prog):=AlS AfA Up Aah U8
theorem Af1:Tn (Pg.of Tryz.prog):=Ajd Aa4 Up SU Ai2 Aag
theorem Af8:Tu (Pg.of Tryz.prog):=Ajo Aa3 Up
theorem Af3:Tp (Pg.of Tryz.prog):=Ajf AcU Up SU Aag Af1 Af8
theorem Ant:AeK (Pg.of Tryz.prog):=Aqa Dj Vx
theorem Anw:AeN (Pg.of Tryz.prog):=Aqd C6 Ant
theorem AdQ:QE (Pg.of Tryz.prog):=Agp Y4 Anw
theorem Alo:Aax (Pg.of Tryz.prog):=AnY Nu
theorem AiY:Wd (Pg.of Tryz.prog):=AlM Lg Alo
theorem AdR:QG (Pg.of Tryz.prog):=Ags Y5 AiY
theorem Agb:Ty (Pg.of Tryz.prog):=Ajr Aa2
theorem Anu:AeL (Pg.of Tryz.prog):=Aqb DG Y3
theorem Anx:AeO (Pg.of Tryz.prog):=Aqe Dg Anu
theorem Zi:HK (Pg.of Tryz.prog):=Go.Proofs.Tryz.AaK (fun _=>False)
theorem Anz:AeP (Pg.of Tryz.prog):=Aqh Xz Zi
theorem AnB:AeR (Pg.of Tryz.prog):=Aqj D5 Anz
theorem AnD:AeT (Pg.of Tryz.prog):=Aql DD AnB
theorem AdL:QL (Pg.of Tryz.prog):=Go.Proofs.Tryz.AfL
theorem U5:G7 (Pg.of Tryz.prog):=Go.Proofs.Tryz.Afg (fun _=>False)
theorem SS:FP (Pg.of Tryz.prog):=Go.Proofs.Tryz.Aek (fun _=>False)
theorem X8:Pw (Pg.of Tryz.prog):=Ajm Sl SS
theorem X7:Pv (Pg.of Tryz.prog):=Ajl Sk U5 X8
theorem AnA:AeQ (Pg.of Tryz.prog):=Aqi XA X7
theorem AnC:AeS (Pg.of Tryz.prog):=Aqk D6 AnA
theorem AnE:AeU (Pg.of Tryz.prog):=Aqm DE AnC
theorem Qr:Gb (Pg.of Tryz.prog):=AbM Sn AnD AdL AnE
theorem Ya:L5 (Pg.of Tryz.prog):=Zm Sn Qr
theorem NC:I5 (Pg.of Tryz.prog):=Aed AcS AdQ AdR Agb Anx Ya
theorem O9:Kf (Pg.of Tryz.prog):=Agr LM
theorem Ai6:Wn (Pg.of Tryz.prog):=AlW AcX Qr
theorem Uo:Mo (Pg.of Tryz.prog):=Go.Proofs.Tryz.AmQ Ai6
theorem Aai:Mp (Pg.of Tryz.prog):=AlX UU
theorem MS:Du (Pg.of Tryz.prog):=Go.Proofs.Tryz.Zn (fun _=>False)
theorem X9:JL (Pg.of Tryz.prog):=Ajn Sm X7 MS
theorem AdJ:QD (Pg.of Tryz.prog):=Go.Proofs.Tryz.AiM
theorem Ahz:Aaw (Pg.of Tryz.prog):=Aqf Sg AdJ
theorem Aaf:Oq (Pg.of Tryz.prog):=Go.Proofs.Tryz.Al5
theorem X5:Rv (Pg.of Tryz.prog):=An0 NY
theorem AdK:Rt (Pg.of Tryz.prog):=Go.Proofs.Tryz.Anh
theorem Zj:Nd (Pg.of Tryz.prog):=AbL KI X5 AdK
theorem X6:Pu (Pg.of Tryz.prog):=Ajj LN KJ Aaf Zj
theorem AiX:Ol (Pg.of Tryz.prog):=AlL Uf X9 Ahz X6
theorem AdO:QB (Pg.of Tryz.prog):=Agn Ud X5
theorem Alq:Aaz (Pg.of Tryz.prog):=An1 Zc AdO
theorem AiZ:Oo (Pg.of Tryz.prog):=AlN Aa8 AiX Alq
theorem Af6:Tt (Pg.of Tryz.prog):=Aji Aa9 Uo Aai AiZ
theorem AdS:QH (Pg.of Tryz.prog):=Agu Ze Xs NC O9 Af6
theorem U7:Na (Pg.of Tryz.prog):=Agl Vw Xs NC
theorem ApP:AjQ (Pg.of Tryz.prog):=Arl Sf O9 Uo
theorem Af4:Tq (Pg.of Tryz.prog):=Ajg Vv U7 ApP
theorem Ai3:Wi (Pg.of Tryz.prog):=AlT Xr U7 O9 Aai
theorem U9:Nh (Pg.of Tryz.prog):=Agt Xv X5
theorem AdT:QI (Pg.of Tryz.prog):=Agv Ue
theorem AdU:QJ (Pg.of Tryz.prog):=Agw Xw AdT
theorem Ai4:Wm (Pg.of Tryz.prog):=AlU Zb U9 AdU
theorem AiV:Wj (Pg.of Tryz.prog):=Go.Proofs.Tryz.AlD Ai4
theorem AdP:QC (Pg.of Tryz.prog):=Ago Y6
theorem Ai1:Wg (Pg.of Tryz.prog):=AlQ Aa5 U9 AdP
theorem AfY:Tv (Pg.of Tryz.prog):=Go.Proofs.Tryz.Akh
theorem Aby:Ou (Pg.of Tryz.prog):=Go.Proofs.Tryz.Aex
theorem Aga:Tx (Pg.of Tryz.prog):=Ajq VE
theorem Aln:Aay (Pg.of Tryz.prog):=Go.Proofs.Tryz.Am2
theorem Af2:To (Pg.of Tryz.prog):=Aje Za Aln
theorem VI:Ke (Pg.of Tryz.prog):=Yn Q8 Af2
theorem AdV:QK (Pg.of Tryz.prog):=Agx Ug Aga VI
theorem Ai8:Wp (Pg.of Tryz.prog):=AlZ XC Aby AdV X8
theorem Ai7:Wo (Pg.of Tryz.prog):=AlY XB VD X9 Ahz X6 AiV Ai1 AfY Ai8
theorem Af9:Tw (Pg.of Tryz.prog):=Ajp VC
theorem Ai0:We (Pg.of Tryz.prog):=AlP AcW
theorem Af5:Ts (Pg.of Tryz.prog):=Ajh Y8
theorem Anv:AeM (Pg.of Tryz.prog):=Aqc Xs
theorem AdN:QA (Pg.of Tryz.prog):=Agm Lh
theorem Abz:Om (Pg.of Tryz.prog):=Aec ML AdN
theorem AfZ:Px (Pg.of Tryz.prog):=Go.Proofs.Tryz.Alf NC Anv Abz
theorem AdH:Nb (Pg.of Tryz.prog):=Go.Proofs.Tryz.Afe
theorem AdI:Nc (Pg.of Tryz.prog):=Go.Proofs.Tryz.Aff
theorem Alp:Ru (Pg.of Tryz.prog):=AnZ Q4 OT P5 N8 P6 Q5 Ld Uc P7 Q6 N9 OU KF Nt
theorem AfW:Pt (Pg.of Tryz.prog):=Go.Proofs.Tryz.AiS Alp
theorem Abx:LB (Pg.of Tryz.prog):=Go.Proofs.Tryz.XU
theorem AfX:JM (Pg.of Tryz.prog):=Go.Proofs.Tryz.AjA (fun _=>False)
theorem Af7:Mn (Pg.of Tryz.prog):=Ajk AfB Afy Vy Sj Sc MK Lc Kz KE Xt Y9 Aa6 VB VA Xu Hm Vz Sf LM UU Df DF Si QZ Sg Aa7 Sd P4 Zd Lf OV Se Oa Oc Xx LN KI NY KJ AcV Sm Sk Sl AfZ Uo AdH AdI AfW Abx Aaf AdK MS U5 AfX SS
theorem Ai5:Ot (Pg.of Tryz.prog):=AlV Af7
theorem Apr(x:DP D0.ps)(gx:(tyP D0.ps).Good x):Go.VS.Fn (Pg.of Tryz.prog) "mergelens/mergelenstop.TopStats" D0 x fun(d:Bool) _=>d=true:=Aee Xy Af3 SU AdS Af4 Ai3 Ai7 Af9 U8 Ai0 Af5 Ai5 x
end Go.Proofs.YtopngokkgogolaaGreatDoor.topStats
