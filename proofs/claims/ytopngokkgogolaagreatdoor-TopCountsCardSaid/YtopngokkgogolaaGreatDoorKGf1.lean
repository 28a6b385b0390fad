/- Functions of the program: typed code, and what it says, lifted. -/
import Derived.Test.YtopngokkgogolaaGreatDoorKTxSig
import Derived.KernelRfl
set_option linter.unusedVariables false
set_option linter.unusedSimpArgs false
set_option maxRecDepth 8000
open List renaming getD → Qa0, length → Qa2, set → Qa3
open Int renaming toNat → Qa1
namespace Go.VS
open IntKind
def KI:Ar:=
 sr [o1 3 (.box 0),o1 6 (.asg ni),ia 7 (kI 0)] (sr [im 22 1,oc 23 "mergelens/text.Split" [22] M8,im 21 23,oe 24 21 0,oe 25 21 1,⟨⟨some 8,.asg 24,none⟩,none,⟨[],[]⟩,true,none,false,false⟩,ia 9 25] (sq (sr [im 26 9,ob 27 .neq 26 (kI
 0)] (cn 27 (sr [im 28 9,o1 6 (.asg ni),ia 7 28] .ret) .skip)) (sr [im 30 2,oc 31 "mergelens/text.Split" [30] M8,im 29 31,oe 32 29 0,oe 33 29 1,⟨⟨some 10,.asg 32,none⟩,none,⟨[],[]⟩,true,none,false,false⟩,ia 9 33] (sq (sr [im 34
 9,ob 35 .neq 34 (kI 0)] (cn 35 (sr [im 36 9,o1 6 (.asg ni),ia 7 36] .ret) .skip)) (sr [im 37 8,im 38 10,oT ⟨some 39,.buildSl 1 [.slice none 0 0] 2 [(0,37),(1,38)],none⟩ (some (.sl .str,tM)),oc 40 "mergelens/intern.Ids" [39] Q8,ia
 11 40] (sq (fk [12,13] 41 10 (.join [.sl 12 false (.sl ID) tO] (.draw [ti (im 42 11) (ti (ox 43 1 42 (kI 0)) (ti (ld 44 43) (ti (im 45 11) (ti (ox 46 1 45 (kI 1)) (ti (ld 47 46) (.alt (oc 48 "mergelens/shortest.Script" [44,47]
 Ls) (ti (im 41 48) (.alt (oe 49 41 0) (.alt (oe 50 41 1) (.alt (ia 12 49) (.alt (ia 13 50) .done .stop) .stop) (.alt (ia 12 49) (.alt (oe 50 41 1) (.alt (ia 13 50) .done .stop) .stop) .stop)) (.alt (oe 50 41 1) (.alt (oe 49
 41 0) (.alt (ia 12 49) (.alt (ia 13 50) .done .stop) .stop) .stop) .stop))) .stop))))))]))) (sr [o1 14 (.asg ni)] (sq (sr [im 51 12,ol 52 51,o1 53 (.mv (kI 0))] (.frame (rg [14,16,18,19,20] 53 44) [1016] false (.join [.sl 14 false (.sl
 .str) tO] (bk 0 (.loop [.sl 14 false (.sl .str) tO,.si 53] (sr [ob 54 .lss 53 52] (sq (cx 54 0) (sq (.frame (rg [14,16,18,19,20] 55 41) [1016] false (.join [.sl 14 false (.sl .str) tO] (bk 1 (sr [ox 55 4 51 53,o1 56 (.load true 4 55),o1 16
 (.alloc [.int .i64 0,.int .i64 0,.int .i64 0,.int .i64 0]),o0 ⟨none,.store 4 16 56,none⟩] (sq (fk [] 57 22 (.join [.sl 76 false (.sl .str) tO,.si 77,.si 78] (.draw [ti (im 57 8) (ti (fa 58 0 16) (ti (ld 59 58) (ti (fa 60 0 16) (ti (ld 61
 60) (ti (fa 62 1 16) (ti (ld 63 62) (ti (ob 64 .add 61 63) (ti (o1 65 (.slK 1 57 (some 59) (some 64))) (ti (im 66 10) (ti (fa 67 2 16) (ti (ld 68 67) (ti (fa 69 2 16) (ti (ld 70 69) (ti (fa 71 3 16) (ti (ld 72 71) (ti (ob 73 .add 70 72)
 (ti (o1 74 (.slK 1 66 (some 68) (some 73))) (ti (o1 78 (.mv (kI 0))) (.alt (oT ⟨some 75,.buildSl 1 [.slice none 0 0] 2 [(0,65),(1,74)],none⟩ (some (.sl .str,tM))) (.alt (oc 76 "slices.Concat[[]string,string]" [75]
 Cx) (ti (ol 77 76) .done) .stop) .stop)))))))))))))))))))]))) (fk [14,18,19,20] 78 18 (.join [.sl 14 false (.sl .str) tO] (bk 2 (.loop [.sl 14 false (.sl .str) tO,.si 78] (sr [ob 79 .lss 78 77] (sq (cx 79 2) (sq
 (fk [14,18,19,20] 80 15 (.join [.sl 14 false (.sl .str) tO] (bk 3 (sr [ox 80 1 76 78,ld 81 80,ia 18 81] (sq (fk [19,20] 82 7 (.join [.sl 19 false .bool .leaf] (.draw [ti (im 84 18) (.alt (o1 83 (.load true 2 3)) (.alt (oc 85
 Ald [84] Lt) (.alt (oc 86 "mergelens/search.Any" [83,85] M7) (ti (im 82 86) (.alt (oe 87 82 0) (.alt (oe 88 82 1) (.alt (ia 19 87) (.alt (ia 20 88) .done .stop) .stop) (.alt (ia 19 87) (.alt (oe 88 82
 1) (.alt (ia 20 88) .done .stop) .stop) .stop)) (.alt (oe 88 82 1) (.alt (oe 87 82 0) (.alt (ia 19 87) (.alt (ia 20 88) .done .stop) .stop) .stop) .stop))) .stop) .stop) (.alt (oc 85 Ald [84] Lt) (ti (o1 83
 (.load true 2 3)) (.alt (oc 86 "mergelens/search.Any" [83,85] M7) (ti (im 82 86) (.alt (oe 87 82 0) (.alt (oe 88 82 1) (.alt (ia 19 87) (.alt (ia 20 88) .done .stop) .stop) (.alt (ia 19 87) (.alt (oe 88 82 1) (.alt (ia 20 88)
 .done .stop) .stop) .stop)) (.alt (oe 88 82 1) (.alt (oe 87 82 0) (.alt (ia 19 87) (.alt (ia 20 88) .done .stop) .stop) .stop) .stop))) .stop)) .stop))]))) (sr [im 89 19] (fk [14] 90 5 (.join [.sl 14 false (.sl .str) tO] (cn 89 (rn [im 90
 14,im 91 18,oc 92 Ald [91] Lt,oT ⟨some 93,.buildSl 1 [.string ⟨#[]⟩] 1 [(0,92)],none⟩ (some (.str,.leaf)),oT ⟨some 94,.app 1 16 90 93,none⟩ (some (.str,.leaf)),ia 14 94]) .skip))))))))) (rn [ob 95 .add 78 (kI
 1),im 78 95]))))))))))))) (rn [ob 96 .add 53 (kI 1),im 53 96]))))))))) (sr [im 97 14,ia 6 97,ia 7 (kI 0)] .ret)))))))))
def G0:AFn:=⟨ "mergelens/pickaxe.matching",KI.erase,[.tmp 6,.tmp 7],3⟩
def LO:Ar:=
 sr [o1 2 (.box 0),o1 3 (.asg kF)] (sr [o1 7 (.load true 2 1),o1 8 (.ixAr 2 1 2 (kI 0)),ld 9 8,o1 10 (.ixAr 2 1 2 (kI 1)),ld 11 10,oc 12 "mergelens/pickaxe.matching" [7,9,11] JV,im 6 12,oe 13 6 0,oe 14 6 1,ia 4 13,ia 5 14]
 (sr [im 15 4,ol 16 15,ob 17 .gtr 16 (kI 0),ia 3 17] .ret))
def Ho:AFn:=⟨Ajn,LO.erase,[.tmp 3],2⟩
def Ci:Ar:=
 sr [ia 4 (kI 0)] (sq (sr [im 6 0,ol 7 6,o1 8 (.mv (kI 0))] (.frame (rg [4,5] 8 11) [2] true (.join [.si 4,.bx 2 (.pair (.sl DE) bI) (.pair tM .leaf)] (bk 0 (.loop [.si 4,.si 8,.bx 2 (.pair (.sl DE) bI) (.pair tM .leaf)] (sr [ob 9
 .lss 8 7] (sq (cx 9 0) (sq (.frame (rg [4,5] 10 8) [2] true (.join [.si 4,.bx 2 (.pair (.sl DE) bI) (.pair tM .leaf)] (bk 1 (sr [im 10 8,ia 5 10] (sr [im 11 1,im 12 0,im 13 5,ox 14 2 12 13,o1 15 (.load true 2 14),oS ⟨some 16,.callv 11
 [15],none⟩ Lq] (cn 16 (sr [im 17 5,ia 4 17] .ret) .skip)))))) (rn [ob 18 .add 8 (kI 1),im 8 18]))))))))) (sr [ia 4 (kI (-1))] .ret))
def Bw:AFn:=⟨ "slices.IndexFunc[[][2]string,[2]string]",Ci.erase,[.tmp 4],2⟩
def B2:Ar:=
 sr [o1 4 (.asg kF)] (sr [im 5 0,im 6 1,oc 7 "slices.IndexFunc[[][2]string,[2]string]" [5,6] Cd,ob 8 .geq 7 (kI 0),ia 4 8] .ret)
def Bn:AFn:=⟨ "slices.ContainsFunc[[][2]string,[2]string]",B2.erase,[.tmp 4],2⟩
def Eb:Ar:=
 sr [o1 6 (.asg ni),ia 7 (kI 0)] (sr [im 14 0,im 15 1,oT ⟨some 16,.buildSl 1 [.int .i64 0] 1 [(0,15)],none⟩ (some (bI,.leaf)),oc 17 Ahd [14,16] ES,im 13 17,oe 18 13 0,oe 19 13 1,ia 8 18,ia 9 19] (sq (sr [im 20
 9,ob 21 .neq 20 (kI 0)] (cn 21 (sr [im 22 9,o1 6 (.asg ni),ia 7 22] .ret) .skip)) (sr [o1 10 (.asg ni)] (sq (sr [im 23 8,ol 24 23,o1 25 (.mv (kI 0))] (.frame (rg [10,12] 25 15) [3] true (.join [.sl 10 false (.sl bI) tO,.bx 3 (.pair (.sl
 DE) bI) (.pair tM .leaf)] (bk 0 (.loop [.sl 10 false (.sl bI) tO,.si 25,.bx 3 (.pair (.sl DE) bI) (.pair tM .leaf)] (sr [ob 26 .lss 25 24] (sq (cx 26 0) (sq (.frame (rg [10,12] 27 12) [3] true (.join [.sl 10 false (.sl bI) tO,.bx 3
 (.pair (.sl DE) bI) (.pair tM .leaf)] (bk 1 (sr [ox 27 1 23 25,ld 28 27,ia 12 28] (sr [im 29 0,im 30 12,oc 31 AcG [29,30] CE,oc 32 "slices.Concat[[][2]string,[2]string]" [31]
 Bk,im 33 2,oc 34 "slices.ContainsFunc[[][2]string,[2]string]" [32,33] BX] (fk [10] 35 4 (.join [.sl 10 false (.sl bI) tO] (cn 34 (rn [im 35 10,im 36 12,oT
 ⟨some 37,.buildSl 1 [.int .i64 0] 1 [(0,36)],none⟩ (some (bI,.leaf)),oT ⟨some 38,.app 1 8 35 37,none⟩ (some (bI,.leaf)),ia 10 38]) .skip)))))))) (rn [ob 39 .add 25 (kI 1),im 25 39]))))))))) (sr [im 40 10,ia 6 40,ia 7 (kI 0)] .ret)))))
def CI:AFn:=⟨AeJ,Eb.erase,[.tmp 6,.tmp 7],3⟩
def NX:Ar:=
 sr [o1 6 (.asg ni),ia 7 (kI 0)] (sr [im 11 2,oc 12 "mergelens/pickaxe.compile" [11] Lr,im 10 12,⟨⟨some 13,.ext 10 0,none⟩,none,⟨[],[]⟩,true,none,false,false⟩,oe 14 10 1,o1 8 (.alloc [.slice none 0 0,.int .i64 0]),o0
 ⟨none,.store 2 8 13,none⟩,ia 9 14] (sq (sr [im 15 9,ob 16 .neq 15 (kI 0)] (cn 16 (sr [im 17 9,o1 6 (.asg ni),ia 7 17] .ret) .skip)) (sr [im 18 0,im 19 1,o1 20 (.mkf (Ajn,false) [8]),oc 21
 AeJ [18,19,20] Ea,oe 22 21 0,oe 23 21 1,ia 6 22,ia 7 23] .ret)))
def I7:AFn:=⟨ "mergelens/pickaxe.Regex",NX.erase,[.tmp 6,.tmp 7],3⟩
def Xo:Ar:=
 sr [o1 4 (.asg kF)] (sq (sr [im 6 0,ol 7 6,im 8 1,ol 9 8,ob 10 .neq 7 9] (cn 10 (sr [o1 4 (.asg kF)] .ret) .skip)) (sq (sr [ia 5 (kI 0)] (fk [4,5] 11 15 (.join [.sl 4 false .bool .leaf] (bk 0 (.loop [.sl 4 false .bool .leaf,.si 5] (sq (sr
 [im 11 5,im 12 0,ol 13 12,ob 14 .lss 11 13] (cx 14 0)) (sq (fk [4] 17 9 (.join [.sl 4 false .bool .leaf] (bk 1 (sq (.draw [ti (im 17 0) (ti (im 18 5) (ti (ox 19 1 17 18) (ti (ld 20 19) (ti (im 21 1) (ti (im 22 5) (ti (ox 23 1 21 22) (ti
 (ld 24 23) (ti (ob 25 .neq 20 24) .done))))))))]) (cn 25 (sr [o1 4 (.asg kF)] .ret) .skip))))) (rn [im 15 5,ob 16 .add 15 (kI 1),ia 5 16])))))))) (sr [o1 4 (.asg kT)] .ret)))
def Qd:AFn:=⟨Am1,Xo.erase,[.tmp 4],2⟩
def Xp:Ar:=
 sr [o1 0 (.asg kF)] (sr [o1 6 (.build [.string ⟨#[]⟩,.string ⟨#[]⟩] [(0,1,.c (.string ⟨#[120]⟩)),(1,1,.c (.string ⟨#[97,97]⟩))]),⟨⟨some 7,.buildSl 2 [.string ⟨#[]⟩,.string ⟨#[]⟩] 1 [(0,6)],none⟩,some (.pair .str
 .str,.leaf),⟨[],[]⟩,true,none,false,false⟩,o1 8 (.build [.slice none 0 0,.int .i64 0,.slice none 0 0] [(2,1,7)]),oT ⟨some 9,.buildSl 3 [.slice none 0 0,.int .i64 0,.slice none 0 0] 1 [(0,8)],none⟩ (some (AU,.pair tM (.pair .leaf
 tM))),ia 1 9] (sq (.frz [1] (rn [im 11 1,oc 12 "mergelens/pickaxe.Regex" [11,kI 0,.c (.string ⟨#[97,36]⟩)] NM,im 10 12,oe 13 10 0,oe 14 10 1,ia 2 13,ia 3 14])) (sr [im 16 1,oT ⟨some 17,.buildSl 1 [.int .i64 0] 1 [(0,kI
 0)],none⟩ (some (bI,.leaf)),oc 18 Ahd [16,17] ES,im 15 18,oe 19 15 0,oe 20 15 1,ia 4 19,ia 5 20] (sr [im 21 3,ob 22 .eql 21 (kI 0),im 23 22,gt 24 23 (.mv 5),gt 25 23 (.bin .eql 24 (kI 0)),op3 26 23 25 kF,im 27
 26,⟨⟨some 28,.mv 2,some (27,true)⟩,none,⟨[],[]⟩,false,some 27,true,false⟩,⟨⟨some 29,.buildSl 1 [.int .i64 0] 1 [(0,kI 0)],some (27,true)⟩,some (bI,.leaf),⟨[],[]⟩,false,none,true,false⟩,⟨⟨some 30,.call Am1
 [28,29],some (27,true)⟩,none,Qf,false,none,true,true⟩,op3 31 27 30 kF,im 32 31,⟨⟨some 33,.mv 4,some (32,true)⟩,none,⟨[],[]⟩,false,some 32,true,false⟩,⟨⟨some 34,.buildSl 1 [.int .i64 0] 1 [(0,kI 0)],some (32,true)⟩,some
 (bI,.leaf),⟨[],[]⟩,false,none,true,false⟩,⟨⟨some 35,.call Am1 [33,34],some (32,true)⟩,none,Qf,false,none,true,true⟩,op3 36 32 35 kF,ia 0 36] .ret))))
def Qe:AFn:=⟨AeK,Xp.erase,[.tmp 0],0⟩
def NC:Ar:=
 sr [ia 6 (kI 0),o1 7 (.asg kF)] (sq (sr [im 9 0,ob 10 .eql 9 (.c (.string ⟨#[]⟩)),im 11 10,gf 12 11 (.mv 2),gf 13 11 (.bin .lss 12 (kI 0)),op3 14 11 kT 13,im 15 14,gf 16 15 (.mv 2),gf 17 15 (.mv 1),gf 18 15 (.lenS 17),gf 19 15 (.bin .gtr 16
 18),op3 20 15 kT 19] (cn 20 (sr [ia 6 (kI 0),o1 7 (.asg kF)] .ret) .skip)) (sr [im 21 1,im 22 2,o1 23 (.slS 21 (some 22) none),im 24 0,oc 25 "strings.Index" [23,24] GV,ia 8 25] (sq (sr [im 26 8,ob 27 .lss 26 (kI 0)] (cn 27 (sr
 [ia 6 (kI 0),o1 7 (.asg kF)] .ret) .skip)) (sr [im 28 2,im 29 8,ob 30 .add 28 29,ia 6 30,o1 7 (.asg kT)] .ret))))
def Jt:AFn:=⟨AeL,NC.erase,[.tmp 6,.tmp 7],3⟩
def Ri(P:Pg)(x:(Bt8×(Bt8×Int)))(K:(Int×Bool)→Unit→Prop):Prop:=
 (((cond (cond (x.1==([]:List UInt8)) true (decide (x.2.2<0))) true (decide (x.2.2>(x.2.1.length:Int))))=true→K ((0:Int),false) ())∧((cond (cond (x.1==([]:List UInt8)) true (decide (x.2.2<0))) true (decide (x.2.2>(x.2.1.length:Int))))=false→(0≤x.2.2∧x.2.2≤(x.2.1.length:Int))∧
 Fn P "strings.Index" GV ((List.drop x.2.2.toNat x.2.1),x.1) (fun(d1:Int) _=>(((decide (d1<0))=true→K ((0:Int),false) ())∧((decide (d1<0))=false→K ((i64.wrap (x.2.2+d1)),true) ())))))
theorem XP{P}(h:Has P Jt){x K}(hw:Ri P x K):Fn P AeL EO x K:=
 zF NC h hw
def HR:Ar:=
 sr [o1 4 (.asg ni)] (sr [o1 5 (.asg ni)] (sr [im 9 0,im 10 1,oc 11 AeL [9,10,kI 0] EO,im 8 11,oe 12 8 0,oe 13 8 1,ia 6 12,ia 7 13] (sq (fk [5,6,7] 14 15 (.join [.sl 5 false (.sl bI) tO] (bk 0 (.loop [.sl 5 false
 (.sl bI) tO,.si 6,.sl 7 false .bool .leaf] (sq (sr [im 14 7] (cx 14 0)) (fk [5,6,7] 15 14 (.join [.sl 5 false (.sl bI) tO,.si 6,.sl 7 false .bool .leaf] (bk 1 (sr [im 15 5,im 16 6,oT ⟨some 17,.buildSl 1 [.int .i64 0] 1 [(0,16)],none⟩ (some
 (bI,.leaf)),oT ⟨some 18,.app 1 8 15 17,none⟩ (some (bI,.leaf)),ia 5 18] (rn [im 20 0,im 21 1,im 22 6,im 23 0,o1 24 (.lenS 23),ob 25 .add 22 24,oc 26 AeL [20,21,25] EO,im 19 26,oe 27 19 0,oe 28 19 1,ia 6 27,ia 7
 28])))))))))) (sr [im 29 5,ia 4 29] .ret))))
def Ft:AFn:=⟨Aju,HR.erase,[.tmp 4],2⟩
def Lz(P:Pg)(x:(Bt8×Bt8))(K:(List Int)→Unit→Prop):Prop:=
 Fn P AeL EO (x.1,(x.2,(0:Int))) (fun(d1:(Int×Bool)) _=>Ah (D:=(List Int)) (fun J3=>A4 (D:=((List Int)×(Int×Bool))) ([],d1) (fun d5 J6=>((d5.2.2=true→Ah (D:=((List Int)×(Int×Bool))) (fun J7=>((d5.1.length+Qa2 ([d5.2.1]:List Int))*8≤140737488355328)∧
 Fn P AeL EO (x.1,(x.2,(i64.wrap (d5.2.1+(x.1.length:Int))))) (fun(d9:(Int×Bool)) _=>J7 ((d5.1++([d5.2.1]:List Int)),d9))) (fun d8=>J6 d8))∧(d5.2.2=false→J3 d5.1)))) (fun d4=>K d4 ()))
theorem Qw{P}(h:Has P Ft){x K}(hw:Lz P x K):Fn P Aju Ek x K:=
 zF HR h hw
def Mf:Ar:=
 sr [ia 4 (kI 0)] (sr [im 5 0,im 6 1,oc 7 Aju [5,6] Ek,ol 8 7,ia 4 8] .ret)
def IA:AFn:=⟨zS0,Mf.erase,[.tmp 4],2⟩
def PZ(P:Pg)(x:(Bt8×Bt8))(K:Int→Unit→Prop):Prop:=
 Fn P Aju Ek x (fun(d1:(List Int)) _=>K (d1.length:Int) ())
theorem VY{P}(h:Has P IA){x K}(hw:PZ P x K):Fn P zS0 Ap x K:=
 zF Mf h hw
def Gy:Ar:=
 sr [o1 2 (.box 0),o1 3 (.asg kF)] (sq (fk [] 3 10 (.join [.sl 3 false .bool .leaf] (.draw [ti (ld 4 1) (ti (o1 5 (.ixAr 2 1 2 (kI 0))) (ti (ld 6 5) (ti (o1 9 (.ixAr 2 1 2 (kI 1))) (.alt (oc 7 zS0 [4,6] Ap) (ti
 (ld 8 1) (ti (ld 10 9) (.alt (oc 11 zS0 [8,10] Ap) (ti (ob 12 .neq 7 11) (.alt (ia 3 12) .done .stop)) .stop))) (.alt (ld 8 1) (.alt (oc 7 zS0 [4,6] Ap) (ti (ld 10 9) (.alt (oc
 11 zS0 [8,10] Ap) (ti (ob 12 .neq 7 11) (.alt (ia 3 12) .done .stop)) .stop)) (.alt (ld 10 9) (.alt (oc 7 zS0 [4,6] Ap) (.alt (oc 11 zS0 [8,10]
 Ap) (ti (ob 12 .neq 7 11) (.alt (ia 3 12) .done .stop)) .stop) .stop) .stop)) (.alt (ld 10 9) (.alt (oc 7 zS0 [4,6] Ap) (ti (ld 8 1) (.alt (oc 11 zS0 [8,10] Ap) (ti
 (ob 12 .neq 7 11) (.alt (ia 3 12) .done .stop)) .stop)) (.alt (ld 8 1) (.alt (oc 7 zS0 [4,6] Ap) (.alt (oc 11 zS0 [8,10] Ap) (ti (ob 12 .neq 7 11) (.alt (ia 3 12) .done .stop))
 .stop) .stop) .stop)) .stop))))))]))) .ret)
def Ex:AFn:=⟨zS8,Gy.erase,[.tmp 3],2⟩
def Jl(P:Pg)(x:((Bt8×Bt8)×Bt8))(K:Bool→Bt8→Prop):Prop:=
 Ah (D:=Bool) (fun J1=>(0≤(0:Int)∧(0:Int)<((2:Nat):Int))∧
 ((Qa1 (0:Int))<2)∧
 (0≤(1:Int)∧(1:Int)<((2:Nat):Int))∧
 (Fn P zS0 Ap (x.2,(Qa0 [x.1.1,x.1.2] (Qa1 (0:Int)) [])) (fun(d3:Int) _=>((Qa1 (1:Int))<2)∧
 (Fn P zS0 Ap (x.2,(Qa0 [x.1.1,x.1.2] (Qa1 (1:Int)) [])) (fun(d5:Int) _=>(J1 (d3 !=d5))∧True))∧True))∧(((Fn P zS0 Ap (x.2,(Qa0 [x.1.1,x.1.2] (Qa1 (0:Int)) [])) (fun(d7:Int) _=>((Qa1 (1:Int))<2)∧
 (Fn P zS0 Ap (x.2,(Qa0 [x.1.1,x.1.2] (Qa1 (1:Int)) [])) (fun(d9:Int) _=>(J1 (d7 !=d9))∧True))∧True))∧((((Qa1 (1:Int))<2)∧
 (Fn P zS0 Ap (x.2,(Qa0 [x.1.1,x.1.2] (Qa1 (0:Int)) [])) (fun(d11:Int) _=>(Fn P zS0 Ap (x.2,(Qa0 [x.1.1,x.1.2] (Qa1 (1:Int)) [])) (fun(d13:Int) _=>(J1 (d11 !=d13))∧True))∧True))∧True)∧True))∧((((Qa1 (1:Int))<2)∧
 (Fn P zS0 Ap (x.2,(Qa0 [x.1.1,x.1.2] (Qa1 (0:Int)) [])) (fun(d15:Int) _=>(Fn P zS0 Ap (x.2,(Qa0 [x.1.1,x.1.2] (Qa1 (1:Int)) [])) (fun(d17:Int) _=>(J1 (d15 !=d17))∧True))∧True))∧(((Fn P zS0 Ap (x.2,(Qa0 [x.1.1,x.1.2] (Qa1 (0:Int)) [])) (fun(d19:Int) _=>(Fn P zS0 Ap (x.2,(Qa0 [x.1.1,x.1.2] (Qa1 (1:Int)) [])) (fun(d21:Int) _=>(J1 (d19 !=d21))∧True))∧True))∧True)∧True))∧True))) (fun d2=>K d2 x.2)
theorem OA{P}(h:Has P Ex){x K}(hw:Jl P x K):Fn P zS8 DJ x K:=
 zF Gy h hw
def Bq:Ar:=
 sr [ia 4 (kI 0)] (sq (sr [im 6 0,ol 7 6,o1 8 (.mv (kI 0))] (.frame (rg [4,5] 8 11) [2] true (.join [.si 4,.bx 2 .str .leaf] (bk 0 (.loop [.si 4,.si 8,.bx 2 .str .leaf] (sr [ob 9 .lss 8 7] (sq (cx 9 0) (sq (.frame (rg [4,5] 10 8) [2] true
 (.join [.si 4,.bx 2 .str .leaf] (bk 1 (sr [im 10 8,ia 5 10] (sr [im 11 1,im 12 0,im 13 5,ox 14 2 12 13,o1 15 (.load true 2 14),oS ⟨some 16,.callv 11 [15],none⟩ DJ] (cn 16 (sr [im 17 5,ia 4 17] .ret) .skip)))))) (rn [ob 18
 .add 8 (kI 1),im 8 18]))))))))) (sr [ia 4 (kI (-1))] .ret))
def AZ:AFn:=⟨ "slices.IndexFunc[[][2]string,[2]string]",Bq.erase,[.tmp 4],2⟩
def B7(P:Pg)(x:((List (Bt8×Bt8))×(Unit×Bt8)))(K:Int→Bt8→Prop):Prop:=
 Ah (D:=(Int×Bt8)) (fun J1=>A4 (D:=(Int×(Int×Bt8))) ((0:Int),((0:Int),x.2.2)) (fun d3 J4=>(((decide (d3.2.1<(x.1.length:Int)))=true→Ah (D:=(Int×Bt8)) (fun J5=>(0≤d3.2.1∧d3.2.1<(x.1.length:Int))∧
 (d3.2.1.toNat<x.1.length)∧
 Fn P zS8 DJ ((Qa0 x.1 d3.2.1.toNat ([],[])),d3.2.2) (fun(d7:Bool) (e8:Bt8)=>((d7=true→K d3.2.1 e8)∧(d7=false→J5 (d3.1,e8))))) (fun d6=>J4 (d6.1,((i64.wrap (d3.2.1+1)),d6.2))))∧((decide (d3.2.1<(x.1.length:Int)))=false→J1 (d3.1,d3.2.2))))) (fun d2=>K (-1:Int) d2.2)
theorem Dn{P}(h:Has P AZ){x K}(hw:B7 P x K):Fn P "slices.IndexFunc[[][2]string,[2]string]" AF x K:=
 zF Bq h hw
def Bf:Ar:=
 sr [o1 4 (.asg kF)] (sr [im 5 0,im 6 1,oc 7 "slices.IndexFunc[[][2]string,[2]string]" [5,6] AF,ob 8 .geq 7 (kI 0),ia 4 8] .ret)
def AW:AFn:=⟨ "slices.ContainsFunc[[][2]string,[2]string]",Bf.erase,[.tmp 4],2⟩
def BP(P:Pg)(x:((List (Bt8×Bt8))×(Unit×Bt8)))(K:Bool→Bt8→Prop):Prop:=
 Fn P "slices.IndexFunc[[][2]string,[2]string]" AF (x.1,((),x.2.2)) (fun(d1:Int) (e2:Bt8)=>K (decide (d1≥0)) e2)
theorem C6{P}(h:Has P AW){x K}(hw:BP P x K):Fn P "slices.ContainsFunc[[][2]string,[2]string]" Az x K:=
 zF Bf h hw
def CD:Ar:=
 sr [o1 6 (.asg ni),ia 7 (kI 0)] (sr [im 14 0,im 15 1,oT ⟨some 16,.buildSl 1 [.int .i64 0] 1 [(0,15)],none⟩ (some (bI,.leaf)),oc 17 Ahd [14,16] ES,im 13 17,oe 18 13 0,oe 19 13 1,ia 8 18,ia 9 19] (sq (sr [im 20
 9,ob 21 .neq 20 (kI 0)] (cn 21 (sr [im 22 9,o1 6 (.asg ni),ia 7 22] .ret) .skip)) (sr [o1 10 (.asg ni)] (sq (sr [im 23 8,ol 24 23,o1 25 (.mv (kI 0))] (.frame (rg [10,12] 25 15) [3] true (.join [.sl 10 false (.sl bI) tO,.bx 3 .str .leaf]
 (bk 0 (.loop [.sl 10 false (.sl bI) tO,.si 25,.bx 3 .str .leaf] (sr [ob 26 .lss 25 24] (sq (cx 26 0) (sq (.frame (rg [10,12] 27 12) [3] true (.join [.sl 10 false (.sl bI) tO,.bx 3 .str .leaf] (bk 1 (sr [ox 27 1 23 25,ld 28 27,ia 12 28] (sr
 [im 29 0,im 30 12,oc 31 AcG [29,30] CE,oc 32 "slices.Concat[[][2]string,[2]string]" [31] Bk,im 33 2,oc 34 "slices.ContainsFunc[[][2]string,[2]string]" [32,33]
 Az] (fk [10] 35 4 (.join [.sl 10 false (.sl bI) tO] (cn 34 (rn [im 35 10,im 36 12,oT ⟨some 37,.buildSl 1 [.int .i64 0] 1 [(0,36)],none⟩ (some (bI,.leaf)),oT ⟨some 38,.app 1 8 35
 37,none⟩ (some (bI,.leaf)),ia 10 38]) .skip)))))))) (rn [ob 39 .add 25 (kI 1),im 25 39]))))))))) (sr [im 40 10,ia 6 40,ia 7 (kI 0)] .ret)))))
def BV:AFn:=⟨AeJ,CD.erase,[.tmp 6,.tmp 7],3⟩
def DT(P:Pg)(x:((List Commit)×(Int×(Unit×Bt8))))(K:((List Int)×Int)→Bt8→Prop):Prop:=
 Fn P Ahd ES (x.1,([x.2.1]:List Int)) (fun(d1:((List Int)×Int)) _=>(((d1.2 !=0)=true→K ([],d1.2) x.2.2.2)∧((d1.2 !=0)=false→Ah (D:=((List Int)×Bt8)) (fun J3=>A4 (D:=((List Int)×(Int×Bt8))) ([],((0:Int),x.2.2.2)) (fun d5 J6=>(((decide (d5.2.1<(d1.1.length:Int)))=true→Ah (D:=((List Int)×Bt8)) (fun J7=>(0≤d5.2.1∧d5.2.1<(d1.1.length:Int))∧
 (d5.2.1.toNat<d1.1.length)∧
 Fn P AcG CE (x.1,(Qa0 d1.1 d5.2.1.toNat (0:Int))) (fun(d9:(List (List (Bt8×Bt8)))) _=>Fn P "slices.Concat[[][2]string,[2]string]" Bk d9 (fun(d11:(List (Bt8×Bt8))) _=>Fn P "slices.ContainsFunc[[][2]string,[2]string]" Az (d11,((),d5.2.2)) (fun(d13:Bool) (e14:Bt8)=>Ah (D:=(List Int)) (fun J15=>((d13=true→((d5.1.length+Qa2 ([(Qa0 d1.1 d5.2.1.toNat (0:Int))]:List Int))*8≤140737488355328)∧
 J15 (d5.1++([(Qa0 d1.1 d5.2.1.toNat (0:Int))]:List Int)))∧(d13=false→J15 d5.1))) (fun d16=>J7 (d16,e14)))))) (fun d8=>J6 (d8.1,((i64.wrap (d5.2.1+1)),d8.2))))∧((decide (d5.2.1<(d1.1.length:Int)))=false→J3 (d5.1,d5.2.2))))) (fun d4=>K (d4.1,(0:Int)) d4.2))))
theorem Gx{P}(h:Has P BV){x K}(hw:DT P x K):Fn P AeJ BE x K:=
 zF CD h hw
def HS:Ar:=
 sr [o1 5 (.box 2),o1 6 (.asg ni),ia 7 (kI 0)] (sq (fk [] 6 9 (.join [.sl 6 false (.sl bI) tO,.si 7] (bk 0 (sr [ld 9 5,ob 10 .eql 9 (.c (.string ⟨#[]⟩)),ia 8 10] (cn 8 (sr [o1 6 (.asg ni),ia 7 (kI 2)] .ret) (sr [ld 12 5,o1 13 (.lenS 12),ob
 14 .gtr 13 (kI 256),ia 11 14] (cn 11 (sr [o1 6 (.asg ni),ia 7 (kI 1)] .ret) .skip))))))) (sr [im 15 0,im 16 1,o1 17 (.mkf (zS8,false) [5]),oc 18 AeJ [15,16,17]
 BE,oe 19 18 0,oe 20 18 1,ia 6 19,ia 7 20] .ret))
def Fu:AFn:=⟨Ajv,HS.erase,[.tmp 6,.tmp 7],3⟩
def LA(P:Pg)(x:((List Commit)×(Int×Bt8)))(K:((List Int)×Int)→Unit→Prop):Prop:=
 Ah (D:=((List Int)×Int)) (fun J1=>(((x.2.2==([]:List UInt8))=true→K ([],(2:Int)) ())∧((x.2.2==([]:List UInt8))=false→(((decide ((x.2.2.length:Int)>256))=true→K ([],(1:Int)) ())∧((decide ((x.2.2.length:Int)>256))=false→J1 ([],(0:Int))))))) (fun d2=>Fn P AeJ BE (x.1,(x.2.1,((),x.2.2))) (fun(d3:((List Int)×Int)) (e4:Bt8)=>K d3 ()))
theorem Qx{P}(h:Has P Fu){x K}(hw:LA P x K):Fn P Ajv El x K:=
 zF HS h hw
def Jg:Ar:=
 sr [o1 1 (.box 0),o1 2 (.asg kF)] (sr [fa 3 0 1,ld 4 3,ol 5 4,ob 6 .gtr 5 (kI 32),ia 2 6] .ret)
def GP:AFn:=⟨Ala,Jg.erase,[.tmp 2],1⟩
def UJ(P:Pg)(x:Commit)(K:Bool→Unit→Prop):Prop:=
 K (decide ((x.1.length:Int)>32)) ()
theorem Tu{P}(h:Has P GP){x K}(hw:UJ P x K):Fn P Ala GR x K:=
 zF Jg h hw
def Br:Ar:=
 sr [ia 4 (kI 0)] (sq (sr [im 6 0,ol 7 6,o1 8 (.mv (kI 0))] (fj [4,5] 8 11 [4] (bl 0 [4,8] (sr [ob 9 .lss 8 7] (sq (cx 9 0) (sq (fj [4,5] 10 8 [4] (bk 1 (sr [im 10 8,ia 5 10] (sr [im 11 1,im 12 0,im 13 5,ox 14 3 12 13,o1 15 (.load true 3
 14),oS ⟨some 16,.callv 11 [15],none⟩ GR] (cn 16 (sr [im 17 5,ia 4 17] .ret) .skip))))) (rn [ob 18 .add 8 (kI 1),im 8 18]))))))) (sr [ia 4 (kI (-1))] .ret))
def A0:AFn:=⟨zS4,Br.erase,[.tmp 4],2⟩
def B8(P:Pg)(x:((List Commit)×Unit))(K:Int→Unit→Prop):Prop:=
 Ah (D:=Int) (fun J1=>A4 (D:=(Int×Int)) ((0:Int),(0:Int)) (fun d3 J4=>(((decide (d3.2<(x.1.length:Int)))=true→Ah (D:=Int) (fun J5=>(0≤d3.2∧d3.2<(x.1.length:Int))∧
 (d3.2.toNat<x.1.length)∧
 Fn P Ala GR (Qa0 x.1 d3.2.toNat Ak) (fun(d7:Bool) _=>((d7=true→K d3.2 ())∧(d7=false→J5 d3.1)))) (fun d6=>J4 (d6,(i64.wrap (d3.2+1)))))∧((decide (d3.2<(x.1.length:Int)))=false→J1 d3.1)))) (fun d2=>K (-1:Int) ())
theorem Dp{P}(h:Has P A0){x K}(hw:B8 P x K):Fn P zS4 AG x K:=
 zF Br h hw
def Bg:Ar:=
 sr [o1 4 (.asg kF)] (sr [im 5 0,im 6 1,oc 7 zS4 [5,6] AG,ob 8 .geq 7 (kI 0),ia 4 8] .ret)
def AX:AFn:=⟨zS5,Bg.erase,[.tmp 4],2⟩
def BQ(P:Pg)(x:((List Commit)×Unit))(K:Bool→Unit→Prop):Prop:=
 Fn P zS4 AG (x.1,()) (fun(d1:Int) _=>K (decide (d1≥0)) ())
theorem C7{P}(h:Has P AX){x K}(hw:BQ P x K):Fn P zS5 AA x K:=
 zF Bg h hw
def Mc:Ar:=
 sr [o1 2 (.asg kF)] (sr [im 3 0,ol 4 3,ob 5 .leq 4 (kI 300),im 6 5,gt 7 6 (.mv 0),oS ⟨some 8,.call zS5 [7,.f Ala],some (6,true)⟩
 AA,gt 9 6 (.un .not 8),op3 10 6 9 kF,ia 2 10] .ret)
def Iy:AFn:=⟨Ajw,Mc.erase,[.tmp 2],1⟩
def PX(P:Pg)(x:(List Commit))(K:Bool→Unit→Prop):Prop:=
 Ah (D:=Bool) (fun J1=>(((decide ((x.length:Int)≤300))=true→Fn P zS5 AA (x,()) (fun(d2:Bool) _=>J1 d2))∧(((decide ((x.length:Int)≤300))=false→J1 false)∧True))) (fun d3=>K (cond (decide ((x.length:Int)≤300)) (!d3) false) ())
theorem VW{P}(h:Has P Iy){x K}(hw:PX P x K):Fn P Ajw GB x K:=
 zF Mc h hw
def E1:Ar:=
 sr [ia 4 (kI 0)] (sq (sr [im 6 0,ol 7 6,o1 8 (.mv (kI 0))] (fj [4,5] 8 11 [4] (bl 0 [4,8] (sr [ob 9 .lss 8 7] (sq (cx 9 0) (sq (fj [4,5] 10 8 [4] (bk 1 (sr [im 10 8,ia 5 10] (sr [im 11 1,im 12 0,im 13 5,ox 14 1 12 13,ld 15 14,ob 16 .eql 11
 15] (cn 16 (sr [im 17 5,ia 4 17] .ret) .skip))))) (rn [ob 18 .add 8 (kI 1),im 8 18]))))))) (sr [ia 4 (kI (-1))] .ret))
def DR:AFn:=⟨ "slices.Index[[]int,int]",E1.erase,[.tmp 4],2⟩
def HA(P:Pg)(x:((List Int)×Int))(K:Int→Unit→Prop):Prop:=
 Ah (D:=Int) (fun J1=>A4 (D:=(Int×Int)) ((0:Int),(0:Int)) (fun d3 J4=>(((decide (d3.2<(x.1.length:Int)))=true→Ah (D:=Int) (fun J5=>(0≤d3.2∧d3.2<(x.1.length:Int))∧
 (d3.2.toNat<x.1.length)∧
 (((x.2==(Qa0 x.1 d3.2.toNat (0:Int)))=true→K d3.2 ())∧((x.2==(Qa0 x.1 d3.2.toNat (0:Int)))=false→J5 d3.1))) (fun d6=>J4 (d6,(i64.wrap (d3.2+1)))))∧((decide (d3.2<(x.1.length:Int)))=false→J1 d3.1)))) (fun d2=>K (-1:Int) ())
theorem MA{P}(h:Has P DR){x K}(hw:HA P x K):Fn P "slices.Index[[]int,int]" CL x K:=
 zF E1 h hw
def Ef:Ar:=
 sr [o1 4 (.asg kF)] (sr [im 5 0,im 6 1,oc 7 "slices.Index[[]int,int]" [5,6] CL,ob 8 .geq 7 (kI 0),ia 4 8] .ret)
def CW:AFn:=⟨ "slices.Contains[[]int,int]",Ef.erase,[.tmp 4],2⟩
def Gk(P:Pg)(x:((List Int)×Int))(K:Bool→Unit→Prop):Prop:=
 Fn P "slices.Index[[]int,int]" CL x (fun(d1:Int) _=>K (decide (d1≥0)) ())
theorem Kk{P}(h:Has P CW){x K}(hw:Gk P x K):Fn P "slices.Contains[[]int,int]" Cr x K:=
 zF Ef h hw
def Me:Ar:=
 sr [o1 2 (.asg kF)] (sq (sr [im 7 0,ol 8 7,o1 9 (.mv (kI 0))] (.frame (rg [2,4,5,6] 9 30) [1004] false (.join [.sl 2 false .bool .leaf] (bk 0 (.loop [.sl 2 false .bool .leaf,.si 9] (sr [ob 10 .lss 9 8] (sq (cx 10 0) (sq (.frame (rg
 [2,4,5,6] 11 27) [1004] false (.join [.sl 2 false .bool .leaf] (bk 1 (sr [ox 11 3 7 9,o1 12 (.load true 3 11),o1 4 (.alloc [.slice none 0 0,.int .i64 0,.slice none 0 0]),o0 ⟨none,.store 3 4 12,none⟩] (sr [fa 13 0 4,ld 14 13,ol 15 14,o1 16
 (.mv (kI 0))] (fk [2,5,6] 16 22 (.join [.sl 2 false .bool .leaf] (bk 2 (.loop [.sl 2 false .bool .leaf,.si 16] (sr [ob 17 .lss 16 15] (sq (cx 17 2) (sq (fk [2,5,6] 18 19 (.join [.sl 2 false .bool .leaf] (bk 3 (sr [im 18 16,ox 19 1 14 16,ld
 20 19,ia 5 18,ia 6 20] (sr [im 21 6,ob 22 .lss 21 (kI 0),im 23 22,gf 24 23 (.mv 6),gf 25 23 (.mv 0),gf 26 23 (.lenK 25),gf 27 23 (.bin .geq 24 26),op3 28 23 kT 27,im 29 28,gf 30 29 (.fAddr 0 4),gf 31 29 (.load false 1 30),gf 32 29 (.mv
 5),gf 33 29 (.slK 1 31 none (some 32)),gf 34 29 (.mv 6),oS ⟨some 35,.call "slices.Contains[[]int,int]" [33,34],some (29,false)⟩ Cr,op3 36 29 kT 35] (cn 36 (sr [o1 2 (.asg kF)] .ret) .skip)))))) (rn [ob 37 .add 16 (kI
 1),im 16 37]))))))))))))) (rn [ob 38 .add 9 (kI 1),im 9 38]))))))))) (sr [o1 2 (.asg kT)] .ret))
def Iz:AFn:=⟨Ajx,Me.erase,[.tmp 2],1⟩
def PY(P:Pg)(x:(List Commit))(K:Bool→Unit→Prop):Prop:=
 Ah (D:=Bool) (fun J1=>A4 (D:=(Bool×Int)) (false,(0:Int)) (fun d3 J4=>(((decide (d3.2<(x.length:Int)))=true→Ah (D:=Bool) (fun J5=>(0≤d3.2∧d3.2<(x.length:Int))∧
 (d3.2.toNat<x.length)∧
 Ah (D:=Bool) (fun J7=>A4 (D:=(Bool×Int)) (d3.1,(0:Int)) (fun d9 J10=>(((decide (d9.2<((Qa2 (Qa0 x d3.2.toNat Ak).1:Nat):Int)))=true→Ah (D:=Bool) (fun J11=>(0≤d9.2∧d9.2<((Qa2 (Qa0 x d3.2.toNat Ak).1:Nat):Int))∧
 (d9.2.toNat<Qa2 (Qa0 x d3.2.toNat Ak).1)∧
 (((cond (decide ((Qa0 (Qa0 x d3.2.toNat Ak).1 d9.2.toNat (0:Int))<0)) true (decide ((Qa0 (Qa0 x d3.2.toNat Ak).1 d9.2.toNat (0:Int))≥(x.length:Int))))=false→0≤d9.2∧d9.2≤((Qa2 (Qa0 x d3.2.toNat Ak).1:Nat):Int)))∧
 Ah (D:=Bool) (fun J13=>(((cond (decide ((Qa0 (Qa0 x d3.2.toNat Ak).1 d9.2.toNat (0:Int))<0)) true (decide ((Qa0 (Qa0 x d3.2.toNat Ak).1 d9.2.toNat (0:Int))≥(x.length:Int))))=false→Fn P "slices.Contains[[]int,int]" Cr ((List.take d9.2.toNat (Qa0 x d3.2.toNat Ak).1),(Qa0 (Qa0 x d3.2.toNat Ak).1 d9.2.toNat (0:Int))) (fun(d14:Bool) _=>J13 d14))∧(((cond (decide ((Qa0 (Qa0 x d3.2.toNat Ak).1 d9.2.toNat (0:Int))<0)) true (decide ((Qa0 (Qa0 x d3.2.toNat Ak).1 d9.2.toNat (0:Int))≥(x.length:Int))))=true→J13 false)∧True))) (fun d15=>(((cond (cond (decide ((Qa0 (Qa0 x d3.2.toNat Ak).1 d9.2.toNat (0:Int))<0)) true (decide ((Qa0 (Qa0 x d3.2.toNat Ak).1 d9.2.toNat (0:Int))≥(x.length:Int)))) true d15)=true→K false ())∧((cond (cond (decide ((Qa0 (Qa0 x d3.2.toNat Ak).1 d9.2.toNat (0:Int))<0)) true (decide ((Qa0 (Qa0 x d3.2.toNat Ak).1 d9.2.toNat (0:Int))≥(x.length:Int)))) true d15)=false→J11 d9.1)))) (fun d12=>J10 (d12,(i64.wrap (d9.2+1)))))∧((decide (d9.2<((Qa2 (Qa0 x d3.2.toNat Ak).1:Nat):Int)))=false→J7 d9.1)))) (fun d8=>J5 d8)) (fun d6=>J4 (d6,(i64.wrap (d3.2+1)))))∧((decide (d3.2<(x.length:Int)))=false→J1 d3.1)))) (fun d2=>K true ())
theorem VX{P}(h:Has P Iz){x K}(hw:PY P x K):Fn P Ajx GC x K:=
 zF Me h hw
def Nz:Ar:=
 sr [o1 2 (.asg ni)] (sr [im 14 0,ol 15 14,oT ⟨some 16,.mkSl 1 8 [.int .i64 0] 15 15,none⟩ (some (bI,.leaf)),ia 3 16] (sq (sr [im 17 0,ol 18 17,o1 19 (.mv (kI 0))] (.frame (rg [3,5,7] 19 19) [1005] false (.join [.sl 3 false (.sl bI) tO] (bk
 0 (.loop [.sl 3 false (.sl bI) tO,.si 19] (sr [ob 20 .lss 19 18] (sq (cx 20 0) (sq (.frame (rg [3,5,7] 21 16) [1005] false (.join [.sl 3 false (.sl bI) tO] (bk 1 (sr [ox 21 3 17 19,o1 22 (.load true 3 21),o1 5 (.alloc [.slice none 0 0,.int
 .i64 0,.slice none 0 0]),o0 ⟨none,.store 3 5 22,none⟩] (sr [fa 23 0 5,ld 24 23,ol 25 24,o1 26 (.mv (kI 0))] (fk [3,7] 26 11 (.join [.sl 3 false (.sl bI) tO] (bk 2 (.loop [.sl 3 false (.sl bI) tO,.si 26] (sr [ob 27 .lss 26 25] (sq (cx 27 2)
 (sq (fk [3,7] 28 8 (.join [.sl 3 false (.sl bI) tO] (bk 3 (sr [ox 28 1 24 26,ld 29 28,ia 7 29] (rn [im 30 3,im 31 7,ox 32 1 30 31,ld 33 32,ob 34 .add 33 (kI 1),ox 35 1 30 31,o0 ⟨none,.store 1 35 34,none⟩]))))) (rn [ob 36 .add 26 (kI 1),im
 26 36]))))))))))))) (rn [ob 37 .add 19 (kI 1),im 19 37]))))))))) (sr [o1 8 (.asg ni)] (sq (sr [im 38 3,ol 39 38,o1 40 (.mv (kI 0))] (fk [8,9,10] 40 12 (.join [.sl 8 false (.sl bI) tO] (bk 4 (.loop [.sl 8 false (.sl bI) tO,.si 40] (sr [ob
 41 .lss 40 39] (sq (cx 41 4) (sq (fk [8,9,10] 42 9 (.join [.sl 8 false (.sl bI) tO] (bk 5 (sr [im 42 40,ox 43 1 38 40,ld 44 43,ia 9 42,ia 10 44] (sr [im 45 10,ob 46 .eql 45 (kI 0)] (fk [8] 47 4 (.join [.sl 8 false (.sl bI) tO] (cn 46 (rn
 [im 47 8,im 48 9,oT ⟨some 49,.buildSl 1 [.int .i64 0] 1 [(0,48)],none⟩ (some (bI,.leaf)),oT ⟨some 50,.app 1 8 47 49,none⟩ (some (bI,.leaf)),ia 8 50]) .skip)))))))) (rn [ob 51 .add 40 (kI 1),im 40 51]))))))))) (sq (sr [ia 11 (kI 0)] (fk
 [3,8,11,13] 52 35 (.join [.sl 8 false (.sl bI) tO] (bk 6 (.loop [.sl 3 false (.sl bI) tO,.sl 8 false (.sl bI) tO,.si 11] (sq (sr [im 52 11,im 53 8,ol 54 53,ob 55 .lss 52 54] (cx 55 6)) (sq (fk [3,8,13] 58 29 (.join [.sl 3 false (.sl bI)
 tO,.sl 8 false (.sl bI) tO] (bk 7 (sr [im 58 0,im 59 8,im 60 11,ox 61 1 59 60,ld 62 61,ox 63 3 58 62,fa 64 0 63,ld 65 64,ol 66 65,o1 67 (.mv (kI 0))] (fk [3,8,13] 67 20 (.join [.sl 3 false (.sl bI) tO,.sl 8 false (.sl bI) tO] (bk 8 (.loop
 [.sl 3 false (.sl bI) tO,.sl 8 false (.sl bI) tO,.si 67] (sr [ob 68 .lss 67 66] (sq (cx 68 8) (sq (fk [3,8,13] 69 17 (.join [.sl 3 false (.sl bI) tO,.sl 8 false (.sl bI) tO] (bk 9 (sr [ox 69 1 65 67,ld 70 69,ia 13 70] (sr [im 71 3,im 72
 13,ox 73 1 71 72,ld 74 73,ob 75 .sub 74 (kI 1),ox 76 1 71 72,o0 ⟨none,.store 1 76 75,none⟩] (sr [im 77 3,im 78 13,ox 79 1 77 78,ld 80 79,ob 81 .eql 80 (kI 0)] (fk [8] 82 4 (.join [.sl 8 false (.sl bI) tO] (cn 81 (rn [im 82 8,im 83 13,oT
 ⟨some 84,.buildSl 1 [.int .i64 0] 1 [(0,83)],none⟩ (some (bI,.leaf)),oT ⟨some 85,.app 1 8 82 84,none⟩ (some (bI,.leaf)),ia 8 85]) .skip))))))))) (rn [ob 86 .add 67 (kI 1),im 67 86])))))))))))) (rn [im 56 11,ob 57 .add 56 (kI 1),ia 11
 57])))))))) (sr [im 87 8,ia 2 87] .ret))))))
def Jq:AFn:=⟨Ajy,Nz.erase,[.tmp 2],1⟩
def Rf(P:Pg)(x:(List Commit))(K:(List Int)→Unit→Prop):Prop:=
 (0≤(x.length:Int)∧(x.length:Int)≤(x.length:Int)∧((8:Nat):Int)*(x.length:Int)≤281474976710656)∧
 Ah (D:=(List Int)) (fun J1=>A4 (D:=((List Int)×Int)) ((List.replicate (Qa1 (x.length:Int)) (0:Int)),(0:Int)) (fun d3 J4=>(((decide (d3.2<(x.length:Int)))=true→Ah (D:=(List Int)) (fun J5=>(0≤d3.2∧d3.2<(x.length:Int))∧
 (d3.2.toNat<x.length)∧
 Ah (D:=(List Int)) (fun J7=>A4 (D:=((List Int)×Int)) (d3.1,(0:Int)) (fun d9 J10=>(((decide (d9.2<((Qa2 (Qa0 x d3.2.toNat Ak).1:Nat):Int)))=true→Ah (D:=(List Int)) (fun J11=>(0≤d9.2∧d9.2<((Qa2 (Qa0 x d3.2.toNat Ak).1:Nat):Int))∧
 (d9.2.toNat<Qa2 (Qa0 x d3.2.toNat Ak).1)∧
 (0≤(Qa0 (Qa0 x d3.2.toNat Ak).1 d9.2.toNat (0:Int))∧(Qa0 (Qa0 x d3.2.toNat Ak).1 d9.2.toNat (0:Int))<(d9.1.length:Int))∧
 ((Qa1 (Qa0 (Qa0 x d3.2.toNat Ak).1 d9.2.toNat (0:Int)))<d9.1.length)∧
 (0≤(Qa0 (Qa0 x d3.2.toNat Ak).1 d9.2.toNat (0:Int))∧(Qa0 (Qa0 x d3.2.toNat Ak).1 d9.2.toNat (0:Int))<(d9.1.length:Int))∧
 ((Qa1 (Qa0 (Qa0 x d3.2.toNat Ak).1 d9.2.toNat (0:Int)))<d9.1.length)∧
 J11 (Qa3 d9.1 (Qa1 (Qa0 (Qa0 x d3.2.toNat Ak).1 d9.2.toNat (0:Int))) (i64.wrap ((Qa0 d9.1 (Qa1 (Qa0 (Qa0 x d3.2.toNat Ak).1 d9.2.toNat (0:Int))) (0:Int))+1)))) (fun d12=>J10 (d12,(i64.wrap (d9.2+1)))))∧((decide (d9.2<((Qa2 (Qa0 x d3.2.toNat Ak).1:Nat):Int)))=false→J7 d9.1)))) (fun d8=>J5 d8)) (fun d6=>J4 (d6,(i64.wrap (d3.2+1)))))∧((decide (d3.2<(x.length:Int)))=false→J1 d3.1)))) (fun d2=>Ah (D:=(List Int)) (fun J13=>A4 (D:=((List Int)×Int)) ([],(0:Int)) (fun d15 J16=>(((decide (d15.2<(d2.length:Int)))=true→Ah (D:=(List Int)) (fun J17=>(0≤d15.2∧d15.2<(d2.length:Int))∧
 (d15.2.toNat<d2.length)∧
 Ah (D:=(List Int)) (fun J19=>((((Qa0 d2 d15.2.toNat (0:Int))==0)=true→((d15.1.length+Qa2 ([d15.2]:List Int))*8≤140737488355328)∧
 J19 (d15.1++([d15.2]:List Int)))∧(((Qa0 d2 d15.2.toNat (0:Int))==0)=false→J19 d15.1))) (fun d20=>J17 d20)) (fun d18=>J16 (d18,(i64.wrap (d15.2+1)))))∧((decide (d15.2<(d2.length:Int)))=false→J13 d15.1)))) (fun d14=>Ah (D:=(List Int)) (fun J21=>A4 (D:=((List Int)×((List Int)×Int))) (d2,(d14,(0:Int))) (fun d23 J24=>(((decide (d23.2.2<(d23.2.1.length:Int)))=true→Ah (D:=((List Int)×(List Int))) (fun J25=>(0≤d23.2.2∧d23.2.2<(d23.2.1.length:Int))∧
 (d23.2.2.toNat<d23.2.1.length)∧
 (0≤(Qa0 d23.2.1 d23.2.2.toNat (0:Int))∧(Qa0 d23.2.1 d23.2.2.toNat (0:Int))<(x.length:Int))∧
 ((Qa1 (Qa0 d23.2.1 d23.2.2.toNat (0:Int)))<x.length)∧
 Ah (D:=((List Int)×(List Int))) (fun J27=>A4 (D:=((List Int)×((List Int)×Int))) (d23.1,(d23.2.1,(0:Int))) (fun d29 J30=>(((decide (d29.2.2<((Qa2 (Qa0 x (Qa1 (Qa0 d23.2.1 d23.2.2.toNat (0:Int))) Ak).1:Nat):Int)))=true→Ah (D:=((List Int)×(List Int))) (fun J31=>(0≤d29.2.2∧d29.2.2<((Qa2 (Qa0 x (Qa1 (Qa0 d23.2.1 d23.2.2.toNat (0:Int))) Ak).1:Nat):Int))∧
 (d29.2.2.toNat<Qa2 (Qa0 x (Qa1 (Qa0 d23.2.1 d23.2.2.toNat (0:Int))) Ak).1)∧
 (0≤(Qa0 (Qa0 x (Qa1 (Qa0 d23.2.1 d23.2.2.toNat (0:Int))) Ak).1 d29.2.2.toNat (0:Int))∧(Qa0 (Qa0 x (Qa1 (Qa0 d23.2.1 d23.2.2.toNat (0:Int))) Ak).1 d29.2.2.toNat (0:Int))<(d29.1.length:Int))∧
 ((Qa1 (Qa0 (Qa0 x (Qa1 (Qa0 d23.2.1 d23.2.2.toNat (0:Int))) Ak).1 d29.2.2.toNat (0:Int)))<d29.1.length)∧
 (0≤(Qa0 (Qa0 x (Qa1 (Qa0 d23.2.1 d23.2.2.toNat (0:Int))) Ak).1 d29.2.2.toNat (0:Int))∧(Qa0 (Qa0 x (Qa1 (Qa0 d23.2.1 d23.2.2.toNat (0:Int))) Ak).1 d29.2.2.toNat (0:Int))<(d29.1.length:Int))∧
 ((Qa1 (Qa0 (Qa0 x (Qa1 (Qa0 d23.2.1 d23.2.2.toNat (0:Int))) Ak).1 d29.2.2.toNat (0:Int)))<d29.1.length)∧
 (0≤(Qa0 (Qa0 x (Qa1 (Qa0 d23.2.1 d23.2.2.toNat (0:Int))) Ak).1 d29.2.2.toNat (0:Int))∧(Qa0 (Qa0 x (Qa1 (Qa0 d23.2.1 d23.2.2.toNat (0:Int))) Ak).1 d29.2.2.toNat (0:Int))<((Qa2 (Qa3 d29.1 (Qa1 (Qa0 (Qa0 x (Qa1 (Qa0 d23.2.1 d23.2.2.toNat (0:Int))) Ak).1 d29.2.2.toNat (0:Int))) (i64.wrap ((Qa0 d29.1 (Qa1 (Qa0 (Qa0 x (Qa1 (Qa0 d23.2.1 d23.2.2.toNat (0:Int))) Ak).1 d29.2.2.toNat (0:Int))) (0:Int)) -1))):Nat):Int))∧
 ((Qa1 (Qa0 (Qa0 x (Qa1 (Qa0 d23.2.1 d23.2.2.toNat (0:Int))) Ak).1 d29.2.2.toNat (0:Int)))<Qa2 (Qa3 d29.1 (Qa1 (Qa0 (Qa0 x (Qa1 (Qa0 d23.2.1 d23.2.2.toNat (0:Int))) Ak).1 d29.2.2.toNat (0:Int))) (i64.wrap ((Qa0 d29.1 (Qa1 (Qa0 (Qa0 x (Qa1 (Qa0 d23.2.1 d23.2.2.toNat (0:Int))) Ak).1 d29.2.2.toNat (0:Int))) (0:Int)) -1))))∧
 Ah (D:=(List Int)) (fun J33=>((((Qa0 (Qa3 d29.1 (Qa1 (Qa0 (Qa0 x (Qa1 (Qa0 d23.2.1 d23.2.2.toNat (0:Int))) Ak).1 d29.2.2.toNat (0:Int))) (i64.wrap ((Qa0 d29.1 (Qa1 (Qa0 (Qa0 x (Qa1 (Qa0 d23.2.1 d23.2.2.toNat (0:Int))) Ak).1 d29.2.2.toNat (0:Int))) (0:Int)) -1))) (Qa1 (Qa0 (Qa0 x (Qa1 (Qa0 d23.2.1 d23.2.2.toNat (0:Int))) Ak).1 d29.2.2.toNat (0:Int))) (0:Int))==0)=true→((d29.2.1.length+Qa2 ([(Qa0 (Qa0 x (Qa1 (Qa0 d23.2.1 d23.2.2.toNat (0:Int))) Ak).1 d29.2.2.toNat (0:Int))]:List Int))*8≤140737488355328)∧
 J33 (d29.2.1++([(Qa0 (Qa0 x (Qa1 (Qa0 d23.2.1 d23.2.2.toNat (0:Int))) Ak).1 d29.2.2.toNat (0:Int))]:List Int)))∧(((Qa0 (Qa3 d29.1 (Qa1 (Qa0 (Qa0 x (Qa1 (Qa0 d23.2.1 d23.2.2.toNat (0:Int))) Ak).1 d29.2.2.toNat (0:Int))) (i64.wrap ((Qa0 d29.1 (Qa1 (Qa0 (Qa0 x (Qa1 (Qa0 d23.2.1 d23.2.2.toNat (0:Int))) Ak).1 d29.2.2.toNat (0:Int))) (0:Int)) -1))) (Qa1 (Qa0 (Qa0 x (Qa1 (Qa0 d23.2.1 d23.2.2.toNat (0:Int))) Ak).1 d29.2.2.toNat (0:Int))) (0:Int))==0)=false→J33 d29.2.1))) (fun d34=>J31 ((Qa3 d29.1 (Qa1 (Qa0 (Qa0 x (Qa1 (Qa0 d23.2.1 d23.2.2.toNat (0:Int))) Ak).1 d29.2.2.toNat (0:Int))) (i64.wrap ((Qa0 d29.1 (Qa1 (Qa0 (Qa0 x (Qa1 (Qa0 d23.2.1 d23.2.2.toNat (0:Int))) Ak).1 d29.2.2.toNat (0:Int))) (0:Int)) -1))),d34))) (fun d32=>J30 (d32.1,(d32.2,(i64.wrap (d29.2.2+1))))))∧((decide (d29.2.2<((Qa2 (Qa0 x (Qa1 (Qa0 d23.2.1 d23.2.2.toNat (0:Int))) Ak).1:Nat):Int)))=false→J27 (d29.1,d29.2.1))))) (fun d28=>J25 d28)) (fun d26=>J24 (d26.1,(d26.2,(i64.wrap (d23.2.2+1))))))∧((decide (d23.2.2<(d23.2.1.length:Int)))=false→J21 d23.2.1)))) (fun d22=>K d22 ())))
theorem XM{P}(h:Has P Jq){x K}(hw:Rf P x K):Fn P Ajy Hu x K:=
 zF Nz h hw
def KT:Ar:=
 sr [o1 1 (.box 0),o1 2 (.asg kF)] (sr [fa 3 0 1,ld 4 3,oc 5 Ale [4] EC,ob 6 .neq 5 (kI 0),ia 2 6] .ret)
def Hs:AFn:=⟨Ajl,KT.erase,[.tmp 2],1⟩
def Om(P:Pg)(x:(Bt8×Bt8))(K:Bool→Unit→Prop):Prop:=
 Fn P Ale EC x.1 (fun(d1:Int) _=>K (d1 !=0) ())
theorem UL{P}(h:Has P Hs){x K}(hw:Om P x K):Fn P Ajl FI x K:=
 zF KT h hw
def BH:Ar:=
 sr [ia 4 (kI 0)] (sq (sr [im 6 0,ol 7 6,o1 8 (.mv (kI 0))] (fj [4,5] 8 11 [4] (bl 0 [4,8] (sr [ob 9 .lss 8 7] (sq (cx 9 0) (sq (fj [4,5] 10 8 [4] (bk 1 (sr [im 10 8,ia 5 10] (sr [im 11 1,im 12 0,im 13 5,ox 14 2 12 13,o1 15 (.load true 2
 14),oS ⟨some 16,.callv 11 [15],none⟩ FI] (cn 16 (sr [im 17 5,ia 4 17] .ret) .skip))))) (rn [ob 18 .add 8 (kI 1),im 8 18]))))))) (sr [ia 4 (kI (-1))] .ret))
def A7:AFn:=⟨zS6,BH.erase,[.tmp 4],2⟩
def Cj(P:Pg)(x:((List (Bt8×Bt8))×Unit))(K:Int→Unit→Prop):Prop:=
 Ah (D:=Int) (fun J1=>A4 (D:=(Int×Int)) ((0:Int),(0:Int)) (fun d3 J4=>(((decide (d3.2<(x.1.length:Int)))=true→Ah (D:=Int) (fun J5=>(0≤d3.2∧d3.2<(x.1.length:Int))∧
 (d3.2.toNat<x.1.length)∧
 Fn P Ajl FI (Qa0 x.1 d3.2.toNat ([],[])) (fun(d7:Bool) _=>((d7=true→K d3.2 ())∧(d7=false→J5 d3.1)))) (fun d6=>J4 (d6,(i64.wrap (d3.2+1)))))∧((decide (d3.2<(x.1.length:Int)))=false→J1 d3.1)))) (fun d2=>K (-1:Int) ())
theorem DV{P}(h:Has P A7){x K}(hw:Cj P x K):Fn P zS6 AP x K:=
 zF BH h hw
def Bx:Ar:=
 sr [o1 4 (.asg kF)] (sr [im 5 0,im 6 1,oc 7 zS6 [5,6] AP,ob 8 .geq 7 (kI 0),ia 4 8] .ret)
def A1:AFn:=⟨zS7,Bx.erase,[.tmp 4],2⟩
def Ce(P:Pg)(x:((List (Bt8×Bt8))×Unit))(K:Bool→Unit→Prop):Prop:=
 Fn P zS6 AP (x.1,()) (fun(d1:Int) _=>K (decide (d1≥0)) ())
theorem DF{P}(h:Has P A1){x K}(hw:Ce P x K):Fn P zS7 AL x K:=
 zF Bx h hw
def KV:Ar:=
 sr [o1 1 (.box 0),o1 2 (.asg kF)] (sr [fa 3 1 1,ld 4 3,oc 5 Ahc [4] ER,ob 6 .neq 5 (kI 0),ia 2 6] .ret)
def Ht:AFn:=⟨Ajm,KV.erase,[.tmp 2],1⟩
def Oo(P:Pg)(x:(Bt8×Bt8))(K:Bool→Unit→Prop):Prop:=
 Fn P Ahc ER x.2 (fun(d1:Int) _=>K (d1 !=0) ())
theorem UM{P}(h:Has P Ht){x K}(hw:Oo P x K):Fn P Ajm FJ x K:=
 zF KV h hw
def BI:Ar:=
 sr [ia 4 (kI 0)] (sq (sr [im 6 0,ol 7 6,o1 8 (.mv (kI 0))] (fj [4,5] 8 11 [4] (bl 0 [4,8] (sr [ob 9 .lss 8 7] (sq (cx 9 0) (sq (fj [4,5] 10 8 [4] (bk 1 (sr [im 10 8,ia 5 10] (sr [im 11 1,im 12 0,im 13 5,ox 14 2 12 13,o1 15 (.load true 2
 14),oS ⟨some 16,.callv 11 [15],none⟩ FJ] (cn 16 (sr [im 17 5,ia 4 17] .ret) .skip))))) (rn [ob 18 .add 8 (kI 1),im 8 18]))))))) (sr [ia 4 (kI (-1))] .ret))
def A8:AFn:=⟨zS6,BI.erase,[.tmp 4],2⟩
def Ck(P:Pg)(x:((List (Bt8×Bt8))×Unit))(K:Int→Unit→Prop):Prop:=
 Ah (D:=Int) (fun J1=>A4 (D:=(Int×Int)) ((0:Int),(0:Int)) (fun d3 J4=>(((decide (d3.2<(x.1.length:Int)))=true→Ah (D:=Int) (fun J5=>(0≤d3.2∧d3.2<(x.1.length:Int))∧
 (d3.2.toNat<x.1.length)∧
 Fn P Ajm FJ (Qa0 x.1 d3.2.toNat ([],[])) (fun(d7:Bool) _=>((d7=true→K d3.2 ())∧(d7=false→J5 d3.1)))) (fun d6=>J4 (d6,(i64.wrap (d3.2+1)))))∧((decide (d3.2<(x.1.length:Int)))=false→J1 d3.1)))) (fun d2=>K (-1:Int) ())
theorem DW{P}(h:Has P A8){x K}(hw:Ck P x K):Fn P zS6 AQ x K:=
 zF BI h hw
def Bz:Ar:=
 sr [o1 4 (.asg kF)] (sr [im 5 0,im 6 1,oc 7 zS6 [5,6] AQ,ob 8 .geq 7 (kI 0),ia 4 8] .ret)
def A2:AFn:=⟨zS7,Bz.erase,[.tmp 4],2⟩
def Cf(P:Pg)(x:((List (Bt8×Bt8))×Unit))(K:Bool→Unit→Prop):Prop:=
 Fn P zS6 AQ (x.1,()) (fun(d1:Int) _=>K (decide (d1≥0)) ())
theorem DG{P}(h:Has P A2){x K}(hw:Cf P x K):Fn P zS7 AN x K:=
 zF Bz h hw
def ND:Ar:=
 sr [ia 2 (kI 0)] (sq (fj [] 2 15 [2] (bk 0 (sr [im 4 0,ol 5 4,ob 6 .gtr 5 (kI 200),ia 3 6] (cn 3 (sr [ia 2 (kI 1)] .ret) (sr [im 8 0,oc 9 zS7 [8,.f Ajl]
 AL,ia 7 9] (cn 7 (sr [ia 2 (kI 210)] .ret) (sr [im 11 0,oc 12 "mergelens/tree.ordered" [11] Hy,o1 13 (.un .not 12),ia 10 13] (cn 10 (sr [ia 2 (kI 211)] .ret) (sr [im 15 0,oc 16
 zS7 [15,.f Ajm] AN,ia 14 16] (cn 14 (sr [ia 2 (kI 1)] .ret) .skip)))))))))) (sr [ia 2 (kI 0)] .ret))
def Hr:AFn:=⟨zS3,ND.erase,[.tmp 2],1⟩
def Nc(P:Pg)(x:(List (Bt8×Bt8)))(K:Int→Unit→Prop):Prop:=
 Ah (D:=Int) (fun J1=>(((decide ((x.length:Int)>200))=true→K (1:Int) ())∧((decide ((x.length:Int)>200))=false→Fn P zS7 AL (x,()) (fun(d3:Bool) _=>((d3=true→K (210:Int) ())∧(d3=false→Fn P "mergelens/tree.ordered" Hy x (fun(d5:Bool) _=>(((!d5)=true→K (211:Int) ())∧((!d5)=false→Fn P zS7 AN (x,()) (fun(d7:Bool) _=>((d7=true→K (1:Int) ())∧(d7=false→J1 (0:Int))))))))))))) (fun d2=>K (0:Int) ())
theorem P3{P}(h:Has P Hr){x K}(hw:Nc P x K):Fn P zS3 CN x K:=
 zF ND h hw
def Mb:Ar:=
 sr [o1 1 (.box 0),o1 2 (.asg kF)] (sr [fa 3 1 1,ld 4 3,ob 5 .lss 4 (kI 0),im 6 5,gf 7 6 (.fAddr 1 1),gf 8 6 (.load false 1 7),gf 9 6 (.bin .gtr 8 (kI 2147483647)),op3 10 6 kT 9,ia 2 10] .ret)
def Iw:AFn:=⟨Ak9,Mb.erase,[.tmp 2],1⟩
def XH(P:Pg)(x:Commit)(K:Bool→Unit→Prop):Prop:=
 K (cond (decide (x.2.1<0)) true (decide (x.2.1>2147483647))) ()
theorem VV{P}(h:Has P Iw){x K}(hw:XH P x K):Fn P Ak9 IC x K:=
 zF Mb h hw
def BA:Ar:=
 sr [ia 4 (kI 0)] (sq (sr [im 6 0,ol 7 6,o1 8 (.mv (kI 0))] (fj [4,5] 8 11 [4] (bl 0 [4,8] (sr [ob 9 .lss 8 7] (sq (cx 9 0) (sq (fj [4,5] 10 8 [4] (bk 1 (sr [im 10 8,ia 5 10] (sr [im 11 1,im 12 0,im 13 5,ox 14 3 12 13,o1 15 (.load true 3
 14),oS ⟨some 16,.callv 11 [15],none⟩ IC] (cn 16 (sr [im 17 5,ia 4 17] .ret) .skip))))) (rn [ob 18 .add 8 (kI 1),im 8 18]))))))) (sr [ia 4 (kI (-1))] .ret))
def A3:AFn:=⟨zS4,BA.erase,[.tmp 4],2⟩
def Cg(P:Pg)(x:((List Commit)×Unit))(K:Int→Unit→Prop):Prop:=
 Ah (D:=Int) (fun J1=>A4 (D:=(Int×Int)) ((0:Int),(0:Int)) (fun d3 J4=>(((decide (d3.2<(x.1.length:Int)))=true→Ah (D:=Int) (fun J5=>(0≤d3.2∧d3.2<(x.1.length:Int))∧
 (d3.2.toNat<x.1.length)∧
 Fn P Ak9 IC (Qa0 x.1 d3.2.toNat Ak) (fun(d7:Bool) _=>((d7=true→K d3.2 ())∧(d7=false→J5 d3.1)))) (fun d6=>J4 (d6,(i64.wrap (d3.2+1)))))∧((decide (d3.2<(x.1.length:Int)))=false→J1 d3.1)))) (fun d2=>K (-1:Int) ())
theorem DH{P}(h:Has P A3){x K}(hw:Cg P x K):Fn P zS4 AO x K:=
 zF BA h hw
def Bp:Ar:=
 sr [o1 4 (.asg kF)] (sr [im 5 0,im 6 1,oc 7 zS4 [5,6] AO,ob 8 .geq 7 (kI 0),ia 4 8] .ret)
def AY:AFn:=⟨zS5,Bp.erase,[.tmp 4],2⟩
def BZ(P:Pg)(x:((List Commit)×Unit))(K:Bool→Unit→Prop):Prop:=
 Fn P zS4 AO (x.1,()) (fun(d1:Int) _=>K (decide (d1≥0)) ())
theorem Di{P}(h:Has P AY){x K}(hw:BZ P x K):Fn P zS5 AE x K:=
 zF Bp h hw
def O0:Ar:=
 sr [ia 2 (kI 0)] (sq (fj [2] 6 18 [2] (bk 0 (sr [im 7 0,oc 8 Ajw [7] GB,o1 9 (.un .not 8),ia 6 9] (cn 6 (sr [ia 2 (kI 1)] .ret) (sr [im 11 0,oc 12 Ajx [11] GC,o1 13 (.un .not
 12),ia 10 13] (cn 10 (sr [ia 2 (kI 230)] .ret) (sr [im 15 0,oc 16 Ajy [15] Hu,ol 17 16,im 18 0,ol 19 18,ob 20 .lss 17 19,ia 14 20] (cn 14 (sr [ia 2 (kI 231)] .ret) (sr [im 22 0,oc 23
 zS5 [22,.f Ak9] AE,ia 21 23] (cn 21 (sr [ia 2 (kI 3)] .ret) .skip)))))))))) (sq (sr [im 24 0,ol 25
 24,o1 26 (.mv (kI 0))] (.frame (rg [2,4,5] 26 11) [1004] false (.join [.si 2] (bl 1 [2,26] (sr [ob 27 .lss 26 25] (sq (cx 27 1) (sq (.frame (rg [2,4,5] 28 8) [1004] false (.join [.si 2] (bk 2 (sr [ox 28 3 24 26,o1 29 (.load true 3 28),o1 4
 (.alloc [.slice none 0 0,.int .i64 0,.slice none 0 0]),o0 ⟨none,.store 3 4 29,none⟩] (sr [fa 30 2 4,ld 31 30,oc 32 zS3 [31] CN,ia 5 32] (sr [im 33 5,ob 34 .neq 33 (kI 0)] (cn 34 (sr [im 35 5,ia 2 35] .ret)
 .skip))))))) (rn [ob 36 .add 26 (kI 1),im 26 36])))))))) (sr [ia 2 (kI 0)] .ret)))
def Li:AFn:=⟨Ajz,O0.erase,[.tmp 2],1⟩
def Ub(P:Pg)(x:(List Commit))(K:Int→Unit→Prop):Prop:=
 Ah (D:=Int) (fun J1=>Fn P Ajw GB x (fun(d3:Bool) _=>(((!d3)=true→K (1:Int) ())∧((!d3)=false→Fn P Ajx GC x (fun(d5:Bool) _=>(((!d5)=true→K (230:Int) ())∧((!d5)=false→Fn P Ajy Hu x (fun(d7:(List Int)) _=>(((decide ((d7.length:Int)<(x.length:Int)))=true→K (231:Int) ())∧((decide ((d7.length:Int)<(x.length:Int)))=false→Fn P zS5 AE (x,()) (fun(d9:Bool) _=>((d9=true→K (3:Int) ())∧(d9=false→J1 (0:Int)))))))))))))) (fun d2=>Ah (D:=Int) (fun J11=>A4 (D:=(Int×Int)) (d2,(0:Int)) (fun d13 J14=>(((decide (d13.2<(x.length:Int)))=true→Ah (D:=Int) (fun J15=>(0≤d13.2∧d13.2<(x.length:Int))∧
 (d13.2.toNat<x.length)∧
 Fn P zS3 CN (Qa0 x d13.2.toNat Ak).2.2 (fun(d17:Int) _=>(((d17 !=0)=true→K d17 ())∧((d17 !=0)=false→J15 d13.1)))) (fun d16=>J14 (d16,(i64.wrap (d13.2+1)))))∧((decide (d13.2<(x.length:Int)))=false→J11 d13.1)))) (fun d12=>K (0:Int) ()))
theorem Zr{P}(h:Has P Li){x K}(hw:Ub P x K):Fn P Ajz Hc x K:=
 zF O0 h hw
def Xm:Ar:=
 sr [o1 4 (.asg kF)] (sr [im 5 1,ob 6 .geq 5 (kI 0),im 7 6,gt 8 7 (.mv 1),gt 9 7 (.mv 0),gt 10 7 (.lenK 9),gt 11 7 (.bin .lss 8 10),op3 12 7 11 kF,ia 4 12] .ret)
def Oc:AFn:=⟨AjA,Xm.erase,[.tmp 4],2⟩
def Vx(P:Pg)(x:((List Commit)×Int))(K:Bool→Unit→Prop):Prop:=
 K (cond (decide (x.2≥0)) (decide (x.2<(x.1.length:Int))) false) ()
theorem Yr{P}(h:Has P Oc){x K}(hw:Vx P x K):Fn P AjA Mm x K:=
 zF Xm h hw
def Jf:Ar:=
 sr [ia 4 (kI 0)] (sq (sr [im 6 0,oc 7 Ajz [6] Hc,ia 5 7] (sr [im 8 5,ob 9 .neq 8 (kI 0)] (cn 9 (sr [im 10 5,ia 4 10] .ret) .skip))) (sq (sr [im 11 0,im 12 1,oc 13 AjA [11,12] Mm,o1 14 (.un
 .not 13)] (cn 14 (sr [ia 4 (kI 5)] .ret) .skip)) (sr [ia 4 (kI 0)] .ret)))
def GO:AFn:=⟨AjB,Jf.erase,[.tmp 4],2⟩
def NP(P:Pg)(x:((List Commit)×Int))(K:Int→Unit→Prop):Prop:=
 Fn P Ajz Hc x.1 (fun(d1:Int) _=>(((d1 !=0)=true→K d1 ())∧((d1 !=0)=false→Fn P AjA Mm x (fun(d3:Bool) _=>(((!d3)=true→K (5:Int) ())∧((!d3)=false→K (0:Int) ()))))))
theorem Tt{P}(h:Has P GO){x K}(hw:NP P x K):Fn P AjB E5 x K:=
 zF Jf h hw
def Je:Ar:=
 sr [o1 4 (.asg ni),ia 5 (kI 0)] (sq (sr [im 7 0,im 8 1,oc 9 AjB [7,8] E5,ia 6 9] (sr [im 10 6,ob 11 .neq 10 (kI 0)] (cn 11 (sr [im 12 6,o1 4 (.asg ni),ia 5 12] .ret) .skip))) (sr [im 13 0,im 14 1,oc 15
 AeI [13,14] Ej,ia 4 15,ia 5 (kI 0)] .ret))
def GN:AFn:=⟨AjC,Je.erase,[.tmp 4,.tmp 5],2⟩
def NO(P:Pg)(x:((List Commit)×Int))(K:((List (List (Bt8×Int)))×Int)→Unit→Prop):Prop:=
 Fn P AjB E5 x (fun(d1:Int) _=>(((d1 !=0)=true→K ([],d1) ())∧((d1 !=0)=false→Fn P AeI Ej x (fun(d3:(List (List (Bt8×Int)))) _=>K (d3,(0:Int)) ()))))
theorem Ts{P}(h:Has P GN){x K}(hw:NO P x K):Fn P AjC E4 x K:=
 zF Je h hw
def Iu:Ar:=
 sr [o1 6 (.asg ni),ia 7 (kI 0)] (sq (sr [im 17 0,im 18 1,oc 19 AjC [17,18] E4,im 16 19,oe 20 16 0,oe 21 16 1,ia 8 20,ia 9 21] (sr [im 22 9,ob 23 .neq 22 (kI 0)] (cn 23 (sr [im 24 9,o1 6 (.asg ni),ia 7 24]
 .ret) .skip))) (sr [o1 10 (.asg ni)] (sq (sr [im 25 0,im 26 1,⟨⟨some 27,.call AcG [25,26],none⟩,none,CE,true,none,false,false⟩,ol 28 27,o1 29 (.mv (kI 0))] (.frame (rg [10,12,13,15] 29 27) [1015] false
 (.join [.sl 10 false (.sl bI) tO] (bk 0 (.loop [.sl 10 false (.sl bI) tO,.si 29] (sr [ob 30 .lss 29 28] (sq (cx 30 0) (sq (.frame (rg [10,12,13,15] 31 24) [1015] false (.join [.sl 10 false (.sl bI) tO] (bk 1 (sr [ox 31 1 27 29,ld 32 31,ia
 12 32] (sr [ia 13 (kI 0)] (sq (sr [im 33 12,ol 34 33,o1 35 (.mv (kI 0))] (.frame (rg [13,15] 35 16) [1015] false (.join [.si 13] (bl 2 [13,35] (sr [ob 36 .lss 35 34] (sq (cx 36 2) (sq (.frame (rg [13,15] 37 13) [1015] false (.join [.si 13]
 (bk 3 (sr [ox 37 2 33 35,o1 38 (.load true 2 37),o1 15 (.alloc [.string ⟨#[]⟩,.string ⟨#[]⟩]),o0 ⟨none,.store 2 15 38,none⟩] (fj [13] 39 11 [13] (.draw [ti (im 39 13) (ti (im 40 2) (ti (o1 41 (.ixAr 2 1 15 (kI 1))) (ti (ld 42 41) (ti (im
 44 2) (ti (o1 45 (.ixAr 2 1 15 (kI 0))) (.alt (oc 43 zS0 [40,42] Ap) (ti (ld 46 45) (.alt (oc 47 zS0 [44,46] Ap) (ti (ob 48 .sub 43 47) (ti (ob 49 .add 39 48) (.alt (ia 13 49)
 .done .stop))) .stop)) (.alt (ld 46 45) (.alt (oc 43 zS0 [40,42] Ap) (.alt (oc 47 zS0 [44,46] Ap) (ti (ob 48 .sub 43 47) (ti (ob 49 .add 39 48) (.alt (ia 13 49) .done .stop)))
 .stop) .stop) .stop)))))))])))))) (rn [ob 50 .add 35 (kI 1),im 35 50])))))))) (rn [im 51 10,im 52 13,oT ⟨some 53,.buildSl 1 [.int .i64 0] 1 [(0,52)],none⟩ (some (bI,.leaf)),oT ⟨some 54,.app 1 8 51 53,none⟩ (some (bI,.leaf)),ia 10
 54]))))))) (rn [ob 55 .add 29 (kI 1),im 29 55]))))))))) (sr [im 56 10,ia 6 56,ia 7 (kI 0)] .ret))))
def FY:AFn:=⟨AjD,Iu.erase,[.tmp 6,.tmp 7],3⟩
def Ms(P:Pg)(x:((List Commit)×(Int×Bt8)))(K:((List Int)×Int)→Unit→Prop):Prop:=
 Fn P AjC E4 (x.1,x.2.1) (fun(d1:((List (List (Bt8×Int)))×Int)) _=>(((d1.2 !=0)=true→K ([],d1.2) ())∧((d1.2 !=0)=false→Fn P AcG CE (x.1,x.2.1) (fun(d3:(List (List (Bt8×Bt8)))) _=>Ah (D:=(List Int)) (fun J5=>A4 (D:=((List Int)×Int)) ([],(0:Int)) (fun d7 J8=>(((decide (d7.2<(d3.length:Int)))=true→Ah (D:=(List Int)) (fun J9=>(0≤d7.2∧d7.2<(d3.length:Int))∧
 (d7.2.toNat<d3.length)∧
 Ah (D:=Int) (fun J11=>A4 (D:=(Int×Int)) ((0:Int),(0:Int)) (fun d13 J14=>(((decide (d13.2<((Qa2 (Qa0 d3 d7.2.toNat []):Nat):Int)))=true→Ah (D:=Int) (fun J15=>(0≤d13.2∧d13.2<((Qa2 (Qa0 d3 d7.2.toNat []):Nat):Int))∧
 (d13.2.toNat<Qa2 (Qa0 d3 d7.2.toNat []))∧
 Ah (D:=Int) (fun J17=>(0≤(1:Int)∧(1:Int)<((2:Nat):Int))∧
 ((Qa1 (1:Int))<2)∧
 (0≤(0:Int)∧(0:Int)<((2:Nat):Int))∧
 (Fn P zS0 Ap (x.2.2,(Qa0 [(Qa0 (Qa0 d3 d7.2.toNat []) d13.2.toNat ([],[])).1,(Qa0 (Qa0 d3 d7.2.toNat []) d13.2.toNat ([],[])).2] (Qa1 (1:Int)) [])) (fun(d19:Int) _=>((Qa1 (0:Int))<2)∧
 (Fn P zS0 Ap (x.2.2,(Qa0 [(Qa0 (Qa0 d3 d7.2.toNat []) d13.2.toNat ([],[])).1,(Qa0 (Qa0 d3 d7.2.toNat []) d13.2.toNat ([],[])).2] (Qa1 (0:Int)) [])) (fun(d21:Int) _=>(J17 (i64.wrap (d13.1+(i64.wrap (d19 -d21)))))∧True))∧True))∧((((Qa1 (0:Int))<2)∧
 (Fn P zS0 Ap (x.2.2,(Qa0 [(Qa0 (Qa0 d3 d7.2.toNat []) d13.2.toNat ([],[])).1,(Qa0 (Qa0 d3 d7.2.toNat []) d13.2.toNat ([],[])).2] (Qa1 (1:Int)) [])) (fun(d23:Int) _=>(Fn P zS0 Ap (x.2.2,(Qa0 [(Qa0 (Qa0 d3 d7.2.toNat []) d13.2.toNat ([],[])).1,(Qa0 (Qa0 d3 d7.2.toNat []) d13.2.toNat ([],[])).2] (Qa1 (0:Int)) [])) (fun(d25:Int) _=>(J17 (i64.wrap (d13.1+(i64.wrap (d23 -d25)))))∧True))∧True))∧True)∧True)) (fun d18=>J15 d18)) (fun d16=>J14 (d16,(i64.wrap (d13.2+1)))))∧((decide (d13.2<((Qa2 (Qa0 d3 d7.2.toNat []):Nat):Int)))=false→J11 d13.1)))) (fun d12=>((d7.1.length+Qa2 ([d12]:List Int))*8≤140737488355328)∧
 J9 (d7.1++([d12]:List Int)))) (fun d10=>J8 (d10,(i64.wrap (d7.2+1)))))∧((decide (d7.2<(d3.length:Int)))=false→J5 d7.1)))) (fun d6=>K (d6,(0:Int)) ())))))
theorem Rx{P}(h:Has P FY){x K}(hw:Ms P x K):Fn P AjD EB x K:=
 zF Iu h hw
def Jh:Ar:=
 sr [o1 4 (.asg kF)] (sr [im 16 0,oc 17 Ajs [16,kI 6,kI 3] IL,ia 5 17] (sq (sr [im 18 5,ol 19 18,ob 20 .eql 19 (kI 0)] (cn 20 (sr [oc 21 AeK [] G7,ia 4 21] .ret) .skip))
 (sr [im 22 1,im 23 5,ol 24 23,oc 25 zS2 [22,24] Cy,ia 1 25] (sq (.frz [5] (rn [im 27 5,im 28 1,oc 29 Ajv [27,28,.c (.string ⟨#[97]⟩)] El,im 26 29,oe 30 26 0,oe 31 26
 1,ia 6 30,ia 7 31])) (sq (sr [im 32 7,ob 33 .neq 32 (kI 0)] (cn 33 (sr [o1 4 (.asg kF)] .ret) .skip)) (sr [ia 8 (kI 0)] (sr [im 34 1,ia 9 34] (sq (sr [ia 10 (kI 0)] (fk [4,8,9,10,11,12,13,14] 35 61 (.join [.sl 4 false .bool .leaf,.si 8]
 (bk 0 (.loop [.sl 4 false .bool .leaf,.si 8,.si 9,.si 10] (sq (sr [im 35 10,im 36 5,ol 37 36,ob 38 .lss 35 37] (cx 38 0)) (sq (fk [4,8,9,11,12,13,14] 41 55 (.join [.sl 4 false .bool .leaf,.si 8,.si 9] (bk 1 (sr [im 42 5,im 43 9,oc 44
 AjD [42,43,.c (.string ⟨#[97]⟩)] EB,im 41 44,oe 45 41 0,oe 46 41 1,ia 11 45,ia 12 46] (sq (sr [im 47 12,ob 48 .neq 47 (kI 0),im 49 48,gf 50 49 (.mv 11),gf 51 49 (.lenK 50),gf 52 49 (.bin .eql 51 (kI
 0)),op3 53 49 kT 52] (cn 53 (sr [o1 4 (.asg kF)] .ret) .skip)) (sr [o1 13 (.asg kF)] (sq (sr [ia 14 (kI 0)] (fk [13,14] 54 15 (.join [.sl 13 false .bool .leaf] (bk 2 (.loop [.sl 13 false .bool .leaf,.si 14] (sq (sr [im 54 14,im 55 6,ol 56
 55,ob 57 .lss 54 56] (cx 57 2)) (sq (fk [13] 60 9 (.join [.sl 13 false .bool .leaf] (bk 3 (rn [im 60 13,im 61 60,gf 62 61 (.mv 6),gf 63 61 (.mv 14),gf 64 61 (.ixA 1 62 63),gf 65 61 (.load false 1 64),gf 66 61 (.mv 9),gf 67 61 (.bin .eql 65
 66),op3 68 61 kT 67,ia 13 68])))) (rn [im 58 14,ob 59 .add 58 (kI 1),ia 14 59])))))))) (sq (sr [im 69 11,ox 70 1 69 (kI 0),ld 71 70,ob 72 .neq 71 (kI 0),im 73 72,gt 74 73 (.mv 13),gt 75 73 (.un .not 74),op3 76 73 75 kF] (cn 76 (sr [o1 4
 (.asg kF)] .ret) .skip)) (sr [im 77 8,im 78 11,ox 79 1 78 (kI 0),ld 80 79,ob 81 .add 77 80,ia 8 81] (sq (sr [im 82 5,im 83 9,ox 84 3 82 83,fa 85 0 84,ld 86 85,ol 87 86,ob 88 .eql 87 (kI 0)] (cn 88 (.exit 0) .skip)) (rn [im 89 5,im 90 9,ox
 91 3 89 90,fa 92 0 91,ld 93 92,ox 94 1 93 (kI 0),ld 95 94,ia 9 95]))))))))))) (rn [im 39 10,ob 40 .add 39 (kI 1),ia 10 40])))))))) (sq (sr [ia 15 (kI 0)] (fj [8,15] 96 22 [8] (bl 4 [8,15] (sq (sr [im 96 15,im 97 5,im 98 1,ox 99 3 97 98,fa
 100 2 99,ld 101 100,ol 102 101,ob 103 .lss 96 102] (cx 103 4)) (sq (fj [8] 106 12 [8] (bk 5 (rn [im 106 8,im 107 5,im 108 1,ox 109 3 107 108,fa 110 2 109,ld 111 110,im 112 15,ox 113 2 111 112,fa 114 1 113,ld 115 114,oc 116
 zS0 [.c (.string ⟨#[97]⟩),115] Ap,ob 117 .sub 106 116,ia 8 117]))) (rn [im 104 15,ob 105 .add 104 (kI 1),ia 15 105])))))) (sr [im 118 8,ob 119 .eql 118 (kI 0),im 120 119,oS ⟨some 121,.call
 AeK [],some (120,true)⟩ G7,op3 122 120 121 kF,ia 4 122] .ret))))))))))
def GQ:AFn:=⟨Am2,Jh.erase,[.tmp 4],2⟩
def NR(P:Pg)(x:((List Int)×Int))(K:Bool→Unit→Prop):Prop:=
 Fn P Ajs IL (x.1,((6:Int),(3:Int))) (fun(d1:(List Commit)) _=>((((d1.length:Int)==0)=true→Fn P AeK G7 () (fun(d3:Bool) _=>K d3 ()))∧(((d1.length:Int)==0)=false→Fn P zS2 Cy (x.2,(d1.length:Int)) (fun(d5:Int) _=>Fn P Ajv El (d1,(d5,([97]:List UInt8))) (fun(d7:((List Int)×Int)) _=>(((d7.2 !=0)=true→K false ())∧((d7.2 !=0)=false→Ah (D:=(Bool×Int)) (fun J9=>A4 (D:=(Bool×(Int×(Int×Int)))) (false,((0:Int),(d5,(0:Int)))) (fun d11 J12=>(((decide (d11.2.2.2<(d1.length:Int)))=true→Ah (D:=(Bool×(Int×Int))) (fun J13=>Fn P AjD EB (d1,(d11.2.2.1,([97]:List UInt8))) (fun(d15:((List Int)×Int)) _=>(((cond (d15.2 !=0) true ((d15.1.length:Int)==0))=true→K false ())∧((cond (d15.2 !=0) true ((d15.1.length:Int)==0))=false→Ah (D:=Bool) (fun J17=>A4 (D:=(Bool×Int)) (false,(0:Int)) (fun d19 J20=>(((decide (d19.2<(d7.1.length:Int)))=true→Ah (D:=Bool) (fun J21=>((d19.1=false→0≤d19.2∧d19.2<(d7.1.length:Int)))∧
 ((d19.1=false→d19.2.toNat<d7.1.length))∧
 J21 (cond d19.1 true ((Qa0 d7.1 d19.2.toNat (0:Int))==d11.2.2.1))) (fun d22=>J20 (d22,(i64.wrap (d19.2+1)))))∧((decide (d19.2<(d7.1.length:Int)))=false→J17 d19.1)))) (fun d18=>(0≤(0:Int)∧(0:Int)<(d15.1.length:Int))∧
 ((Qa1 (0:Int))<d15.1.length)∧
 (((cond ((Qa0 d15.1 (Qa1 (0:Int)) (0:Int)) !=0) (!d18) false)=true→K false ())∧((cond ((Qa0 d15.1 (Qa1 (0:Int)) (0:Int)) !=0) (!d18) false)=false→(0≤(0:Int)∧(0:Int)<(d15.1.length:Int))∧
 ((Qa1 (0:Int))<d15.1.length)∧
 (0≤d11.2.2.1∧d11.2.2.1<(d1.length:Int))∧
 (d11.2.2.1.toNat<d1.length)∧
 (((((Qa2 (Qa0 d1 d11.2.2.1.toNat Ak).1:Nat):Int)==0)=true→J9 (d11.1,(i64.wrap (d11.2.1+(Qa0 d15.1 (Qa1 (0:Int)) (0:Int))))))∧((((Qa2 (Qa0 d1 d11.2.2.1.toNat Ak).1:Nat):Int)==0)=false→(0≤d11.2.2.1∧d11.2.2.1<(d1.length:Int))∧
 (d11.2.2.1.toNat<d1.length)∧
 (0≤(0:Int)∧(0:Int)<((Qa2 (Qa0 d1 d11.2.2.1.toNat Ak).1:Nat):Int))∧
 ((Qa1 (0:Int))<Qa2 (Qa0 d1 d11.2.2.1.toNat Ak).1)∧
 J13 (d11.1,((i64.wrap (d11.2.1+(Qa0 d15.1 (Qa1 (0:Int)) (0:Int)))),(Qa0 (Qa0 d1 d11.2.2.1.toNat Ak).1 (Qa1 (0:Int)) (0:Int))))))))))))) (fun d14=>J12 (d14.1,(d14.2.1,(d14.2.2,(i64.wrap (d11.2.2.2+1)))))))∧((decide (d11.2.2.2<(d1.length:Int)))=false→J9 (d11.1,d11.2.1))))) (fun d10=>Ah (D:=Int) (fun J23=>A4 (D:=(Int×Int)) (d10.2,(0:Int)) (fun d25 J26=>(0≤d5∧d5<(d1.length:Int))∧
 (d5.toNat<d1.length)∧
 (((decide (d25.2<((Qa2 (Qa0 d1 d5.toNat Ak).2.2:Nat):Int)))=true→Ah (D:=Int) (fun J27=>(0≤d5∧d5<(d1.length:Int))∧
 (d5.toNat<d1.length)∧
 (0≤d25.2∧d25.2<((Qa2 (Qa0 d1 d5.toNat Ak).2.2:Nat):Int))∧
 (d25.2.toNat<Qa2 (Qa0 d1 d5.toNat Ak).2.2)∧
 Fn P zS0 Ap (([97]:List UInt8),(Qa0 (Qa0 d1 d5.toNat Ak).2.2 d25.2.toNat ([],[])).2) (fun(d29:Int) _=>J27 (i64.wrap (d25.1 -d29)))) (fun d28=>J26 (d28,(i64.wrap (d25.2+1)))))∧((decide (d25.2<((Qa2 (Qa0 d1 d5.toNat Ak).2.2:Nat):Int)))=false→J23 d25.1)))) (fun d24=>Ah (D:=Bool) (fun J31=>(((d24==0)=true→Fn P AeK G7 () (fun(d32:Bool) _=>J31 d32))∧(((d24==0)=false→J31 false)∧True))) (fun d33=>K (cond (d24==0) d33 false) ()))))))))))
theorem Tw{P}(h:Has P GQ){x K}(hw:NR P x K):Fn P Am2 DD x K:=
 zF Jh h hw
def Eg:Ar:=
 sr [ld 4 1,im 5 0,ox 6 1 4 5,ld 7 6,ob 8 .lss 7 (kI 0)] (.frame (rg [] 9 7) [1,2] true (.join [.bx 1 (.sl bI) tO,.bx 2 (.sl bI) tO] (cn 8 (sr [ld 9 1,im 10 0,ox 11 1 9 10,o0 ⟨none,.store 1 11 (kI 0),none⟩] (rn [ld 12 2,im 13 0,oT ⟨some
 14,.buildSl 1 [.int .i64 0] 1 [(0,13)],none⟩ (some (bI,.leaf)),oT ⟨some 15,.app 1 8 12 14,none⟩ (some (bI,.leaf)),o0 ⟨none,.store 1 2 15,none⟩])) .skip)))
def CX:AFn:=⟨Ahe,Eg.erase,[],3⟩
def Gl(P:Pg)(x:(Int×((List Int)×(List Int))))(K:Unit→((List Int)×(List Int))→Prop):Prop:=
 (0≤x.1∧x.1<(x.2.1.length:Int))∧
 (x.1.toNat<x.2.1.length)∧
 Ah (D:=((List Int)×(List Int))) (fun J1=>(((decide ((Qa0 x.2.1 x.1.toNat (0:Int))<0))=true→(0≤x.1∧x.1<(x.2.1.length:Int))∧
 (x.1.toNat<x.2.1.length)∧
 ((x.2.2.length+Qa2 ([x.1]:List Int))*8≤140737488355328)∧
 J1 ((Qa3 x.2.1 x.1.toNat (0:Int)),(x.2.2++([x.1]:List Int))))∧((decide ((Qa0 x.2.1 x.1.toNat (0:Int))<0))=false→J1 x.2))) (fun d2=>K () d2)
theorem Kl{P}(h:Has P CX){x K}(hw:Gl P x K):Fn P Ahe BL x K:=
 zF Eg h hw
end Go.VS
