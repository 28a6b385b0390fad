/- Functions of the program: typed code, and what it says, lifted. -/
import Derived.Test.YtfkfmokccekccaaGreatDoorKTxSig
import Derived.KernelRfl
set_option linter.unusedVariables false
set_option linter.unusedSimpArgs false
set_option maxRecDepth 8000
open List renaming getD → Qa0, length → Qa2, set → Qa3, take → Qa4
open Int renaming toNat → Qa1
namespace Go.VS
open IntKind
def KR:Ax:=
 sr [o1 4 (.asg ni)] (sr [im 6 0,im 7 1,oT ⟨some 8,.buildSl 1 [.slice none 0 0] 2 [(0,6),(1,7)],none⟩ (some (.sl .str,tM)),oc 9 AjG [8] HK,ia 5 9] (sq (fk [4] 10 7 (.join [.sl 4 false (.sl Cp) tO]
 (.draw [ti (im 10 5) (ti (ox 11 1 10 (kI 0)) (ti (ld 12 11) (ti (im 13 5) (ti (ox 14 1 13 (kI 1)) (ti (ld 15 14) (.alt (oc 16 AjJ [12,15] Gh) (.alt (ia 4 16) .done .stop) .stop))))))]))) .ret))
def Hi:AFn:=⟨AjK,KR.erase,[.tmp 4],2⟩
def OM(P:Pg)(x:((List Bt8)×(List Bt8)))(K:(List Change)→Unit→Prop):Prop:=
 Fn P AjG HK ([x.1,x.2]:List (List Bt8)) (fun(d1:(List (List Int))) _=>Ac (D:=(List Change)) (fun J3=>(0≤(0:Int)∧(0:Int)<(d1.length:Int))∧
 ((Qa1 (0:Int))<d1.length)∧
 (0≤(1:Int)∧(1:Int)<(d1.length:Int))∧
 ((Qa1 (1:Int))<d1.length)∧
 (((Qa1 (0:Int))<d1.length)∧
 ((Qa1 (1:Int))<d1.length)∧
 Fn P AjJ Gh ((Qa0 d1 (Qa1 (0:Int)) []),(Qa0 d1 (Qa1 (1:Int)) [])) (fun(d5:(List Change)) _=>(J3 d5)∧True))∧True) (fun d4=>K d4 ()))
theorem US{P}(h:Has P Hi){x K}(hw:OM P x K):Fn P AjK Fi x K:=
 ZF KR h hw
def KO:Ax:=
 sr [o1 4 (.asg ni),ia 5 (kI 0)] (sr [im 10 0,oc 11 AeI [10] DQ,im 9 11,oe 12 9 0,oe 13 9 1,ia 6 12,ia 7 13] (sq (sr [im 14 7,ob 15 .neq 14 (kI 0)] (cn 15 (sr [im 16 7,o1 4 (.asg ni),ia 5 16] .ret)
 .skip)) (sr [im 18 1,oc 19 AeI [18] DQ,im 17 19,oe 20 17 0,oe 21 17 1,ia 8 20,ia 7 21] (sq (sr [im 22 7,ob 23 .neq 22 (kI 0)] (cn 23 (sr [im 24 7,o1 4 (.asg ni),ia 5 24] .ret) .skip)) (sq (.frz [6,8]
 (rn [im 25 6,im 26 8,oc 27 AjK [25,26] Fi,ia 4 27,ia 5 (kI 0)])) .ret)))))
def Hh:AFn:=⟨AjL,KO.erase,[.tmp 4,.tmp 5],2⟩
def OL(P:Pg)(x:(Bt8×Bt8))(K:((List Change)×Int)→Unit→Prop):Prop:=
 Fn P AeI DQ x.1 (fun(d1:((List Bt8)×Int)) _=>(((d1.2 !=0)=true→K ([],d1.2) ())∧((d1.2 !=0)=false→Fn P AeI DQ x.2 (fun(d3:((List Bt8)×Int)) _=>(((d3.2 !=0)=true→K ([],d3.2) ())∧((d3.2 !=0)=false→Fn P AjK Fi (d1.1,d3.1) (fun(d5:(List Change)) _=>K (d5,(0:Int)) ())))))))
theorem UR{P}(h:Has P Hh){x K}(hw:OL P x K):Fn P AjL Fh x K:=
 ZF KO h hw
def PS:Ax:=
 sr [o1 2 (.asg kF)] (sr [im 3 0,ob 4 .geq 3 (kI 0),im 5 4,gt 6 5 (.mv 0),gt 7 5 (.bin .leq 6 (kI 4096)),op3 8 5 7 kF,ia 2 8] .ret)
def LO:AFn:=⟨AcH,PS.erase,[.tmp 2],1⟩
def Ui(P:Pg)(x:Int)(K:Bool→Unit→Prop):Prop:=
 K (cond (decide (x≥0)) (decide (x≤4096)) false) ()
theorem AaQ{P}(h:Has P LO){x K}(hw:Ui P x K):Fn P AcH EH x K:=
 ZF PS h hw
def Mm:Ax:=
 sr [ia 2 (kI 0),ia 3 (kI 0)] (sr [ia 4 (kI 0),ia 5 (kI 0)] (sq (sr [ia 6 (kI 0)] (fj [] 4 35 [4,5] (bl 0 [4,5,6] (sq (sr [im 7 6,im 8 0,ol 9 8,ob 10 .lss 7 9] (cx 10 0)) (sq (fj [4,5] 13 26 [4,5] (bk 1 (sq (sr [im 13 0,im 14 6,ox 15 4 13
 14,fa 16 1 15,ld 17 16,oc 18 AcH [17] EH] (fj [4] 19 7 [4] (cn 18 (rn [im 19 4,im 20 0,im 21 6,ox 22 4 20 21,fa 23 1 22,ld 24 23,ob 25 .add 19 24,ia 4 25]) .skip))) (sr [im 26 0,im 27 6,ox 28 4 26 27,fa 29
 3 28,ld 30 29,oc 31 AcH [30] EH] (fj [5] 32 7 [5] (cn 31 (rn [im 32 5,im 33 0,im 34 6,ox 35 4 33 34,fa 36 3 35,ld 37 36,ob 38 .add 32 37,ia 5 38]) .skip)))))) (rn [im 11 6,ob 12 .add 11 (kI 1),ia 6
 12])))))) (sr [im 39 4,im 40 5,ia 2 39,ia 3 40] .ret)))
def H9:AFn:=⟨AjM,Mm.erase,[.tmp 2,.tmp 3],1⟩
def Qd(P:Pg)(x:(List Change))(K:(Int×Int)→Unit→Prop):Prop:=
 Ac (D:=(Int×Int)) (fun J1=>Au (D:=(Int×(Int×Int))) ((0:Int),((0:Int),(0:Int))) (fun d3 J4=>(((decide (d3.2.2<(x.length:Int)))=true→Ac (D:=(Int×Int)) (fun J5=>(0≤d3.2.2∧d3.2.2<(x.length:Int))∧
 (d3.2.2.toNat<x.length)∧
 Fn P AcH EH (Qa0 x d3.2.2.toNat ID).2.1 (fun(d7:Bool) _=>Ac (D:=Int) (fun J9=>((d7=true→(0≤d3.2.2∧d3.2.2<(x.length:Int))∧
 (d3.2.2.toNat<x.length)∧
 J9 (i64.wrap (d3.1+(Qa0 x d3.2.2.toNat ID).2.1)))∧(d7=false→J9 d3.1))) (fun d10=>(0≤d3.2.2∧d3.2.2<(x.length:Int))∧
 (d3.2.2.toNat<x.length)∧
 Fn P AcH EH (Qa0 x d3.2.2.toNat ID).2.2.2 (fun(d11:Bool) _=>Ac (D:=Int) (fun J13=>((d11=true→(0≤d3.2.2∧d3.2.2<(x.length:Int))∧
 (d3.2.2.toNat<x.length)∧
 J13 (i64.wrap (d3.2.1+(Qa0 x d3.2.2.toNat ID).2.2.2)))∧(d11=false→J13 d3.2.1))) (fun d14=>J5 (d10,d14)))))) (fun d6=>J4 (d6.1,(d6.2,(i64.wrap (d3.2.2+1))))))∧((decide (d3.2.2<(x.length:Int)))=false→J1 (d3.1,d3.2.1))))) (fun d2=>K d2 ())
theorem Wx{P}(h:Has P H9){x K}(hw:Qd P x K):Fn P AjM Gg x K:=
 ZF Mm h hw
def K6:Ax:=
 sr [ia 4 (kI 0),ia 5 (kI 0),ia 6 (kI 0)] (sr [im 12 0,im 13 1,oc 14 AjL [12,13] Fh,im 11 14,oe 15 11 0,oe 16 11 1,ia 7 15,ia 8 16] (sr [im 18 7,oc 19 AjM [18]
 Gg,im 17 19,oe 20 17 0,oe 21 17 1,ia 9 20,ia 10 21] (sr [im 22 10,im 23 9,im 24 8,ia 4 22,ia 5 23,ia 6 24] .ret)))
def Hq:AFn:=⟨AcI,K6.erase,[.tmp 4,.tmp 5,.tmp 6],2⟩
def OU(P:Pg)(x:(Bt8×Bt8))(K:(Int×(Int×Int))→Unit→Prop):Prop:=
 Fn P AjL Fh x (fun(d1:((List Change)×Int)) _=>Fn P AjM Gg d1.1 (fun(d3:(Int×Int)) _=>K (d3.2,(d3.1,d1.2)) ()))
theorem U1{P}(h:Has P Hq){x K}(hw:OU P x K):Fn P AcI Di x K:=
 ZF K6 h hw
def NS:Ax:=
 sr [o1 4 (.asg (.c (.string ⟨#[]⟩))),o1 5 (.asg kF)] (sq (sr [im 8 0,ol 9 8,o1 10 (.mv (kI 0))] (.frame (rg [4,5,7] 10 11) [1007] false (.join [.sl 4 false .str .leaf,.sl 5 false .bool .leaf] (bk 0 (.loop [.sl 4 false .str .leaf,.sl 5 false
 .bool .leaf,.si 10] (sr [ob 11 .lss 10 9] (sq (cx 11 0) (sq (.frame (rg [4,5,7] 12 8) [1007] false (.join [.sl 4 false .str .leaf,.sl 5 false .bool .leaf] (bk 1 (sr [ox 12 2 8 10,o1 13 (.load true 2 12),o1 7 (.alloc [.string ⟨#[]⟩,.string
 ⟨#[]⟩]),o0 ⟨none,.store 2 7 13,none⟩] (sr [fa 14 0 7,ld 15 14,im 16 1,ob 17 .eql 15 16] (cn 17 (sr [fa 18 1 7,ld 19 18,ia 4 19,o1 5 (.asg kT)] .ret) .skip)))))) (rn [ob 20 .add 10 (kI 1),im 10 20]))))))))) (sr [o1 4 (.asg (.c (.string
 ⟨#[]⟩))),o1 5 (.asg kF)] .ret))
def JS:AFn:=⟨AcJ,NS.erase,[.tmp 4,.tmp 5],2⟩
def SB(P:Pg)(x:((List (Bt8×Bt8))×Bt8))(K:(Bt8×Bool)→Unit→Prop):Prop:=
 Ac (D:=(Bt8×Bool)) (fun J1=>Au (D:=(Bt8×(Bool×Int))) (([]:List UInt8),(false,(0:Int))) (fun d3 J4=>(((decide (d3.2.2<(x.1.length:Int)))=true→Ac (D:=(Bt8×Bool)) (fun J5=>(0≤d3.2.2∧d3.2.2<(x.1.length:Int))∧
 (d3.2.2.toNat<x.1.length)∧
 ((((Qa0 x.1 d3.2.2.toNat ([],[])).1==x.2)=true→K ((Qa0 x.1 d3.2.2.toNat ([],[])).2,true) ())∧(((Qa0 x.1 d3.2.2.toNat ([],[])).1==x.2)=false→J5 (d3.1,d3.2.1)))) (fun d6=>J4 (d6.1,(d6.2,(i64.wrap (d3.2.2+1))))))∧((decide (d3.2.2<(x.1.length:Int)))=false→J1 (d3.1,d3.2.1))))) (fun d2=>K (([]:List UInt8),false) ())
theorem Y9{P}(h:Has P JS){x K}(hw:SB P x K):Fn P AcJ D1 x K:=
 ZF NS h hw
def Mr:Ax:=
 sr [o1 4 (.asg ni),ia 5 (kI 0)] (sr [im 19 0,im 20 1,oc 21 "mergelens/tree.Diff" [19,20] MT,im 18 21,oe 22 18 0,oe 23 18 1,ia 6 22,ia 7 23] (sq (sr [im 24 7,ob 25 .neq 24 (kI 0)] (cn 25 (sr [im 26 7,o1 4 (.asg ni),ia 5 26] .ret)
 .skip)) (sr [o1 8 (.asg ni)] (sq (sr [im 27 6,ol 28 27,o1 29 (.mv (kI 0))] (.frame (rg [8,10,11,12,13,14,15,16,17] 29 34) [1010] false (.join [.sl 8 false (.sl Dy) tO] (bk 0 (.loop [.sl 8 false (.sl Dy) tO,.si 29] (sr [ob 30 .lss 29
 28] (sq (cx 30 0) (sq (.frame (rg [8,10,11,12,13,14,15,16,17] 31 31) [1010] false (.join [.sl 8 false (.sl Dy) tO] (bk 1 (sr [ox 31 2 27 29,o1 32 (.load true 2 31),o1 10 (.alloc [.string ⟨#[]⟩,.int .i64 0]),o0 ⟨none,.store 2 10
 32,none⟩] (sr [im 34 0,fa 35 0 10,ld 36 35,oc 37 AcJ [34,36] D1,im 33 37,oe 38 33 0,oe 39 33 1,ia 11 38,ia 12 39] (sr [im 41 1,fa 42 0 10,ld 43 42,oc 44 AcJ [41,43] D1,im 40 44,oe 45 40
 0,oe 46 40 1,ia 13 45,ia 14 46] (sr [im 48 11,im 49 13,oc 50 AcF [48,49] DE,im 47 50,oe 51 47 0,oe 52 47 1,oe 53 47 2,ia 15 51,ia 16 52,ia 17 53] (rn [im 54 8,fa 55 0 10,ld 56 55,im 57 15,im 58 16,o1 59 (.build
 [.string ⟨#[]⟩,.int .i64 0,.int .i64 0] [(0,1,56),(1,1,57),(2,1,58)]),oT ⟨some 60,.buildSl 3 [.string ⟨#[]⟩,.int .i64 0,.int .i64 0] 1 [(0,59)],none⟩ (some (Dy,.leaf)),oT ⟨some 61,.app 3 32 54 60,none⟩ (some (Dy,.leaf)),ia 8
 61])))))))) (rn [ob 62 .add 29 (kI 1),im 29 62]))))))))) (sr [im 63 8,ia 4 63,ia 5 (kI 0)] .ret)))))
def Ig:AFn:=⟨zS7,Mr.erase,[.tmp 4,.tmp 5],2⟩
def Qi(P:Pg)(x:((List (Bt8×Bt8))×(List (Bt8×Bt8))))(K:((List Stat)×Int)→Unit→Prop):Prop:=
 Fn P "mergelens/tree.Diff" MT x (fun(d1:((List (Bt8×Int))×Int)) _=>(((d1.2 !=0)=true→K ([],d1.2) ())∧((d1.2 !=0)=false→Ac (D:=(List Stat)) (fun J3=>Au (D:=((List Stat)×Int)) ([],(0:Int)) (fun d5 J6=>(((decide (d5.2<(d1.1.length:Int)))=true→Ac (D:=(List Stat)) (fun J7=>(0≤d5.2∧d5.2<(d1.1.length:Int))∧
 (d5.2.toNat<d1.1.length)∧
 Fn P AcJ D1 (x.1,(Qa0 d1.1 d5.2.toNat ([],(0:Int))).1) (fun(d9:(Bt8×Bool)) _=>Fn P AcJ D1 (x.2,(Qa0 d1.1 d5.2.toNat ([],(0:Int))).1) (fun(d11:(Bt8×Bool)) _=>Fn P AcF DE (d9.1,d11.1) (fun(d13:(Int×(Int×Int))) _=>((d5.1.length+Qa2 ([((Qa0 d1.1 d5.2.toNat ([],(0:Int))).1,(d13.1,d13.2.1))]:List Stat))*32≤140737488355328)∧
 J7 (d5.1++([((Qa0 d1.1 d5.2.toNat ([],(0:Int))).1,(d13.1,d13.2.1))]:List Stat)))))) (fun d8=>J6 (d8,(i64.wrap (d5.2+1)))))∧((decide (d5.2<(d1.1.length:Int)))=false→J3 d5.1)))) (fun d4=>K (d4,(0:Int)) ()))))
theorem WD{P}(h:Has P Ig){x K}(hw:Qi P x K):Fn P zS7 CR x K:=
 ZF Mr h hw
def Mp:Ax:=
 sr [o1 4 (.asg (.c (.string ⟨#[]⟩))),o1 5 (.asg kF)] (sq (sr [ia 6 (kI 0)] (fk [] 4 21 (.join [.sl 4 false .str .leaf,.sl 5 false .bool .leaf] (bk 0 (.loop [.sl 4 false .str .leaf,.sl 5 false .bool .leaf,.si 6] (sq (sr [im 7 6,im 8 0,ol 9
 8,ob 10 .lss 7 9] (cx 10 0)) (sq (fk [4,5] 13 12 (.join [.sl 4 false .str .leaf,.sl 5 false .bool .leaf] (bk 1 (sr [im 13 0,im 14 6,ox 15 2 13 14,fa 16 0 15,ld 17 16,im 18 1,ob 19 .eql 17 18] (cn 19 (sr [im 20 0,im 21 6,ox 22 2 20 21,fa 23
 1 22,ld 24 23,ia 4 24,o1 5 (.asg kT)] .ret) .skip))))) (rn [im 11 6,ob 12 .add 11 (kI 1),ia 6 12])))))))) (sr [o1 4 (.asg (.c (.string ⟨#[]⟩))),o1 5 (.asg kF)] .ret))
def Ic:AFn:=⟨zS4,Mp.erase,[.tmp 4,.tmp 5],2⟩
def Qg(P:Pg)(x:((List (Bt8×Bt8))×Bt8))(K:(Bt8×Bool)→Unit→Prop):Prop:=
 Ac (D:=(Bt8×Bool)) (fun J1=>Au (D:=(Bt8×(Bool×Int))) (([]:List UInt8),(false,(0:Int))) (fun d3 J4=>(((decide (d3.2.2<(x.1.length:Int)))=true→Ac (D:=(Bt8×Bool)) (fun J5=>(0≤d3.2.2∧d3.2.2<(x.1.length:Int))∧
 (d3.2.2.toNat<x.1.length)∧
 ((((Qa0 x.1 d3.2.2.toNat ([],[])).1==x.2)=true→(0≤d3.2.2∧d3.2.2<(x.1.length:Int))∧
 (d3.2.2.toNat<x.1.length)∧
 K ((Qa0 x.1 d3.2.2.toNat ([],[])).2,true) ())∧(((Qa0 x.1 d3.2.2.toNat ([],[])).1==x.2)=false→J5 (d3.1,d3.2.1)))) (fun d6=>J4 (d6.1,(d6.2,(i64.wrap (d3.2.2+1))))))∧((decide (d3.2.2<(x.1.length:Int)))=false→J1 (d3.1,d3.2.1))))) (fun d2=>K (([]:List UInt8),false) ())
theorem WA{P}(h:Has P Ic){x K}(hw:Qg P x K):Fn P zS4 Ce x K:=
 ZF Mp h hw
def K1:Ax:=
 sr [o1 4 (.asg ni)] (sr [o1 5 (.asg ni)] (sr [ia 6 (kI 0),ia 7 (kI 0)] (sq (fk [] 5 87 (.join [.sl 5 false (.sl .str) tO] (bk 0 (.loop [.sl 5 false (.sl .str) tO,.si 6,.si 7] (sq (sr [im 8 6,im 9 0,ol 10 9,ob 11 .lss 8 10,im 12 11,gf 13 12
 (.mv 7),gf 14 12 (.mv 1),gf 15 12 (.lenK 14),gf 16 12 (.bin .lss 13 15),op3 17 12 kT 16] (cx 17 0)) (fk [5,6,7] 18 74 (.join [.sl 5 false (.sl .str) tO,.si 6,.si 7] (bk 1 (fk [5,6,7] 18 74 (.join [.sl 5 false (.sl .str) tO,.si 6,.si 7] (bk
 2 (sq (fk [] 30 24 (.join [.sl 30 false .bool .leaf] (.draw [ti (im 31 7) (ti (im 32 1) (ti (ol 33 32) (ti (ob 34 .eql 31 33) (ti (im 35 34) (ti (gf 36 35 (.mv 6)) (ti (gf 37 35 (.mv 0)) (ti (gf 38 35 (.lenK 37)) (ti (gf 39 35 (.bin .lss
 36 38)) (ti (gf 40 35 (.mv 39)) (ti (gt 41 40 (.mv 0)) (ti (gt 42 40 (.mv 6)) (ti (gt 43 40 (.ixA 2 41 42)) (ti (gt 44 40 (.fAddr 0 43)) (ti (gt 45 40 (.load false 1 44)) (ti (gt 46 40 (.mv 1)) (ti (gt 47 40 (.mv 7)) (ti (gt 48 40 (.ixA 2
 46 47)) (ti (gt 49 40 (.fAddr 0 48)) (ti (gt 50 40 (.load false 1 49)) (ti (gt 51 40 (.bin .lss 45 50)) (ti (gf 52 35 (.pick 40 51 kF)) (ti (op3 53 35 kT 52) (.alt (ia 30 53) .done .stop)))))))))))))))))))))))]))) (fk
 [5,6,7,18,19,20,21,22,23,24,25,26,27,28,29] 54 38 (.join [.sl 5 false (.sl .str) tO,.si 6,.si 7] (cn 30 (sr [im 54 5,im 55 0,im 56 6,ox 57 2 55 56,fa 58 0 57,ld 59 58,oT ⟨some 60,.buildSl 1 [.string ⟨#[]⟩] 1 [(0,59)],none⟩ (some
 (.str,.leaf)),oT ⟨some 61,.app 1 16 54 60,none⟩ (some (.str,.leaf)),ia 5 61] (rn [im 62 6,ob 63 .add 62 (kI 1),ia 6 63])) (sq (fk [] 64 18 (.join [.sl 64 false .bool .leaf] (.draw [ti (im 65 6) (ti (im 66 0) (ti (ol 67 66) (ti (ob 68 .eql
 65 67) (ti (im 69 68) (ti (gf 70 69 (.mv 1)) (ti (gf 71 69 (.mv 7)) (ti (gf 72 69 (.ixA 2 70 71)) (ti (gf 73 69 (.fAddr 0 72)) (ti (gf 74 69 (.load false 1 73)) (ti (gf 75 69 (.mv 0)) (ti (gf 76 69 (.mv 6)) (ti (gf 77 69 (.ixA 2 75 76))
 (ti (gf 78 69 (.fAddr 0 77)) (ti (gf 79 69 (.load false 1 78)) (ti (gf 80 69 (.bin .lss 74 79)) (ti (op3 81 69 kT 80) (.alt (ia 64 81) .done .stop)))))))))))))))))]))) (fk [5,6,7,18,19,20,21,22,23,24,25,26,27,28,29] 82 10 (.join [.sl 5
 false (.sl .str) tO,.si 6,.si 7] (cn 64 (sr [im 82 5,im 83 1,im 84 7,ox 85 2 83 84,fa 86 0 85,ld 87 86,oT ⟨some 88,.buildSl 1 [.string ⟨#[]⟩] 1 [(0,87)],none⟩ (some (.str,.leaf)),oT ⟨some 89,.app 1 16 82 88,none⟩ (some (.str,.leaf)),ia 5
 89] (rn [im 90 7,ob 91 .add 90 (kI 1),ia 7 91])) (sr [im 18 5,im 19 0,im 20 6,ox 21 2 19 20,fa 22 0 21,ld 23 22,oT ⟨some 24,.buildSl 1 [.string ⟨#[]⟩] 1 [(0,23)],none⟩ (some (.str,.leaf)),oT ⟨some 25,.app 1 16 18 24,none⟩ (some
 (.str,.leaf)),ia 5 25] (rn [im 26 6,ob 27 .add 26 (kI 1),im 28 7,ob 29 .add 28 (kI 1),ia 6 27,ia 7 29]))))))))))))))))))))) (sr [im 92 5,ia 4 92] .ret))))
def Hl:AFn:=⟨AjN,K1.erase,[.tmp 4],2⟩
def OP(P:Pg)(x:((List (Bt8×Bt8))×(List (Bt8×Bt8))))(K:(List Bt8)→Unit→Prop):Prop:=
 Ac (D:=(List Bt8)) (fun J1=>Au (D:=((List Bt8)×(Int×Int))) ([],((0:Int),(0:Int))) (fun d3 J4=>(((cond (decide (d3.2.1<(x.1.length:Int))) true (decide (d3.2.2<(x.2.length:Int))))=true→Ac (D:=((List Bt8)×(Int×Int))) (fun J5=>Ac (D:=((List Bt8)×(Int×Int))) (fun J7=>Ac (D:=Bool) (fun J9=>(((decide (d3.2.1<(x.1.length:Int)))=true→((d3.2.2==(x.2.length:Int))=false→0≤d3.2.1∧d3.2.1<(x.1.length:Int))))∧
 (((decide (d3.2.1<(x.1.length:Int)))=true→((d3.2.2==(x.2.length:Int))=false→d3.2.1.toNat<x.1.length)))∧
 (((decide (d3.2.1<(x.1.length:Int)))=true→((d3.2.2==(x.2.length:Int))=false→0≤d3.2.2∧d3.2.2<(x.2.length:Int))))∧
 (((decide (d3.2.1<(x.1.length:Int)))=true→((d3.2.2==(x.2.length:Int))=false→d3.2.2.toNat<x.2.length)))∧
 (J9 (cond (d3.2.2==(x.2.length:Int)) true (cond (decide (d3.2.1<(x.1.length:Int))) (Op.bytesLess (Qa0 x.1 d3.2.1.toNat ([],[])).1 (Qa0 x.2 d3.2.2.toNat ([],[])).1) false)))∧True) (fun d10=>Ac (D:=((List Bt8)×(Int×Int))) (fun J11=>((d10=true→(0≤d3.2.1∧d3.2.1<(x.1.length:Int))∧
 (d3.2.1.toNat<x.1.length)∧
 ((d3.1.length+Qa2 ([(Qa0 x.1 d3.2.1.toNat ([],[])).1]:List Bt8))*16≤140737488355328)∧
 J11 ((d3.1++([(Qa0 x.1 d3.2.1.toNat ([],[])).1]:List Bt8)),((i64.wrap (d3.2.1+1)),d3.2.2)))∧(d10=false→Ac (D:=Bool) (fun J13=>(((d3.2.1==(x.1.length:Int))=false→0≤d3.2.2∧d3.2.2<(x.2.length:Int)))∧
 (((d3.2.1==(x.1.length:Int))=false→d3.2.2.toNat<x.2.length))∧
 (((d3.2.1==(x.1.length:Int))=false→0≤d3.2.1∧d3.2.1<(x.1.length:Int)))∧
 (((d3.2.1==(x.1.length:Int))=false→d3.2.1.toNat<x.1.length))∧
 (J13 (cond (d3.2.1==(x.1.length:Int)) true (Op.bytesLess (Qa0 x.2 d3.2.2.toNat ([],[])).1 (Qa0 x.1 d3.2.1.toNat ([],[])).1)))∧True) (fun d14=>Ac (D:=((List Bt8)×(Int×Int))) (fun J15=>((d14=true→(0≤d3.2.2∧d3.2.2<(x.2.length:Int))∧
 (d3.2.2.toNat<x.2.length)∧
 ((d3.1.length+Qa2 ([(Qa0 x.2 d3.2.2.toNat ([],[])).1]:List Bt8))*16≤140737488355328)∧
 J15 ((d3.1++([(Qa0 x.2 d3.2.2.toNat ([],[])).1]:List Bt8)),(d3.2.1,(i64.wrap (d3.2.2+1)))))∧(d14=false→(0≤d3.2.1∧d3.2.1<(x.1.length:Int))∧
 (d3.2.1.toNat<x.1.length)∧
 ((d3.1.length+Qa2 ([(Qa0 x.1 d3.2.1.toNat ([],[])).1]:List Bt8))*16≤140737488355328)∧
 J15 ((d3.1++([(Qa0 x.1 d3.2.1.toNat ([],[])).1]:List Bt8)),((i64.wrap (d3.2.1+1)),(i64.wrap (d3.2.2+1))))))) (fun d16=>J11 d16))))) (fun d12=>J7 d12))) (fun d8=>J5 d8)) (fun d6=>J4 d6))∧((cond (decide (d3.2.1<(x.1.length:Int))) true (decide (d3.2.2<(x.2.length:Int))))=false→J1 d3.1)))) (fun d2=>K d2 ())
theorem UW{P}(h:Has P Hl){x K}(hw:OP P x K):Fn P AjN Fl x K:=
 ZF K1 h hw
def Jt:Ax:=
 sr [o1 4 (.asg ni)] (sr [o1 5 (.asg ni)] (sr [im 12 0,im 13 1,oc 14 AjN [12,13] Fl,ia 6 14] (sq (sr [ia 7 (kI 0)] (fk [5,7,8,9,10,11] 15 58 (.join [.sl 5 false (.sl (.pair .str bI)) tO] (bk 0 (.loop
 [.sl 5 false (.sl (.pair .str bI)) tO,.si 7] (sq (sr [im 15 7,im 16 6,ol 17 16,ob 18 .lss 15 17] (cx 18 0)) (sq (fk [5,8,9,10,11] 21 52 (.join [.sl 5 false (.sl (.pair .str bI)) tO] (bk 1 (sr [im 22 0,im 23 6,im 24 7,ox 25 1 23 24,ld 26
 25,oc 27 zS4 [22,26] Ce,im 21 27,oe 28 21 0,oe 29 21 1,ia 8 28,ia 9 29] (sr [im 31 1,im 32 6,im 33 7,ox 34 1 32 33,ld 35 34,oc 36 zS4 [31,35] Ce,im 30 36,oe 37 30
 0,oe 38 30 1,ia 10 37,ia 11 38] (fk [5] 39 34 (.join [.sl 5 false (.sl (.pair .str bI)) tO] (bk 2 (sr [im 40 9,o1 41 (.un .not 40),ia 39 41] (fk [5] 42 31 (.join [.sl 5 false (.sl (.pair .str bI)) tO] (cn 39 (rn [im 42 5,im 43 6,im 44 7,ox
 45 1 43 44,ld 46 45,o1 47 (.build [.string ⟨#[]⟩,.int .i64 0] [(0,1,46),(1,1,kI 1)]),oT ⟨some 48,.buildSl 2 [.string ⟨#[]⟩,.int .i64 0] 1 [(0,47)],none⟩ (some (.pair .str bI,.leaf)),oT ⟨some 49,.app 2 24 42 48,none⟩ (some (.pair .str
 bI,.leaf)),ia 5 49]) (sr [im 51 11,o1 52 (.un .not 51),ia 50 52] (fk [5] 53 20 (.join [.sl 5 false (.sl (.pair .str bI)) tO] (cn 50 (rn [im 53 5,im 54 6,im 55 7,ox 56 1 54 55,ld 57 56,o1 58 (.build [.string ⟨#[]⟩,.int .i64 0]
 [(0,1,57),(1,1,kI 2)]),oT ⟨some 59,.buildSl 2 [.string ⟨#[]⟩,.int .i64 0] 1 [(0,58)],none⟩ (some (.pair .str bI,.leaf)),oT ⟨some 60,.app 2 24 53 59,none⟩ (some (.pair .str bI,.leaf)),ia 5 60]) (sr [im 62 8,im 63 10,ob 64 .neq 62 63,ia 61
 64] (fk [5] 65 8 (.join [.sl 5 false (.sl (.pair .str bI)) tO] (cn 61 (rn [im 65 5,im 66 6,im 67 7,ox 68 1 66 67,ld 69 68,o1 70 (.build [.string ⟨#[]⟩,.int .i64 0] [(0,1,69),(1,1,kI 3)]),oT ⟨some 71,.buildSl 2 [.string ⟨#[]⟩,.int .i64 0] 1
 [(0,70)],none⟩ (some (.pair .str bI,.leaf)),oT ⟨some 72,.app 2 24 65 71,none⟩ (some (.pair .str bI,.leaf)),ia 5 72]) .skip)))))))))))))))))))) (rn [im 19 7,ob 20 .add 19 (kI 1),ia 7 20])))))))) (sr [im 73 5,ia 4 73] .ret))))
def F4:AFn:=⟨AjO,Jt.erase,[.tmp 4],2⟩
def M5(P:Pg)(x:((List (Bt8×Bt8))×(List (Bt8×Bt8))))(K:(List (Bt8×Int))→Unit→Prop):Prop:=
 Fn P AjN Fl x (fun(d1:(List Bt8)) _=>Ac (D:=(List (Bt8×Int))) (fun J3=>Au (D:=((List (Bt8×Int))×Int)) ([],(0:Int)) (fun d5 J6=>(((decide (d5.2<(d1.length:Int)))=true→Ac (D:=(List (Bt8×Int))) (fun J7=>(0≤d5.2∧d5.2<(d1.length:Int))∧
 (d5.2.toNat<d1.length)∧
 Fn P zS4 Ce (x.1,(Qa0 d1 d5.2.toNat [])) (fun(d9:(Bt8×Bool)) _=>(0≤d5.2∧d5.2<(d1.length:Int))∧
 (d5.2.toNat<d1.length)∧
 Fn P zS4 Ce (x.2,(Qa0 d1 d5.2.toNat [])) (fun(d11:(Bt8×Bool)) _=>Ac (D:=(List (Bt8×Int))) (fun J13=>Ac (D:=(List (Bt8×Int))) (fun J15=>(((!d9.2)=true→(0≤d5.2∧d5.2<(d1.length:Int))∧
 (d5.2.toNat<d1.length)∧
 ((d5.1.length+Qa2 ([((Qa0 d1 d5.2.toNat []),(1:Int))]:List (Bt8×Int)))*24≤140737488355328)∧
 J15 (d5.1++([((Qa0 d1 d5.2.toNat []),(1:Int))]:List (Bt8×Int))))∧((!d9.2)=false→Ac (D:=(List (Bt8×Int))) (fun J17=>(((!d11.2)=true→(0≤d5.2∧d5.2<(d1.length:Int))∧
 (d5.2.toNat<d1.length)∧
 ((d5.1.length+Qa2 ([((Qa0 d1 d5.2.toNat []),(2:Int))]:List (Bt8×Int)))*24≤140737488355328)∧
 J17 (d5.1++([((Qa0 d1 d5.2.toNat []),(2:Int))]:List (Bt8×Int))))∧((!d11.2)=false→Ac (D:=(List (Bt8×Int))) (fun J19=>(((!(d9.1==d11.1))=true→(0≤d5.2∧d5.2<(d1.length:Int))∧
 (d5.2.toNat<d1.length)∧
 ((d5.1.length+Qa2 ([((Qa0 d1 d5.2.toNat []),(3:Int))]:List (Bt8×Int)))*24≤140737488355328)∧
 J19 (d5.1++([((Qa0 d1 d5.2.toNat []),(3:Int))]:List (Bt8×Int))))∧((!(d9.1==d11.1))=false→J19 d5.1))) (fun d20=>J17 d20)))) (fun d18=>J15 d18)))) (fun d16=>J13 d16)) (fun d14=>J7 d14)))) (fun d8=>J6 (d8,(i64.wrap (d5.2+1)))))∧((decide (d5.2<(d1.length:Int)))=false→J3 d5.1)))) (fun d4=>K d4 ()))
theorem Th{P}(h:Has P F4){x K}(hw:M5 P x K):Fn P AjO EI x K:=
 ZF Jt h hw
def GD:Ax:=
 sr [ia 2 (kI 0)] (sq (sr [im 5 0,o1 6 (.lenS 5),ob 7 .lss 6 (kI 1),im 8 7,gf 9 8 (.mv 0),gf 10 8 (.lenS 9),gf 11 8 (.bin .gtr 10 (kI 200)),op3 12 8 kT 11] (cn 12 (sr [ia 2 (kI 210)] .ret) .skip)) (sr [o1 3 (.asg (.c (.string ⟨#[]⟩)))] (sq
 (sr [ia 4 (kI 0)] (fj [2,3,4] 13 43 [2] (bk 0 (.loop [.si 2,.sl 3 false .str .leaf,.si 4] (sq (sr [im 13 4,im 14 0,o1 15 (.lenS 14),ob 16 .leq 13 15] (cx 16 0)) (sq (fk [2,3] 19 37 (.join [.si 2,.sl 3 false .str .leaf] (bk 1 (sq (sr [im 19
 4,im 20 0,o1 21 (.lenS 20),ob 22 .lss 19 21,im 23 22,gt 24 23 (.mv 0),gt 25 23 (.mv 4),gt 26 23 (.ixS 24 25),gt 27 23 (.bin .eql 26 (.c (.int .u8 0))),op3 28 23 27 kF] (cn 28 (sr [ia 2 (kI 210)] .ret) .skip)) (sq (sr [im 29 4,im 30 0,o1 31
 (.lenS 30),ob 32 .lss 29 31,im 33 32,gt 34 33 (.mv 0),gt 35 33 (.mv 4),gt 36 33 (.ixS 34 35),gt 37 33 (.bin .neq 36 (.c (.int .u8 47))),op3 38 33 37 kF] (cn 38 (sr [im 39 3,im 40 0,im 41 4,im 42 4,ob 43 .add 42 (kI 1),o1 44 (.slS 40 (some
 41) (some 43)),ob 45 .add 39 44,ia 3 45] (.exit 1)) .skip)) (sq (sr [im 46 3,ob 47 .eql 46 (.c (.string ⟨#[]⟩)),im 48 47,gf 49 48 (.mv 3),o0 ⟨some 50,.bin .eql 49 (.c (.string ⟨#[46]⟩)),some (48,false)⟩,op3 51 48 kT 50,im 52 51,gf 53 52
 (.mv 3),o0 ⟨some 54,.bin .eql 53 (.c (.string ⟨#[46,46]⟩)),some (52,false)⟩,op3 55 52 kT 54] (cn 55 (sr [ia 2 (kI 210)] .ret) .skip)) (rn [o1 3 (.asg (.c (.string ⟨#[]⟩)))]))))))) (rn [im 17 4,ob 18 .add 17 (kI 1),ia 4 18]))))))) (sr [ia 2
 (kI 0)] .ret))))
def EB:AFn:=⟨Ahk,GD.erase,[.tmp 2],1⟩
def JY(P:Pg)(x:Bt8)(K:Int→Unit→Prop):Prop:=
 (((cond (decide ((x.length:Int)<1)) true (decide ((x.length:Int)>200)))=true→K (210:Int) ())∧((cond (decide ((x.length:Int)<1)) true (decide ((x.length:Int)>200)))=false→Ac (D:=Int) (fun J1=>Au (D:=(Int×(Bt8×Int))) ((0:Int),(([]:List UInt8),(0:Int))) (fun d3 J4=>(((decide (d3.2.2≤(x.length:Int)))=true→Ac (D:=(Int×Bt8)) (fun J5=>(((decide (d3.2.2<(x.length:Int)))=true→0≤d3.2.2∧d3.2.2<(x.length:Int)))∧
 (((cond (decide (d3.2.2<(x.length:Int))) (((x.getD d3.2.2.toNat 0).toNat:Int)==0) false)=true→K (210:Int) ())∧((cond (decide (d3.2.2<(x.length:Int))) (((x.getD d3.2.2.toNat 0).toNat:Int)==0) false)=false→(((decide (d3.2.2<(x.length:Int)))=true→0≤d3.2.2∧d3.2.2<(x.length:Int)))∧
 (((cond (decide (d3.2.2<(x.length:Int))) (((x.getD d3.2.2.toNat 0).toNat:Int) !=47) false)=true→(0≤d3.2.2∧d3.2.2≤(i64.wrap (d3.2.2+1))∧(i64.wrap (d3.2.2+1))≤(x.length:Int))∧
 (d3.2.1.length+Qa2 (List.drop d3.2.2.toNat (Qa4 (Qa1 (i64.wrap (d3.2.2+1))) x))≤9223372036854775807)∧
 J5 (d3.1,(d3.2.1++(List.drop d3.2.2.toNat (Qa4 (Qa1 (i64.wrap (d3.2.2+1))) x)))))∧((cond (decide (d3.2.2<(x.length:Int))) (((x.getD d3.2.2.toNat 0).toNat:Int) !=47) false)=false→(((cond (cond (d3.2.1==([]:List UInt8)) true (d3.2.1==([46]:List UInt8))) true (d3.2.1==([46,46]:List UInt8)))=true→K (210:Int) ())∧((cond (cond (d3.2.1==([]:List UInt8)) true (d3.2.1==([46]:List UInt8))) true (d3.2.1==([46,46]:List UInt8)))=false→J5 (d3.1,([]:List UInt8))))))))) (fun d6=>J4 (d6.1,(d6.2,(i64.wrap (d3.2.2+1))))))∧((decide (d3.2.2≤(x.length:Int)))=false→J1 d3.1)))) (fun d2=>K (0:Int) ())))
theorem Pv{P}(h:Has P EB){x K}(hw:JY P x K):Fn P Ahk C3 x K:=
 ZF GD h hw
def KV:Ax:=
 sr [o1 4 (.asg kF)] (sr [im 5 1,o1 6 (.lenS 5),im 7 0,o1 8 (.lenS 7),ob 9 .gtr 6 8,im 10 9,gt 11 10 (.mv 1),gt 12 10 (.mv 0),gt 13 10 (.lenS 12),gt 14 10 (.slS 11 none (some 13)),gt 15 10 (.mv 0),gt 16 10 (.bin .eql 14 15),op3 17 10 16
 kF,im 18 17,gt 19 18 (.mv 1),gt 20 18 (.mv 0),gt 21 18 (.lenS 20),gt 22 18 (.ixS 19 21),gt 23 18 (.bin .eql 22 (.c (.int .u8 47))),op3 24 18 23 kF,ia 4 24] .ret)
def Hk:AFn:=⟨AjP,KV.erase,[.tmp 4],2⟩
def OO(P:Pg)(x:(Bt8×Bt8))(K:Bool→Unit→Prop):Prop:=
 (((decide ((x.2.length:Int)>(x.1.length:Int)))=true→0≤(x.1.length:Int)∧(x.1.length:Int)≤(x.2.length:Int)))∧
 (((cond (decide ((x.2.length:Int)>(x.1.length:Int))) ((Qa4 (Qa1 (x.1.length:Int)) x.2)==x.1) false)=true→0≤(x.1.length:Int)∧(x.1.length:Int)<(x.2.length:Int)))∧
 K (cond (cond (decide ((x.2.length:Int)>(x.1.length:Int))) ((Qa4 (Qa1 (x.1.length:Int)) x.2)==x.1) false) (((UInt8.toNat (Qa0 x.2 (Qa1 (x.1.length:Int)) 0):Nat):Int)==47) false) ()
theorem UU{P}(h:Has P Hk){x K}(hw:OO P x K):Fn P AjP Fk x K:=
 ZF KV h hw
def K0:Ax:=
 sr [ia 2 (kI 0)] (sq (sr [im 7 0,ol 8 7,ob 9 .gtr 8 (kI 200)] (cn 9 (sr [ia 2 (kI 1)] .ret) .skip)) (sq (sr [ia 3 (kI 0)] (fj [2,3] 10 13 [2] (bl 0 [2,3] (sq (sr [im 10 3,im 11 0,ol 12 11,ob 13 .lss 10 12] (cx 13 0)) (sq (fj [2] 16 7 [2]
 (bk 1 (sr [im 16 0,im 17 3,ox 18 2 16 17,fa 19 0 18,ld 20 19,oc 21 Ahk [20] C3,ob 22 .neq 21 (kI 0)] (cn 22 (sr [ia 2 (kI 210)] .ret) .skip)))) (rn [im 14 3,ob 15 .add 14 (kI 1),ia 3
 15])))))) (sq (sr [ia 4 (kI 0)] (fj [2,4,5] 23 35 [2] (bl 2 [2,4] (sq (sr [im 23 4,im 24 0,ol 25 24,ob 26 .lss 23 25] (cx 26 2)) (sq (fj [2,5] 29 29 [2] (bk 3 (sr [ia 5 (kI 0)] (fj [2,5] 29 29 [2] (bl 4 [2,5] (sq (sr [im 29 5,im 30 4,ob 31
 .lss 29 30] (cx 31 4)) (sq (fj [2] 34 24 [2] (bk 5 (sq (fk [] 34 24 (.join [.sl 57 false .bool .leaf] (.draw [ti (im 34 0) (ti (im 35 5) (ti (ox 36 2 34 35) (ti (fa 37 0 36) (ti (ld 38 37) (ti (im 39 0) (ti (im 40 4) (ti (ox 41 2 39 40)
 (ti (fa 42 0 41) (ti (ld 43 42) (ti (ob 44 .geq 38 43) (ti (im 45 44) (ti (gf 46 45 (.mv 0)) (ti (gf 47 45 (.mv 5)) (ti (gf 48 45 (.ixA 2 46 47)) (ti (gf 49 45 (.fAddr 0 48)) (ti (gf 50 45 (.load false 1 49)) (ti (gf 51 45 (.mv 0)) (ti (gf
 52 45 (.mv 4)) (ti (gf 53 45 (.ixA 2 51 52)) (ti (gf 54 45 (.fAddr 0 53)) (ti (gf 55 45 (.load false 1 54)) (.alt (oS ⟨some 56,.call AjP [50,55],some (45,false)⟩ Fk) (ti (op3 57 45 kT 56) .done)
 .stop))))))))))))))))))))))]))) (cn 57 (sr [ia 2 (kI 211)] .ret) .skip)))) (rn [im 32 5,ob 33 .add 32 (kI 1),ia 5 33])))))))) (rn [im 27 4,ob 28 .add 27 (kI 1),ia 4 28])))))) (sq (sr [ia 6 (kI 0)] (fj [2,6] 58 13 [2] (bl 6 [2,6] (sq (sr
 [im 58 6,im 59 0,ol 60 59,ob 61 .lss 58 60] (cx 61 6)) (sq (fj [2] 64 7 [2] (bk 7 (sr [im 64 0,im 65 6,ox 66 2 64 65,fa 67 1 66,ld 68 67,oc 69 AeH [68] DO,ob 70 .neq 69 (kI 0)] (cn 70 (sr [ia 2 (kI
 1)] .ret) .skip)))) (rn [im 62 6,ob 63 .add 62 (kI 1),ia 6 63])))))) (sr [ia 2 (kI 0)] .ret)))))
def Fc:AFn:=⟨zS5,K0.erase,[.tmp 2],1⟩
def Kl(P:Pg)(x:(List (Bt8×Bt8)))(K:Int→Unit→Prop):Prop:=
 (((decide ((x.length:Int)>200))=true→K (1:Int) ())∧((decide ((x.length:Int)>200))=false→Ac (D:=Int) (fun J1=>Au (D:=(Int×Int)) ((0:Int),(0:Int)) (fun d3 J4=>(((decide (d3.2<(x.length:Int)))=true→Ac (D:=Int) (fun J5=>(0≤d3.2∧d3.2<(x.length:Int))∧
 (d3.2.toNat<x.length)∧
 Fn P Ahk C3 (Qa0 x d3.2.toNat ([],[])).1 (fun(d7:Int) _=>(((d7 !=0)=true→K (210:Int) ())∧((d7 !=0)=false→J5 d3.1)))) (fun d6=>J4 (d6,(i64.wrap (d3.2+1)))))∧((decide (d3.2<(x.length:Int)))=false→J1 d3.1)))) (fun d2=>Ac (D:=Int) (fun J9=>Au (D:=(Int×Int)) (d2,(0:Int)) (fun d11 J12=>(((decide (d11.2<(x.length:Int)))=true→Ac (D:=Int) (fun J13=>Ac (D:=Int) (fun J15=>Au (D:=(Int×Int)) (d11.1,(0:Int)) (fun d17 J18=>(((decide (d17.2<d11.2))=true→Ac (D:=Int) (fun J19=>Ac (D:=Bool) (fun J21=>(0≤d17.2∧d17.2<(x.length:Int))∧
 (d17.2.toNat<x.length)∧
 (0≤d11.2∧d11.2<(x.length:Int))∧
 (d11.2.toNat<x.length)∧
 (((!(Op.bytesLess (Qa0 x d17.2.toNat ([],[])).1 (Qa0 x d11.2.toNat ([],[])).1))=false→0≤d17.2∧d17.2<(x.length:Int)))∧
 (((!(Op.bytesLess (Qa0 x d17.2.toNat ([],[])).1 (Qa0 x d11.2.toNat ([],[])).1))=false→d17.2.toNat<x.length))∧
 (((!(Op.bytesLess (Qa0 x d17.2.toNat ([],[])).1 (Qa0 x d11.2.toNat ([],[])).1))=false→0≤d11.2∧d11.2<(x.length:Int)))∧
 (((!(Op.bytesLess (Qa0 x d17.2.toNat ([],[])).1 (Qa0 x d11.2.toNat ([],[])).1))=false→d11.2.toNat<x.length))∧
 (Ac (D:=Bool) (fun J23=>(((!(Op.bytesLess (Qa0 x d17.2.toNat ([],[])).1 (Qa0 x d11.2.toNat ([],[])).1))=false→Fn P AjP Fk ((Qa0 x d17.2.toNat ([],[])).1,(Qa0 x d11.2.toNat ([],[])).1) (fun(d24:Bool) _=>J23 d24))∧(((!(Op.bytesLess (Qa0 x d17.2.toNat ([],[])).1 (Qa0 x d11.2.toNat ([],[])).1))=true→J23 false)∧True))) (fun d25=>J21 (cond (!(Op.bytesLess (Qa0 x d17.2.toNat ([],[])).1 (Qa0 x d11.2.toNat ([],[])).1)) true d25)))∧True) (fun d22=>((d22=true→K (211:Int) ())∧(d22=false→J19 d17.1)))) (fun d20=>J18 (d20,(i64.wrap (d17.2+1)))))∧((decide (d17.2<d11.2))=false→J15 d17.1)))) (fun d16=>J13 d16)) (fun d14=>J12 (d14,(i64.wrap (d11.2+1)))))∧((decide (d11.2<(x.length:Int)))=false→J9 d11.1)))) (fun d10=>Ac (D:=Int) (fun J26=>Au (D:=(Int×Int)) (d10,(0:Int)) (fun d28 J29=>(((decide (d28.2<(x.length:Int)))=true→Ac (D:=Int) (fun J30=>(0≤d28.2∧d28.2<(x.length:Int))∧
 (d28.2.toNat<x.length)∧
 Fn P AeH DO (Qa0 x d28.2.toNat ([],[])).2 (fun(d32:Int) _=>(((d32 !=0)=true→K (1:Int) ())∧((d32 !=0)=false→J30 d28.1)))) (fun d31=>J29 (d31,(i64.wrap (d28.2+1)))))∧((decide (d28.2<(x.length:Int)))=false→J26 d28.1)))) (fun d27=>K (0:Int) ())))))
theorem Nk{P}(h:Has P Fc){x K}(hw:Kl P x K):Fn P zS5 Cc x K:=
 ZF K0 h hw
def Mo:Ax:=
 sr [o1 4 (.asg ni),ia 5 (kI 0)] (sq (sr [im 8 0,oc 9 zS5 [8] Cc,ia 6 9] (sr [im 10 6,ob 11 .neq 10 (kI 0)] (cn 11 (sr [im 12 6,o1 4 (.asg ni),ia 5 12] .ret) .skip))) (sq (sr [im 13 1,oc 14
 zS5 [13] Cc,ia 7 14] (sr [im 15 7,ob 16 .neq 15 (kI 0)] (cn 16 (sr [im 17 7,o1 4 (.asg ni),ia 5 17] .ret) .skip))) (sr [im 18 0,im 19 1,oc 20 AjO [18,19]
 EI,ia 4 20,ia 5 (kI 0)] .ret)))
def Ib:AFn:=⟨AjQ,Mo.erase,[.tmp 4,.tmp 5],2⟩
def Qf(P:Pg)(x:((List (Bt8×Bt8))×(List (Bt8×Bt8))))(K:((List (Bt8×Int))×Int)→Unit→Prop):Prop:=
 Fn P zS5 Cc x.1 (fun(d1:Int) _=>(((d1 !=0)=true→K ([],d1) ())∧((d1 !=0)=false→Fn P zS5 Cc x.2 (fun(d3:Int) _=>(((d3 !=0)=true→K ([],d3) ())∧((d3 !=0)=false→Fn P AjO EI x (fun(d5:(List (Bt8×Int))) _=>K (d5,(0:Int)) ())))))))
theorem Wz{P}(h:Has P Ib){x K}(hw:Qf P x K):Fn P AjQ Gi x K:=
 ZF Mo h hw
def K7:Ax:=
 sr [o1 4 (.asg ni),ia 5 (kI 0)] (sr [im 18 0,im 19 1,oc 20 AjQ [18,19] Gi,im 17 20,oe 21 17 0,oe 22 17 1,ia 6 21,ia 7 22] (sq (sr [im 23 7,ob 24 .neq 23 (kI 0)] (cn 24 (sr [im 25 7,o1 4 (.asg ni),ia 5
 25] .ret) .skip)) (sr [o1 8 (.asg ni)] (sq (sr [ia 9 (kI 0)] (fk [8,9,10,11,12,13,14,15,16] 26 44 (.join [.sl 8 false (.sl Dy) tO] (bk 0 (.loop [.sl 8 false (.sl Dy) tO,.si 9] (sq (sr [im 26 9,im 27 6,ol 28 27,ob 29 .lss 26 28] (cx
 29 0)) (sq (fk [8,10,11,12,13,14,15,16] 32 38 (.join [.sl 8 false (.sl Dy) tO] (bk 1 (sr [im 33 0,im 34 6,im 35 9,ox 36 2 34 35,fa 37 0 36,ld 38 37,oc 39 zS4 [33,38] Ce,im 32 39,oe 40 32 0,oe 41 32
 1,ia 10 40,ia 11 41] (sr [im 43 1,im 44 6,im 45 9,ox 46 2 44 45,fa 47 0 46,ld 48 47,oc 49 zS4 [43,48] Ce,im 42 49,oe 50 42 0,oe 51 42 1,ia 12 50,ia 13 51] (sr [im 53 10,im 54 12,oc 55
 AcI [53,54] Di,im 52 55,oe 56 52 0,oe 57 52 1,oe 58 52 2,ia 14 56,ia 15 57,ia 16 58] (rn [im 59 8,im 60 6,im 61 9,ox 62 2 60 61,fa 63 0 62,ld 64 63,im 65 14,im 66 15,o1 67 (.build [.string ⟨#[]⟩,.int
 .i64 0,.int .i64 0] [(0,1,64),(1,1,65),(2,1,66)]),oT ⟨some 68,.buildSl 3 [.string ⟨#[]⟩,.int .i64 0,.int .i64 0] 1 [(0,67)],none⟩ (some (Dy,.leaf)),oT ⟨some 69,.app 3 32 59 68,none⟩ (some (Dy,.leaf)),ia 8 69]))))))) (rn [im 30 9,ob
 31 .add 30 (kI 1),ia 9 31])))))))) (sr [im 70 8,ia 4 70,ia 5 (kI 0)] .ret)))))
def Hr:AFn:=⟨zS8,K7.erase,[.tmp 4,.tmp 5],2⟩
def OV(P:Pg)(x:((List (Bt8×Bt8))×(List (Bt8×Bt8))))(K:((List Stat)×Int)→Unit→Prop):Prop:=
 Fn P AjQ Gi x (fun(d1:((List (Bt8×Int))×Int)) _=>(((d1.2 !=0)=true→K ([],d1.2) ())∧((d1.2 !=0)=false→Ac (D:=(List Stat)) (fun J3=>Au (D:=((List Stat)×Int)) ([],(0:Int)) (fun d5 J6=>(((decide (d5.2<(d1.1.length:Int)))=true→Ac (D:=(List Stat)) (fun J7=>(0≤d5.2∧d5.2<(d1.1.length:Int))∧
 (d5.2.toNat<d1.1.length)∧
 Fn P zS4 Ce (x.1,(Qa0 d1.1 d5.2.toNat ([],(0:Int))).1) (fun(d9:(Bt8×Bool)) _=>(0≤d5.2∧d5.2<(d1.1.length:Int))∧
 (d5.2.toNat<d1.1.length)∧
 Fn P zS4 Ce (x.2,(Qa0 d1.1 d5.2.toNat ([],(0:Int))).1) (fun(d11:(Bt8×Bool)) _=>Fn P AcI Di (d9.1,d11.1) (fun(d13:(Int×(Int×Int))) _=>(0≤d5.2∧d5.2<(d1.1.length:Int))∧
 (d5.2.toNat<d1.1.length)∧
 ((d5.1.length+Qa2 ([((Qa0 d1.1 d5.2.toNat ([],(0:Int))).1,(d13.1,d13.2.1))]:List Stat))*32≤140737488355328)∧
 J7 (d5.1++([((Qa0 d1.1 d5.2.toNat ([],(0:Int))).1,(d13.1,d13.2.1))]:List Stat)))))) (fun d8=>J6 (d8,(i64.wrap (d5.2+1)))))∧((decide (d5.2<(d1.1.length:Int)))=false→J3 d5.1)))) (fun d4=>K (d4,(0:Int)) ()))))
theorem U2{P}(h:Has P Hr){x K}(hw:OV P x K):Fn P zS8 Cr x K:=
 ZF K7 h hw
def GC:Ax:=
 sr [⟨⟨some 4,.asg ni,none⟩,none,⟨[],[]⟩,true,none,false,false⟩] (sq (sr [im 8 0,im 9 1,ox 10 3 8 9,fa 11 0 10,ld 12 11,ol 13 12,ob 14 .eql 13 (kI 0)] (cn 14 (sr [oT ⟨some 15,.buildSl 1 [.slice none 0 0] 1 [(0,ni)],none⟩ (some (.sl (.pair
 .str .str),tM)),⟨⟨some 4,.asg 15,none⟩,none,⟨[],[]⟩,true,none,false,false⟩] .ret) .skip)) (sr [o1 5 (.asg ni)] (sq (sr [im 16 0,im 17 1,ox 18 3 16 17,fa 19 0 18,ld 20 19,ol 21 20,o1 22 (.mv (kI 0))] (fk [5,7] 22 13 (.join [.sl 5 false (.sl
 (.sl (.pair .str .str))) (.node .own tM)] (bk 0 (.loop [.sl 5 false (.sl (.sl (.pair .str .str))) (.node .own tM),.si 22] (sr [ob 23 .lss 22 21] (sq (cx 23 0) (sq (fk [5,7] 24 10 (.join [.sl 5 false (.sl (.sl (.pair .str .str))) (.node
 .own tM)] (bk 1 (sr [ox 24 1 20 22,ld 25 24,ia 7 25] (rn [im 26 5,im 27 0,im 28 7,ox 29 3 27 28,fa 30 2 29,ld 31 30,oT ⟨some 32,.buildSl 1 [.slice none 0 0] 1 [(0,31)],none⟩ (some (.sl (.pair .str .str),tM)),oT ⟨some 33,.app 1 24 26
 32,none⟩ (some (.sl (.pair .str .str),tM)),ia 5 33]))))) (rn [ob 34 .add 22 (kI 1),im 22 34]))))))))) (sr [im 35 5,⟨⟨some 4,.asg 35,none⟩,none,⟨[],[]⟩,true,none,false,false⟩] .ret))))
def EA:AFn:=⟨AcK,GC.erase,[.tmp 4],2⟩
def JX(P:Pg)(x:((List Commit)×Int))(K:(List (List (Bt8×Bt8)))→Unit→Prop):Prop:=
 (0≤x.2∧x.2<(x.1.length:Int))∧
 (x.2.toNat<x.1.length)∧
 (((((Qa2 (Qa0 x.1 x.2.toNat Ag).1:Nat):Int)==0)=true→K ([[]]:List (List (Bt8×Bt8))) ())∧((((Qa2 (Qa0 x.1 x.2.toNat Ag).1:Nat):Int)==0)=false→(0≤x.2∧x.2<(x.1.length:Int))∧
 (x.2.toNat<x.1.length)∧
 Ac (D:=(List (List (Bt8×Bt8)))) (fun J1=>Au (D:=((List (List (Bt8×Bt8)))×Int)) ([],(0:Int)) (fun d3 J4=>(((decide (d3.2<((Qa2 (Qa0 x.1 x.2.toNat Ag).1:Nat):Int)))=true→Ac (D:=(List (List (Bt8×Bt8)))) (fun J5=>(0≤d3.2∧d3.2<((Qa2 (Qa0 x.1 x.2.toNat Ag).1:Nat):Int))∧
 (d3.2.toNat<Qa2 (Qa0 x.1 x.2.toNat Ag).1)∧
 (0≤(Qa0 (Qa0 x.1 x.2.toNat Ag).1 d3.2.toNat (0:Int))∧(Qa0 (Qa0 x.1 x.2.toNat Ag).1 d3.2.toNat (0:Int))<(x.1.length:Int))∧
 ((Qa1 (Qa0 (Qa0 x.1 x.2.toNat Ag).1 d3.2.toNat (0:Int)))<x.1.length)∧
 ((d3.1.length+Qa2 ([(Qa0 x.1 (Qa1 (Qa0 (Qa0 x.1 x.2.toNat Ag).1 d3.2.toNat (0:Int))) Ag).2.2]:List (List (Bt8×Bt8))))*24≤140737488355328)∧
 J5 (d3.1++([(Qa0 x.1 (Qa1 (Qa0 (Qa0 x.1 x.2.toNat Ag).1 d3.2.toNat (0:Int))) Ag).2.2]:List (List (Bt8×Bt8))))) (fun d6=>J4 (d6,(i64.wrap (d3.2+1)))))∧((decide (d3.2<((Qa2 (Qa0 x.1 x.2.toNat Ag).1:Nat):Int)))=false→J1 d3.1)))) (fun d2=>K d2 ())))
theorem Pu{P}(h:Has P EA){x K}(hw:JX P x K):Fn P AcK Ca x K:=
 ZF GC h hw
def HY:Ax:=
 sr [o1 1 (.box 0),o1 2 (.asg kF)] (sr [fa 3 0 1,ld 4 3,ol 5 4,ob 6 .gtr 5 (kI 32),ia 2 6] .ret)
def FB:AFn:=⟨Alz,HY.erase,[.tmp 2],1⟩
def Te(P:Pg)(x:Commit)(K:Bool→Unit→Prop):Prop:=
 K (decide ((x.1.length:Int)>32)) ()
theorem RR{P}(h:Has P FB){x K}(hw:Te P x K):Fn P Alz FD x K:=
 ZF HY h hw
def Bf:Ax:=
 sr [ia 4 (kI 0)] (sq (sr [im 6 0,ol 7 6,o1 8 (.mv (kI 0))] (fj [4,5] 8 11 [4] (bl 0 [4,8] (sr [ob 9 .lss 8 7] (sq (cx 9 0) (sq (fj [4,5] 10 8 [4] (bk 1 (sr [im 10 8,ia 5 10] (sr [im 11 1,im 12 0,im 13 5,ox 14 3 12 13,o1 15 (.load true 3
 14),oS ⟨some 16,.callv 11 [15],none⟩ FD] (cn 16 (sr [im 17 5,ia 4 17] .ret) .skip))))) (rn [ob 18 .add 8 (kI 1),im 8 18]))))))) (sr [ia 4 (kI (-1))] .ret))
def AP:AFn:=⟨zS9,Bf.erase,[.tmp 4],2⟩
def BL(P:Pg)(x:((List Commit)×Unit))(K:Int→Unit→Prop):Prop:=
 Ac (D:=Int) (fun J1=>Au (D:=(Int×Int)) ((0:Int),(0:Int)) (fun d3 J4=>(((decide (d3.2<(x.1.length:Int)))=true→Ac (D:=Int) (fun J5=>(0≤d3.2∧d3.2<(x.1.length:Int))∧
 (d3.2.toNat<x.1.length)∧
 Fn P Alz FD (Qa0 x.1 d3.2.toNat Ag) (fun(d7:Bool) _=>((d7=true→K d3.2 ())∧(d7=false→J5 d3.1)))) (fun d6=>J4 (d6,(i64.wrap (d3.2+1)))))∧((decide (d3.2<(x.1.length:Int)))=false→J1 d3.1)))) (fun d2=>K (-1:Int) ())
theorem CU{P}(h:Has P AP){x K}(hw:BL P x K):Fn P zS9 AE x K:=
 ZF Bf h hw
def A6:Ax:=
 sr [o1 4 (.asg kF)] (sr [im 5 0,im 6 1,oc 7 zS9 [5,6] AE,ob 8 .geq 7 (kI 0),ia 4 8] .ret)
def AN:AFn:=⟨XB,A6.erase,[.tmp 4],2⟩
def BE(P:Pg)(x:((List Commit)×Unit))(K:Bool→Unit→Prop):Prop:=
 Fn P zS9 AE (x.1,()) (fun(d1:Int) _=>K (decide (d1≥0)) ())
theorem CG{P}(h:Has P AN){x K}(hw:BE P x K):Fn P XB Az x K:=
 ZF A6 h hw
def Kx:Ax:=
 sr [o1 2 (.asg kF)] (sr [im 3 0,ol 4 3,ob 5 .leq 4 (kI 300),im 6 5,gt 7 6 (.mv 0),oS ⟨some 8,.call XB [7,.f Alz],some (6,true)⟩
 Az,gt 9 6 (.un .not 8),op3 10 6 9 kF,ia 2 10] .ret)
def G9:AFn:=⟨AjR,Kx.erase,[.tmp 2],1⟩
def OC(P:Pg)(x:(List Commit))(K:Bool→Unit→Prop):Prop:=
 Ac (D:=Bool) (fun J1=>(((decide ((x.length:Int)≤300))=true→Fn P XB Az (x,()) (fun(d2:Bool) _=>J1 d2))∧(((decide ((x.length:Int)≤300))=false→J1 false)∧True))) (fun d3=>K (cond (decide ((x.length:Int)≤300)) (!d3) false) ())
theorem UJ{P}(h:Has P G9){x K}(hw:OC P x K):Fn P AjR Fe x K:=
 ZF Kx h hw
def Ej:Ax:=
 sr [ia 4 (kI 0)] (sq (sr [im 6 0,ol 7 6,o1 8 (.mv (kI 0))] (fj [4,5] 8 11 [4] (bl 0 [4,8] (sr [ob 9 .lss 8 7] (sq (cx 9 0) (sq (fj [4,5] 10 8 [4] (bk 1 (sr [im 10 8,ia 5 10] (sr [im 11 1,im 12 0,im 13 5,ox 14 1 12 13,ld 15 14,ob 16 .eql 11
 15] (cn 16 (sr [im 17 5,ia 4 17] .ret) .skip))))) (rn [ob 18 .add 8 (kI 1),im 8 18]))))))) (sr [ia 4 (kI (-1))] .ret))
def Dd:AFn:=⟨ "slices.Index[[]int,int]",Ej.erase,[.tmp 4],2⟩
def Gm(P:Pg)(x:((List Int)×Int))(K:Int→Unit→Prop):Prop:=
 Ac (D:=Int) (fun J1=>Au (D:=(Int×Int)) ((0:Int),(0:Int)) (fun d3 J4=>(((decide (d3.2<(x.1.length:Int)))=true→Ac (D:=Int) (fun J5=>(0≤d3.2∧d3.2<(x.1.length:Int))∧
 (d3.2.toNat<x.1.length)∧
 (((x.2==(Qa0 x.1 d3.2.toNat (0:Int)))=true→K d3.2 ())∧((x.2==(Qa0 x.1 d3.2.toNat (0:Int)))=false→J5 d3.1))) (fun d6=>J4 (d6,(i64.wrap (d3.2+1)))))∧((decide (d3.2<(x.1.length:Int)))=false→J1 d3.1)))) (fun d2=>K (-1:Int) ())
theorem Lw{P}(h:Has P Dd){x K}(hw:Gm P x K):Fn P "slices.Index[[]int,int]" Ct x K:=
 ZF Ej h hw
def DA:Ax:=
 sr [o1 4 (.asg kF)] (sr [im 5 0,im 6 1,oc 7 "slices.Index[[]int,int]" [5,6] Ct,ob 8 .geq 7 (kI 0),ia 4 8] .ret)
def CE:AFn:=⟨ "slices.Contains[[]int,int]",DA.erase,[.tmp 4],2⟩
def E8(P:Pg)(x:((List Int)×Int))(K:Bool→Unit→Prop):Prop:=
 Fn P "slices.Index[[]int,int]" Ct x (fun(d1:Int) _=>K (decide (d1≥0)) ())
theorem Jc{P}(h:Has P CE){x K}(hw:E8 P x K):Fn P "slices.Contains[[]int,int]" B8 x K:=
 ZF DA h hw
def Kz:Ax:=
 sr [o1 2 (.asg kF)] (sq (sr [im 7 0,ol 8 7,o1 9 (.mv (kI 0))] (.frame (rg [2,4,5,6] 9 30) [1004] false (.join [.sl 2 false .bool .leaf] (bk 0 (.loop [.sl 2 false .bool .leaf,.si 9] (sr [ob 10 .lss 9 8] (sq (cx 10 0) (sq (.frame (rg
 [2,4,5,6] 11 27) [1004] false (.join [.sl 2 false .bool .leaf] (bk 1 (sr [ox 11 3 7 9,o1 12 (.load true 3 11),o1 4 (.alloc [.slice none 0 0,.int .i64 0,.slice none 0 0]),o0 ⟨none,.store 3 4 12,none⟩] (sr [fa 13 0 4,ld 14 13,ol 15 14,o1 16
 (.mv (kI 0))] (fk [2,5,6] 16 22 (.join [.sl 2 false .bool .leaf] (bk 2 (.loop [.sl 2 false .bool .leaf,.si 16] (sr [ob 17 .lss 16 15] (sq (cx 17 2) (sq (fk [2,5,6] 18 19 (.join [.sl 2 false .bool .leaf] (bk 3 (sr [im 18 16,ox 19 1 14 16,ld
 20 19,ia 5 18,ia 6 20] (sr [im 21 6,ob 22 .lss 21 (kI 0),im 23 22,gf 24 23 (.mv 6),gf 25 23 (.mv 0),gf 26 23 (.lenK 25),gf 27 23 (.bin .geq 24 26),op3 28 23 kT 27,im 29 28,gf 30 29 (.fAddr 0 4),gf 31 29 (.load false 1 30),gf 32 29 (.mv
 5),gf 33 29 (.slK 1 31 none (some 32)),gf 34 29 (.mv 6),oS ⟨some 35,.call "slices.Contains[[]int,int]" [33,34],some (29,false)⟩ B8,op3 36 29 kT 35] (cn 36 (sr [o1 2 (.asg kF)] .ret) .skip)))))) (rn [ob 37 .add 16 (kI
 1),im 16 37]))))))))))))) (rn [ob 38 .add 9 (kI 1),im 9 38]))))))))) (sr [o1 2 (.asg kT)] .ret))
def Ha:AFn:=⟨AjS,Kz.erase,[.tmp 2],1⟩
def OD(P:Pg)(x:(List Commit))(K:Bool→Unit→Prop):Prop:=
 Ac (D:=Bool) (fun J1=>Au (D:=(Bool×Int)) (false,(0:Int)) (fun d3 J4=>(((decide (d3.2<(x.length:Int)))=true→Ac (D:=Bool) (fun J5=>(0≤d3.2∧d3.2<(x.length:Int))∧
 (d3.2.toNat<x.length)∧
 Ac (D:=Bool) (fun J7=>Au (D:=(Bool×Int)) (d3.1,(0:Int)) (fun d9 J10=>(((decide (d9.2<((Qa2 (Qa0 x d3.2.toNat Ag).1:Nat):Int)))=true→Ac (D:=Bool) (fun J11=>(0≤d9.2∧d9.2<((Qa2 (Qa0 x d3.2.toNat Ag).1:Nat):Int))∧
 (d9.2.toNat<Qa2 (Qa0 x d3.2.toNat Ag).1)∧
 (((cond (decide ((Qa0 (Qa0 x d3.2.toNat Ag).1 d9.2.toNat (0:Int))<0)) true (decide ((Qa0 (Qa0 x d3.2.toNat Ag).1 d9.2.toNat (0:Int))≥(x.length:Int))))=false→0≤d9.2∧d9.2≤((Qa2 (Qa0 x d3.2.toNat Ag).1:Nat):Int)))∧
 Ac (D:=Bool) (fun J13=>(((cond (decide ((Qa0 (Qa0 x d3.2.toNat Ag).1 d9.2.toNat (0:Int))<0)) true (decide ((Qa0 (Qa0 x d3.2.toNat Ag).1 d9.2.toNat (0:Int))≥(x.length:Int))))=false→Fn P "slices.Contains[[]int,int]" B8 ((Qa4 d9.2.toNat (Qa0 x d3.2.toNat Ag).1),(Qa0 (Qa0 x d3.2.toNat Ag).1 d9.2.toNat (0:Int))) (fun(d14:Bool) _=>J13 d14))∧(((cond (decide ((Qa0 (Qa0 x d3.2.toNat Ag).1 d9.2.toNat (0:Int))<0)) true (decide ((Qa0 (Qa0 x d3.2.toNat Ag).1 d9.2.toNat (0:Int))≥(x.length:Int))))=true→J13 false)∧True))) (fun d15=>(((cond (cond (decide ((Qa0 (Qa0 x d3.2.toNat Ag).1 d9.2.toNat (0:Int))<0)) true (decide ((Qa0 (Qa0 x d3.2.toNat Ag).1 d9.2.toNat (0:Int))≥(x.length:Int)))) true d15)=true→K false ())∧((cond (cond (decide ((Qa0 (Qa0 x d3.2.toNat Ag).1 d9.2.toNat (0:Int))<0)) true (decide ((Qa0 (Qa0 x d3.2.toNat Ag).1 d9.2.toNat (0:Int))≥(x.length:Int)))) true d15)=false→J11 d9.1)))) (fun d12=>J10 (d12,(i64.wrap (d9.2+1)))))∧((decide (d9.2<((Qa2 (Qa0 x d3.2.toNat Ag).1:Nat):Int)))=false→J7 d9.1)))) (fun d8=>J5 d8)) (fun d6=>J4 (d6,(i64.wrap (d3.2+1)))))∧((decide (d3.2<(x.length:Int)))=false→J1 d3.1)))) (fun d2=>K true ())
theorem UK{P}(h:Has P Ha){x K}(hw:OD P x K):Fn P AjS Ff x K:=
 ZF Kz h hw
def Mh:Ax:=
 sr [o1 2 (.asg ni)] (sr [im 14 0,ol 15 14,oT ⟨some 16,.mkSl 1 8 [.int .i64 0] 15 15,none⟩ (some (bI,.leaf)),ia 3 16] (sq (sr [im 17 0,ol 18 17,o1 19 (.mv (kI 0))] (.frame (rg [3,5,7] 19 19) [1005] false (.join [.sl 3 false (.sl bI) tO] (bk
 0 (.loop [.sl 3 false (.sl bI) tO,.si 19] (sr [ob 20 .lss 19 18] (sq (cx 20 0) (sq (.frame (rg [3,5,7] 21 16) [1005] false (.join [.sl 3 false (.sl bI) tO] (bk 1 (sr [ox 21 3 17 19,o1 22 (.load true 3 21),o1 5 (.alloc [.slice none 0 0,.int
 .i64 0,.slice none 0 0]),o0 ⟨none,.store 3 5 22,none⟩] (sr [fa 23 0 5,ld 24 23,ol 25 24,o1 26 (.mv (kI 0))] (fk [3,7] 26 11 (.join [.sl 3 false (.sl bI) tO] (bk 2 (.loop [.sl 3 false (.sl bI) tO,.si 26] (sr [ob 27 .lss 26 25] (sq (cx 27 2)
 (sq (fk [3,7] 28 8 (.join [.sl 3 false (.sl bI) tO] (bk 3 (sr [ox 28 1 24 26,ld 29 28,ia 7 29] (rn [im 30 3,im 31 7,ox 32 1 30 31,ld 33 32,ob 34 .add 33 (kI 1),ox 35 1 30 31,o0 ⟨none,.store 1 35 34,none⟩]))))) (rn [ob 36 .add 26 (kI 1),im
 26 36]))))))))))))) (rn [ob 37 .add 19 (kI 1),im 19 37]))))))))) (sr [o1 8 (.asg ni)] (sq (sr [im 38 3,ol 39 38,o1 40 (.mv (kI 0))] (fk [8,9,10] 40 12 (.join [.sl 8 false (.sl bI) tO] (bk 4 (.loop [.sl 8 false (.sl bI) tO,.si 40] (sr [ob
 41 .lss 40 39] (sq (cx 41 4) (sq (fk [8,9,10] 42 9 (.join [.sl 8 false (.sl bI) tO] (bk 5 (sr [im 42 40,ox 43 1 38 40,ld 44 43,ia 9 42,ia 10 44] (sr [im 45 10,ob 46 .eql 45 (kI 0)] (fk [8] 47 4 (.join [.sl 8 false (.sl bI) tO] (cn 46 (rn
 [im 47 8,im 48 9,oT ⟨some 49,.buildSl 1 [.int .i64 0] 1 [(0,48)],none⟩ (some (bI,.leaf)),oT ⟨some 50,.app 1 8 47 49,none⟩ (some (bI,.leaf)),ia 8 50]) .skip)))))))) (rn [ob 51 .add 40 (kI 1),im 40 51]))))))))) (sq (sr [ia 11 (kI 0)] (fk
 [3,8,11,13] 52 35 (.join [.sl 8 false (.sl bI) tO] (bk 6 (.loop [.sl 3 false (.sl bI) tO,.sl 8 false (.sl bI) tO,.si 11] (sq (sr [im 52 11,im 53 8,ol 54 53,ob 55 .lss 52 54] (cx 55 6)) (sq (fk [3,8,13] 58 29 (.join [.sl 3 false (.sl bI)
 tO,.sl 8 false (.sl bI) tO] (bk 7 (sr [im 58 0,im 59 8,im 60 11,ox 61 1 59 60,ld 62 61,ox 63 3 58 62,fa 64 0 63,ld 65 64,ol 66 65,o1 67 (.mv (kI 0))] (fk [3,8,13] 67 20 (.join [.sl 3 false (.sl bI) tO,.sl 8 false (.sl bI) tO] (bk 8 (.loop
 [.sl 3 false (.sl bI) tO,.sl 8 false (.sl bI) tO,.si 67] (sr [ob 68 .lss 67 66] (sq (cx 68 8) (sq (fk [3,8,13] 69 17 (.join [.sl 3 false (.sl bI) tO,.sl 8 false (.sl bI) tO] (bk 9 (sr [ox 69 1 65 67,ld 70 69,ia 13 70] (sr [im 71 3,im 72
 13,ox 73 1 71 72,ld 74 73,ob 75 .sub 74 (kI 1),ox 76 1 71 72,o0 ⟨none,.store 1 76 75,none⟩] (sr [im 77 3,im 78 13,ox 79 1 77 78,ld 80 79,ob 81 .eql 80 (kI 0)] (fk [8] 82 4 (.join [.sl 8 false (.sl bI) tO] (cn 81 (rn [im 82 8,im 83 13,oT
 ⟨some 84,.buildSl 1 [.int .i64 0] 1 [(0,83)],none⟩ (some (bI,.leaf)),oT ⟨some 85,.app 1 8 82 84,none⟩ (some (bI,.leaf)),ia 8 85]) .skip))))))))) (rn [ob 86 .add 67 (kI 1),im 67 86])))))))))))) (rn [im 56 11,ob 57 .add 56 (kI 1),ia 11
 57])))))))) (sr [im 87 8,ia 2 87] .ret))))))
def H4:AFn:=⟨AjT,Mh.erase,[.tmp 2],1⟩
def P8(P:Pg)(x:(List Commit))(K:(List Int)→Unit→Prop):Prop:=
 (0≤(x.length:Int)∧(x.length:Int)≤(x.length:Int)∧((8:Nat):Int)*(x.length:Int)≤281474976710656)∧
 Ac (D:=(List Int)) (fun J1=>Au (D:=((List Int)×Int)) ((List.replicate (Qa1 (x.length:Int)) (0:Int)),(0:Int)) (fun d3 J4=>(((decide (d3.2<(x.length:Int)))=true→Ac (D:=(List Int)) (fun J5=>(0≤d3.2∧d3.2<(x.length:Int))∧
 (d3.2.toNat<x.length)∧
 Ac (D:=(List Int)) (fun J7=>Au (D:=((List Int)×Int)) (d3.1,(0:Int)) (fun d9 J10=>(((decide (d9.2<((Qa2 (Qa0 x d3.2.toNat Ag).1:Nat):Int)))=true→Ac (D:=(List Int)) (fun J11=>(0≤d9.2∧d9.2<((Qa2 (Qa0 x d3.2.toNat Ag).1:Nat):Int))∧
 (d9.2.toNat<Qa2 (Qa0 x d3.2.toNat Ag).1)∧
 (0≤(Qa0 (Qa0 x d3.2.toNat Ag).1 d9.2.toNat (0:Int))∧(Qa0 (Qa0 x d3.2.toNat Ag).1 d9.2.toNat (0:Int))<(d9.1.length:Int))∧
 ((Qa1 (Qa0 (Qa0 x d3.2.toNat Ag).1 d9.2.toNat (0:Int)))<d9.1.length)∧
 (0≤(Qa0 (Qa0 x d3.2.toNat Ag).1 d9.2.toNat (0:Int))∧(Qa0 (Qa0 x d3.2.toNat Ag).1 d9.2.toNat (0:Int))<(d9.1.length:Int))∧
 ((Qa1 (Qa0 (Qa0 x d3.2.toNat Ag).1 d9.2.toNat (0:Int)))<d9.1.length)∧
 J11 (Qa3 d9.1 (Qa1 (Qa0 (Qa0 x d3.2.toNat Ag).1 d9.2.toNat (0:Int))) (i64.wrap ((Qa0 d9.1 (Qa1 (Qa0 (Qa0 x d3.2.toNat Ag).1 d9.2.toNat (0:Int))) (0:Int))+1)))) (fun d12=>J10 (d12,(i64.wrap (d9.2+1)))))∧((decide (d9.2<((Qa2 (Qa0 x d3.2.toNat Ag).1:Nat):Int)))=false→J7 d9.1)))) (fun d8=>J5 d8)) (fun d6=>J4 (d6,(i64.wrap (d3.2+1)))))∧((decide (d3.2<(x.length:Int)))=false→J1 d3.1)))) (fun d2=>Ac (D:=(List Int)) (fun J13=>Au (D:=((List Int)×Int)) ([],(0:Int)) (fun d15 J16=>(((decide (d15.2<(d2.length:Int)))=true→Ac (D:=(List Int)) (fun J17=>(0≤d15.2∧d15.2<(d2.length:Int))∧
 (d15.2.toNat<d2.length)∧
 Ac (D:=(List Int)) (fun J19=>((((Qa0 d2 d15.2.toNat (0:Int))==0)=true→((d15.1.length+Qa2 ([d15.2]:List Int))*8≤140737488355328)∧
 J19 (d15.1++([d15.2]:List Int)))∧(((Qa0 d2 d15.2.toNat (0:Int))==0)=false→J19 d15.1))) (fun d20=>J17 d20)) (fun d18=>J16 (d18,(i64.wrap (d15.2+1)))))∧((decide (d15.2<(d2.length:Int)))=false→J13 d15.1)))) (fun d14=>Ac (D:=(List Int)) (fun J21=>Au (D:=((List Int)×((List Int)×Int))) (d2,(d14,(0:Int))) (fun d23 J24=>(((decide (d23.2.2<(d23.2.1.length:Int)))=true→Ac (D:=((List Int)×(List Int))) (fun J25=>(0≤d23.2.2∧d23.2.2<(d23.2.1.length:Int))∧
 (d23.2.2.toNat<d23.2.1.length)∧
 (0≤(Qa0 d23.2.1 d23.2.2.toNat (0:Int))∧(Qa0 d23.2.1 d23.2.2.toNat (0:Int))<(x.length:Int))∧
 ((Qa1 (Qa0 d23.2.1 d23.2.2.toNat (0:Int)))<x.length)∧
 Ac (D:=((List Int)×(List Int))) (fun J27=>Au (D:=((List Int)×((List Int)×Int))) (d23.1,(d23.2.1,(0:Int))) (fun d29 J30=>(((decide (d29.2.2<((Qa2 (Qa0 x (Qa1 (Qa0 d23.2.1 d23.2.2.toNat (0:Int))) Ag).1:Nat):Int)))=true→Ac (D:=((List Int)×(List Int))) (fun J31=>(0≤d29.2.2∧d29.2.2<((Qa2 (Qa0 x (Qa1 (Qa0 d23.2.1 d23.2.2.toNat (0:Int))) Ag).1:Nat):Int))∧
 (d29.2.2.toNat<Qa2 (Qa0 x (Qa1 (Qa0 d23.2.1 d23.2.2.toNat (0:Int))) Ag).1)∧
 (0≤(Qa0 (Qa0 x (Qa1 (Qa0 d23.2.1 d23.2.2.toNat (0:Int))) Ag).1 d29.2.2.toNat (0:Int))∧(Qa0 (Qa0 x (Qa1 (Qa0 d23.2.1 d23.2.2.toNat (0:Int))) Ag).1 d29.2.2.toNat (0:Int))<(d29.1.length:Int))∧
 ((Qa1 (Qa0 (Qa0 x (Qa1 (Qa0 d23.2.1 d23.2.2.toNat (0:Int))) Ag).1 d29.2.2.toNat (0:Int)))<d29.1.length)∧
 (0≤(Qa0 (Qa0 x (Qa1 (Qa0 d23.2.1 d23.2.2.toNat (0:Int))) Ag).1 d29.2.2.toNat (0:Int))∧(Qa0 (Qa0 x (Qa1 (Qa0 d23.2.1 d23.2.2.toNat (0:Int))) Ag).1 d29.2.2.toNat (0:Int))<(d29.1.length:Int))∧
 ((Qa1 (Qa0 (Qa0 x (Qa1 (Qa0 d23.2.1 d23.2.2.toNat (0:Int))) Ag).1 d29.2.2.toNat (0:Int)))<d29.1.length)∧
 (0≤(Qa0 (Qa0 x (Qa1 (Qa0 d23.2.1 d23.2.2.toNat (0:Int))) Ag).1 d29.2.2.toNat (0:Int))∧(Qa0 (Qa0 x (Qa1 (Qa0 d23.2.1 d23.2.2.toNat (0:Int))) Ag).1 d29.2.2.toNat (0:Int))<((Qa2 (Qa3 d29.1 (Qa1 (Qa0 (Qa0 x (Qa1 (Qa0 d23.2.1 d23.2.2.toNat (0:Int))) Ag).1 d29.2.2.toNat (0:Int))) (i64.wrap ((Qa0 d29.1 (Qa1 (Qa0 (Qa0 x (Qa1 (Qa0 d23.2.1 d23.2.2.toNat (0:Int))) Ag).1 d29.2.2.toNat (0:Int))) (0:Int)) -1))):Nat):Int))∧
 ((Qa1 (Qa0 (Qa0 x (Qa1 (Qa0 d23.2.1 d23.2.2.toNat (0:Int))) Ag).1 d29.2.2.toNat (0:Int)))<Qa2 (Qa3 d29.1 (Qa1 (Qa0 (Qa0 x (Qa1 (Qa0 d23.2.1 d23.2.2.toNat (0:Int))) Ag).1 d29.2.2.toNat (0:Int))) (i64.wrap ((Qa0 d29.1 (Qa1 (Qa0 (Qa0 x (Qa1 (Qa0 d23.2.1 d23.2.2.toNat (0:Int))) Ag).1 d29.2.2.toNat (0:Int))) (0:Int)) -1))))∧
 Ac (D:=(List Int)) (fun J33=>((((Qa0 (Qa3 d29.1 (Qa1 (Qa0 (Qa0 x (Qa1 (Qa0 d23.2.1 d23.2.2.toNat (0:Int))) Ag).1 d29.2.2.toNat (0:Int))) (i64.wrap ((Qa0 d29.1 (Qa1 (Qa0 (Qa0 x (Qa1 (Qa0 d23.2.1 d23.2.2.toNat (0:Int))) Ag).1 d29.2.2.toNat (0:Int))) (0:Int)) -1))) (Qa1 (Qa0 (Qa0 x (Qa1 (Qa0 d23.2.1 d23.2.2.toNat (0:Int))) Ag).1 d29.2.2.toNat (0:Int))) (0:Int))==0)=true→((d29.2.1.length+Qa2 ([(Qa0 (Qa0 x (Qa1 (Qa0 d23.2.1 d23.2.2.toNat (0:Int))) Ag).1 d29.2.2.toNat (0:Int))]:List Int))*8≤140737488355328)∧
 J33 (d29.2.1++([(Qa0 (Qa0 x (Qa1 (Qa0 d23.2.1 d23.2.2.toNat (0:Int))) Ag).1 d29.2.2.toNat (0:Int))]:List Int)))∧(((Qa0 (Qa3 d29.1 (Qa1 (Qa0 (Qa0 x (Qa1 (Qa0 d23.2.1 d23.2.2.toNat (0:Int))) Ag).1 d29.2.2.toNat (0:Int))) (i64.wrap ((Qa0 d29.1 (Qa1 (Qa0 (Qa0 x (Qa1 (Qa0 d23.2.1 d23.2.2.toNat (0:Int))) Ag).1 d29.2.2.toNat (0:Int))) (0:Int)) -1))) (Qa1 (Qa0 (Qa0 x (Qa1 (Qa0 d23.2.1 d23.2.2.toNat (0:Int))) Ag).1 d29.2.2.toNat (0:Int))) (0:Int))==0)=false→J33 d29.2.1))) (fun d34=>J31 ((Qa3 d29.1 (Qa1 (Qa0 (Qa0 x (Qa1 (Qa0 d23.2.1 d23.2.2.toNat (0:Int))) Ag).1 d29.2.2.toNat (0:Int))) (i64.wrap ((Qa0 d29.1 (Qa1 (Qa0 (Qa0 x (Qa1 (Qa0 d23.2.1 d23.2.2.toNat (0:Int))) Ag).1 d29.2.2.toNat (0:Int))) (0:Int)) -1))),d34))) (fun d32=>J30 (d32.1,(d32.2,(i64.wrap (d29.2.2+1))))))∧((decide (d29.2.2<((Qa2 (Qa0 x (Qa1 (Qa0 d23.2.1 d23.2.2.toNat (0:Int))) Ag).1:Nat):Int)))=false→J27 (d29.1,d29.2.1))))) (fun d28=>J25 d28)) (fun d26=>J24 (d26.1,(d26.2,(i64.wrap (d23.2.2+1))))))∧((decide (d23.2.2<(d23.2.1.length:Int)))=false→J21 d23.2.1)))) (fun d22=>K d22 ())))
theorem Ws{P}(h:Has P H4){x K}(hw:P8 P x K):Fn P AjT Ga x K:=
 ZF Mh h hw
def Jw:Ax:=
 sr [o1 1 (.box 0),o1 2 (.asg kF)] (sr [fa 3 0 1,ld 4 3,oc 5 AlB [4] DU,ob 6 .neq 5 (kI 0),ia 2 6] .ret)
def F8:AFn:=⟨Ajt,Jw.erase,[.tmp 2],1⟩
def M8(P:Pg)(x:(Bt8×Bt8))(K:Bool→Unit→Prop):Prop:=
 Fn P AlB DU x.1 (fun(d1:Int) _=>K (d1 !=0) ())
theorem Tk{P}(h:Has P F8){x K}(hw:M8 P x K):Fn P Ajt EK x K:=
 ZF Jw h hw
def Bu:Ax:=
 sr [ia 4 (kI 0)] (sq (sr [im 6 0,ol 7 6,o1 8 (.mv (kI 0))] (fj [4,5] 8 11 [4] (bl 0 [4,8] (sr [ob 9 .lss 8 7] (sq (cx 9 0) (sq (fj [4,5] 10 8 [4] (bk 1 (sr [im 10 8,ia 5 10] (sr [im 11 1,im 12 0,im 13 5,ox 14 2 12 13,o1 15 (.load true 2
 14),oS ⟨some 16,.callv 11 [15],none⟩ EK] (cn 16 (sr [im 17 5,ia 4 17] .ret) .skip))))) (rn [ob 18 .add 8 (kI 1),im 8 18]))))))) (sr [ia 4 (kI (-1))] .ret))
def A0:AFn:=⟨XC,Bu.erase,[.tmp 4],2⟩
def BX(P:Pg)(x:((List (Bt8×Bt8))×Unit))(K:Int→Unit→Prop):Prop:=
 Ac (D:=Int) (fun J1=>Au (D:=(Int×Int)) ((0:Int),(0:Int)) (fun d3 J4=>(((decide (d3.2<(x.1.length:Int)))=true→Ac (D:=Int) (fun J5=>(0≤d3.2∧d3.2<(x.1.length:Int))∧
 (d3.2.toNat<x.1.length)∧
 Fn P Ajt EK (Qa0 x.1 d3.2.toNat ([],[])) (fun(d7:Bool) _=>((d7=true→K d3.2 ())∧(d7=false→J5 d3.1)))) (fun d6=>J4 (d6,(i64.wrap (d3.2+1)))))∧((decide (d3.2<(x.1.length:Int)))=false→J1 d3.1)))) (fun d2=>K (-1:Int) ())
theorem Dl{P}(h:Has P A0){x K}(hw:BX P x K):Fn P XC AJ x K:=
 ZF Bu h hw
def Bh:Ax:=
 sr [o1 4 (.asg kF)] (sr [im 5 0,im 6 1,oc 7 XC [5,6] AJ,ob 8 .geq 7 (kI 0),ia 4 8] .ret)
def AW:AFn:=⟨XD,Bh.erase,[.tmp 4],2⟩
def BN(P:Pg)(x:((List (Bt8×Bt8))×Unit))(K:Bool→Unit→Prop):Prop:=
 Fn P XC AJ (x.1,()) (fun(d1:Int) _=>K (decide (d1≥0)) ())
theorem C4{P}(h:Has P AW){x K}(hw:BN P x K):Fn P XD AF x K:=
 ZF Bh h hw
def Jy:Ax:=
 sr [o1 1 (.box 0),o1 2 (.asg kF)] (sr [fa 3 1 1,ld 4 3,oc 5 AeF [4] Ea,ob 6 .neq 5 (kI 0),ia 2 6] .ret)
def F9:AFn:=⟨Aju,Jy.erase,[.tmp 2],1⟩
def M9(P:Pg)(x:(Bt8×Bt8))(K:Bool→Unit→Prop):Prop:=
 Fn P AeF Ea x.2 (fun(d1:Int) _=>K (d1 !=0) ())
theorem Tl{P}(h:Has P F9){x K}(hw:M9 P x K):Fn P Aju EL x K:=
 ZF Jy h hw
def Bw:Ax:=
 sr [ia 4 (kI 0)] (sq (sr [im 6 0,ol 7 6,o1 8 (.mv (kI 0))] (fj [4,5] 8 11 [4] (bl 0 [4,8] (sr [ob 9 .lss 8 7] (sq (cx 9 0) (sq (fj [4,5] 10 8 [4] (bk 1 (sr [im 10 8,ia 5 10] (sr [im 11 1,im 12 0,im 13 5,ox 14 2 12 13,o1 15 (.load true 2
 14),oS ⟨some 16,.callv 11 [15],none⟩ EL] (cn 16 (sr [im 17 5,ia 4 17] .ret) .skip))))) (rn [ob 18 .add 8 (kI 1),im 8 18]))))))) (sr [ia 4 (kI (-1))] .ret))
def A1:AFn:=⟨XC,Bw.erase,[.tmp 4],2⟩
def BZ(P:Pg)(x:((List (Bt8×Bt8))×Unit))(K:Int→Unit→Prop):Prop:=
 Ac (D:=Int) (fun J1=>Au (D:=(Int×Int)) ((0:Int),(0:Int)) (fun d3 J4=>(((decide (d3.2<(x.1.length:Int)))=true→Ac (D:=Int) (fun J5=>(0≤d3.2∧d3.2<(x.1.length:Int))∧
 (d3.2.toNat<x.1.length)∧
 Fn P Aju EL (Qa0 x.1 d3.2.toNat ([],[])) (fun(d7:Bool) _=>((d7=true→K d3.2 ())∧(d7=false→J5 d3.1)))) (fun d6=>J4 (d6,(i64.wrap (d3.2+1)))))∧((decide (d3.2<(x.1.length:Int)))=false→J1 d3.1)))) (fun d2=>K (-1:Int) ())
theorem Dm{P}(h:Has P A1){x K}(hw:BZ P x K):Fn P XC AK x K:=
 ZF Bw h hw
def Bj:Ax:=
 sr [o1 4 (.asg kF)] (sr [im 5 0,im 6 1,oc 7 XC [5,6] AK,ob 8 .geq 7 (kI 0),ia 4 8] .ret)
def AX:AFn:=⟨XD,Bj.erase,[.tmp 4],2⟩
def BO(P:Pg)(x:((List (Bt8×Bt8))×Unit))(K:Bool→Unit→Prop):Prop:=
 Fn P XC AK (x.1,()) (fun(d1:Int) _=>K (decide (d1≥0)) ())
theorem C5{P}(h:Has P AX){x K}(hw:BO P x K):Fn P XD AG x K:=
 ZF Bj h hw
def Mw:Ax:=
 sr [ia 2 (kI 0)] (sq (fj [] 2 15 [2] (bk 0 (sr [im 4 0,ol 5 4,ob 6 .gtr 5 (kI 200),ia 3 6] (cn 3 (sr [ia 2 (kI 1)] .ret) (sr [im 8 0,oc 9 XD [8,.f Ajt]
 AF,ia 7 9] (cn 7 (sr [ia 2 (kI 210)] .ret) (sr [im 11 0,oc 12 "mergelens/tree.ordered" [11] Gk,o1 13 (.un .not 12),ia 10 13] (cn 10 (sr [ia 2 (kI 211)] .ret) (sr [im 15 0,oc 16
 XD [15,.f Aju] AG,ia 14 16] (cn 14 (sr [ia 2 (kI 1)] .ret) .skip)))))))))) (sr [ia 2 (kI 0)] .ret))
def F7:AFn:=⟨zS6,Mw.erase,[.tmp 2],1⟩
def LY(P:Pg)(x:(List (Bt8×Bt8)))(K:Int→Unit→Prop):Prop:=
 Ac (D:=Int) (fun J1=>(((decide ((x.length:Int)>200))=true→K (1:Int) ())∧((decide ((x.length:Int)>200))=false→Fn P XD AF (x,()) (fun(d3:Bool) _=>((d3=true→K (210:Int) ())∧(d3=false→Fn P "mergelens/tree.ordered" Gk x (fun(d5:Bool) _=>(((!d5)=true→K (211:Int) ())∧((!d5)=false→Fn P XD AG (x,()) (fun(d7:Bool) _=>((d7=true→K (1:Int) ())∧(d7=false→J1 (0:Int))))))))))))) (fun d2=>K (0:Int) ())
theorem O2{P}(h:Has P F7){x K}(hw:LY P x K):Fn P zS6 Cu x K:=
 ZF Mw h hw
def Kw:Ax:=
 sr [o1 1 (.box 0),o1 2 (.asg kF)] (sr [fa 3 1 1,ld 4 3,ob 5 .lss 4 (kI 0),im 6 5,gf 7 6 (.fAddr 1 1),gf 8 6 (.load false 1 7),gf 9 6 (.bin .gtr 8 (kI 2147483647)),op3 10 6 kT 9,ia 2 10] .ret)
def G8:AFn:=⟨Aly,Kw.erase,[.tmp 2],1⟩
def Wp(P:Pg)(x:Commit)(K:Bool→Unit→Prop):Prop:=
 K (cond (decide (x.2.1<0)) true (decide (x.2.1>2147483647))) ()
theorem UI{P}(h:Has P G8){x K}(hw:Wp P x K):Fn P Aly Hx x K:=
 ZF Kw h hw
def Bk:Ax:=
 sr [ia 4 (kI 0)] (sq (sr [im 6 0,ol 7 6,o1 8 (.mv (kI 0))] (fj [4,5] 8 11 [4] (bl 0 [4,8] (sr [ob 9 .lss 8 7] (sq (cx 9 0) (sq (fj [4,5] 10 8 [4] (bk 1 (sr [im 10 8,ia 5 10] (sr [im 11 1,im 12 0,im 13 5,ox 14 3 12 13,o1 15 (.load true 3
 14),oS ⟨some 16,.callv 11 [15],none⟩ Hx] (cn 16 (sr [im 17 5,ia 4 17] .ret) .skip))))) (rn [ob 18 .add 8 (kI 1),im 8 18]))))))) (sr [ia 4 (kI (-1))] .ret))
def AY:AFn:=⟨zS9,Bk.erase,[.tmp 4],2⟩
def BP(P:Pg)(x:((List Commit)×Unit))(K:Int→Unit→Prop):Prop:=
 Ac (D:=Int) (fun J1=>Au (D:=(Int×Int)) ((0:Int),(0:Int)) (fun d3 J4=>(((decide (d3.2<(x.1.length:Int)))=true→Ac (D:=Int) (fun J5=>(0≤d3.2∧d3.2<(x.1.length:Int))∧
 (d3.2.toNat<x.1.length)∧
 Fn P Aly Hx (Qa0 x.1 d3.2.toNat Ag) (fun(d7:Bool) _=>((d7=true→K d3.2 ())∧(d7=false→J5 d3.1)))) (fun d6=>J4 (d6,(i64.wrap (d3.2+1)))))∧((decide (d3.2<(x.1.length:Int)))=false→J1 d3.1)))) (fun d2=>K (-1:Int) ())
theorem C6{P}(h:Has P AY){x K}(hw:BP P x K):Fn P zS9 AH x K:=
 ZF Bk h hw
def Ba:Ax:=
 sr [o1 4 (.asg kF)] (sr [im 5 0,im 6 1,oc 7 zS9 [5,6] AH,ob 8 .geq 7 (kI 0),ia 4 8] .ret)
def AO:AFn:=⟨XB,Ba.erase,[.tmp 4],2⟩
def BG(P:Pg)(x:((List Commit)×Unit))(K:Bool→Unit→Prop):Prop:=
 Fn P zS9 AH (x.1,()) (fun(d1:Int) _=>K (decide (d1≥0)) ())
theorem CS{P}(h:Has P AO){x K}(hw:BG P x K):Fn P XB AB x K:=
 ZF Ba h hw
def NM:Ax:=
 sr [ia 2 (kI 0)] (sq (fj [2] 6 18 [2] (bk 0 (sr [im 7 0,oc 8 AjR [7] Fe,o1 9 (.un .not 8),ia 6 9] (cn 6 (sr [ia 2 (kI 1)] .ret) (sr [im 11 0,oc 12 AjS [11] Ff,o1 13 (.un .not
 12),ia 10 13] (cn 10 (sr [ia 2 (kI 230)] .ret) (sr [im 15 0,oc 16 AjT [15] Ga,ol 17 16,im 18 0,ol 19 18,ob 20 .lss 17 19,ia 14 20] (cn 14 (sr [ia 2 (kI 231)] .ret) (sr [im 22 0,oc 23
 XB [22,.f Aly] AB,ia 21 23] (cn 21 (sr [ia 2 (kI 3)] .ret) .skip)))))))))) (sq (sr [im 24 0,ol 25
 24,o1 26 (.mv (kI 0))] (.frame (rg [2,4,5] 26 11) [1004] false (.join [.si 2] (bl 1 [2,26] (sr [ob 27 .lss 26 25] (sq (cx 27 1) (sq (.frame (rg [2,4,5] 28 8) [1004] false (.join [.si 2] (bk 2 (sr [ox 28 3 24 26,o1 29 (.load true 3 28),o1 4
 (.alloc [.slice none 0 0,.int .i64 0,.slice none 0 0]),o0 ⟨none,.store 3 4 29,none⟩] (sr [fa 30 2 4,ld 31 30,oc 32 zS6 [31] Cu,ia 5 32] (sr [im 33 5,ob 34 .neq 33 (kI 0)] (cn 34 (sr [im 35 5,ia 2 35] .ret)
 .skip))))))) (rn [ob 36 .add 26 (kI 1),im 26 36])))))))) (sr [ia 2 (kI 0)] .ret)))
def JM:AFn:=⟨AjU,NM.erase,[.tmp 2],1⟩
def Sv(P:Pg)(x:(List Commit))(K:Int→Unit→Prop):Prop:=
 Ac (D:=Int) (fun J1=>Fn P AjR Fe x (fun(d3:Bool) _=>(((!d3)=true→K (1:Int) ())∧((!d3)=false→Fn P AjS Ff x (fun(d5:Bool) _=>(((!d5)=true→K (230:Int) ())∧((!d5)=false→Fn P AjT Ga x (fun(d7:(List Int)) _=>(((decide ((d7.length:Int)<(x.length:Int)))=true→K (231:Int) ())∧((decide ((d7.length:Int)<(x.length:Int)))=false→Fn P XB AB (x,()) (fun(d9:Bool) _=>((d9=true→K (3:Int) ())∧(d9=false→J1 (0:Int)))))))))))))) (fun d2=>Ac (D:=Int) (fun J11=>Au (D:=(Int×Int)) (d2,(0:Int)) (fun d13 J14=>(((decide (d13.2<(x.length:Int)))=true→Ac (D:=Int) (fun J15=>(0≤d13.2∧d13.2<(x.length:Int))∧
 (d13.2.toNat<x.length)∧
 Fn P zS6 Cu (Qa0 x d13.2.toNat Ag).2.2 (fun(d17:Int) _=>(((d17 !=0)=true→K d17 ())∧((d17 !=0)=false→J15 d13.1)))) (fun d16=>J14 (d16,(i64.wrap (d13.2+1)))))∧((decide (d13.2<(x.length:Int)))=false→J11 d13.1)))) (fun d12=>K (0:Int) ()))
theorem Y3{P}(h:Has P JM){x K}(hw:Sv P x K):Fn P AjU HI x K:=
 ZF NM h hw
def V7:Ax:=
 sr [o1 4 (.asg kF)] (sr [im 5 1,ob 6 .geq 5 (kI 0),im 7 6,gt 8 7 (.mv 1),gt 9 7 (.mv 0),gt 10 7 (.lenK 9),gt 11 7 (.bin .lss 8 10),op3 12 7 11 kF,ia 4 12] .ret)
def P4:AFn:=⟨ "mergelens/dag.Is",V7.erase,[.tmp 4],2⟩
def Aai(P:Pg)(x:((List Commit)×Int))(K:Bool→Unit→Prop):Prop:=
 K (cond (decide (x.2≥0)) (decide (x.2<(x.1.length:Int))) false) ()
theorem Af6{P}(h:Has P P4){x K}(hw:Aai P x K):Fn P "mergelens/dag.Is" P6 x K:=
 ZF V7 h hw
def La:Ax:=
 sr [o1 4 (.asg ni),ia 5 (kI 0)] (sq (sr [im 7 0,oc 8 AjU [7] HI,ia 6 8] (sr [im 9 6,ob 10 .neq 9 (kI 0)] (cn 10 (sr [im 11 6,o1 4 (.asg ni),ia 5 11] .ret) .skip))) (sq (sr [im 12 0,im 13 1,oc 14 "mergelens/dag.Is"
 [12,13] P6,o1 15 (.un .not 14)] (cn 15 (sr [o1 4 (.asg ni),ia 5 (kI 5)] .ret) .skip)) (sq (fk [4,5] 16 13 (.join [.sl 4 false (.sl Dy) tO,.si 5] (.draw [ti (im 16 0) (ti (im 17 1) (ti (im 21 0) (ti (im 22 1) (ti (ox 23 3 21 22)
 (ti (fa 24 2 23) (.alt (oc 18 AcK [16,17] Ca) (ti (ox 19 1 18 (kI 0)) (ti (ld 20 19) (ti (ld 25 24) (.alt (oc 26 zS7 [20,25] CR) (.alt (oe 27 26 0) (.alt (oe 28 26 1)
 (.alt (ia 4 27) (.alt (ia 5 28) .done .stop) .stop) .stop) (.alt (oe 28 26 1) (.alt (oe 27 26 0) (.alt (ia 4 27) (.alt (ia 5 28) .done .stop) .stop) .stop) .stop)) .stop)))) (.alt (ld 25 24) (.alt (oc 18 AcK [16,17]
 Ca) (ti (ox 19 1 18 (kI 0)) (ti (ld 20 19) (.alt (oc 26 zS7 [20,25] CR) (.alt (oe 27 26 0) (.alt (oe 28 26 1) (.alt (ia 4 27) (.alt (ia 5 28) .done .stop) .stop) .stop) (.alt (oe 28 26 1) (.alt
 (oe 27 26 0) (.alt (ia 4 27) (.alt (ia 5 28) .done .stop) .stop) .stop) .stop)) .stop))) .stop) .stop)))))))]))) .ret)))
def Hu:AFn:=⟨AjV,La.erase,[.tmp 4,.tmp 5],2⟩
def OY(P:Pg)(x:((List Commit)×Int))(K:((List Stat)×Int)→Unit→Prop):Prop:=
 Fn P AjU HI x.1 (fun(d1:Int) _=>(((d1 !=0)=true→K ([],d1) ())∧((d1 !=0)=false→Fn P "mergelens/dag.Is" P6 x (fun(d3:Bool) _=>(((!d3)=true→K ([],(5:Int)) ())∧((!d3)=false→Ac (D:=((List Stat)×Int)) (fun J5=>(0≤x.2∧x.2<(x.1.length:Int))∧
 (Fn P AcK Ca x (fun(d7:(List (List (Bt8×Bt8)))) _=>(0≤(0:Int)∧(0:Int)<(d7.length:Int))∧
 ((Qa1 (0:Int))<d7.length)∧
 (x.2.toNat<x.1.length)∧
 (Fn P zS7 CR ((Qa0 d7 (Qa1 (0:Int)) []),(Qa0 x.1 x.2.toNat Ag).2.2) (fun(d9:((List Stat)×Int)) _=>((((J5 d9)∧True)∧True)∧True)∧(((((J5 d9)∧True)∧True)∧True)∧True)))∧True))∧(((x.2.toNat<x.1.length)∧
 (Fn P AcK Ca x (fun(d11:(List (List (Bt8×Bt8)))) _=>(0≤(0:Int)∧(0:Int)<(d11.length:Int))∧
 ((Qa1 (0:Int))<d11.length)∧
 (Fn P zS7 CR ((Qa0 d11 (Qa1 (0:Int)) []),(Qa0 x.1 x.2.toNat Ag).2.2) (fun(d13:((List Stat)×Int)) _=>((((J5 d13)∧True)∧True)∧True)∧(((((J5 d13)∧True)∧True)∧True)∧True)))∧True))∧True)∧True)) (fun d6=>K d6 ())))))))
theorem U5{P}(h:Has P Hu){x K}(hw:OY P x K):Fn P AjV Fs x K:=
 ZF La h hw
def NR:Ax:=
 sr [o1 4 (.asg kF)] (sq (sr [ia 5 (kI 0)] (fk [] 4 14 (.join [.sl 4 false .bool .leaf] (bk 0 (.loop [.sl 4 false .bool .leaf,.si 5] (sq (sr [im 6 5,im 7 0,ol 8 7,ob 9 .lss 6 8] (cx 9 0)) (sq (fk [4] 12 6 (.join [.sl 4 false .bool .leaf] (bk
 1 (sr [im 12 0,im 13 5,ox 14 1 12 13,ld 15 14,im 16 1,ob 17 .eql 15 16] (cn 17 (sr [o1 4 (.asg kT)] .ret) .skip))))) (rn [im 10 5,ob 11 .add 10 (kI 1),ia 5 11])))))))) (sr [o1 4 (.asg kF)] .ret))
def JR:AFn:=⟨AjW,NR.erase,[.tmp 4],2⟩
def SA(P:Pg)(x:((List Int)×Int))(K:Bool→Unit→Prop):Prop:=
 Ac (D:=Bool) (fun J1=>Au (D:=(Bool×Int)) (false,(0:Int)) (fun d3 J4=>(((decide (d3.2<(x.1.length:Int)))=true→Ac (D:=Bool) (fun J5=>(0≤d3.2∧d3.2<(x.1.length:Int))∧
 (d3.2.toNat<x.1.length)∧
 ((((Qa0 x.1 d3.2.toNat (0:Int))==x.2)=true→K true ())∧(((Qa0 x.1 d3.2.toNat (0:Int))==x.2)=false→J5 d3.1))) (fun d6=>J4 (d6,(i64.wrap (d3.2+1)))))∧((decide (d3.2<(x.1.length:Int)))=false→J1 d3.1)))) (fun d2=>K false ())
theorem Y8{P}(h:Has P JR){x K}(hw:SA P x K):Fn P AjW HL x K:=
 ZF NR h hw
end Go.VS
