/- Functions of the program: typed code, and what it says, lifted. -/
import Derived.Test.YtfkfmokccekccaaGreatDoorKTxSig
import Derived.KernelRfl
set_option linter.unusedVariables false
set_option linter.unusedSimpArgs false
set_option maxRecDepth 8000
open List renaming getD → Qa0, length → Qa1, set → Qa3
open Int renaming toNat → Qa2
namespace Go.VS
open IntKind
def Mv:Ax:=
 sr [o1 2 (.asg ni),ia 3 (kI 0)] (sq (sr [im 6 0,oc 7 AeF [6] Ea,ia 4 7] (sr [im 8 4,ob 9 .neq 8 (kI 0)] (cn 9 (sr [im 10 4,o1 2 (.asg ni),ia 3 10] .ret) .skip))) (sr [im 11 0,oc 12 "strings.SplitAfter" [11,.c
 (.string ⟨#[10]⟩)] DF,ia 5 12] (sq (sr [im 13 5,im 14 5,ol 15 14,ob 16 .sub 15 (kI 1),ox 17 1 13 16,ld 18 17,ob 19 .eql 18 (.c (.string ⟨#[]⟩))] (fk [5] 20 5 (.join [.sl 5 false (.sl .str) tO] (cn 19 (rn [im 20 5,im 21
 5,ol 22 21,ob 23 .sub 22 (kI 1),o1 24 (.slK 1 20 none (some 23)),ia 5 24]) .skip)))) (sr [im 25 5,ia 2 25,ia 3 (kI 0)] .ret))))
def Ik:AFn:=⟨AcE,Mv.erase,[.tmp 2,.tmp 3],1⟩
def Qm(P:Pg)(x:Bt8)(K:((List Bt8)×Int)→Unit→Prop):Prop:=
 Fn P AeF Ea x (fun(d1:Int) _=>(((d1 !=0)=true→K ([],d1) ())∧((d1 !=0)=false→Fn P "strings.SplitAfter" DF (x,([10]:List UInt8)) (fun(d3:(List Bt8)) _=>(0≤(i64.wrap ((d3.length:Int) -1))∧(i64.wrap ((d3.length:Int) -1))<(d3.length:Int))∧
 ((Qa2 (i64.wrap ((d3.length:Int) -1)))<d3.length)∧
 Ac (D:=(List Bt8)) (fun J5=>((((Qa0 d3 (Qa2 (i64.wrap ((d3.length:Int) -1))) [])==([]:List UInt8))=true→(0≤(i64.wrap ((d3.length:Int) -1))∧(i64.wrap ((d3.length:Int) -1))≤(d3.length:Int))∧
 (0+(Qa2 (i64.wrap ((d3.length:Int) -1)))≤d3.length)∧
 J5 (List.take (Qa2 (i64.wrap ((d3.length:Int) -1))) (List.drop 0 d3)))∧(((Qa0 d3 (Qa2 (i64.wrap ((d3.length:Int) -1))) [])==([]:List UInt8))=false→J5 d3))) (fun d6=>K (d6,(0:Int)) ())))))
theorem WI{P}(h:Has P Ik){x K}(hw:Qm P x K):Fn P AcE DG x K:=
 ZF Mv h hw
def Mk:Ax:=
 sr [o1 2 (.asg ni)] (sr [im 6 0,oc 7 Am0 [6] FE,im 5 7,oe 8 5 0,oe 9 5 1,ia 3 8,ia 4 9] (sr [im 10 3,ia 2 10] .ret))
def H7:AFn:=⟨AjB,Mk.erase,[.tmp 2],1⟩
def Qb(P:Pg)(x:(List (List Bt8)))(K:(List (List Int))→Unit→Prop):Prop:=
 Fn P Am0 FE x (fun(d1:((List (List Int))×(List Bt8))) _=>K d1.1 ())
theorem Wv{P}(h:Has P H7){x K}(hw:Qb P x K):Fn P AjB Ge x K:=
 ZF Mk h hw
def FT:Ax:=
 sr [o1 4 (.asg kF)] (sr [im 5 0,ol 6 5,ob 7 .leq 6 (kI 4096),im 8 7,gt 9 8 (.mv 1),gt 10 8 (.lenK 9),gt 11 8 (.bin .leq 10 (kI 4096)),op3 12 8 11 kF,ia 4 12] .ret)
def D6:AFn:=⟨AlA,FT.erase,[.tmp 4],2⟩
def I2(P:Pg)(x:((List Int)×(List Int)))(K:Bool→Unit→Prop):Prop:=
 K (cond (decide ((x.1.length:Int)≤4096)) (decide ((x.2.length:Int)≤4096)) false) ()
theorem Oy{P}(h:Has P D6){x K}(hw:I2 P x K):Fn P AlA D8 x K:=
 ZF FT h hw
def HZ:Ax:=
 sr [o1 2 (.asg kF)] (sr [im 3 0,ob 4 .geq 3 (kI 0),im 5 4,gt 6 5 (.mv 0),gt 7 5 (.bin .leq 6 (kI 4096)),op3 8 5 7 kF,ia 2 8] .ret)
def FC:AFn:=⟨Aad,HZ.erase,[.tmp 2],1⟩
def MF(P:Pg)(x:Int)(K:Bool→Unit→Prop):Prop:=
 K (cond (decide (x≥0)) (decide (x≤4096)) false) ()
theorem RS{P}(h:Has P FC){x K}(hw:MF P x K):Fn P Aad Cf x K:=
 ZF HZ h hw
def FR:Ax:=
 sr [o1 6 (.asg ni),ia 7 (kI 0)] (sq (sr [im 11 1,oc 12 Aad [11] Cf,o1 13 (.un .not 12),im 14 13,gf 15 14 (.mv 2),oS ⟨some 16,.call Aad [15],some (14,false)⟩ Cf,gf 17 14
 (.un .not 16),op3 18 14 kT 17] (cn 18 (sr [o1 6 (.asg ni),ia 7 (kI 80)] .ret) .skip)) (sr [o1 19 (.build [.int .i64 0,.int .i64 0] [(0,1,kI (-1)),(1,1,kI (-1))]),o1 8 (.alloc [.int .i64 0,.int .i64 0]),o0 ⟨none,.store 2 8 19,none⟩] (sq (sr
 [im 20 0,ol 21 20,o1 22 (.mv (kI 0))] (.frame (rg [6,7,10] 22 30) [1008,1010] false (.join [.sl 6 false (.sl Cp) tO,.si 7] (bk 0 (.loop [.sl 6 false (.sl Cp) tO,.si 7,.si 22,.bx 1008 (.pair bI bI) .leaf] (sr [ob 23 .lss 22 21]
 (sq (cx 23 0) (sq (.frame (rg [6,7,10] 24 27) [1008,1010] false (.join [.sl 6 false (.sl Cp) tO,.si 7,.bx 1008 (.pair bI bI) .leaf] (bk 1 (sr [ox 24 2 20 22,o1 25 (.load true 2 24),o1 10 (.alloc [.int .i64 0,.int .i64 0]),o0
 ⟨none,.store 2 10 25,none⟩] (sq (sr [fa 26 0 10,ld 27 26,fa 28 0 8,ld 29 28,ob 30 .leq 27 29,im 31 30,gf 32 31 (.fAddr 0 10),gf 33 31 (.load false 1 32),gf 34 31 (.mv 1),gf 35 31 (.bin .geq 33 34),op3 36 31 kT 35,im 37 36,gf 38 37 (.fAddr
 1 10),gf 39 37 (.load false 1 38),gf 40 37 (.fAddr 1 8),gf 41 37 (.load false 1 40),gf 42 37 (.bin .leq 39 41),op3 43 37 kT 42,im 44 43,gf 45 44 (.fAddr 1 10),gf 46 44 (.load false 1 45),gf 47 44 (.mv 2),gf 48 44 (.bin .geq 46 47),op3 49
 44 kT 48] (cn 49 (sr [o1 6 (.asg ni),ia 7 (kI 3)] .ret) .skip)) (rn [o1 50 (.load true 2 10),o0 ⟨none,.store 2 8 50,none⟩])))))) (rn [ob 51 .add 22 (kI 1),im 22 51]))))))))) (sr [im 52 0,im 53 1,im 54 2,oc 55 Am1
 [52,53,54] D7,ia 6 55,ia 7 (kI 0)] .ret))))
def D5:AFn:=⟨AjC,FR.erase,[.tmp 6,.tmp 7],3⟩
def I1(P:Pg)(x:((List (Int×Int))×(Int×Int)))(K:((List Change)×Int)→Unit→Prop):Prop:=
 Fn P Aad Cf x.2.1 (fun(d1:Bool) _=>Ac (D:=Bool) (fun J3=>(((!d1)=false→Fn P Aad Cf x.2.2 (fun(d4:Bool) _=>J3 d4))∧(((!d1)=true→J3 false)∧True))) (fun d5=>(((cond (!d1) true (!d5))=true→K ([],(80:Int)) ())∧((cond (!d1) true (!d5))=false→Ac (D:=((List Change)×Int)) (fun J6=>Au (D:=((List Change)×Change)) ([],((0:Int),((0:Int),((-1:Int),(-1:Int))))) (fun d8 J9=>(((decide (d8.2.2.1<(x.1.length:Int)))=true→Ac (D:=((List Change)×(Int×(Int×Int)))) (fun J10=>(0≤d8.2.2.1∧d8.2.2.1<(x.1.length:Int))∧
 (d8.2.2.1.toNat<x.1.length)∧
 (((cond (cond (cond (decide ((Qa0 x.1 d8.2.2.1.toNat ((0:Int),(0:Int))).1≤d8.2.2.2.1)) true (decide ((Qa0 x.1 d8.2.2.1.toNat ((0:Int),(0:Int))).1≥x.2.1))) true (decide ((Qa0 x.1 d8.2.2.1.toNat ((0:Int),(0:Int))).2≤d8.2.2.2.2))) true (decide ((Qa0 x.1 d8.2.2.1.toNat ((0:Int),(0:Int))).2≥x.2.2)))=true→K ([],(3:Int)) ())∧((cond (cond (cond (decide ((Qa0 x.1 d8.2.2.1.toNat ((0:Int),(0:Int))).1≤d8.2.2.2.1)) true (decide ((Qa0 x.1 d8.2.2.1.toNat ((0:Int),(0:Int))).1≥x.2.1))) true (decide ((Qa0 x.1 d8.2.2.1.toNat ((0:Int),(0:Int))).2≤d8.2.2.2.2))) true (decide ((Qa0 x.1 d8.2.2.1.toNat ((0:Int),(0:Int))).2≥x.2.2)))=false→J10 (d8.1,(d8.2.1,(Qa0 x.1 d8.2.2.1.toNat ((0:Int),(0:Int)))))))) (fun d11=>J9 (d11.1,(d11.2.1,((i64.wrap (d8.2.2.1+1)),d11.2.2)))))∧((decide (d8.2.2.1<(x.1.length:Int)))=false→J6 (d8.1,d8.2.1))))) (fun d7=>Fn P Am1 D7 x (fun(d12:(List Change)) _=>K (d12,(0:Int)) ()))))))
theorem Ox{P}(h:Has P D5){x K}(hw:I1 P x K):Fn P AjC Dn x K:=
 ZF FR h hw
def GF:Ax:=
 sr [o1 4 (.asg ni),ia 5 (kI 0)] (sq (sr [im 6 0,im 7 1,oc 8 AlA [6,7] D8,o1 9 (.un .not 8)] (cn 9 (sr [o1 4 (.asg ni),ia 5 (kI 1)] .ret) .skip)) (sr [im 10 0,im 11 1,oc 12 Am2
 [10,11] FF,im 13 0,ol 14 13,im 15 1,ol 16 15,oc 17 AjC [12,14,16] Dn,oe 18 17 0,oe 19 17 1,ia 4 18,ia 5 19] .ret))
def EC:AFn:=⟨AjD,GF.erase,[.tmp 4,.tmp 5],2⟩
def JZ(P:Pg)(x:((List Int)×(List Int)))(K:((List Change)×Int)→Unit→Prop):Prop:=
 Fn P AlA D8 x (fun(d1:Bool) _=>(((!d1)=true→K ([],(1:Int)) ())∧((!d1)=false→Fn P Am2 FF x (fun(d3:(List (Int×Int))) _=>Fn P AjC Dn (d3,((x.1.length:Int),(x.2.length:Int))) (fun(d5:((List Change)×Int)) _=>K d5 ())))))
theorem Pw{P}(h:Has P EC){x K}(hw:JZ P x K):Fn P AjD DD x K:=
 ZF GF h hw
def G6:Ax:=
 sr [o1 4 (.asg ni),ia 5 (kI 0)] (sr [im 11 0,oc 12 AcE [11] DG,im 10 12,oe 13 10 0,oe 14 10 1,ia 6 13,ia 7 14] (sq (sr [im 15 7,ob 16 .neq 15 (kI 0)] (cn 16 (sr [im 17 7,o1 4 (.asg ni),ia 5 17] .ret) .skip)) (sr
 [im 19 1,oc 20 AcE [19] DG,im 18 20,oe 21 18 0,oe 22 18 1,ia 8 21,ia 7 22] (sq (sr [im 23 7,ob 24 .neq 23 (kI 0)] (cn 24 (sr [im 25 7,o1 4 (.asg ni),ia 5 25] .ret) .skip)) (sr [im 26 6,im 27 8,oT ⟨some
 28,.buildSl 1 [.slice none 0 0] 2 [(0,26),(1,27)],none⟩ (some (.sl .str,tO)),oc 29 AjB [28] Ge,ia 9 29] (sq (fk [4,5] 30 9 (.join [.sl 4 false (.sl Cp) tO,.si 5] (.draw [ti (im 30 9) (ti (ox 31 1 30 (kI
 0)) (ti (ld 32 31) (ti (im 33 9) (ti (ox 34 1 33 (kI 1)) (ti (ld 35 34) (.alt (oc 36 AjD [32,35] DD) (.alt (oe 37 36 0) (.alt (oe 38 36 1) (.alt (ia 4 37) (.alt (ia 5 38) .done .stop) .stop) .stop)
 (.alt (oe 38 36 1) (.alt (oe 37 36 0) (.alt (ia 4 37) (.alt (ia 5 38) .done .stop) .stop) .stop) .stop)) .stop))))))]))) .ret))))))
def EY:AFn:=⟨Ahj,G6.erase,[.tmp 4,.tmp 5],2⟩
def Lp(P:Pg)(x:(Bt8×Bt8))(K:((List Change)×Int)→Unit→Prop):Prop:=
 Fn P AcE DG x.1 (fun(d1:((List Bt8)×Int)) _=>(((d1.2 !=0)=true→K ([],d1.2) ())∧((d1.2 !=0)=false→Fn P AcE DG x.2 (fun(d3:((List Bt8)×Int)) _=>(((d3.2 !=0)=true→K ([],d3.2) ())∧((d3.2 !=0)=false→Fn P AjB Ge ([d1.1,d3.1]:List (List Bt8)) (fun(d5:(List (List Int))) _=>Ac (D:=((List Change)×Int)) (fun J7=>(0≤(0:Int)∧(0:Int)<(d5.length:Int))∧
 ((Qa2 (0:Int))<d5.length)∧
 (0≤(1:Int)∧(1:Int)<(d5.length:Int))∧
 ((Qa2 (1:Int))<d5.length)∧
 (((Qa2 (0:Int))<d5.length)∧
 ((Qa2 (1:Int))<d5.length)∧
 Fn P AjD DD ((Qa0 d5 (Qa2 (0:Int)) []),(Qa0 d5 (Qa2 (1:Int)) [])) (fun(d9:((List Change)×Int)) _=>((((J7 d9)∧True)∧True)∧True)∧(((((J7 d9)∧True)∧True)∧True)∧True)))∧True) (fun d8=>K d8 ()))))))))
theorem QC{P}(h:Has P EY){x K}(hw:Lp P x K):Fn P Ahj Dk x K:=
 ZF G6 h hw
def G5:Ax:=
 sr [ia 2 (kI 0)] (sq (sr [im 3 0,oc 4 Aad [3] Cf,o1 5 (.un .not 4)] (cn 5 (sr [ia 2 (kI 0)] .ret) .skip)) (sr [im 6 0,ia 2 6] .ret))
def EX:AFn:=⟨AeG,G5.erase,[.tmp 2],1⟩
def Lo(P:Pg)(x:Int)(K:Int→Unit→Prop):Prop:=
 Fn P Aad Cf x (fun(d1:Bool) _=>(((!d1)=true→K (0:Int) ())∧((!d1)=false→K x ())))
theorem QB{P}(h:Has P EX){x K}(hw:Lo P x K):Fn P AeG CI x K:=
 ZF G5 h hw
def K9:Ax:=
 sr [ia 2 (kI 0),ia 3 (kI 0)] (sr [ia 4 (kI 0),ia 5 (kI 0)] (sq (sr [im 8 0,ol 9 8,o1 10 (.mv (kI 0))] (.frame (rg [4,5,7] 10 15) [1007] false (.join [.si 4,.si 5] (bl 0 [4,5,10] (sr [ob 11 .lss 10 9] (sq (cx 11 0) (sq (.frame (rg [4,5,7] 12
 12) [1007] false (.join [.si 4,.si 5] (bk 1 (sr [ox 12 4 8 10,o1 13 (.load true 4 12),o1 7 (.alloc [.int .i64 0,.int .i64 0,.int .i64 0,.int .i64 0]),o0 ⟨none,.store 4 7 13,none⟩] (sr [im 14 4,fa 15 1 7,ld 16 15,oc 17
 AeG [16] CI,ob 18 .add 14 17,ia 4 18] (rn [im 19 5,fa 20 3 7,ld 21 20,oc 22 AeG [21] CI,ob 23 .add 19 22,ia 5 23])))))) (rn [ob 24 .add 10 (kI 1),im 10 24]))))))))
 (sr [im 25 4,im 26 5,ia 2 25,ia 3 26] .ret)))
def Ht:AFn:=⟨AjE,K9.erase,[.tmp 2,.tmp 3],1⟩
def OX(P:Pg)(x:(List Change))(K:(Int×Int)→Unit→Prop):Prop:=
 Ac (D:=(Int×Int)) (fun J1=>Au (D:=(Int×(Int×Int))) ((0:Int),((0:Int),(0:Int))) (fun d3 J4=>(((decide (d3.2.2<(x.length:Int)))=true→Ac (D:=(Int×Int)) (fun J5=>(0≤d3.2.2∧d3.2.2<(x.length:Int))∧
 (d3.2.2.toNat<x.length)∧
 Fn P AeG CI (Qa0 x d3.2.2.toNat ID).2.1 (fun(d7:Int) _=>Fn P AeG CI (Qa0 x d3.2.2.toNat ID).2.2.2 (fun(d9:Int) _=>J5 ((i64.wrap (d3.1+d7)),(i64.wrap (d3.2.1+d9)))))) (fun d6=>J4 (d6.1,(d6.2,(i64.wrap (d3.2.2+1))))))∧((decide (d3.2.2<(x.length:Int)))=false→J1 (d3.1,d3.2.1))))) (fun d2=>K d2 ())
theorem U4{P}(h:Has P Ht){x K}(hw:OX P x K):Fn P AjE Fq x K:=
 ZF K9 h hw
def Mq:Ax:=
 sr [ia 4 (kI 0),ia 5 (kI 0),ia 6 (kI 0)] (sr [im 12 0,im 13 1,oc 14 Ahj [12,13] Dk,im 11 14,oe 15 11 0,oe 16 11 1,ia 7 15,ia 8 16] (sq (sr [im 17 8,ob 18 .neq 17 (kI 0)] (cn 18 (sr [im 19 8,ia 4 (kI
 0),ia 5 (kI 0),ia 6 19] .ret) .skip)) (sr [im 21 7,oc 22 AjE [21] Fq,im 20 22,oe 23 20 0,oe 24 20 1,ia 9 23,ia 10 24] (sr [im 25 10,im 26 9,ia 4 25,ia 5 26,ia 6 (kI 0)] .ret))))
def Ie:AFn:=⟨AcF,Mq.erase,[.tmp 4,.tmp 5,.tmp 6],2⟩
def Qh(P:Pg)(x:(Bt8×Bt8))(K:(Int×(Int×Int))→Unit→Prop):Prop:=
 Fn P Ahj Dk x (fun(d1:((List Change)×Int)) _=>(((d1.2 !=0)=true→K ((0:Int),((0:Int),d1.2)) ())∧((d1.2 !=0)=false→Fn P AjE Fq d1.1 (fun(d3:(Int×Int)) _=>K (d3.2,(d3.1,(0:Int))) ()))))
theorem WC{P}(h:Has P Ie){x K}(hw:Qh P x K):Fn P AcF DE x K:=
 ZF Mq h hw
def KF:Ax:=
 sr [ia 2 (kI 0)] (sq (sr [im 3 0,o1 4 (.lenS 3),ob 5 .gtr 4 (kI 1048576),im 6 5,⟨⟨some 7,.mv 0,some (6,false)⟩,none,⟨[],[]⟩,false,some 6,true,false⟩,⟨⟨some 8,.call Aac [7],some
 (6,false)⟩,none,CQ,false,none,true,false⟩,⟨⟨some 9,.lenK 8,some (6,false)⟩,none,⟨[],[]⟩,false,none,true,false⟩,⟨⟨some 10,.bin .gtr 9 (kI 4096),some (6,false)⟩,none,⟨[],[]⟩,false,none,true,true⟩,op3 11 6 kT 10] (cn 11 (sr [ia 2
 (kI 1)] .ret) .skip)) (sr [ia 2 (kI 0)] .ret))
def Hc:AFn:=⟨AeH,KF.erase,[.tmp 2],1⟩
def OG(P:Pg)(x:Bt8)(K:Int→Unit→Prop):Prop:=
 (((decide ((x.length:Int)>1048576))=true→(((cond true true false)=true→K (1:Int) ())∧((cond true true false)=false→K (0:Int) ())))∧((decide ((x.length:Int)>1048576))=false→Fn P Aac CQ x (fun(d1:(List Bt8)) _=>(((cond false true (decide ((d1.length:Int)>4096)))=true→K (1:Int) ())∧((cond false true (decide ((d1.length:Int)>4096)))=false→K (0:Int) ())))))
theorem UM{P}(h:Has P Hc){x K}(hw:OG P x K):Fn P AeH DO x K:=
 ZF KF h hw
def KJ:Ax:=
 sr [o1 2 (.asg ni),ia 3 (kI 0)] (sq (sr [im 4 0,oc 5 AeH [4] DO,ob 6 .neq 5 (kI 0)] (cn 6 (sr [o1 2 (.asg ni),ia 3 (kI 1)] .ret) .skip)) (sr [im 7 0,oc 8 Aac [7]
 CQ,ia 2 8,ia 3 (kI 0)] .ret))
def He:AFn:=⟨AeI,KJ.erase,[.tmp 2,.tmp 3],1⟩
def OI(P:Pg)(x:Bt8)(K:((List Bt8)×Int)→Unit→Prop):Prop:=
 Fn P AeH DO x (fun(d1:Int) _=>(((d1 !=0)=true→K ([],(1:Int)) ())∧((d1 !=0)=false→Fn P Aac CQ x (fun(d3:(List Bt8)) _=>K (d3,(0:Int)) ()))))
theorem UO{P}(h:Has P He){x K}(hw:OI P x K):Fn P AeI DQ x K:=
 ZF KJ h hw
def KL:Ax:=
 sr [ia 4 (kI 0)] (sq (sr [ia 5 (kI 0)] (fj [] 4 15 [4] (bl 0 [4,5] (sq (sr [im 6 5,im 7 0,ol 8 7,ob 9 .lss 6 8] (cx 9 0)) (sq (fj [4] 12 7 [4] (bk 1 (sr [im 12 0,im 13 5,ox 14 1 12 13,ld 15 14,im 16 1,ob 17 .eql 15 16] (cn 17 (sr [im 18
 5,ia 4 18] .ret) .skip)))) (rn [im 10 5,ob 11 .add 10 (kI 1),ia 5 11])))))) (sr [ia 4 (kI (-1))] .ret))
def Hg:AFn:=⟨AcG,KL.erase,[.tmp 4],2⟩
def OK(P:Pg)(x:((List Bt8)×Bt8))(K:Int→Unit→Prop):Prop:=
 Ac (D:=Int) (fun J1=>Au (D:=(Int×Int)) ((0:Int),(0:Int)) (fun d3 J4=>(((decide (d3.2<(x.1.length:Int)))=true→Ac (D:=Int) (fun J5=>(0≤d3.2∧d3.2<(x.1.length:Int))∧
 (d3.2.toNat<x.1.length)∧
 ((((Qa0 x.1 d3.2.toNat [])==x.2)=true→K d3.2 ())∧(((Qa0 x.1 d3.2.toNat [])==x.2)=false→J5 d3.1))) (fun d6=>J4 (d6,(i64.wrap (d3.2+1)))))∧((decide (d3.2<(x.1.length:Int)))=false→J1 d3.1)))) (fun d2=>K (-1:Int) ())
theorem UQ{P}(h:Has P Hg){x K}(hw:OK P x K):Fn P AcG Dg x K:=
 ZF KL h hw
def KK:Ax:=
 sr [o1 2 (.asg ni)] (sr [o1 3 (.asg ni)] (sq (sr [ia 4 (kI 0)] (fk [] 3 38 (.join [.sl 3 false (.sl .str) tO] (bk 0 (.loop [.sl 3 false (.sl .str) tO,.si 4] (sq (sr [im 6 4,im 7 0,ol 8 7,ob 9 .lss 6 8] (cx 9 0)) (sq (fk [3,5] 12 29 (.join
 [.sl 3 false (.sl .str) tO] (bk 1 (sr [ia 5 (kI 0)] (fk [3,5] 12 29 (.join [.sl 3 false (.sl .str) tO] (bk 2 (.loop [.sl 3 false (.sl .str) tO,.si 5] (sq (sr [im 12 5,im 13 0,im 14 4,ox 15 1 13 14,ld 16 15,ol 17 16,ob 18 .lss 12 17] (cx 18
 2)) (sq (fk [3] 21 20 (.join [.sl 3 false (.sl .str) tO] (bk 3 (sr [im 21 3,im 22 0,im 23 4,ox 24 1 22 23,ld 25 24,im 26 5,ox 27 1 25 26,ld 28 27,oc 29 AcG [21,28] Dg,ob 30 .lss 29 (kI 0)] (fk [3] 31
 10 (.join [.sl 3 false (.sl .str) tO] (cn 30 (rn [im 31 3,im 32 0,im 33 4,ox 34 1 32 33,ld 35 34,im 36 5,ox 37 1 35 36,ld 38 37,oT ⟨some 39,.buildSl 1 [.string ⟨#[]⟩] 1 [(0,38)],none⟩ (some (.str,.leaf)),oT ⟨some 40,.app 1 16 31 39,none⟩
 (some (.str,.leaf)),ia 3 40]) .skip))))))) (rn [im 19 5,ob 20 .add 19 (kI 1),ia 5 20]))))))))))) (rn [im 10 4,ob 11 .add 10 (kI 1),ia 4 11])))))))) (sr [im 41 3,ia 2 41] .ret)))
def Hf:AFn:=⟨AjF,KK.erase,[.tmp 2],1⟩
def OJ(P:Pg)(x:(List (List Bt8)))(K:(List Bt8)→Unit→Prop):Prop:=
 Ac (D:=(List Bt8)) (fun J1=>Au (D:=((List Bt8)×Int)) ([],(0:Int)) (fun d3 J4=>(((decide (d3.2<(x.length:Int)))=true→Ac (D:=(List Bt8)) (fun J5=>Ac (D:=(List Bt8)) (fun J7=>Au (D:=((List Bt8)×Int)) (d3.1,(0:Int)) (fun d9 J10=>(0≤d3.2∧d3.2<(x.length:Int))∧
 (d3.2.toNat<x.length)∧
 (((decide (d9.2<((Qa1 (Qa0 x d3.2.toNat []):Nat):Int)))=true→Ac (D:=(List Bt8)) (fun J11=>(0≤d3.2∧d3.2<(x.length:Int))∧
 (d3.2.toNat<x.length)∧
 (0≤d9.2∧d9.2<((Qa1 (Qa0 x d3.2.toNat []):Nat):Int))∧
 (d9.2.toNat<Qa1 (Qa0 x d3.2.toNat []))∧
 Fn P AcG Dg (d9.1,(Qa0 (Qa0 x d3.2.toNat []) d9.2.toNat [])) (fun(d13:Int) _=>Ac (D:=(List Bt8)) (fun J15=>(((decide (d13<0))=true→(0≤d3.2∧d3.2<(x.length:Int))∧
 (d3.2.toNat<x.length)∧
 (0≤d9.2∧d9.2<((Qa1 (Qa0 x d3.2.toNat []):Nat):Int))∧
 (d9.2.toNat<Qa1 (Qa0 x d3.2.toNat []))∧
 ((d9.1.length+Qa1 ([(Qa0 (Qa0 x d3.2.toNat []) d9.2.toNat [])]:List Bt8))*16≤140737488355328)∧
 J15 (d9.1++([(Qa0 (Qa0 x d3.2.toNat []) d9.2.toNat [])]:List Bt8)))∧((decide (d13<0))=false→J15 d9.1))) (fun d16=>J11 d16))) (fun d12=>J10 (d12,(i64.wrap (d9.2+1)))))∧((decide (d9.2<((Qa1 (Qa0 x d3.2.toNat []):Nat):Int)))=false→J7 d9.1)))) (fun d8=>J5 d8)) (fun d6=>J4 (d6,(i64.wrap (d3.2+1)))))∧((decide (d3.2<(x.length:Int)))=false→J1 d3.1)))) (fun d2=>K d2 ())
theorem UP{P}(h:Has P Hf){x K}(hw:OJ P x K):Fn P AjF Fg x K:=
 ZF KK h hw
def NQ:Ax:=
 sr [o1 2 (.asg ni)] (sr [im 8 0,oc 9 AjF [8] Fg,ia 3 9] (sr [o1 4 (.asg ni)] (sq (sr [ia 5 (kI 0)] (fk [4,5,6,7] 10 32 (.join [.sl 4 false (.sl (.sl bI)) (.node .own tO)] (bk 0 (.loop [.sl 4 false
 (.sl (.sl bI)) (.node .own tO),.si 5] (sq (sr [im 10 5,im 11 0,ol 12 11,ob 13 .lss 10 12] (cx 13 0)) (sq (fk [4,6,7] 16 26 (.join [.sl 4 false (.sl (.sl bI)) (.node .own tO)] (bk 1 (sr [oT ⟨some 16,.buildSl 1 [.int .i64 0] 0 [],none⟩ (some
 (bI,.leaf)),ia 6 16] (sq (sr [ia 7 (kI 0)] (fk [6,7] 17 21 (.join [.sl 6 false (.sl bI) tO] (bk 2 (.loop [.sl 6 false (.sl bI) tO,.si 7] (sq (sr [im 17 7,im 18 0,im 19 5,ox 20 1 18 19,ld 21 20,ol 22 21,ob 23 .lss 17 22] (cx 23 2)) (sq (fk
 [6] 26 12 (.join [.sl 6 false (.sl bI) tO] (bk 3 (rn [im 26 6,im 27 3,im 28 0,im 29 5,ox 30 1 28 29,ld 31 30,im 32 7,ox 33 1 31 32,ld 34 33,oc 35 AcG [27,34] Dg,oT ⟨some 36,.buildSl 1 [.int .i64 0] 1
 [(0,35)],none⟩ (some (bI,.leaf)),oT ⟨some 37,.app 1 8 26 36,none⟩ (some (bI,.leaf)),ia 6 37])))) (rn [im 24 7,ob 25 .add 24 (kI 1),ia 7 25])))))))) (rn [im 38 4,im 39 6,oT ⟨some 40,.buildSl 1 [.slice none 0 0] 1 [(0,39)],none⟩ (some (.sl
 bI,tO)),oT ⟨some 41,.app 1 24 38 40,none⟩ (some (.sl bI,tO)),ia 4 41])))))) (rn [im 14 5,ob 15 .add 14 (kI 1),ia 5 15])))))))) (sr [im 42 4,ia 2 42] .ret))))
def JQ:AFn:=⟨AjG,NQ.erase,[.tmp 2],1⟩
def Sz(P:Pg)(x:(List (List Bt8)))(K:(List (List Int))→Unit→Prop):Prop:=
 Fn P AjF Fg x (fun(d1:(List Bt8)) _=>Ac (D:=(List (List Int))) (fun J3=>Au (D:=((List (List Int))×Int)) ([],(0:Int)) (fun d5 J6=>(((decide (d5.2<(x.length:Int)))=true→Ac (D:=(List (List Int))) (fun J7=>Ac (D:=(List Int)) (fun J9=>Au (D:=((List Int)×Int)) (([]:List Int),(0:Int)) (fun d11 J12=>(0≤d5.2∧d5.2<(x.length:Int))∧
 (d5.2.toNat<x.length)∧
 (((decide (d11.2<((Qa1 (Qa0 x d5.2.toNat []):Nat):Int)))=true→Ac (D:=(List Int)) (fun J13=>(0≤d5.2∧d5.2<(x.length:Int))∧
 (d5.2.toNat<x.length)∧
 (0≤d11.2∧d11.2<((Qa1 (Qa0 x d5.2.toNat []):Nat):Int))∧
 (d11.2.toNat<Qa1 (Qa0 x d5.2.toNat []))∧
 Fn P AcG Dg (d1,(Qa0 (Qa0 x d5.2.toNat []) d11.2.toNat [])) (fun(d15:Int) _=>((d11.1.length+Qa1 ([d15]:List Int))*8≤140737488355328)∧
 J13 (d11.1++([d15]:List Int)))) (fun d14=>J12 (d14,(i64.wrap (d11.2+1)))))∧((decide (d11.2<((Qa1 (Qa0 x d5.2.toNat []):Nat):Int)))=false→J9 d11.1)))) (fun d10=>((d5.1.length+Qa1 ([d10]:List (List Int)))*24≤140737488355328)∧
 J7 (d5.1++([d10]:List (List Int))))) (fun d8=>J6 (d8,(i64.wrap (d5.2+1)))))∧((decide (d5.2<(x.length:Int)))=false→J3 d5.1)))) (fun d4=>K d4 ()))
theorem Y7{P}(h:Has P JQ){x K}(hw:Sz P x K):Fn P AjG HK x K:=
 ZF NQ h hw
def KT:Ax:=
 sr [o1 4 (.asg ni)] (sr [im 8 0,ol 9 8,ob 10 .add 9 (kI 1),oT ⟨some 11,.mkSl 1 24 [.slice none 0 0] 10 10,none⟩ (some (.sl bI,tO)),ia 5 11] (sq (sr [im 12 0,ol 13 12,ia 6 13] (fk [5,6,7] 14 96 (.join [.sl 5 false (.sl (.sl bI)) (.node .own
 tO)] (bk 0 (.loop [.sl 5 false (.sl (.sl bI)) (.node .own tO),.si 6] (sq (sr [im 14 6,ob 15 .geq 14 (kI 0)] (cx 15 0)) (sq (fk [5,7] 18 92 (.join [.sl 5 false (.sl (.sl bI)) (.node .own tO)] (bk 1 (sr [im 18 5,im 19 6,im 20 1,ol 21 20,ob
 22 .add 21 (kI 1),oT ⟨some 23,.mkSl 1 8 [.int .i64 0] 22 22,none⟩ (some (bI,.leaf)),ox 24 1 18 19,o0 ⟨none,.store 1 24 23,none⟩] (sr [im 25 1,ol 26 25,ia 7 26] (fk [5,7] 27 83 (.join [.sl 5 false (.sl (.sl bI)) (.node .own tO)] (bk 2
 (.loop [.sl 5 false (.sl (.sl bI)) (.node .own tO),.si 7] (sq (sr [im 27 7,ob 28 .geq 27 (kI 0)] (cx 28 2)) (sq (fk [5] 31 79 (.join [.sl 5 false (.sl (.sl bI)) (.node .own tO)] (bk 3 (fk [5] 31 79 (.join [.sl 5 false (.sl (.sl bI)) (.node
 .own tO)] (bk 4 (sr [im 56 6,im 57 0,ol 58 57,ob 59 .eql 56 58,ia 55 59] (fk [5,31,32,33,34,35,36,37,38,39,40,41,42,43,44,45,46,47,48,49,50,51,52,53,54] 60 50 (.join [.sl 5 false (.sl (.sl bI)) (.node .own tO)] (cn 55 (rn [im 60 5,im 61
 6,ox 62 1 60 61,ld 63 62,im 64 7,im 65 1,ol 66 65,im 67 7,ob 68 .sub 66 67,ox 69 1 63 64,o0 ⟨none,.store 1 69 68,none⟩]) (sr [im 71 7,im 72 1,ol 73 72,ob 74 .eql 71 73,ia 70 74] (fk
 [5,31,32,33,34,35,36,37,38,39,40,41,42,43,44,45,46,47,48,49,50,51,52,53,54] 75 35 (.join [.sl 5 false (.sl (.sl bI)) (.node .own tO)] (cn 70 (rn [im 75 5,im 76 6,ox 77 1 75 76,ld 78 77,im 79 7,im 80 0,ol 81 80,im 82 6,ob 83 .sub 81 82,ox
 84 1 78 79,o0 ⟨none,.store 1 84 83,none⟩]) (sq (fk [] 85 10 (.join [.sl 85 false .bool .leaf] (.draw [ti (im 86 0) (ti (im 87 6) (ti (ox 88 1 86 87) (ti (ld 89 88) (ti (im 90 1) (ti (im 91 7) (ti (ox 92 1 90 91) (ti (ld 93 92) (ti (ob 94
 .eql 89 93) (.alt (ia 85 94) .done .stop)))))))))]))) (fk [5,31,32,33,34,35,36,37,38,39,40,41,42,43,44,45,46,47,48,49,50,51,52,53,54] 95 15 (.join [.sl 5 false (.sl (.sl bI)) (.node .own tO)] (cn 85 (fk [5] 95 15 (.join [.sl 5 false (.sl
 (.sl bI)) (.node .own tO)] (.draw [ti (im 95 5) (ti (im 96 6) (ti (ox 97 1 95 96) (ti (ld 98 97) (ti (im 99 7) (ti (im 100 5) (ti (im 101 6) (ti (ob 102 .add 101 (kI 1)) (ti (ox 103 1 100 102) (ti (ld 104 103) (ti (im 105 7) (ti (ob 106
 .add 105 (kI 1)) (ti (ox 107 1 104 106) (ti (ld 108 107) (ti (ox 109 1 98 99) (.alt (o0 ⟨none,.store 1 109 108,none⟩) .done .stop)))))))))))))))]))) (fk [5] 31 24 (.join [.sl 5 false (.sl (.sl bI)) (.node .own tO)] (.draw [ti (im 31 5) (ti
 (im 32 6) (ti (ox 33 1 31 32) (ti (ld 34 33) (ti (im 35 7) (ti (im 36 5) (ti (im 37 6) (ti (ob 38 .add 37 (kI 1)) (ti (ox 39 1 36 38) (ti (ld 40 39) (ti (im 41 7) (ti (ox 42 1 40 41) (ti (ld 43 42) (ti (im 44 5) (ti (im 45 6) (ti (ox 46 1
 44 45) (ti (ld 47 46) (ti (im 48 7) (ti (ob 49 .add 48 (kI 1)) (ti (ox 50 1 47 49) (ti (ld 51 50) (ti (o1 52 (.mm false 43 51)) (ti (ob 53 .add (kI 1) 52) (ti (ox 54 1 34 35) (.alt (o0 ⟨none,.store 1 54 53,none⟩) .done
 .stop))))))))))))))))))))))))]))))))))))))))))))))) (rn [im 29 7,ob 30 .sub 29 (kI 1),ia 7 30])))))))))))) (rn [im 16 6,ob 17 .sub 16 (kI 1),ia 6 17])))))))) (sr [im 110 5,ia 4 110] .ret)))
def Hj:AFn:=⟨AjH,KT.erase,[.tmp 4],2⟩
def ON(P:Pg)(x:((List Int)×(List Int)))(K:(List (List Int))→Unit→Prop):Prop:=
 (0≤(i64.wrap ((x.1.length:Int)+1))∧(i64.wrap ((x.1.length:Int)+1))≤(i64.wrap ((x.1.length:Int)+1))∧((24:Nat):Int)*(i64.wrap ((x.1.length:Int)+1))≤281474976710656)∧
 Ac (D:=(List (List Int))) (fun J1=>Au (D:=((List (List Int))×Int)) ((List.replicate (Qa2 (i64.wrap ((x.1.length:Int)+1))) []),(x.1.length:Int)) (fun d3 J4=>(((decide (d3.2≥0))=true→Ac (D:=(List (List Int))) (fun J5=>(0≤(i64.wrap ((x.2.length:Int)+1))∧(i64.wrap ((x.2.length:Int)+1))≤(i64.wrap ((x.2.length:Int)+1))∧((8:Nat):Int)*(i64.wrap ((x.2.length:Int)+1))≤281474976710656)∧
 (0≤d3.2∧d3.2<(d3.1.length:Int))∧
 (d3.2.toNat<d3.1.length)∧
 Ac (D:=(List (List Int))) (fun J7=>Au (D:=((List (List Int))×Int)) ((Qa3 d3.1 d3.2.toNat (List.replicate (Qa2 (i64.wrap ((x.2.length:Int)+1))) (0:Int))),(x.2.length:Int)) (fun d9 J10=>(((decide (d9.2≥0))=true→Ac (D:=(List (List Int))) (fun J11=>Ac (D:=(List (List Int))) (fun J13=>Ac (D:=(List (List Int))) (fun J15=>(((d3.2==(x.1.length:Int))=true→(0≤d3.2∧d3.2<(d9.1.length:Int))∧
 (d3.2.toNat<d9.1.length)∧
 (d3.2.toNat<d9.1.length)∧
 (0≤d9.2∧d9.2<((Qa1 (Qa0 d9.1 d3.2.toNat []):Nat):Int))∧
 (d3.2.toNat<d9.1.length)∧
 (d9.2.toNat<Qa1 (Qa0 d9.1 d3.2.toNat []))∧
 J15 (Qa3 d9.1 d3.2.toNat (Qa3 (Qa0 d9.1 d3.2.toNat []) d9.2.toNat (i64.wrap ((x.2.length:Int) -d9.2)))))∧((d3.2==(x.1.length:Int))=false→Ac (D:=(List (List Int))) (fun J17=>(((d9.2==(x.2.length:Int))=true→(0≤d3.2∧d3.2<(d9.1.length:Int))∧
 (d3.2.toNat<d9.1.length)∧
 (d3.2.toNat<d9.1.length)∧
 (0≤d9.2∧d9.2<((Qa1 (Qa0 d9.1 d3.2.toNat []):Nat):Int))∧
 (d3.2.toNat<d9.1.length)∧
 (d9.2.toNat<Qa1 (Qa0 d9.1 d3.2.toNat []))∧
 J17 (Qa3 d9.1 d3.2.toNat (Qa3 (Qa0 d9.1 d3.2.toNat []) d9.2.toNat (i64.wrap ((x.1.length:Int) -d3.2)))))∧((d9.2==(x.2.length:Int))=false→Ac (D:=Bool) (fun J19=>(0≤d3.2∧d3.2<(x.1.length:Int))∧
 (d3.2.toNat<x.1.length)∧
 (0≤d9.2∧d9.2<(x.2.length:Int))∧
 (d9.2.toNat<x.2.length)∧
 (J19 ((Qa0 x.1 d3.2.toNat (0:Int))==(Qa0 x.2 d9.2.toNat (0:Int))))∧True) (fun d20=>Ac (D:=(List (List Int))) (fun J21=>((d20=true→Ac (D:=(List (List Int))) (fun J23=>(0≤d3.2∧d3.2<(d9.1.length:Int))∧
 (d3.2.toNat<d9.1.length)∧
 (0≤(i64.wrap (d3.2+1))∧(i64.wrap (d3.2+1))<(d9.1.length:Int))∧
 ((Qa2 (i64.wrap (d3.2+1)))<d9.1.length)∧
 ((Qa2 (i64.wrap (d3.2+1)))<d9.1.length)∧
 (0≤(i64.wrap (d9.2+1))∧(i64.wrap (d9.2+1))<((Qa1 (Qa0 d9.1 (Qa2 (i64.wrap (d3.2+1))) []):Nat):Int))∧
 ((Qa2 (i64.wrap (d3.2+1)))<d9.1.length)∧
 ((Qa2 (i64.wrap (d9.2+1)))<Qa1 (Qa0 d9.1 (Qa2 (i64.wrap (d3.2+1))) []))∧
 (d3.2.toNat<d9.1.length)∧
 (0≤d9.2∧d9.2<((Qa1 (Qa0 d9.1 d3.2.toNat []):Nat):Int))∧
 ((d3.2.toNat<d9.1.length)∧
 (d9.2.toNat<Qa1 (Qa0 d9.1 d3.2.toNat []))∧
 J23 (Qa3 d9.1 d3.2.toNat (Qa3 (Qa0 d9.1 d3.2.toNat []) d9.2.toNat (Qa0 (Qa0 d9.1 (Qa2 (i64.wrap (d3.2+1))) []) (Qa2 (i64.wrap (d9.2+1))) (0:Int)))))∧True) (fun d24=>J21 d24))∧(d20=false→Ac (D:=(List (List Int))) (fun J25=>(0≤d3.2∧d3.2<(d9.1.length:Int))∧
 (d3.2.toNat<d9.1.length)∧
 (0≤(i64.wrap (d3.2+1))∧(i64.wrap (d3.2+1))<(d9.1.length:Int))∧
 ((Qa2 (i64.wrap (d3.2+1)))<d9.1.length)∧
 ((Qa2 (i64.wrap (d3.2+1)))<d9.1.length)∧
 (0≤d9.2∧d9.2<((Qa1 (Qa0 d9.1 (Qa2 (i64.wrap (d3.2+1))) []):Nat):Int))∧
 ((Qa2 (i64.wrap (d3.2+1)))<d9.1.length)∧
 (d9.2.toNat<Qa1 (Qa0 d9.1 (Qa2 (i64.wrap (d3.2+1))) []))∧
 (0≤d3.2∧d3.2<(d9.1.length:Int))∧
 (d3.2.toNat<d9.1.length)∧
 (d3.2.toNat<d9.1.length)∧
 (0≤(i64.wrap (d9.2+1))∧(i64.wrap (d9.2+1))<((Qa1 (Qa0 d9.1 d3.2.toNat []):Nat):Int))∧
 (d3.2.toNat<d9.1.length)∧
 ((Qa2 (i64.wrap (d9.2+1)))<Qa1 (Qa0 d9.1 d3.2.toNat []))∧
 (d3.2.toNat<d9.1.length)∧
 (0≤d9.2∧d9.2<((Qa1 (Qa0 d9.1 d3.2.toNat []):Nat):Int))∧
 ((d3.2.toNat<d9.1.length)∧
 (d9.2.toNat<Qa1 (Qa0 d9.1 d3.2.toNat []))∧
 J25 (Qa3 d9.1 d3.2.toNat (Qa3 (Qa0 d9.1 d3.2.toNat []) d9.2.toNat (i64.wrap ((1:Int)+(if(Qa0 (Qa0 d9.1 d3.2.toNat []) (Qa2 (i64.wrap (d9.2+1))) (0:Int))<(Qa0 (Qa0 d9.1 (Qa2 (i64.wrap (d3.2+1))) []) d9.2.toNat (0:Int))then(Qa0 (Qa0 d9.1 d3.2.toNat []) (Qa2 (i64.wrap (d9.2+1))) (0:Int))else(Qa0 (Qa0 d9.1 (Qa2 (i64.wrap (d3.2+1))) []) d9.2.toNat (0:Int))))))))∧True) (fun d26=>J21 d26)))) (fun d22=>J17 d22))))) (fun d18=>J15 d18)))) (fun d16=>J13 d16)) (fun d14=>J11 d14)) (fun d12=>J10 (d12,(i64.wrap (d9.2 -1)))))∧((decide (d9.2≥0))=false→J7 d9.1)))) (fun d8=>J5 d8)) (fun d6=>J4 (d6,(i64.wrap (d3.2 -1)))))∧((decide (d3.2≥0))=false→J1 d3.1)))) (fun d2=>K d2 ())
theorem UT{P}(h:Has P Hj){x K}(hw:ON P x K):Fn P AjH Fj x K:=
 ZF KT h hw
def Ml:Ax:=
 sr [o1 6 (.asg ni)] (sr [o1 7 (.asg ni)] (sr [ia 8 (kI 0),ia 9 (kI 0)] (sq (sr [ia 10 (kI 0)] (.frame (rg [] 7 52) [1011] false (.join [.sl 7 false (.sl Cp) tO] (bk 0 (.loop [.sl 7 false (.sl Cp) tO,.si 8,.si 9,.si 10] (sq (sr [im
 12 10,im 13 0,ol 14 13,ob 15 .leq 12 14] (cx 15 0)) (sq (.frame (rg [7,8,9,11] 18 41) [1011] false (.join [.sl 7 false (.sl Cp) tO,.si 8,.si 9] (bk 1 (sr [im 18 1,im 19 2,o1 20 (.build [.int .i64 0,.int .i64 0] [(0,1,18),(1,1,19)]),o1
 11 (.alloc [.int .i64 0,.int .i64 0]),o0 ⟨none,.store 2 11 20,none⟩] (sq (sr [im 21 10,im 22 0,ol 23 22,ob 24 .lss 21 23] (.frame (rg [] 25 4) [1011] false (.join [.bx 1011 (.pair bI bI) .leaf] (cn 24 (rn [im 25 0,im 26 10,ox 27 2 25 26,o1
 28 (.load true 2 27),o0 ⟨none,.store 2 11 28,none⟩]) .skip)))) (sq (sr [fa 29 0 11,ld 30 29,im 31 8,ob 32 .gtr 30 31,im 33 32,gf 34 33 (.fAddr 1 11),gf 35 33 (.load false 1 34),gf 36 33 (.mv 9),gf 37 33 (.bin .gtr 35 36),op3 38 33 kT 37]
 (fk [7] 39 14 (.join [.sl 7 false (.sl Cp) tO] (cn 38 (rn [im 39 7,im 40 8,fa 41 0 11,ld 42 41,im 43 8,ob 44 .sub 42 43,im 45 9,fa 46 1 11,ld 47 46,im 48 9,ob 49 .sub 47 48,o1 50 (.build [.int .i64 0,.int .i64 0,.int .i64 0,.int .i64
 0] [(0,1,40),(1,1,44),(2,1,45),(3,1,49)]),oT ⟨some 51,.buildSl 4 [.int .i64 0,.int .i64 0,.int .i64 0,.int .i64 0] 1 [(0,50)],none⟩ (some (Cp,.leaf)),oT ⟨some 52,.app 4 32 39 51,none⟩ (some (Cp,.leaf)),ia 7 52]) .skip)))) (fj
 [8,9] 53 6 [8,9] (.draw [ti (fa 53 0 11) (ti (ld 54 53) (ti (ob 55 .add 54 (kI 1)) (ti (fa 56 1 11) (.alt (ld 57 56) (ti (ob 58 .add 57 (kI 1)) (.alt (ia 8 55) (.alt (ia 9 58) .done .stop) .stop)) (.alt (ia 8 55) (ti (ld 57 56) (ti (ob 58
 .add 57 (kI 1)) (.alt (ia 9 58) .done .stop))) .stop)))))])))))))) (rn [im 16 10,ob 17 .add 16 (kI 1),ia 10 17])))))))) (sr [im 59 7,ia 6 59] .ret))))
def H8:AFn:=⟨AjI,Ml.erase,[.tmp 6],3⟩
def Qc(P:Pg)(x:((List (Int×Int))×(Int×Int)))(K:(List Change)→Unit→Prop):Prop:=
 Ac (D:=(List Change)) (fun J1=>Au (D:=((List Change)×(Int×(Int×Int)))) ([],((0:Int),((0:Int),(0:Int)))) (fun d3 J4=>(((decide (d3.2.2.2≤(x.1.length:Int)))=true→Ac (D:=((List Change)×(Int×Int))) (fun J5=>Ac (D:=(Int×Int)) (fun J7=>(((decide (d3.2.2.2<(x.1.length:Int)))=true→(0≤d3.2.2.2∧d3.2.2.2<(x.1.length:Int))∧
 (d3.2.2.2.toNat<x.1.length)∧
 J7 (Qa0 x.1 d3.2.2.2.toNat ((0:Int),(0:Int))))∧((decide (d3.2.2.2<(x.1.length:Int)))=false→J7 x.2))) (fun d8=>Ac (D:=(List Change)) (fun J9=>(((cond (decide (d8.1>d3.2.1)) true (decide (d8.2>d3.2.2.1)))=true→((d3.1.length+Qa1 ([(d3.2.1,((i64.wrap (d8.1 -d3.2.1)),(d3.2.2.1,(i64.wrap (d8.2 -d3.2.2.1)))))]:List Change))*32≤140737488355328)∧
 J9 (d3.1++([(d3.2.1,((i64.wrap (d8.1 -d3.2.1)),(d3.2.2.1,(i64.wrap (d8.2 -d3.2.2.1)))))]:List Change)))∧((cond (decide (d8.1>d3.2.1)) true (decide (d8.2>d3.2.2.1)))=false→J9 d3.1))) (fun d10=>Ac (D:=(Int×Int)) (fun J11=>(((J11 ((i64.wrap (d8.1+1)),(i64.wrap (d8.2+1))))∧True)∧True)∧(((J11 ((i64.wrap (d8.1+1)),(i64.wrap (d8.2+1))))∧True)∧True)) (fun d12=>J5 (d10,d12))))) (fun d6=>J4 (d6.1,(d6.2.1,(d6.2.2,(i64.wrap (d3.2.2.2+1)))))))∧((decide (d3.2.2.2≤(x.1.length:Int)))=false→J1 d3.1)))) (fun d2=>K d2 ())
theorem Ww{P}(h:Has P H8){x K}(hw:Qc P x K):Fn P AjI Gf x K:=
 ZF Ml h hw
def Mn:Ax:=
 sr [o1 4 (.asg ni)] (sr [im 9 0,im 10 1,⟨⟨some 11,.call AjH [9,10],none⟩,none,Fj,true,none,false,false⟩,ia 5 11] (sr [o1 6 (.asg ni)] (sr [ia 7 (kI 0),ia 8 (kI 0)] (sq (fk [6,7,8] 12 70 (.join [.sl 6
 false (.sl (.pair bI bI)) tO] (bk 0 (.loop [.sl 6 false (.sl (.pair bI bI)) tO,.si 7,.si 8] (sq (sr [im 12 7,im 13 0,ol 14 13,ob 15 .lss 12 14,im 16 15,gf 17 16 (.mv 8),gf 18 16 (.mv 1),gf 19 16 (.lenK 18),gf 20 16 (.bin .lss 17 19),op3 21
 16 kT 20] (cx 21 0)) (fk [6,7,8] 22 60 (.join [.sl 6 false (.sl (.pair bI bI)) tO,.si 7,.si 8] (bk 1 (fk [6,7,8] 22 60 (.join [.sl 6 false (.sl (.pair bI bI)) tO,.si 7,.si 8] (bk 2 (sq (fk [] 24 22 (.join [.sl 24 false .bool .leaf] (.draw
 [ti (im 25 7) (ti (im 26 0) (ti (ol 27 26) (ti (ob 28 .lss 25 27) (ti (im 29 28) (ti (gt 30 29 (.mv 8)) (ti (gt 31 29 (.mv 1)) (ti (gt 32 29 (.lenK 31)) (ti (gt 33 29 (.bin .lss 30 32)) (ti (op3 34 29 33 kF) (ti (im 35 34) (ti (gt 36 35
 (.mv 0)) (ti (gt 37 35 (.mv 7)) (ti (gt 38 35 (.ixA 1 36 37)) (ti (gt 39 35 (.load false 1 38)) (ti (gt 40 35 (.mv 1)) (ti (gt 41 35 (.mv 8)) (ti (gt 42 35 (.ixA 1 40 41)) (ti (gt 43 35 (.load false 1 42)) (ti (gt 44 35 (.bin .eql 39 43))
 (ti (op3 45 35 44 kF) (.alt (ia 24 45) .done .stop)))))))))))))))))))))]))) (fk [6,7,8,22,23] 46 36 (.join [.sl 6 false (.sl (.pair bI bI)) tO,.si 7,.si 8] (cn 24 (sr [im 46 6,im 47 7,im 48 8,o1 49 (.build [.int .i64 0,.int .i64 0]
 [(0,1,47),(1,1,48)]),oT ⟨some 50,.buildSl 2 [.int .i64 0,.int .i64 0] 1 [(0,49)],none⟩ (some (.pair bI bI,.leaf)),oT ⟨some 51,.app 2 16 46 50,none⟩ (some (.pair bI bI,.leaf)),ia 6 51] (rn [im 52 7,ob 53 .add 52 (kI 1),im 54 8,ob 55 .add 54
 (kI 1),ia 7 53,ia 8 55])) (sq (fk [] 56 24 (.join [.sl 56 false .bool .leaf] (.draw [ti (im 57 7) (ti (im 58 0) (ti (ol 59 58) (ti (ob 60 .lss 57 59) (ti (im 61 60) (ti (gt 62 61 (.mv 5)) (ti (gt 63 61 (.mv 7)) (ti (gt 64 61 (.bin .add 63
 (kI 1))) (ti (gt 65 61 (.ixA 1 62 64)) (ti (gt 66 61 (.load false 1 65)) (ti (gt 67 61 (.mv 8)) (ti (gt 68 61 (.ixA 1 66 67)) (ti (gt 69 61 (.load false 1 68)) (ti (gt 70 61 (.bin .add 69 (kI 1))) (ti (gt 71 61 (.mv 5)) (ti (gt 72 61 (.mv
 7)) (ti (gt 73 61 (.ixA 1 71 72)) (ti (gt 74 61 (.load false 1 73)) (ti (gt 75 61 (.mv 8)) (ti (gt 76 61 (.ixA 1 74 75)) (ti (gt 77 61 (.load false 1 76)) (ti (gt 78 61 (.bin .eql 70 77)) (ti (op3 79 61 78 kF) (.alt (ia 56 79) .done
 .stop)))))))))))))))))))))))]))) (.frame [7,8,22,23,80,81] [] false (.join [.si 7,.si 8] (cn 56 (rn [im 80 7,ob 81 .add 80 (kI 1),ia 7 81]) (rn [im 22 8,ob 23 .add 22 (kI 1),ia 8 23])))))))))))))))))))) (sr [im 82 6,im 83 0,ol 84 83,im 85
 1,ol 86 85,oc 87 AjI [82,84,86] Gf,ia 4 87] .ret)))))
def Ia:AFn:=⟨AjJ,Mn.erase,[.tmp 4],2⟩
def Qe(P:Pg)(x:((List Int)×(List Int)))(K:(List Change)→Unit→Prop):Prop:=
 Fn P AjH Fj x (fun(d1:(List (List Int))) _=>Ac (D:=(List (Int×Int))) (fun J3=>Au (D:=((List (Int×Int))×(Int×Int))) ([],((0:Int),(0:Int))) (fun d5 J6=>(((cond (decide (d5.2.1<(x.1.length:Int))) true (decide (d5.2.2<(x.2.length:Int))))=true→Ac (D:=((List (Int×Int))×(Int×Int))) (fun J7=>Ac (D:=((List (Int×Int))×(Int×Int))) (fun J9=>Ac (D:=Bool) (fun J11=>(((cond (decide (d5.2.1<(x.1.length:Int))) (decide (d5.2.2<(x.2.length:Int))) false)=true→0≤d5.2.1∧d5.2.1<(x.1.length:Int)))∧
 (((cond (decide (d5.2.1<(x.1.length:Int))) (decide (d5.2.2<(x.2.length:Int))) false)=true→d5.2.1.toNat<x.1.length))∧
 (((cond (decide (d5.2.1<(x.1.length:Int))) (decide (d5.2.2<(x.2.length:Int))) false)=true→0≤d5.2.2∧d5.2.2<(x.2.length:Int)))∧
 (((cond (decide (d5.2.1<(x.1.length:Int))) (decide (d5.2.2<(x.2.length:Int))) false)=true→d5.2.2.toNat<x.2.length))∧
 (J11 (cond (cond (decide (d5.2.1<(x.1.length:Int))) (decide (d5.2.2<(x.2.length:Int))) false) ((Qa0 x.1 d5.2.1.toNat (0:Int))==(Qa0 x.2 d5.2.2.toNat (0:Int))) false))∧True) (fun d12=>Ac (D:=((List (Int×Int))×(Int×Int))) (fun J13=>((d12=true→((d5.1.length+Qa1 ([d5.2]:List (Int×Int)))*16≤140737488355328)∧
 J13 ((d5.1++([d5.2]:List (Int×Int))),((i64.wrap (d5.2.1+1)),(i64.wrap (d5.2.2+1)))))∧(d12=false→Ac (D:=Bool) (fun J15=>(((decide (d5.2.1<(x.1.length:Int)))=true→0≤(i64.wrap (d5.2.1+1))∧(i64.wrap (d5.2.1+1))<(d1.length:Int)))∧
 (((decide (d5.2.1<(x.1.length:Int)))=true→(Qa2 (i64.wrap (d5.2.1+1)))<d1.length))∧
 (((decide (d5.2.1<(x.1.length:Int)))=true→0≤d5.2.2∧d5.2.2<((Qa1 (Qa0 d1 (Qa2 (i64.wrap (d5.2.1+1))) []):Nat):Int)))∧
 (((decide (d5.2.1<(x.1.length:Int)))=true→d5.2.2.toNat<Qa1 (Qa0 d1 (Qa2 (i64.wrap (d5.2.1+1))) [])))∧
 (((decide (d5.2.1<(x.1.length:Int)))=true→0≤d5.2.1∧d5.2.1<(d1.length:Int)))∧
 (((decide (d5.2.1<(x.1.length:Int)))=true→d5.2.1.toNat<d1.length))∧
 (((decide (d5.2.1<(x.1.length:Int)))=true→0≤d5.2.2∧d5.2.2<((Qa1 (Qa0 d1 d5.2.1.toNat []):Nat):Int)))∧
 (((decide (d5.2.1<(x.1.length:Int)))=true→d5.2.2.toNat<Qa1 (Qa0 d1 d5.2.1.toNat [])))∧
 (J15 (cond (decide (d5.2.1<(x.1.length:Int))) ((i64.wrap ((Qa0 (Qa0 d1 (Qa2 (i64.wrap (d5.2.1+1))) []) d5.2.2.toNat (0:Int))+1))==(Qa0 (Qa0 d1 d5.2.1.toNat []) d5.2.2.toNat (0:Int))) false))∧True) (fun d16=>Ac (D:=(Int×Int)) (fun J17=>((d16=true→J17 ((i64.wrap (d5.2.1+1)),d5.2.2))∧(d16=false→J17 (d5.2.1,(i64.wrap (d5.2.2+1)))))) (fun d18=>J13 (d5.1,d18)))))) (fun d14=>J9 d14))) (fun d10=>J7 d10)) (fun d8=>J6 d8))∧((cond (decide (d5.2.1<(x.1.length:Int))) true (decide (d5.2.2<(x.2.length:Int))))=false→J3 d5.1)))) (fun d4=>Fn P AjI Gf (d4,((x.1.length:Int),(x.2.length:Int))) (fun(d19:(List Change)) _=>K d19 ())))
theorem Wy{P}(h:Has P Ia){x K}(hw:Qe P x K):Fn P AjJ Gh x K:=
 ZF Mn h hw
end Go.VS
