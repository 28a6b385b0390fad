/- Functions of the program: typed code, and what it says, lifted. -/
import Derived.Test.YtopngokkgogolaaGreatDoorKTxSig
import Derived.KernelRfl
set_option linter.unusedVariables false
set_option linter.unusedSimpArgs false
set_option maxRecDepth 8000
open List renaming getD → Qa0, length → Qa1
open Int renaming toNat → Qa2, tmod → Qa3
open BitVec renaming ofInt → Qa4, toNat → Qa5
namespace Go.VS
open IntKind
def TU:Ar:=
 sr [ia 4 (kI 0)] (sr [im 5 0,o1 6 (.conv (.toInt .u64) 5),im 7 1,o1 8 (.conv (.toInt .u64) 7),ob 9 .rem 6 8,o1 10 (.conv (.toInt .i64) 9),ia 4 10] .ret)
def Pj:AFn:=⟨zS2,TU.erase,[.tmp 4],2⟩
def Ye(P:Pg)(x:(Int×Int))(K:Int→Unit→Prop):Prop:=
 ((u64.wrap x.2)≠0)∧
 K (i64.wrap (Qa3 (u64.wrap x.1) (u64.wrap x.2))) ()
theorem Adz{P}(h:Has P Pj){x K}(hw:Ye P x K):Fn P zS2 Cy x K:=
 zF TU h hw
def Xn:Ar:=
 sr [ia 4 (kI 0)] (sr [im 6 1,ob 7 .add 6 (kI 1),o1 8 (.conv (.toInt .u64) 7),ob 9 .mul 8 (.c (.int .u64 11400714819323198485)),ia 5 9] (sq (sr [im 10 0,ol 11 10,ob 12 .gtr 11 (kI 0)] (fk [5] 13 10 (.join [.sl 5 false (.int .u64) .leaf] (cn
 12 (rn [im 13 5,im 14 0,im 15 1,im 16 0,ol 17 16,ob 18 .rem 15 17,ox 19 1 14 18,ld 20 19,o1 21 (.conv (.toInt .u64) 20),ob 22 .xor 13 21,ia 5 22]) .skip)))) (sr [im 23 5,im 24 5,ob 25 .shr 24 (.c (.int .u64 31)),ob 26 .xor 23 25,ob 27 .mul
 26 (.c (.int .u64 13787848793156543929)),ia 5 27] (sr [im 28 5,im 29 5,ob 30 .shr 29 (.c (.int .u64 29)),ob 31 .xor 28 30,ob 32 .shr 31 (.c (.int .u64 1)),o1 33 (.conv (.toInt .i64) 32),ia 4 33] .ret))))
def Q6:AFn:=⟨zS1,Xn.erase,[.tmp 4],2⟩
def Aaq(P:Pg)(x:((List Int)×Int))(K:Int→Unit→Prop):Prop:=
 Ah (D:=Int) (fun J1=>(((decide ((x.1.length:Int)>0))=true→((x.1.length:Int)≠0)∧
 (0≤(Qa3 x.2 (x.1.length:Int))∧(Qa3 x.2 (x.1.length:Int))<(x.1.length:Int))∧
 ((Qa2 (Qa3 x.2 (x.1.length:Int)))<x.1.length)∧
 J1 (u64.wrap ((Qa5 (Qa4 u64.bits (u64.wrap ((u64.wrap (i64.wrap (x.2+1)))*11400714819323198485))^^^Qa4 u64.bits (u64.wrap (Qa0 x.1 (Qa2 (Qa3 x.2 (x.1.length:Int))) (0:Int)))):Nat):Int)))∧((decide ((x.1.length:Int)>0))=false→J1 (u64.wrap ((u64.wrap (i64.wrap (x.2+1)))*11400714819323198485))))) (fun d2=>(0≤(31:Int))∧
 (0≤(29:Int))∧
 (0≤(1:Int))∧
 K (i64.wrap (Int.fdiv (u64.wrap ((Qa5 (Qa4 u64.bits (u64.wrap ((u64.wrap ((Qa5 (Qa4 u64.bits d2^^^Qa4 u64.bits (Int.fdiv d2 (2^(min (Qa2 (31:Int)) u64.bits)))):Nat):Int))*13787848793156543929))^^^Qa4 u64.bits (Int.fdiv (u64.wrap ((u64.wrap ((Qa5 (Qa4 u64.bits d2^^^Qa4 u64.bits (Int.fdiv d2 (2^(min (Qa2 (31:Int)) u64.bits)))):Nat):Int))*13787848793156543929)) (2^(min (Qa2 (29:Int)) u64.bits)))):Nat):Int)) (2^(min (Qa2 (1:Int)) u64.bits)))) ())
theorem Af9{P}(h:Has P Q6){x K}(hw:Aaq P x K):Fn P zS1 BD x K:=
 zF Xn h hw
def QU:Ar:=
 sr [o1 2 (.asg (.c (.string ⟨#[]⟩)))] (sr [oT ⟨some 3,.buildSl 1 [.string ⟨#[]⟩] 10 [(0,.c (.string ⟨#[97]⟩)),(1,.c (.string ⟨#[98]⟩)),(2,.c (.string ⟨#[99]⟩)),(3,.c (.string ⟨#[97,98]⟩)),(4,.c (.string ⟨#[98,97]⟩)),(5,.c (.string
 ⟨#[]⟩)),(6,.c (.string ⟨#[97,97]⟩)),(7,.c (.string ⟨#[98,32,97]⟩)),(8,.c (.string ⟨#[120,43,121]⟩)),(9,.c (.string ⟨#[92]⟩))],none⟩ (some (.str,.leaf)),im 4 0,oc 5 zS2 [4,kI 10] Cy,ox 6 1 3 5,ld 7 6,ia 2 7]
 .ret)
def MZ:AFn:=⟨AeG,QU.erase,[.tmp 2],1⟩
abbrev OR:List (List UInt8):=([([97]:List UInt8),([98]:List UInt8),([99]:List UInt8),([97,98]:List UInt8),([98,97]:List UInt8),([]:List UInt8),([97,97]:List UInt8),([98,32,97]:List UInt8),([120,43,121]:List UInt8),([92]:List UInt8)]:List (List UInt8))
def Vz(P:Pg)(x:Int)(K:Bt8→Unit→Prop):Prop:=
 Fn P zS2 Cy (x,(10:Int)) (fun(d1:Int) _=>(0≤d1∧d1<((Qa1 OR:Nat):Int))∧
 (d1.toNat<Qa1 OR)∧
 K (Qa0 OR d1.toNat []) ())
theorem AaV{P}(h:Has P MZ){x K}(hw:Vz P x K):Fn P AeG G6 x K:=
 zF QU h hw
def QT:Ar:=
 sr [o1 8 (.asg (.c (.string ⟨#[]⟩)))] (sr [im 11 0,im 12 1,oc 13 zS1 [11,12] BD,im 14 2,ob 15 .add 14 (kI 1),oc 16 zS2 [13,15] Cy,ia 2 16] (sr [o1 9 (.asg (.c (.string ⟨#[]⟩)))]
 (sq (sr [ia 10 (kI 0)] (fk [9,10] 17 17 (.join [.sl 9 false .str .leaf] (bk 0 (.loop [.sl 9 false .str .leaf,.si 10] (sq (sr [im 17 10,im 18 2,ob 19 .lss 17 18] (cx 19 0)) (sq (fk [9] 22 12 (.join [.sl 9 false .str .leaf] (bk 1 (rn [im 22
 9,im 23 0,im 24 1,ob 25 .add 24 (kI 1),im 26 10,ob 27 .add 25 26,oc 28 zS1 [23,27] BD,im 29 3,oc 30 zS2 [28,29] Cy,oc 31 AeG [30] G6,ob 32 .add
 22 31,ob 33 .add 32 (.c (.string ⟨#[10]⟩)),ia 9 33])))) (rn [im 20 10,ob 21 .add 20 (kI 1),ia 10 21])))))))) (sq (sr [im 34 0,im 35 1,ob 36 .add 35 (kI 90),oc 37 zS1 [34,36] BD,ob 38 .rem 37 (kI 4),ob 39 .eql
 38 (kI 0),im 40 39,gt 41 40 (.mv 9),gt 42 40 (.lenS 41),gt 43 40 (.bin .gtr 42 (kI 1)),op3 44 40 43 kF,im 45 44,gt 46 45 (.mv 9),gt 47 45 (.mv 9),gt 48 45 (.lenS 47),gt 49 45 (.bin .sub 48 (kI 2)),gt 50 45 (.ixS 46 49),gt 51 45 (.bin .neq
 50 (.c (.int .u8 10))),op3 52 45 51 kF] (fk [9] 53 5 (.join [.sl 9 false .str .leaf] (cn 52 (rn [im 53 9,im 54 9,o1 55 (.lenS 54),ob 56 .sub 55 (kI 1),o1 57 (.slS 53 none (some 56)),ia 9 57]) .skip)))) (sr [im 58 9,ia 8 58] .ret)))))
def MY:AFn:=⟨zS9,QT.erase,[.tmp 8],4⟩
def Vy(P:Pg)(x:((List Int)×(Int×(Int×Int))))(K:Bt8→Unit→Prop):Prop:=
 Fn P zS1 BD (x.1,x.2.1) (fun(d1:Int) _=>Fn P zS2 Cy (d1,(i64.wrap (x.2.2.1+1))) (fun(d3:Int) _=>Ah (D:=Bt8) (fun J5=>A4 (D:=(Bt8×Int)) (([]:List UInt8),(0:Int)) (fun d7 J8=>(((decide (d7.2<d3))=true→Ah (D:=Bt8) (fun J9=>Fn P zS1 BD (x.1,(i64.wrap ((i64.wrap (x.2.1+1))+d7.2))) (fun(d11:Int) _=>Fn P zS2 Cy (d11,x.2.2.2) (fun(d13:Int) _=>Fn P AeG G6 d13 (fun(d15:Bt8) _=>(d7.1.length+d15.length≤9223372036854775807)∧
 (Qa1 (d7.1++d15)+Qa1 ([10]:List UInt8)≤9223372036854775807)∧
 J9 ((d7.1++d15)++([10]:List UInt8)))))) (fun d10=>J8 (d10,(i64.wrap (d7.2+1)))))∧((decide (d7.2<d3))=false→J5 d7.1)))) (fun d6=>Fn P zS1 BD (x.1,(i64.wrap (x.2.1+90))) (fun(d17:Int) _=>((4:Int)≠0)∧
 (((cond ((Qa3 d17 (4:Int))==0) (decide ((d6.length:Int)>1)) false)=true→0≤(i64.wrap ((d6.length:Int) -2))∧(i64.wrap ((d6.length:Int) -2))<(d6.length:Int)))∧
 Ah (D:=Bt8) (fun J19=>(((cond (cond ((Qa3 d17 (4:Int))==0) (decide ((d6.length:Int)>1)) false) (((UInt8.toNat (Qa0 d6 (Qa2 (i64.wrap ((d6.length:Int) -2))) 0):Nat):Int) !=10) false)=true→(0≤(i64.wrap ((d6.length:Int) -1))∧(i64.wrap ((d6.length:Int) -1))≤(d6.length:Int))∧
 J19 (List.take (Qa2 (i64.wrap ((d6.length:Int) -1))) d6))∧((cond (cond ((Qa3 d17 (4:Int))==0) (decide ((d6.length:Int)>1)) false) (((UInt8.toNat (Qa0 d6 (Qa2 (i64.wrap ((d6.length:Int) -2))) 0):Nat):Int) !=10) false)=false→J19 d6))) (fun d20=>K d20 ())))))
theorem AaU{P}(h:Has P MY){x K}(hw:Vy P x K):Fn P zS9 FF x K:=
 zF QT h hw
def O4:Ar:=
 sr [o1 6 (.asg ni)] (sr [oT ⟨some 10,.buildSl 1 [.string ⟨#[]⟩] 4 [(0,.c (.string ⟨#[97]⟩)),(1,.c (.string ⟨#[98,47,120]⟩)),(2,.c (.string ⟨#[98,47,121]⟩)),(3,.c (.string ⟨#[99,32,100]⟩))],none⟩ (some (.str,.leaf)),ia 7 10] (sr [o1 8 (.asg
 ni)] (sq (sr [ia 9 (kI 0)] (fk [8,9] 11 27 (.join [.sl 8 false (.sl (.pair .str .str)) tO] (bk 0 (.loop [.sl 8 false (.sl (.pair .str .str)) tO,.si 9] (sq (sr [im 11 9,ob 12 .lss 11 (kI 4)] (cx 12 0)) (sq (fk [8] 15 23 (.join [.sl 8 false
 (.sl (.pair .str .str)) tO] (bk 1 (sr [im 15 0,im 16 1,im 17 9,ob 18 .add 16 17,oc 19 zS1 [15,18] BD,ob 20 .rem 19 (kI 3),ob 21 .gtr 20 (kI 0)] (fk [8] 22 16 (.join [.sl 8 false (.sl (.pair .str .str)) tO] (cn
 21 (fk [8] 22 16 (.join [.sl 8 false (.sl (.pair .str .str)) tO] (.draw [ti (im 22 8) (ti (im 23 7) (ti (im 24 9) (ti (ox 25 1 23 24) (ti (im 27 0) (ti (im 28 1) (ti (ob 29 .add 28 (kI 10)) (ti (im 30 9) (ti (ob 31 .mul (kI 20) 30) (ti (ob
 32 .add 29 31) (ti (im 33 2) (.alt (ld 26 25) (.alt (oc 34 zS9 [27,32,33,kI 4] FF) (ti (o1 35 (.build [.string ⟨#[]⟩,.string ⟨#[]⟩] [(0,1,26),(1,1,34)])) (.alt (oT ⟨some 36,.buildSl 2 [.string
 ⟨#[]⟩,.string ⟨#[]⟩] 1 [(0,35)],none⟩ (some (.pair .str .str,.leaf))) (.alt (oT ⟨some 37,.app 2 32 22 36,none⟩ (some (.pair .str .str,.leaf))) (.alt (ia 8 37) .done .stop) .stop) .stop)) .stop) (.alt (oc 34 zS9
 [27,32,33,kI 4] FF) (ti (ld 26 25) (ti (o1 35 (.build [.string ⟨#[]⟩,.string ⟨#[]⟩] [(0,1,26),(1,1,34)])) (.alt (oT ⟨some 36,.buildSl 2 [.string ⟨#[]⟩,.string ⟨#[]⟩] 1 [(0,35)],none⟩ (some (.pair .str .str,.leaf))) (.alt (oT ⟨some
 37,.app 2 32 22 36,none⟩ (some (.pair .str .str,.leaf))) (.alt (ia 8 37) .done .stop) .stop) .stop))) .stop))))))))))))]))) .skip))))))) (rn [im 13 9,ob 14 .add 13 (kI 1),ia 9 14])))))))) (sr [im 38 8,ia 6 38] .ret))))
def Lj:AFn:=⟨AcC,O4.erase,[.tmp 6],3⟩
abbrev E0:List (List UInt8):=([([97]:List UInt8),([98,47,120]:List UInt8),([98,47,121]:List UInt8),([99,32,100]:List UInt8)]:List (List UInt8))
def Uc(P:Pg)(x:((List Int)×(Int×Int)))(K:(List (Bt8×Bt8))→Unit→Prop):Prop:=
 Ah (D:=(List (Bt8×Bt8))) (fun J1=>A4 (D:=((List (Bt8×Bt8))×Int)) ([],(0:Int)) (fun d3 J4=>(((decide (d3.2<4))=true→Ah (D:=(List (Bt8×Bt8))) (fun J5=>Fn P zS1 BD (x.1,(i64.wrap (x.2.1+d3.2))) (fun(d7:Int) _=>((3:Int)≠0)∧
 Ah (D:=(List (Bt8×Bt8))) (fun J9=>(((decide ((Qa3 d7 (3:Int))>0))=true→Ah (D:=(List (Bt8×Bt8))) (fun J11=>(0≤d3.2∧d3.2<((Qa1 E0:Nat):Int))∧
 ((d3.2.toNat<Qa1 E0)∧
 (Fn P zS9 FF (x.1,((i64.wrap ((i64.wrap (x.2.1+10))+(i64.wrap ((20:Int)*d3.2)))),(x.2.2,(4:Int)))) (fun(d13:Bt8) _=>((((d3.1.length+Qa1 ([((Qa0 E0 d3.2.toNat []),d13)]:List (Bt8×Bt8)))*32≤140737488355328)∧
 (J11 (d3.1++([((Qa0 E0 d3.2.toNat []),d13)]:List (Bt8×Bt8))))∧True)∧True)∧True))∧True)∧((Fn P zS9 FF (x.1,((i64.wrap ((i64.wrap (x.2.1+10))+(i64.wrap ((20:Int)*d3.2)))),(x.2.2,(4:Int)))) (fun(d15:Bt8) _=>(d3.2.toNat<Qa1 E0)∧
 ((((d3.1.length+Qa1 ([((Qa0 E0 d3.2.toNat []),d15)]:List (Bt8×Bt8)))*32≤140737488355328)∧
 (J11 (d3.1++([((Qa0 E0 d3.2.toNat []),d15)]:List (Bt8×Bt8))))∧True)∧True)∧True))∧True)) (fun d12=>J9 d12))∧((decide ((Qa3 d7 (3:Int))>0))=false→J9 d3.1))) (fun d10=>J5 d10))) (fun d6=>J4 (d6,(i64.wrap (d3.2+1)))))∧((decide (d3.2<4))=false→J1 d3.1)))) (fun d2=>K d2 ())
theorem Zs{P}(h:Has P Lj){x K}(hw:Uc P x K):Fn P AcC EJ x K:=
 zF O4 h hw
def Mg:Ar:=
 sr [o1 2 (.asg ni)] (sr [o1 3 (.asg ni)] (sr [ia 4 (kI 0)] (sq (sr [ia 5 (kI 0)] (fk [] 3 30 (.join [.sl 3 false (.sl .str) tO] (bk 0 (.loop [.sl 3 false (.sl .str) tO,.si 4,.si 5] (sq (sr [im 6 5,im 7 0,o1 8 (.lenS 7),ob 9 .lss 6 8] (cx 9
 0)) (sq (fk [3,4] 12 21 (.join [.sl 3 false (.sl .str) tO,.si 4] (bk 1 (sr [im 12 0,im 13 5,o1 14 (.ixS 12 13),ob 15 .eql 14 (.c (.int .u8 10)),im 16 15,gf 17 16 (.mv 5),gf 18 16 (.bin .add 17 (kI 1)),gf 19 16 (.mv 0),gf 20 16 (.lenS
 19),gf 21 16 (.bin .eql 18 20),op3 22 16 kT 21] (fk [3,4] 23 10 (.join [.sl 3 false (.sl .str) tO,.si 4] (cn 22 (sr [im 23 3,im 24 0,im 25 4,im 26 5,ob 27 .add 26 (kI 1),o1 28 (.slS 24 (some 25) (some 27)),oT ⟨some 29,.buildSl 1 [.string
 ⟨#[]⟩] 1 [(0,28)],none⟩ (some (.str,.leaf)),oT ⟨some 30,.app 1 16 23 29,none⟩ (some (.str,.leaf)),ia 3 30] (rn [im 31 5,ob 32 .add 31 (kI 1),ia 4 32])) .skip))))))) (rn [im 10 5,ob 11 .add 10 (kI 1),ia 5 11])))))))) (sr [im 33 3,ia 2 33]
 .ret))))
def IB:AFn:=⟨Ajo,Mg.erase,[.tmp 2],1⟩
def P0(P:Pg)(x:Bt8)(K:(List Bt8)→Unit→Prop):Prop:=
 Ah (D:=(List Bt8)) (fun J1=>A4 (D:=((List Bt8)×(Int×Int))) ([],((0:Int),(0:Int))) (fun d3 J4=>(((decide (d3.2.2<(x.length:Int)))=true→Ah (D:=((List Bt8)×Int)) (fun J5=>(0≤d3.2.2∧d3.2.2<(x.length:Int))∧
 Ah (D:=((List Bt8)×Int)) (fun J7=>(((cond (((x.getD d3.2.2.toNat 0).toNat:Int)==10) true ((i64.wrap (d3.2.2+1))==(x.length:Int)))=true→(0≤d3.2.1∧d3.2.1≤(i64.wrap (d3.2.2+1))∧(i64.wrap (d3.2.2+1))≤(x.length:Int))∧
 ((d3.1.length+Qa1 ([(List.drop d3.2.1.toNat (List.take (Qa2 (i64.wrap (d3.2.2+1))) x))]:List Bt8))*16≤140737488355328)∧
 J7 ((d3.1++([(List.drop d3.2.1.toNat (List.take (Qa2 (i64.wrap (d3.2.2+1))) x))]:List Bt8)),(i64.wrap (d3.2.2+1))))∧((cond (((x.getD d3.2.2.toNat 0).toNat:Int)==10) true ((i64.wrap (d3.2.2+1))==(x.length:Int)))=false→J7 (d3.1,d3.2.1)))) (fun d8=>J5 d8)) (fun d6=>J4 (d6.1,(d6.2,(i64.wrap (d3.2.2+1))))))∧((decide (d3.2.2<(x.length:Int)))=false→J1 d3.1)))) (fun d2=>K d2 ())
theorem VZ{P}(h:Has P IB){x K}(hw:P0 P x K):Fn P Ajo GD x K:=
 zF Mg h hw
def QV:Ar:=
 sr [o1 6 (.asg (.c (.string ⟨#[]⟩)))] (sr [im 10 0,oc 11 Ajo [10] GD,ia 7 11] (sr [o1 8 (.asg (.c (.string ⟨#[]⟩)))] (sq (sr [ia 9 (kI 0)] (fk [8,9] 12 32 (.join [.sl 8 false .str .leaf] (bk 0 (.loop
 [.sl 8 false .str .leaf,.si 9] (sq (sr [im 12 9,im 13 7,ol 14 13,ob 15 .lss 12 14] (cx 15 0)) (sq (fk [8] 18 26 (.join [.sl 8 false .str .leaf] (bk 1 (sq (sr [im 18 1,im 19 2,im 20 9,ob 21 .add 19 20,oc 22 zS1
 [18,21] BD,ob 23 .rem 22 (kI 6)] (fk [8] 24 14 (.join [.sl 8 false .str .leaf] (bk 2 (sr [ob 25 .eql 23 (kI 0),ia 24 25] (cn 24 (.exit 1) (sr [ob 27 .eql 23 (kI 1),ia 26 27] (fk [8] 28 10 (.join [.sl 8 false .str .leaf] (cn 26 (rn
 [im 28 8,im 29 1,im 30 2,ob 31 .add 30 (kI 40),im 32 9,ob 33 .add 31 32,oc 34 zS1 [29,33] BD,oc 35 AeG [34] G6,ob 36 .add 28 35,ob 37 .add 36 (.c (.string ⟨#[10]⟩)),ia 8 37])
 .skip)))))))))) (rn [im 38 8,im 39 7,im 40 9,ox 41 1 39 40,ld 42 41,ob 43 .add 38 42,ia 8 43]))))) (rn [im 16 9,ob 17 .add 16 (kI 1),ia 9 17])))))))) (sr [im 44 8,ia 6 44] .ret))))
def M0:AFn:=⟨Ajp,QV.erase,[.tmp 6],3⟩
def VA(P:Pg)(x:(Bt8×((List Int)×Int)))(K:Bt8→Unit→Prop):Prop:=
 Fn P Ajo GD x.1 (fun(d1:(List Bt8)) _=>Ah (D:=Bt8) (fun J3=>A4 (D:=(Bt8×Int)) (([]:List UInt8),(0:Int)) (fun d5 J6=>(((decide (d5.2<(d1.length:Int)))=true→Ah (D:=Bt8) (fun J7=>Fn P zS1 BD (x.2.1,(i64.wrap (x.2.2+d5.2))) (fun(d9:Int) _=>((6:Int)≠0)∧
 Ah (D:=Bt8) (fun J11=>((((Qa3 d9 (6:Int))==0)=true→J7 d5.1)∧(((Qa3 d9 (6:Int))==0)=false→Ah (D:=Bt8) (fun J13=>((((Qa3 d9 (6:Int))==1)=true→Fn P zS1 BD (x.2.1,(i64.wrap ((i64.wrap (x.2.2+40))+d5.2))) (fun(d15:Int) _=>Fn P AeG G6 d15 (fun(d17:Bt8) _=>(d5.1.length+d17.length≤9223372036854775807)∧
 (Qa1 (d5.1++d17)+Qa1 ([10]:List UInt8)≤9223372036854775807)∧
 J13 ((d5.1++d17)++([10]:List UInt8)))))∧(((Qa3 d9 (6:Int))==1)=false→J13 d5.1))) (fun d14=>J11 d14)))) (fun d12=>(0≤d5.2∧d5.2<(d1.length:Int))∧
 (d5.2.toNat<d1.length)∧
 (d12.length+Qa1 (Qa0 d1 d5.2.toNat [])≤9223372036854775807)∧
 J7 (d12++(Qa0 d1 d5.2.toNat []))))) (fun d8=>J6 (d8,(i64.wrap (d5.2+1)))))∧((decide (d5.2<(d1.length:Int)))=false→J3 d5.1)))) (fun d4=>K d4 ()))
theorem AaW{P}(h:Has P M0){x K}(hw:VA P x K):Fn P Ajp JU x K:=
 zF QV h hw
def NB:Ar:=
 sr [o1 8 (.asg ni)] (sr [o1 9 (.asg ni)] (sr [im 13 1,im 14 2,ob 15 .add 14 (kI 3),oc 16 zS1 [13,15] BD,oc 17 zS2 [16,kI 4] Cy,ia 10 17] (sq (sr [ia 11 (kI 0)] (.frame (rg
 [9,11,12] 18 30) [1012] false (.join [.sl 9 false (.sl (.pair .str .str)) tO] (bk 0 (.loop [.sl 9 false (.sl (.pair .str .str)) tO,.si 11] (sq (sr [im 18 11,im 19 0,ol 20 19,ob 21 .lss 18 20] (cx 21 0)) (sq (.frame (rg [9,12] 24 24) [1012]
 false (.join [.sl 9 false (.sl (.pair .str .str)) tO] (bk 1 (sr [im 24 0,im 25 11,ox 26 2 24 25,o1 27 (.load true 2 26),o1 12 (.alloc [.string ⟨#[]⟩,.string ⟨#[]⟩]),o0 ⟨none,.store 2 12 27,none⟩] (sq (sr [im 28 11,im 29 10,ob 30 .eql 28
 29] (.frame (rg [] 31 13) [1012] false (.join [.bx 1012 (.pair .str .str) .leaf] (cn 30 (sr [fa 31 1 12,ld 32 31,im 33 1,im 34 2,ob 35 .add 34 (kI 7),oc 36 Ajp [32,33,35] JU,fa 37 1 12,o0 ⟨none,.store 1 37
 36,none⟩] (sr [im 38 1,im 39 2,ob 40 .add 39 (kI 5),oc 41 zS1 [38,40] BD,ob 42 .rem 41 (kI 5),ob 43 .eql 42 (kI 0)] (cn 43 (.exit 1) .skip))) .skip)))) (rn [im 44 9,o1 45 (.load true 2 12),oT ⟨some 46,.buildSl
 2 [.string ⟨#[]⟩,.string ⟨#[]⟩] 1 [(0,45)],none⟩ (some (.pair .str .str,.leaf)),oT ⟨some 47,.app 2 32 44 46,none⟩ (some (.pair .str .str,.leaf)),ia 9 47])))))) (rn [im 22 11,ob 23 .add 22 (kI 1),ia 11 23])))))))) (sq (sr [im 48 9,ol 49
 48,ob 50 .eql 49 (kI 0)] (cn 50 (sr [im 51 1,im 52 2,im 53 3,oc 54 AcC [51,52,53] EJ,ia 8 54] .ret) .skip)) (sr [im 55 9,ia 8 55] .ret)))))
def Js:AFn:=⟨Ajq,NB.erase,[.tmp 8],4⟩
def Rh(P:Pg)(x:((List (Bt8×Bt8))×((List Int)×(Int×Int))))(K:(List (Bt8×Bt8))→Unit→Prop):Prop:=
 Fn P zS1 BD (x.2.1,(i64.wrap (x.2.2.1+3))) (fun(d1:Int) _=>Fn P zS2 Cy (d1,(4:Int)) (fun(d3:Int) _=>Ah (D:=(List (Bt8×Bt8))) (fun J5=>A4 (D:=((List (Bt8×Bt8))×Int)) ([],(0:Int)) (fun d7 J8=>(((decide (d7.2<(x.1.length:Int)))=true→Ah (D:=(List (Bt8×Bt8))) (fun J9=>(0≤d7.2∧d7.2<(x.1.length:Int))∧
 (d7.2.toNat<x.1.length)∧
 Ah (D:=(Bt8×Bt8)) (fun J11=>(((d7.2==d3)=true→Fn P Ajp JU ((Qa0 x.1 d7.2.toNat ([],[])).2,(x.2.1,(i64.wrap (x.2.2.1+7)))) (fun(d13:Bt8) _=>Fn P zS1 BD (x.2.1,(i64.wrap (x.2.2.1+5))) (fun(d15:Int) _=>((5:Int)≠0)∧
 ((((Qa3 d15 (5:Int))==0)=true→J9 d7.1)∧(((Qa3 d15 (5:Int))==0)=false→J11 ((Qa0 x.1 d7.2.toNat ([],[])).1,d13))))))∧((d7.2==d3)=false→J11 (Qa0 x.1 d7.2.toNat ([],[]))))) (fun d12=>((d7.1.length+Qa1 ([d12]:List (Bt8×Bt8)))*32≤140737488355328)∧
 J9 (d7.1++([d12]:List (Bt8×Bt8))))) (fun d10=>J8 (d10,(i64.wrap (d7.2+1)))))∧((decide (d7.2<(x.1.length:Int)))=false→J5 d7.1)))) (fun d6=>((((d6.length:Int)==0)=true→Fn P AcC EJ x.2 (fun(d17:(List (Bt8×Bt8))) _=>K d17 ()))∧(((d6.length:Int)==0)=false→K d6 ())))))
theorem XO{P}(h:Has P Js){x K}(hw:Rh P x K):Fn P Ajq Hw x K:=
 zF NB h hw
def NA:Ar:=
 sr [⟨⟨some 4,.asg ni,none⟩,none,⟨[],[]⟩,true,none,false,false⟩] (sq (sr [im 10 1,oc 11 zS1 [10,kI 3] BD,ob 12 .rem 11 (kI 2),ob 13 .eql 12 (kI 0)] (cn 13 (sr [im 14 0,⟨⟨some 4,.asg
 14,none⟩,none,⟨[],[]⟩,true,none,false,false⟩] .ret) .skip)) (sr [im 15 0,ol 16 15,ia 5 16] (sr [im 17 5,oT ⟨some 18,.mkSl 3 56 [.slice none 0 0,.int .i64 0,.slice none 0 0] 17 17,none⟩ (some (AU,.pair tO (.pair .leaf tM))),ia 6 18]
 (sq (sr [ia 7 (kI 0)] (.frame (rg [6,7,8,9] 19 43) [1008] true (.join [.sl 6 false (.sl AU) (.node .own (.pair tO (.pair .leaf tM)))] (bk 0 (.loop [.sl 6 false (.sl AU) (.node .own (.pair tO (.pair .leaf tM))),.si 7] (sq (sr [im
 19 7,im 20 5,ob 21 .lss 19 20] (cx 21 0)) (sq (.frame (rg [6,8,9] 24 38) [1008] true (.join [.sl 6 false (.sl AU) (.node .own (.pair tO (.pair .leaf tM)))] (bk 1 (sr [im 24 0,im 25 7,ox 26 3 24 25,o1 27 (.load true 3 26),o1 8 (.alloc
 [.slice none 0 0,.int .i64 0,.slice none 0 0]),o0 ⟨none,.store 3 8 27,none⟩] (sr [fa 28 0 8,o0 ⟨none,.store 1 28 ni,none⟩] (sq (sr [ia 9 (kI 0)] (.frame (rg [9] 29 26) [1008] true (.join [.bx 1008 AU (.pair tO (.pair .leaf tM))] (bk 2
 (.loop [.si 9,.bx 1008 AU (.pair tO (.pair .leaf tM))] (sq (sr [im 29 9,im 30 0,im 31 7,ox 32 3 30 31,fa 33 0 32,ld 34 33,ol 35 34,ob 36 .lss 29 35] (cx 36 2)) (sq (.frame (rg [] 39 16) [1008] true (.join [.bx 1008 AU (.pair tO
 (.pair .leaf tM))] (bk 3 (.frame (rg [] 39 16) [1008] true (.join [.bx 1008 AU (.pair tO (.pair .leaf tM))] (.draw [ti (fa 39 0 8) (ti (im 41 5) (ti (ob 42 .sub 41 (kI 1)) (ti (im 43 0) (ti (im 44 7) (ti (ox 45 3 43 44) (ti (fa 46 0
 45) (ti (ld 47 46) (ti (im 48 9) (ti (ox 49 1 47 48) (ti (ld 50 49) (ti (ob 51 .sub 42 50) (.alt (ld 40 39) (.alt (oT ⟨some 52,.buildSl 1 [.int .i64 0] 1 [(0,51)],none⟩ (some (bI,.leaf))) (.alt (oT ⟨some 53,.app 1 8 40 52,none⟩ (some
 (bI,.leaf))) (ti (fa 54 0 8) (.alt (o0 ⟨none,.store 1 54 53,none⟩) .done .stop)) .stop) .stop) (.alt (oT ⟨some 52,.buildSl 1 [.int .i64 0] 1 [(0,51)],none⟩ (some (bI,.leaf))) (ti (ld 40 39) (.alt (oT ⟨some 53,.app 1 8 40 52,none⟩ (some
 (bI,.leaf))) (ti (fa 54 0 8) (.alt (o0 ⟨none,.store 1 54 53,none⟩) .done .stop)) .stop)) .stop)))))))))))))])))))) (rn [im 37 9,ob 38 .add 37 (kI 1),ia 9 38])))))))) (rn [im 55 6,im 56 5,ob 57 .sub 56 (kI 1),im 58 7,ob 59 .sub 57 58,o1 60
 (.load true 3 8),ox 61 3 55 59,o0 ⟨none,.store 3 61 60,none⟩]))))))) (rn [im 22 7,ob 23 .add 22 (kI 1),ia 7 23])))))))) (sr [im 62 6,⟨⟨some 4,.asg 62,none⟩,none,⟨[],[]⟩,true,none,false,false⟩] .ret)))))
def Jr:AFn:=⟨Ajr,NA.erase,[.tmp 4],2⟩
def Rg(P:Pg)(x:((List Commit)×(List Int)))(K:(List Commit)→Unit→Prop):Prop:=
 Fn P zS1 BD (x.2,(3:Int)) (fun(d1:Int) _=>((2:Int)≠0)∧
 ((((Qa3 d1 (2:Int))==0)=true→K x.1 ())∧(((Qa3 d1 (2:Int))==0)=false→(0≤(x.1.length:Int)∧(x.1.length:Int)≤(x.1.length:Int)∧((56:Nat):Int)*(x.1.length:Int)≤281474976710656)∧
 Ah (D:=(List Commit)) (fun J3=>A4 (D:=((List Commit)×Int)) ((List.replicate (Qa2 (x.1.length:Int)) ([],((0:Int),[]))),(0:Int)) (fun d5 J6=>(((decide (d5.2<(x.1.length:Int)))=true→Ah (D:=(List Commit)) (fun J7=>(0≤d5.2∧d5.2<(x.1.length:Int))∧
 (d5.2.toNat<x.1.length)∧
 Ah (D:=Commit) (fun J9=>A4 (D:=(Int×Commit)) ((0:Int),([],(Qa0 x.1 d5.2.toNat Ak).2)) (fun d11 J12=>(0≤d5.2∧d5.2<(x.1.length:Int))∧
 (d5.2.toNat<x.1.length)∧
 (((decide (d11.1<((Qa1 (Qa0 x.1 d5.2.toNat Ak).1:Nat):Int)))=true→Ah (D:=Commit) (fun J13=>Ah (D:=Commit) (fun J15=>(0≤d5.2∧d5.2<(x.1.length:Int))∧
 (d5.2.toNat<x.1.length)∧
 (0≤d11.1∧d11.1<((Qa1 (Qa0 x.1 d5.2.toNat Ak).1:Nat):Int))∧
 (d11.1.toNat<Qa1 (Qa0 x.1 d5.2.toNat Ak).1)∧
 (((((d11.2.1.length+Qa1 ([(i64.wrap ((i64.wrap ((x.1.length:Int) -1)) -(Qa0 (Qa0 x.1 d5.2.toNat Ak).1 d11.1.toNat (0:Int))))]:List Int))*8≤140737488355328)∧
 (J15 ((d11.2.1++([(i64.wrap ((i64.wrap ((x.1.length:Int) -1)) -(Qa0 (Qa0 x.1 d5.2.toNat Ak).1 d11.1.toNat (0:Int))))]:List Int)),d11.2.2))∧True)∧True)∧True)∧(((((d11.2.1.length+Qa1 ([(i64.wrap ((i64.wrap ((x.1.length:Int) -1)) -(Qa0 (Qa0 x.1 d5.2.toNat Ak).1 d11.1.toNat (0:Int))))]:List Int))*8≤140737488355328)∧
 (J15 ((d11.2.1++([(i64.wrap ((i64.wrap ((x.1.length:Int) -1)) -(Qa0 (Qa0 x.1 d5.2.toNat Ak).1 d11.1.toNat (0:Int))))]:List Int)),d11.2.2))∧True)∧True)∧True)) (fun d16=>J13 d16)) (fun d14=>J12 ((i64.wrap (d11.1+1)),d14)))∧((decide (d11.1<((Qa1 (Qa0 x.1 d5.2.toNat Ak).1:Nat):Int)))=false→J9 d11.2)))) (fun d10=>(0≤(i64.wrap ((i64.wrap ((x.1.length:Int) -1)) -d5.2))∧(i64.wrap ((i64.wrap ((x.1.length:Int) -1)) -d5.2))<(d5.1.length:Int))∧
 ((Qa2 (i64.wrap ((i64.wrap ((x.1.length:Int) -1)) -d5.2)))<d5.1.length)∧
 J7 (List.set d5.1 (Qa2 (i64.wrap ((i64.wrap ((x.1.length:Int) -1)) -d5.2))) d10))) (fun d8=>J6 (d8,(i64.wrap (d5.2+1)))))∧((decide (d5.2<(x.1.length:Int)))=false→J3 d5.1)))) (fun d4=>K d4 ()))))
theorem XN{P}(h:Has P Jr){x K}(hw:Rg P x K):Fn P Ajr Hv x K:=
 zF NA h hw
def O6:Ar:=
 sr [o1 6 (.asg ni)] (sr [im 11 0,oc 12 zS1 [11,kI 0] BD,im 13 1,ob 14 .add 13 (kI 1),oc 15 zS2 [12,14] Cy,ia 1 15] (sr [oT ⟨some 16,.buildSl 3 [.slice none 0 0,.int .i64 0,.slice
 none 0 0] 0 [],none⟩ (some (AU,.pair tM (.pair .leaf tM))),ia 7 16] (sq (sr [ia 8 (kI 0)] (.frame (rg [7,8,9,10] 17 95) [1009] true (.join [.sl 7 false (.sl AU) (.node .own (.pair tM (.pair .leaf tM)))] (bk 0 (.loop [.sl 7 false
 (.sl AU) (.node .own (.pair tM (.pair .leaf tM))),.si 8] (sq (sr [im 17 8,im 18 1,ob 19 .lss 17 18] (cx 19 0)) (sq (.frame (rg [7,9,10] 22 90) [1009] true (.join [.sl 7 false (.sl AU) (.node .own (.pair tM (.pair .leaf tM)))] (bk
 1 (sr [im 22 0,im 23 8,ob 24 .add (kI 1000) 23,oc 25 zS1 [22,24] BD,oc 26 zS2 [25,kI 5] Cy,o1 27 (.build [.slice none 0 0,.int .i64 0,.slice none 0 0] [(1,1,26)]),o1 9 (.alloc
 [.slice none 0 0,.int .i64 0,.slice none 0 0]),o0 ⟨none,.store 3 9 27,none⟩] (sq (sr [ia 10 (kI 0)] (.frame (rg [10] 28 26) [1009] true (.join [.bx 1009 AU (.pair tO (.pair .leaf tO))] (bk 2 (.loop [.si 10,.bx 1009 AU (.pair tO
 (.pair .leaf tO))] (sq (sr [im 28 10,im 29 8,ob 30 .lss 28 29] (cx 30 2)) (sq (.frame (rg [] 33 21) [1009] true (.join [.bx 1009 AU (.pair tO (.pair .leaf tO))] (bk 3 (sr [im 33 0,im 34 8,ob 35 .mul (kI 40) 34,ob 36 .add (kI 1100)
 35,im 37 10,ob 38 .add 36 37,oc 39 zS1 [33,38] BD,ob 40 .rem 39 (kI 3),ob 41 .eql 40 (kI 0),im 42 41,gt 43 42 (.fAddr 0 9),gt 44 42 (.load false 1 43),gt 45 42 (.lenK 44),gt 46 42 (.bin .lss 45 (kI 3)),op3 47
 42 46 kF] (.frame (rg [] 48 6) [1009] true (.join [.bx 1009 AU (.pair tO (.pair .leaf tO))] (cn 47 (rn [fa 48 0 9,ld 49 48,im 50 10,oT ⟨some 51,.buildSl 1 [.int .i64 0] 1 [(0,50)],none⟩ (some (bI,.leaf)),oT ⟨some 52,.app 1 8 49
 51,none⟩ (some (bI,.leaf)),fa 53 0 9,o0 ⟨none,.store 1 53 52,none⟩]) .skip))))))) (rn [im 31 10,ob 32 .add 31 (kI 1),ia 10 32])))))))) (sq (sr [fa 54 0 9,ld 55 54,ol 56 55,ob 57 .eql 56 (kI 0),im 58 57,gt 59 58 (.mv 8),gt 60 58 (.bin .gtr
 59 (kI 0)),op3 61 58 60 kF,im 62 61,gt 63 62 (.mv 0),gt 64 62 (.mv 8),gt 65 62 (.bin .add (kI 1500) 64),oS ⟨some 66,.call zS1 [63,65],some (62,true)⟩ BD,gt 67 62 (.bin .rem 66 (kI 4)),gt 68 62 (.bin .gtr 67
 (kI 0)),op3 69 62 68 kF] (.frame (rg [] 70 4) [1009] true (.join [.bx 1009 AU (.pair tO (.pair .leaf tO))] (cn 69 (rn [im 70 8,ob 71 .sub 70 (kI 1),oT ⟨some 72,.buildSl 1 [.int .i64 0] 1 [(0,71)],none⟩ (some (bI,.leaf)),fa 73 0 9,o0
 ⟨none,.store 1 73 72,none⟩]) .skip)))) (sr [im 74 0,im 75 8,ob 76 .mul (kI 200) 75,ob 77 .add (kI 2000) 76,im 78 2,oc 79 AcC [74,77,78] EJ,fa 80 2 9,o0 ⟨none,.store 1 80 79,none⟩] (sq (sr [fa 81 0 9,ld
 82 81,ol 83 82,ob 84 .gtr 83 (kI 0),im 85 84,gt 86 85 (.mv 0),gt 87 85 (.mv 8),gt 88 85 (.bin .add (kI 1600) 87),oS ⟨some 89,.call zS1 [86,88],some (85,true)⟩ BD,gt 90 85 (.bin .rem 89 (kI 4)),gt 91 85 (.bin
 .gtr 90 (kI 0)),op3 92 85 91 kF] (.frame (rg [] 93 15) [1009] true (.join [.bx 1009 AU (.pair tO (.pair .leaf tO))] (cn 92 (rn [im 93 7,fa 94 0 9,ld 95 94,ox 96 1 95 (kI 0),ld 97 96,ox 98 3 93 97,fa 99 2 98,ld 100 99,im 101 0,im 102
 8,ob 103 .mul (kI 200) 102,ob 104 .add (kI 2000) 103,im 105 2,oc 106 Ajq [100,101,104,105] Hw,fa 107 2 9,o0 ⟨none,.store 1 107 106,none⟩]) .skip)))) (rn [im 108 7,o1 109 (.load true 3 9),⟨⟨some
 110,.buildSl 3 [.slice none 0 0,.int .i64 0,.slice none 0 0] 1 [(0,109)],none⟩,some (AU,.pair tO (.pair .leaf tO)),⟨[],[]⟩,true,none,false,false⟩,oT ⟨some 111,.app 3 56 108 110,none⟩ (some (AU,.pair tM (.pair .leaf tM))),ia 7
 111]))))))))) (rn [im 20 8,ob 21 .add 20 (kI 1),ia 8 21])))))))) (sq (.frz [7] (rn [im 112 7,im 113 0,oc 114 Ajr [112,113] Hv,ia 6 114])) .ret))))
def Lk:AFn:=⟨Ajs,O6.erase,[.tmp 6],3⟩
def Ud(P:Pg)(x:((List Int)×(Int×Int)))(K:(List Commit)→Unit→Prop):Prop:=
 Fn P zS1 BD (x.1,(0:Int)) (fun(d1:Int) _=>Fn P zS2 Cy (d1,(i64.wrap (x.2.1+1))) (fun(d3:Int) _=>Ah (D:=(List Commit)) (fun J5=>A4 (D:=((List Commit)×Int)) (([]:List Commit),(0:Int)) (fun d7 J8=>(((decide (d7.2<d3))=true→Ah (D:=(List Commit)) (fun J9=>Fn P zS1 BD (x.1,(i64.wrap ((1000:Int)+d7.2))) (fun(d11:Int) _=>Fn P zS2 Cy (d11,(5:Int)) (fun(d13:Int) _=>Ah (D:=Commit) (fun J15=>A4 (D:=(Int×Commit)) ((0:Int),([],(d13,[]))) (fun d17 J18=>(((decide (d17.1<d7.2))=true→Ah (D:=Commit) (fun J19=>Fn P zS1 BD (x.1,(i64.wrap ((i64.wrap ((1100:Int)+(i64.wrap ((40:Int)*d7.2))))+d17.1))) (fun(d21:Int) _=>((3:Int)≠0)∧
 Ah (D:=Commit) (fun J23=>(((cond ((Qa3 d21 (3:Int))==0) (decide ((d17.2.1.length:Int)<3)) false)=true→((d17.2.1.length+Qa1 ([d17.1]:List Int))*8≤140737488355328)∧
 J23 ((d17.2.1++([d17.1]:List Int)),d17.2.2))∧((cond ((Qa3 d21 (3:Int))==0) (decide ((d17.2.1.length:Int)<3)) false)=false→J23 d17.2))) (fun d24=>J19 d24))) (fun d20=>J18 ((i64.wrap (d17.1+1)),d20)))∧((decide (d17.1<d7.2))=false→J15 d17.2)))) (fun d16=>Ah (D:=Int) (fun J25=>(((cond ((d16.1.length:Int)==0) (decide (d7.2>0)) false)=true→Fn P zS1 BD (x.1,(i64.wrap ((1500:Int)+d7.2))) (fun(d26:Int) _=>J25 d26))∧(((cond ((d16.1.length:Int)==0) (decide (d7.2>0)) false)=false→J25 (0:Int))∧True))) (fun d27=>(((cond ((d16.1.length:Int)==0) (decide (d7.2>0)) false)=true→(4:Int)≠0))∧
 Ah (D:=Commit) (fun J28=>(((cond (cond ((d16.1.length:Int)==0) (decide (d7.2>0)) false) (decide ((Qa3 d27 (4:Int))>0)) false)=true→J28 (([(i64.wrap (d7.2 -1))]:List Int),d16.2))∧((cond (cond ((d16.1.length:Int)==0) (decide (d7.2>0)) false) (decide ((Qa3 d27 (4:Int))>0)) false)=false→J28 d16))) (fun d29=>Fn P AcC EJ (x.1,((i64.wrap ((2000:Int)+(i64.wrap ((200:Int)*d7.2)))),x.2.2)) (fun(d30:(List (Bt8×Bt8))) _=>Ah (D:=Int) (fun J32=>(((decide ((d29.1.length:Int)>0))=true→Fn P zS1 BD (x.1,(i64.wrap ((1600:Int)+d7.2))) (fun(d33:Int) _=>J32 d33))∧(((decide ((d29.1.length:Int)>0))=false→J32 (0:Int))∧True))) (fun d34=>(((decide ((d29.1.length:Int)>0))=true→(4:Int)≠0))∧
 Ah (D:=Commit) (fun J35=>(((cond (decide ((d29.1.length:Int)>0)) (decide ((Qa3 d34 (4:Int))>0)) false)=true→(0≤(0:Int)∧(0:Int)<(d29.1.length:Int))∧
 ((Qa2 (0:Int))<d29.1.length)∧
 (0≤(Qa0 d29.1 (Qa2 (0:Int)) (0:Int))∧(Qa0 d29.1 (Qa2 (0:Int)) (0:Int))<(d7.1.length:Int))∧
 ((Qa2 (Qa0 d29.1 (Qa2 (0:Int)) (0:Int)))<d7.1.length)∧
 Fn P Ajq Hw ((Qa0 d7.1 (Qa2 (Qa0 d29.1 (Qa2 (0:Int)) (0:Int))) Ak).2.2,(x.1,((i64.wrap ((2000:Int)+(i64.wrap ((200:Int)*d7.2)))),x.2.2))) (fun(d37:(List (Bt8×Bt8))) _=>J35 (d29.1,(d29.2.1,d37))))∧((cond (decide ((d29.1.length:Int)>0)) (decide ((Qa3 d34 (4:Int))>0)) false)=false→J35 (d29.1,(d29.2.1,d30))))) (fun d36=>((d7.1.length+Qa1 ([d36]:List Commit))*56≤140737488355328)∧
 J9 (d7.1++([d36]:List Commit))))))))))) (fun d10=>J8 (d10,(i64.wrap (d7.2+1)))))∧((decide (d7.2<d3))=false→J5 d7.1)))) (fun d6=>Fn P Ajr Hv (d6,x.1) (fun(d39:(List Commit)) _=>K d39 ()))))
theorem Zt{P}(h:Has P Lk){x K}(hw:Ud P x K):Fn P Ajs IL x K:=
 zF O6 h hw
def O8:Ar:=
 sr [o1 2 (.box 0),ia 4 (kI 0)] (sr [ia 5 (kI 0)] (sq (sr [fa 8 7 2,ld 9 8,ol 10 9,o1 11 (.mv (kI 0))] (fj [5,7] 11 12 [5] (bl 0 [5,11] (sr [ob 12 .lss 11 10] (sq (cx 12 0) (sq (fj [5,7] 13 9 [5] (bk 1 (sr [ox 13 1 9 11,ld 14 13,ia 7 14] (rn
 [im 15 5,im 16 1,im 17 7,ox 18 1 16 17,ld 19 18,ob 20 .add 15 19,o1 21 (.mm false 20 (kI 4001)),ia 5 21])))) (rn [ob 22 .add 11 (kI 1),im 11 22]))))))) (sq (sr [fa 23 0 2,ld 24 23] (fj [4] 25 39 [4] (bk 2 (sr [ob 26 .eql 24 (kI 4),ia 25
 26] (cn 25 (sr [im 27 5,ia 4 27] .ret) (sr [ob 29 .eql 24 (kI 5),ia 28 29] (cn 28 (sr [im 30 5,fa 31 7 2,ld 32 31,ol 33 32,ob 34 .add 30 33,ob 35 .sub 34 (kI 1),o1 36 (.mm false 35 (kI 4001)),ia 4 36] .ret) (sr [ob 38 .eql 24 (kI 6),ia 37
 38] (cn 37 (sq (sr [fa 39 6 2,ld 40 39,ob 41 .lss 40 (kI 0)] (cn 41 (sr [fa 42 5 2,ld 43 42,im 44 5,ob 45 .mul 43 44,im 46 5,ob 47 .add 45 46,ob 48 .add 47 (kI 1),o1 49 (.mm false 48 (kI 4001)),ia 4 49] .ret) .skip)) (sr [fa 50 5 2,ld 51
 50,im 52 5,ob 53 .mul 51 52,fa 54 6 2,ld 55 54,fa 56 5 2,ld 57 56,ob 58 .sub 55 57,im 59 5,ob 60 .add 59 (kI 1),ob 61 .mul 58 60,ob 62 .add 53 61,o1 63 (.mm false 62 (kI 4001)),ia 4 63] .ret)) .skip))))))))) (sr [ia 4 (kI 1)] .ret))))
def JS:AFn:=⟨ "mergelens/regex.weight",O8.erase,[.tmp 4],2⟩
def NY:Ar:=
 sr [o1 2 (.asg ni)] (sr [im 6 0,ol 7 6,oT ⟨some 8,.mkSl 1 8 [.int .i64 0] 7 7,none⟩ (some (bI,.leaf)),ia 3 8] (sq (sr [im 9 0,ol 10 9,o1 11 (.mv (kI 0))] (.frame (rg [3,4,5] 11 12) [1005] false (.join [.sl 3 false (.sl bI) tO] (bk 0 (.loop
 [.sl 3 false (.sl bI) tO,.si 11] (sr [ob 12 .lss 11 10] (sq (cx 12 0) (sq (.frame (rg [3,4,5] 13 9) [1005] false (.join [.sl 3 false (.sl bI) tO] (bk 1 (sr [im 13 11,ox 14 8 9 11,o1 15 (.load true 8 14),o1 5 (.alloc [.int .i64 0,.int .u64
 0,.int .u64 0,.int .u64 0,.int .u64 0,.int .i64 0,.int .i64 0,.slice none 0 0]),ia 4 13,o0 ⟨none,.store 8 5 15,none⟩] (rn [im 16 3,im 17 4,o1 18 (.load true 8 5),im 19 3,oc 20 "mergelens/regex.weight" [18,19] Og,ox 21 1 16
 17,o0 ⟨none,.store 1 21 20,none⟩]))))) (rn [ob 22 .add 11 (kI 1),im 11 22]))))))))) (sr [im 23 3,ia 2 23] .ret)))
def I8:AFn:=⟨AmW,NY.erase,[.tmp 2],1⟩
def NZ:Ar:=
 sr [o1 1 (.box 0),o1 2 (.asg kF)] (sr [fa 3 5 1,ld 4 3,ob 5 .geq 4 (kI 0),im 6 5,gt 7 6 (.fAddr 5 1),gt 8 6 (.load false 1 7),gt 9 6 (.bin .leq 8 (kI 100)),op3 10 6 9 kF,im 11 10,gt 12 11 (.fAddr 6 1),gt 13 11 (.load false 1 12),gt 14 11
 (.bin .eql 13 (kI (-1))),gt 15 11 (.mv 14),gf 16 15 (.fAddr 6 1),gf 17 15 (.load false 1 16),gf 18 15 (.fAddr 5 1),gf 19 15 (.load false 1 18),gf 20 15 (.bin .geq 17 19),gf 21 15 (.mv 20),gt 22 21 (.fAddr 6 1),gt 23 21 (.load false 1
 22),gt 24 21 (.bin .leq 23 (kI 100)),gf 25 15 (.pick 21 24 kF),gt 26 11 (.pick 15 kT 25),op3 27 11 26 kF,ia 2 27] .ret)
def I9:AFn:=⟨ "mergelens/regex.bounded",NZ.erase,[.tmp 2],1⟩
def SD:Ar:=
 sr [o1 2 (.box 0),o1 4 (.asg kF)] (sq (sr [fa 7 7 2,ld 8 7,ol 9 8,o1 10 (.mv (kI 0))] (fk [4,6] 10 12 (.join [.sl 4 false .bool .leaf] (bk 0 (.loop [.sl 4 false .bool .leaf,.si 10] (sr [ob 11 .lss 10 9] (sq (cx 11 0) (sq (fk [4,6] 12 9
 (.join [.sl 4 false .bool .leaf] (bk 1 (sr [ox 12 1 8 10,ld 13 12,ia 6 13] (sr [im 14 6,ob 15 .lss 14 (kI 0),im 16 15,gf 17 16 (.mv 6),gf 18 16 (.mv 1),gf 19 16 (.bin .geq 17 18),op3 20 16 kT 19] (cn 20 (sr [o1 4 (.asg kF)] .ret)
 .skip)))))) (rn [ob 21 .add 10 (kI 1),im 10 21]))))))))) (sq (sr [fa 22 0 2,ld 23 22] (fk [4] 24 26 (.join [.sl 4 false .bool .leaf] (bk 2 (sq (sr [ob 25 .eql 23 (kI 0),ia 24 25] (.frame [24,26,27,28] [] false (.join [.sl 24 false .bool
 .leaf] (cn 24 .skip (sr [ob 26 .eql 23 (kI 1),ia 24 26] (.frame [24,27,28] [] false (.join [.sl 24 false .bool .leaf] (cn 24 .skip (sr [ob 27 .eql 23 (kI 2),ia 24 27] (.frame [24,28] [] false (.join [.sl 24 false .bool .leaf] (cn 24 .skip
 (rn [ob 28 .eql 23 (kI 3),ia 24 28]))))))))))))) (cn 24 (sr [fa 29 7 2,ld 30 29,ol 31 30,ob 32 .eql 31 (kI 0),ia 4 32] .ret) (sq (sr [ob 34 .eql 23 (kI 4),ia 33 34] (.frame [33,35] [] false (.join [.sl 33 false .bool .leaf] (cn 33 .skip
 (rn [ob 35 .eql 23 (kI 5),ia 33 35]))))) (cn 33 (sr [fa 36 7 2,ld 37 36,ol 38 37,ob 39 .geq 38 (kI 2),ia 4 39] .ret) (sr [ob 41 .eql 23 (kI 6),ia 40 41] (cn 40 (sr [fa 42 7 2,ld 43 42,ol 44 43,ob 45 .eql 44 (kI 1),im 46 45,gt 47 46 (.load
 true 8 2),oS ⟨some 48,.call "mergelens/regex.bounded" [47],some (46,true)⟩ NN,op3 49 46 48 kF,ia 4 49] .ret) .skip)))))))))) (sr [o1 4 (.asg kF)] .ret)))
def M3:AFn:=⟨ "mergelens/regex.fits",SD.erase,[.tmp 4],2⟩
def P7:Ar:=
 sr [ia 2 (kI 0)] (sq (sr [im 5 0,ol 6 5,ob 7 .eql 6 (kI 0),im 8 7,gf 9 8 (.mv 0),gf 10 8 (.lenK 9),gf 11 8 (.bin .gtr 10 (kI 4000)),op3 12 8 kT 11] (cn 12 (sr [ia 2 (kI 2)] .ret) .skip)) (sq (sr [im 13 0,ol 14 13,o1 15 (.mv (kI 0))] (.frame
 (rg [2,3,4] 15 10) [1004] false (.join [.si 2] (bl 0 [2,15] (sr [ob 16 .lss 15 14] (sq (cx 16 0) (sq (.frame (rg [2,3,4] 17 7) [1004] false (.join [.si 2] (bk 1 (sr [im 17 15,ox 18 8 13 15,o1 19 (.load true 8 18),o1 4 (.alloc [.int .i64
 0,.int .u64 0,.int .u64 0,.int .u64 0,.int .u64 0,.int .i64 0,.int .i64 0,.slice none 0 0]),ia 3 17,o0 ⟨none,.store 8 4 19,none⟩] (sr [o1 20 (.load true 8 4),im 21 3,oc 22 "mergelens/regex.fits" [20,21] Q9,o1 23 (.un .not 22)]
 (cn 23 (sr [ia 2 (kI 2)] .ret) .skip)))))) (rn [ob 24 .add 15 (kI 1),im 15 24])))))))) (sr [ia 2 (kI 0)] .ret)))
def LW:AFn:=⟨ "mergelens/regex.Check",P7.erase,[.tmp 2],1⟩
def O7:Ar:=
 sr [ia 2 (kI 0),ia 3 (kI 0)] (sq (sr [im 5 0,oc 6 "mergelens/regex.Check" [5] PU,ia 4 6] (sr [im 7 4,ob 8 .neq 7 (kI 0)] (cn 8 (sr [im 9 4,ia 2 (kI 0),ia 3 9] .ret) .skip))) (sr [im 10 0,oc 11 AmW [10]
 Jb,im 12 0,ol 13 12,ob 14 .sub 13 (kI 1),ox 15 1 11 14,ld 16 15,ia 2 16,ia 3 (kI 0)] .ret))
def JR:AFn:=⟨ "mergelens/regex.Weight",O7.erase,[.tmp 2,.tmp 3],1⟩
def Hh:Ar:=
 sr [o1 3 (.box 1),ia 4 (kI 0)] (sq (.frame (rg [] 5 10) [0] true (.join [.bx 0 AB (.pair (.node .imm (.pair .leaf (.pair .leaf (.pair .leaf (.pair .leaf tM))))) (.pair tO tO))] (.draw [ti (im 5 0) (ti (im 6 0) (ti (o1 7
 (.nilc 6)) (ti (fa 8 2 7) (ti (o1 10 (.load true 7 3)) (.alt (ld 9 8) (.alt (oT ⟨some 11,.buildSl 7 [.int .i64 0,.int .u64 0,.int .u64 0,.int .u64 0,.int .u64 0,.int .i64 0,.int .i64 0] 1 [(0,10)],none⟩ (some (DE,.leaf))) (.alt (oT
 ⟨some 12,.app 7 56 9 11,none⟩ (some (DE,.leaf))) (ti (o1 13 (.nilc 5)) (ti (fa 14 2 13) (.alt (o0 ⟨none,.store 1 14 12,none⟩) .done .stop))) .stop) .stop) (.alt (oT ⟨some 11,.buildSl 7 [.int .i64 0,.int .u64 0,.int .u64 0,.int .u64
 0,.int .u64 0,.int .i64 0,.int .i64 0] 1 [(0,10)],none⟩ (some (DE,.leaf))) (ti (ld 9 8) (.alt (oT ⟨some 12,.app 7 56 9 11,none⟩ (some (DE,.leaf))) (ti (o1 13 (.nilc 5)) (ti (fa 14 2 13) (.alt (o0 ⟨none,.store 1 14 12,none⟩) .done
 .stop))) .stop)) .stop))))))]))) (sr [im 15 0,o1 16 (.nilc 15),fa 17 2 16,ld 18 17,ol 19 18,ob 20 .sub 19 (kI 1),ia 4 20] .ret))
def EA:AFn:=⟨AcD,Hh.erase,[.tmp 4],2⟩
def FR:Ar:=
 sr [ia 6 (kI 0)] (sr [im 10 1,ol 11 10,ob 12 .sub 11 (kI 1),ia 7 12] (sr [im 13 0,im 14 1,im 15 7,ox 16 1 14 15,ld 17 16,im 18 2,oc 19 AcE [13,17,18] Bu,ia 8 19] (sq (sr [im 20 7,ob
 21 .sub 20 (kI 1),ia 9 21] (.frame (rg [8,9] 22 15) [0] true (.join [.si 8,.bx 0 AB (.pair (.node .imm (.pair .leaf (.pair .leaf (.pair .leaf (.pair .leaf tM))))) (.pair tO tO))] (bk 0 (.loop [.si 8,.si 9,.bx 0
 AB (.pair (.node .imm (.pair .leaf (.pair .leaf (.pair .leaf (.pair .leaf tM))))) (.pair tO tO))] (sq (sr [im 22 9,ob 23 .geq 22 (kI 0)] (cx 23 0)) (sq (.frame (rg [8] 26 11) [0] true (.join [.si 8,.bx 0 AB
 (.pair (.node .imm (.pair .leaf (.pair .leaf (.pair .leaf (.pair .leaf tM))))) (.pair tO tO))] (bk 1 (rn [im 26 0,im 27 0,im 28 1,im 29 9,ox 30 1 28 29,ld 31 30,im 32 2,oc 33 AcE [27,31,32]
 Bu,im 34 8,o1 35 (.build [.int .i64 0,.int .u64 0,.int .u64 0,.int .u64 0,.int .u64 0,.int .i64 0,.int .i64 0] [(0,1,kI 1),(5,1,33),(6,1,34)]),oc 36 AcD [26,35]
 BJ,ia 8 36])))) (rn [im 24 9,ob 25 .sub 24 (kI 1),ia 9 25])))))))) (sr [im 37 8,ia 6 37] .ret))))
def DY:AFn:=⟨An2,FR.erase,[.tmp 6],3⟩
def FT:Ar:=
 sr [o1 4 (.box 1),ia 6 (kI 0)] (sr [fa 11 7 4,ld 12 11,ox 13 1 12 (kI 0),ld 14 13,ia 7 14] (sq (sr [fa 15 6 4,ld 16 15,ob 17 .lss 16 (kI 0)] (.frame (rg [2,8,9] 18 17) [0] true (.join [.si 2,.bx 0 AB (.pair (.node .imm
 (.pair .leaf (.pair .leaf (.pair .leaf (.pair .leaf tM))))) (.pair tO tO))] (cn 17 (sr [im 18 0,im 19 2,o1 20 (.build [.int .i64 0,.int .u64 0,.int .u64 0,.int .u64 0,.int .u64 0,.int .i64 0,.int .i64 0] [(0,1,kI 1),(6,1,19)]),oc 21
 AcD [18,20] BJ,ia 8 21] (sr [im 22 0,im 23 7,im 24 8,oc 25 AcE [22,23,24] Bu,ia 9 25] (sr [im 26 0,o1 27 (.nilc 26),fa 28 2
 27,ld 29 28,im 30 8,im 31 9,ox 32 7 29 30,fa 33 5 32,o0 ⟨none,.store 1 33 31,none⟩] (rn [im 34 8,ia 2 34])))) .skip)))) (sr [im 35 2,ia 10 35] (sq (sr [fa 36 6 4,ld 37 36,fa 38 5 4,ld 39 38,ob 40 .sub 37 39,o1 41 (.mv (kI 0))] (.frame (rg
 [2] 41 11) [0] true (.join [.si 2,.bx 0 AB (.pair (.node .imm (.pair .leaf (.pair .leaf (.pair .leaf (.pair .leaf tM))))) (.pair tO tO))] (bk 0 (.loop [.si 2,.si 41,.bx 0 AB (.pair (.node .imm (.pair .leaf
 (.pair .leaf (.pair .leaf (.pair .leaf tM))))) (.pair tO tO))] (sr [ob 42 .lss 41 40] (sq (cx 42 0) (sq (.frame (rg [2] 43 8) [0] true (.join [.si 2,.bx 0 AB (.pair (.node .imm (.pair .leaf (.pair .leaf (.pair .leaf (.pair
 .leaf tM))))) (.pair tO tO))] (bk 1 (rn [im 43 0,im 44 0,im 45 7,im 46 2,oc 47 AcE [44,45,46] Bu,im 48 10,o1 49 (.build [.int .i64 0,.int .u64 0,.int .u64 0,.int .u64 0,.int .u64
 0,.int .i64 0,.int .i64 0] [(0,1,kI 1),(5,1,47),(6,1,48)]),oc 50 AcD [43,49] BJ,ia 2 50])))) (rn [ob 51 .add 41 (kI 1),im 41 51]))))))))) (sq (sr [fa 52 5 4,ld 53 52,o1 54 (.mv (kI 0))]
 (.frame (rg [2] 54 7) [0] true (.join [.si 2,.bx 0 AB (.pair (.node .imm (.pair .leaf (.pair .leaf (.pair .leaf (.pair .leaf tM))))) (.pair tO tO))] (bk 2 (.loop [.si 2,.si 54,.bx 0 AB (.pair (.node .imm
 (.pair .leaf (.pair .leaf (.pair .leaf (.pair .leaf tM))))) (.pair tO tO))] (sr [ob 55 .lss 54 53] (sq (cx 55 2) (sq (.frame (rg [2] 56 4) [0] true (.join [.si 2,.bx 0 AB (.pair (.node .imm (.pair .leaf (.pair .leaf (.pair
 .leaf (.pair .leaf tM))))) (.pair tO tO))] (bk 3 (rn [im 56 0,im 57 7,im 58 2,oc 59 AcE [56,57,58] Bu,ia 2 59])))) (rn [ob 60 .add 54 (kI 1),im 54 60]))))))))) (sr [im 61 2,ia 6 61]
 .ret))))))
def DZ:AFn:=⟨An3,FT.erase,[.tmp 6],3⟩
def Gp:Ar:=
 sr [ia 6 (kI 0)] (sq (sr [im 9 0,o1 10 (.nilc 9),fa 11 1 10,ld 12 11,im 13 1,ox 14 1 12 13,ld 15 14,ob 16 .eql 15 (kI 0)] (cn 16 (sr [im 17 2,ia 6 17] .ret) .skip)) (sr [im 18 0,o1 19 (.nilc 18),fa 20 0 19,ld 21 20,im 22 1,ox 23 8 21 22,o1
 24 (.load true 8 23),o1 7 (.alloc [.int .i64 0,.int .u64 0,.int .u64 0,.int .u64 0,.int .u64 0,.int .i64 0,.int .i64 0,.slice none 0 0]),o0 ⟨none,.store 8 7 24,none⟩] (sq (sr [fa 25 0 7,ld 26 25] (.frame (rg [2,6,8] 27 51) [0] true (.join
 [.si 2,.si 6,.bx 0 AB (.pair (.node .imm (.pair .leaf (.pair .leaf (.pair .leaf (.pair .leaf tM))))) (.pair tO tO))] (bk 0 (sr [ob 28 .eql 26 (kI 1),ia 27 28] (cn 27 (sr [im 29 0,fa 30 1 7,o1 31 (.load true 4 30),im 32 2,o1
 33 (.build [.int .i64 0,.int .u64 0,.int .u64 0,.int .u64 0,.int .u64 0,.int .i64 0,.int .i64 0] [(0,1,kI 0),(1,4,31),(5,1,32)]),oc 34 AcD [29,33] BJ,ia 6 34] .ret) (sr [ob 36 .eql 26
 (kI 2),ia 35 36] (cn 35 (sr [im 37 0,im 38 2,o1 39 (.build [.int .i64 0,.int .u64 0,.int .u64 0,.int .u64 0,.int .u64 0,.int .i64 0,.int .i64 0] [(0,1,kI 2),(5,1,38)]),oc 40 AcD [37,39]
 BJ,ia 6 40] .ret) (sr [ob 42 .eql 26 (kI 3),ia 41 42] (cn 41 (sr [im 43 0,im 44 2,o1 45 (.build [.int .i64 0,.int .u64 0,.int .u64 0,.int .u64 0,.int .u64 0,.int .i64 0,.int .i64 0] [(0,1,kI 3),(5,1,44)]),oc 46
 AcD [43,45] BJ,ia 6 46] .ret) (sr [ob 48 .eql 26 (kI 4),ia 47 48] (.frame (rg [2,6,8] 49 29) [0] true (.join [.si 2,.si 6,.bx 0 AB (.pair (.node .imm (.pair .leaf (.pair
 .leaf (.pair .leaf (.pair .leaf tM))))) (.pair tO tO))] (cn 47 (sr [fa 49 7 7,ld 50 49,ol 51 50,ob 52 .sub 51 (kI 1),ia 8 52] (.frame (rg [2,8] 53 12) [0] true (.join [.si 2,.bx 0 AB (.pair (.node .imm (.pair .leaf (.pair
 .leaf (.pair .leaf (.pair .leaf tM))))) (.pair tO tO))] (bk 1 (.loop [.si 2,.si 8,.bx 0 AB (.pair (.node .imm (.pair .leaf (.pair .leaf (.pair .leaf (.pair .leaf tM))))) (.pair tO tO))] (sq (sr [im 53 8,ob 54 .geq 53 (kI
 0)] (cx 54 1)) (sq (.frame (rg [2] 57 8) [0] true (.join [.si 2,.bx 0 AB (.pair (.node .imm (.pair .leaf (.pair .leaf (.pair .leaf (.pair .leaf tM))))) (.pair tO tO))] (bk 2 (rn [im 57 0,fa 58 7 7,ld 59 58,im 60 8,ox 61 1
 59 60,ld 62 61,im 63 2,oc 64 AcE [57,62,63] Bu,ia 2 64])))) (rn [im 55 8,ob 56 .sub 55 (kI 1),ia 8 56])))))))) (sr [ob 66 .eql 26 (kI 5),ia 65 66] (cn 65 (sr [im 67 0,fa 68 7 7,ld
 69 68,im 70 2,oc 71 An2 [67,69,70] FD,ia 6 71] .ret) (sr [ob 73 .eql 26 (kI 6),ia 72 73] (cn 72 (sr [im 74 0,o1 75 (.load true 8 7),im 76 2,oc 77
 An3 [74,75,76] FE,ia 6 77] .ret) .skip)))))))))))))))))) (sr [im 78 2,ia 6 78] .ret))))
def Ec:AFn:=⟨AcE,Gp.erase,[.tmp 6],3⟩
def LL:Ar:=
 sr [o1 2 (.alloc [.slice none 0 0,.int .i64 0]),ia 3 (kI 0)] (sr [im 10 0,oc 11 "mergelens/regex.Weight" [10] Oe,im 9 11,oe 12 9 0,oe 13 9 1,ia 4 12,ia 5 13] (sq (.frame (rg [3] 14 9) [1002] false (.join [.si 3,.bx 1002 (.pair
 (.sl DE) bI) (.pair tO .leaf)] (bk 0 (sr [im 15 5,ob 16 .neq 15 (kI 0),ia 14 16] (cn 14 (sr [o1 17 (.build [.slice none 0 0,.int .i64 0] []),im 18 5,o0 ⟨none,.store 2 2 17,none⟩,ia 3 18] .ret) (sr [im 20 4,ob 21 .gtr 20 (kI 4000),ia 19
 21] (cn 19 (sr [o1 22 (.build [.slice none 0 0,.int .i64 0] []),o0 ⟨none,.store 2 2 22,none⟩,ia 3 (kI 1)] .ret) .skip))))))) (sr [im 23 0,im 24 0,oc 25 AmW [24] Jb,o1 26 (.build [.slice none 0 0,.slice
 none 0 0,.slice none 0 0] [(0,1,23),(1,1,25)]),o1 27 (.box 26),ia 6 27] (sr [im 28 6,o1 29 (.build [.int .i64 0,.int .u64 0,.int .u64 0,.int .u64 0,.int .u64 0,.int .i64 0,.int .i64 0] [(0,1,kI 4)]),oc 30
 AcD [28,29] BJ,ia 7 30] (sr [im 31 6,im 32 0,ol 33 32,ob 34 .sub 33 (kI 1),im 35 7,oc 36 AcE [31,34,35] Bu,ia 8 36] (sr [im 37
 6,o1 38 (.nilc 37),fa 39 2 38,ld 40 39,im 41 8,o1 42 (.build [.slice none 0 0,.int .i64 0] [(0,1,40),(1,1,41)]),o0 ⟨none,.store 2 2 42,none⟩,ia 3 (kI 0)] .ret))))))
def Hl:AFn:=⟨ "mergelens/automaton.Build",LL.erase,[.cell 2 true 2,.tmp 3],1⟩
def LP:Ar:=
 sr [o1 2 (.alloc [.slice none 0 0,.int .i64 0]),ia 3 (kI 0)] (sr [im 7 0,oc 8 "mergelens/regex.Parse" [7] LY,im 6 8,oe 9 6 0,oe 10 6 1,ia 4 9,ia 5 10] (sq (sr [im 11 5,ob 12 .neq 11 (kI 0)] (cn 12 (sr [o1 13 (.build [.slice none
 0 0,.int .i64 0] []),im 14 5,o0 ⟨none,.store 2 2 13,none⟩,ia 3 14] .ret) .skip)) (sq (.frz [4] (rn [im 15 4,oc 16 "mergelens/automaton.Build" [15] Ln,oe 17 16 0,oe 18 16 1,o0 ⟨none,.store 2 2 17,none⟩,ia 3 18])) .ret)))
def Hp:AFn:=⟨ "mergelens/pickaxe.compile",LP.erase,[.cell 2 true 2,.tmp 3],1⟩
def Fz:Ar:=
 sr [⟨⟨some 4,.asg ni,none⟩,none,⟨[],[]⟩,true,none,false,false⟩] (sq (sr [im 8 0,im 9 1,ox 10 3 8 9,fa 11 0 10,ld 12 11,ol 13 12,ob 14 .eql 13 (kI 0)] (cn 14 (sr [oT ⟨some 15,.buildSl 1 [.slice none 0 0] 1 [(0,ni)],none⟩ (some (.sl (.pair
 .str .str),tM)),⟨⟨some 4,.asg 15,none⟩,none,⟨[],[]⟩,true,none,false,false⟩] .ret) .skip)) (sr [o1 5 (.asg ni)] (sq (sr [im 16 0,im 17 1,ox 18 3 16 17,fa 19 0 18,ld 20 19,ol 21 20,o1 22 (.mv (kI 0))] (fk [5,7] 22 13 (.join [.sl 5 false (.sl
 (.sl (.pair .str .str))) (.node .own tM)] (bk 0 (.loop [.sl 5 false (.sl (.sl (.pair .str .str))) (.node .own tM),.si 22] (sr [ob 23 .lss 22 21] (sq (cx 23 0) (sq (fk [5,7] 24 10 (.join [.sl 5 false (.sl (.sl (.pair .str .str))) (.node
 .own tM)] (bk 1 (sr [ox 24 1 20 22,ld 25 24,ia 7 25] (rn [im 26 5,im 27 0,im 28 7,ox 29 3 27 28,fa 30 2 29,ld 31 30,oT ⟨some 32,.buildSl 1 [.slice none 0 0] 1 [(0,31)],none⟩ (some (.sl (.pair .str .str),tM)),oT ⟨some 33,.app 1 24 26
 32,none⟩ (some (.sl (.pair .str .str),tM)),ia 5 33]))))) (rn [ob 34 .add 22 (kI 1),im 22 34]))))))))) (sr [im 35 5,⟨⟨some 4,.asg 35,none⟩,none,⟨[],[]⟩,true,none,false,false⟩] .ret))))
def Dx:AFn:=⟨AeH,Fz.erase,[.tmp 4],2⟩
def Ly(P:Pg)(x:((List Commit)×Int))(K:(List (List (Bt8×Bt8)))→Unit→Prop):Prop:=
 (0≤x.2∧x.2<(x.1.length:Int))∧
 (x.2.toNat<x.1.length)∧
 (((((Qa1 (Qa0 x.1 x.2.toNat Ak).1:Nat):Int)==0)=true→K ([[]]:List (List (Bt8×Bt8))) ())∧((((Qa1 (Qa0 x.1 x.2.toNat Ak).1:Nat):Int)==0)=false→(0≤x.2∧x.2<(x.1.length:Int))∧
 (x.2.toNat<x.1.length)∧
 Ah (D:=(List (List (Bt8×Bt8)))) (fun J1=>A4 (D:=((List (List (Bt8×Bt8)))×Int)) ([],(0:Int)) (fun d3 J4=>(((decide (d3.2<((Qa1 (Qa0 x.1 x.2.toNat Ak).1:Nat):Int)))=true→Ah (D:=(List (List (Bt8×Bt8)))) (fun J5=>(0≤d3.2∧d3.2<((Qa1 (Qa0 x.1 x.2.toNat Ak).1:Nat):Int))∧
 (d3.2.toNat<Qa1 (Qa0 x.1 x.2.toNat Ak).1)∧
 (0≤(Qa0 (Qa0 x.1 x.2.toNat Ak).1 d3.2.toNat (0:Int))∧(Qa0 (Qa0 x.1 x.2.toNat Ak).1 d3.2.toNat (0:Int))<(x.1.length:Int))∧
 ((Qa2 (Qa0 (Qa0 x.1 x.2.toNat Ak).1 d3.2.toNat (0:Int)))<x.1.length)∧
 ((d3.1.length+Qa1 ([(Qa0 x.1 (Qa2 (Qa0 (Qa0 x.1 x.2.toNat Ak).1 d3.2.toNat (0:Int))) Ak).2.2]:List (List (Bt8×Bt8))))*24≤140737488355328)∧
 J5 (d3.1++([(Qa0 x.1 (Qa2 (Qa0 (Qa0 x.1 x.2.toNat Ak).1 d3.2.toNat (0:Int))) Ak).2.2]:List (List (Bt8×Bt8))))) (fun d6=>J4 (d6,(i64.wrap (d3.2+1)))))∧((decide (d3.2<((Qa1 (Qa0 x.1 x.2.toNat Ak).1:Nat):Int)))=false→J1 d3.1)))) (fun d2=>K d2 ())))
theorem Qv{P}(h:Has P Dx){x K}(hw:Ly P x K):Fn P AeH Cw x K:=
 zF Fz h hw
def JD:Ar:=
 sr [o1 4 (.asg ni)] (sr [o1 5 (.asg ni)] (sq (sr [im 10 0,im 11 1,oc 12 AeH [10,11] Cw,ol 13 12,o1 14 (.mv (kI 0))] (fk [5,7,8,9] 14 19 (.join [.sl 5 false (.sl (.sl (.pair .str bI))) (.node .own tO)]
 (bk 0 (.loop [.sl 5 false (.sl (.sl (.pair .str bI))) (.node .own tO),.si 14] (sr [ob 15 .lss 14 13] (sq (cx 15 0) (sq (fk [5,7,8,9] 16 16 (.join [.sl 5 false (.sl (.sl (.pair .str bI))) (.node .own tO)] (bk 1 (sr [ox 16 1 12 14,ld 17
 16,ia 7 17] (sr [im 19 7,im 20 0,im 21 1,ox 22 3 20 21,fa 23 2 22,ld 24 23,oc 25 Alb [19,24] Lu,im 18 25,oe 26 18 0,oe 27 18 1,ia 8 26,ia 9 27] (rn [im 28 5,im 29 8,oT ⟨some 30,.buildSl 1 [.slice none 0 0] 1
 [(0,29)],none⟩ (some (.sl (.pair .str bI),tO)),oT ⟨some 31,.app 1 24 28 30,none⟩ (some (.sl (.pair .str bI),tO)),ia 5 31])))))) (rn [ob 32 .add 14 (kI 1),im 14 32]))))))))) (sr [im 33 5,ia 4 33] .ret)))
def FX:AFn:=⟨AeI,JD.erase,[.tmp 4],2⟩
def Re(P:Pg)(x:((List Commit)×Int))(K:(List (List (Bt8×Int)))→Unit→Prop):Prop:=
 Fn P AeH Cw x (fun(d1:(List (List (Bt8×Bt8)))) _=>Ah (D:=(List (List (Bt8×Int)))) (fun J3=>A4 (D:=((List (List (Bt8×Int)))×Int)) ([],(0:Int)) (fun d5 J6=>(((decide (d5.2<(d1.length:Int)))=true→Ah (D:=(List (List (Bt8×Int)))) (fun J7=>(0≤d5.2∧d5.2<(d1.length:Int))∧
 (d5.2.toNat<d1.length)∧
 (0≤x.2∧x.2<(x.1.length:Int))∧
 (x.2.toNat<x.1.length)∧
 Fn P Alb Lu ((Qa0 d1 d5.2.toNat []),(Qa0 x.1 x.2.toNat Ak).2.2) (fun(d9:((List (Bt8×Int))×Int)) _=>((d5.1.length+Qa1 ([d9.1]:List (List (Bt8×Int))))*24≤140737488355328)∧
 J7 (d5.1++([d9.1]:List (List (Bt8×Int)))))) (fun d8=>J6 (d8,(i64.wrap (d5.2+1)))))∧((decide (d5.2<(d1.length:Int)))=false→J3 d5.1)))) (fun d4=>K d4 ()))
theorem XL{P}(h:Has P FX){x K}(hw:Re P x K):Fn P AeI Ej x K:=
 zF JD h hw
def LS:Ar:=
 sr [o1 4 (.asg (.c (.string ⟨#[]⟩))),o1 5 (.asg kF)] (sq (sr [im 8 0,ol 9 8,o1 10 (.mv (kI 0))] (.frame (rg [4,5,7] 10 11) [1007] false (.join [.sl 4 false .str .leaf,.sl 5 false .bool .leaf] (bk 0 (.loop [.sl 4 false .str .leaf,.sl 5 false
 .bool .leaf,.si 10] (sr [ob 11 .lss 10 9] (sq (cx 11 0) (sq (.frame (rg [4,5,7] 12 8) [1007] false (.join [.sl 4 false .str .leaf,.sl 5 false .bool .leaf] (bk 1 (sr [ox 12 2 8 10,o1 13 (.load true 2 12),o1 7 (.alloc [.string ⟨#[]⟩,.string
 ⟨#[]⟩]),o0 ⟨none,.store 2 7 13,none⟩] (sr [fa 14 0 7,ld 15 14,im 16 1,ob 17 .eql 15 16] (cn 17 (sr [fa 18 1 7,ld 19 18,ia 4 19,o1 5 (.asg kT)] .ret) .skip)))))) (rn [ob 20 .add 10 (kI 1),im 10 20]))))))))) (sr [o1 4 (.asg (.c (.string
 ⟨#[]⟩))),o1 5 (.asg kF)] .ret))
def Hb:AFn:=⟨AcF,LS.erase,[.tmp 4,.tmp 5],2⟩
def Ue(P:Pg)(x:((List (Bt8×Bt8))×Bt8))(K:(Bt8×Bool)→Unit→Prop):Prop:=
 Ah (D:=(Bt8×Bool)) (fun J1=>A4 (D:=(Bt8×(Bool×Int))) (([]:List UInt8),(false,(0:Int))) (fun d3 J4=>(((decide (d3.2.2<(x.1.length:Int)))=true→Ah (D:=(Bt8×Bool)) (fun J5=>(0≤d3.2.2∧d3.2.2<(x.1.length:Int))∧
 (d3.2.2.toNat<x.1.length)∧
 ((((Qa0 x.1 d3.2.2.toNat ([],[])).1==x.2)=true→K ((Qa0 x.1 d3.2.2.toNat ([],[])).2,true) ())∧(((Qa0 x.1 d3.2.2.toNat ([],[])).1==x.2)=false→J5 (d3.1,d3.2.1)))) (fun d6=>J4 (d6.1,(d6.2,(i64.wrap (d3.2.2+1))))))∧((decide (d3.2.2<(x.1.length:Int)))=false→J1 (d3.1,d3.2.1))))) (fun d2=>K (([]:List UInt8),false) ())
theorem Zu{P}(h:Has P Hb){x K}(hw:Ue P x K):Fn P AcF Em x K:=
 zF LS h hw
def GY:Ar:=
 sr [o1 4 (.asg ni)] (sr [o1 5 (.asg ni)] (sr [im 16 0,im 17 1,oc 18 AeH [16,17] Cw,ia 6 18] (sq (sr [im 19 0,im 20 1,⟨⟨some 21,.call AeI
 [19,20],none⟩,none,Ej,true,none,false,false⟩,ol 22 21,o1 23 (.mv (kI 0))] (.frame (rg [5,7,8,9,11,12,13,14,15] 23 44) [1011] false (.join [.sl 5 false (.sl (.sl (.pair .str .str))) (.node .own tO)] (bk 0 (.loop [.sl 5 false (.sl
 (.sl (.pair .str .str))) (.node .own tO),.si 23] (sr [ob 24 .lss 23 22] (sq (cx 24 0) (sq (.frame (rg [5,7,8,9,11,12,13,14,15] 25 41) [1011] false (.join [.sl 5 false (.sl (.sl (.pair .str .str))) (.node .own tO)] (bk 1 (sr [im 25 23,ox 26
 1 21 23,ld 27 26,ia 7 25,ia 8 27] (sr [o1 9 (.asg ni)] (sq (sr [im 28 8,ol 29 28,o1 30 (.mv (kI 0))] (.frame (rg [9,11,12,13,14,15] 30 32) [1011] false (.join [.sl 9 false (.sl (.pair .str .str)) tO] (bk 2 (.loop [.sl 9 false (.sl (.pair
 .str .str)) tO,.si 30] (sr [ob 31 .lss 30 29] (sq (cx 31 2) (sq (.frame (rg [9,11,12,13,14,15] 32 29) [1011] false (.join [.sl 9 false (.sl (.pair .str .str)) tO] (bk 3 (sr [ox 32 2 28 30,o1 33 (.load true 2 32),o1 11 (.alloc [.string
 ⟨#[]⟩,.int .i64 0]),o0 ⟨none,.store 2 11 33,none⟩] (sq (fk [12,13] 34 10 (.join [.sl 12 false .str .leaf] (.draw [ti (im 35 6) (ti (im 36 7) (ti (ox 37 1 35 36) (ti (ld 38 37) (ti (fa 39 0 11) (ti (ld 40 39) (.alt (oc 41
 AcF [38,40] Em) (ti (im 34 41) (.alt (oe 42 34 0) (.alt (oe 43 34 1) (.alt (ia 12 42) (.alt (ia 13 43) .done .stop) .stop) (.alt (ia 12 42) (.alt (oe 43 34 1) (.alt (ia 13 43) .done .stop) .stop) .stop)) (.alt
 (oe 43 34 1) (.alt (oe 42 34 0) (.alt (ia 12 42) (.alt (ia 13 43) .done .stop) .stop) .stop) .stop))) .stop))))))]))) (sq (fk [14,15] 44 11 (.join [.sl 14 false .str .leaf] (.draw [ti (im 45 0) (ti (im 46 1) (ti (ox 47 3 45 46) (ti (fa 48
 2 47) (ti (ld 49 48) (ti (fa 50 0 11) (ti (ld 51 50) (.alt (oc 52 AcF [49,51] Em) (ti (im 44 52) (.alt (oe 53 44 0) (.alt (oe 54 44 1) (.alt (ia 14 53) (.alt (ia 15 54) .done .stop) .stop) (.alt (ia 14 53) (.alt
 (oe 54 44 1) (.alt (ia 15 54) .done .stop) .stop) .stop)) (.alt (oe 54 44 1) (.alt (oe 53 44 0) (.alt (ia 14 53) (.alt (ia 15 54) .done .stop) .stop) .stop) .stop))) .stop)))))))]))) (rn [im 55 9,im 56 12,im 57 14,o1 58 (.build [.string
 ⟨#[]⟩,.string ⟨#[]⟩] [(0,1,56),(1,1,57)]),oT ⟨some 59,.buildSl 2 [.string ⟨#[]⟩,.string ⟨#[]⟩] 1 [(0,58)],none⟩ (some (.pair .str .str,.leaf)),oT ⟨some 60,.app 2 32 55 59,none⟩ (some (.pair .str .str,.leaf)),ia 9 60]))))))) (rn [ob 61 .add
 30 (kI 1),im 30 61]))))))))) (rn [im 62 5,im 63 9,oT ⟨some 64,.buildSl 1 [.slice none 0 0] 1 [(0,63)],none⟩ (some (.sl (.pair .str .str),tO)),oT ⟨some 65,.app 1 24 62 64,none⟩ (some (.sl (.pair .str .str),tO)),ia 5 65]))))))) (rn [ob 66
 .add 23 (kI 1),im 23 66]))))))))) (sr [im 67 5,ia 4 67] .ret))))
def Eh:AFn:=⟨AcG,GY.erase,[.tmp 4],2⟩
def NQ(P:Pg)(x:((List Commit)×Int))(K:(List (List (Bt8×Bt8)))→Unit→Prop):Prop:=
 Fn P AeH Cw x (fun(d1:(List (List (Bt8×Bt8)))) _=>Fn P AeI Ej x (fun(d3:(List (List (Bt8×Int)))) _=>Ah (D:=(List (List (Bt8×Bt8)))) (fun J5=>A4 (D:=((List (List (Bt8×Bt8)))×Int)) ([],(0:Int)) (fun d7 J8=>(((decide (d7.2<(d3.length:Int)))=true→Ah (D:=(List (List (Bt8×Bt8)))) (fun J9=>(0≤d7.2∧d7.2<(d3.length:Int))∧
 (d7.2.toNat<d3.length)∧
 Ah (D:=(List (Bt8×Bt8))) (fun J11=>A4 (D:=((List (Bt8×Bt8))×Int)) ([],(0:Int)) (fun d13 J14=>(((decide (d13.2<((Qa1 (Qa0 d3 d7.2.toNat []):Nat):Int)))=true→Ah (D:=(List (Bt8×Bt8))) (fun J15=>(0≤d13.2∧d13.2<((Qa1 (Qa0 d3 d7.2.toNat []):Nat):Int))∧
 (d13.2.toNat<Qa1 (Qa0 d3 d7.2.toNat []))∧
 Ah (D:=Bt8) (fun J17=>(0≤d7.2∧d7.2<(d1.length:Int))∧
 (d7.2.toNat<d1.length)∧
 (Fn P AcF Em ((Qa0 d1 d7.2.toNat []),(Qa0 (Qa0 d3 d7.2.toNat []) d13.2.toNat ([],(0:Int))).1) (fun(d19:(Bt8×Bool)) _=>((((J17 d19.1)∧True)∧True)∧((((J17 d19.1)∧True)∧True)∧True))∧(((((J17 d19.1)∧True)∧True)∧True)∧True)))∧True) (fun d18=>Ah (D:=Bt8) (fun J21=>(0≤x.2∧x.2<(x.1.length:Int))∧
 (x.2.toNat<x.1.length)∧
 (Fn P AcF Em ((Qa0 x.1 x.2.toNat Ak).2.2,(Qa0 (Qa0 d3 d7.2.toNat []) d13.2.toNat ([],(0:Int))).1) (fun(d23:(Bt8×Bool)) _=>((((J21 d23.1)∧True)∧True)∧((((J21 d23.1)∧True)∧True)∧True))∧(((((J21 d23.1)∧True)∧True)∧True)∧True)))∧True) (fun d22=>((d13.1.length+Qa1 ([(d18,d22)]:List (Bt8×Bt8)))*32≤140737488355328)∧
 J15 (d13.1++([(d18,d22)]:List (Bt8×Bt8)))))) (fun d16=>J14 (d16,(i64.wrap (d13.2+1)))))∧((decide (d13.2<((Qa1 (Qa0 d3 d7.2.toNat []):Nat):Int)))=false→J11 d13.1)))) (fun d12=>((d7.1.length+Qa1 ([d12]:List (List (Bt8×Bt8))))*24≤140737488355328)∧
 J9 (d7.1++([d12]:List (List (Bt8×Bt8)))))) (fun d10=>J8 (d10,(i64.wrap (d7.2+1)))))∧((decide (d7.2<(d3.length:Int)))=false→J5 d7.1)))) (fun d6=>K d6 ())))
theorem Tv{P}(h:Has P Eh){x K}(hw:NQ P x K):Fn P AcG CE x K:=
 zF GY h hw
def JF:Ar:=
 sr [o1 2 (.asg kF)] (sr [im 3 0,oc 4 "strings.HasSuffix" [3,.c (.string ⟨#[10]⟩)] CQ,ia 2 4] .ret)
def F0:AFn:=⟨Ajt,JF.erase,[.tmp 2],1⟩
def Rk(P:Pg)(x:Bt8)(K:Bool→Unit→Prop):Prop:=
 Fn P "strings.HasSuffix" CQ (x,([10]:List UInt8)) (fun(d1:Bool) _=>K d1 ())
theorem XR{P}(h:Has P F0){x K}(hw:Rk P x K):Fn P Ajt F4 x K:=
 zF JF h hw
def JE:Ar:=
 sr [ia 2 (kI 0)] (sr [im 4 0,oc 5 "strings.Count" [4,.c (.string ⟨#[10]⟩)] DC,ia 3 5] (sq (sr [im 6 0,ob 7 .neq 6 (.c (.string ⟨#[]⟩)),im 8 7,gt 9 8 (.mv 0),oS ⟨some 10,.call Ajt [9],some (8,true)⟩
 F4,gt 11 8 (.un .not 10),op3 12 8 11 kF] (.frame [3,13,14] [] false (.join [.si 3] (cn 12 (rn [im 13 3,ob 14 .add 13 (kI 1),ia 3 14]) .skip)))) (sq (sr [im 15 0,o1 16 (.lenS 15),ob 17 .gtr 16 (kI 1048576),im 18 17,gf 19 18 (.mv
 3),gf 20 18 (.bin .gtr 19 (kI 4096)),op3 21 18 kT 20] (cn 21 (sr [ia 2 (kI 1)] .ret) .skip)) (sr [ia 2 (kI 0)] .ret))))
def FZ:AFn:=⟨Ahc,JE.erase,[.tmp 2],1⟩
def Rj(P:Pg)(x:Bt8)(K:Int→Unit→Prop):Prop:=
 Fn P "strings.Count" DC (x,([10]:List UInt8)) (fun(d1:Int) _=>Ah (D:=Bool) (fun J3=>(((!(x==([]:List UInt8)))=true→Fn P Ajt F4 x (fun(d4:Bool) _=>J3 d4))∧(((!(x==([]:List UInt8)))=false→J3 false)∧True))) (fun d5=>Ah (D:=Int) (fun J6=>(((cond (!(x==([]:List UInt8))) (!d5) false)=true→J6 (i64.wrap (d1+1)))∧((cond (!(x==([]:List UInt8))) (!d5) false)=false→J6 d1))) (fun d7=>(((cond (decide ((x.length:Int)>1048576)) true (decide (d7>4096)))=true→K (1:Int) ())∧((cond (decide ((x.length:Int)>1048576)) true (decide (d7>4096)))=false→K (0:Int) ())))))
theorem XQ{P}(h:Has P FZ){x K}(hw:Rj P x K):Fn P Ahc ER x K:=
 zF JE h hw
def SF:Ar:=
 sr [o1 2 (.asg ni),ia 3 (kI 0)] (sq (sr [im 6 0,oc 7 Ahc [6] ER,ia 4 7] (sr [im 8 4,ob 9 .neq 8 (kI 0)] (cn 9 (sr [im 10 4,o1 2 (.asg ni),ia 3 10] .ret) .skip))) (sr [im 11 0,oc 12 "strings.SplitAfter" [11,.c
 (.string ⟨#[10]⟩)] Dl,ia 5 12] (sq (sr [im 13 5,im 14 5,ol 15 14,ob 16 .sub 15 (kI 1),ox 17 1 13 16,ld 18 17,ob 19 .eql 18 (.c (.string ⟨#[]⟩))] (fk [5] 20 5 (.join [.sl 5 false (.sl .str) tO] (cn 19 (rn [im 20 5,im 21
 5,ol 22 21,ob 23 .sub 22 (kI 1),o1 24 (.slK 1 20 none (some 23)),ia 5 24]) .skip)))) (sr [im 25 5,ia 2 25,ia 3 (kI 0)] .ret))))
def M5:AFn:=⟨ "mergelens/text.Split",SF.erase,[.tmp 2,.tmp 3],1⟩
def SC:Ar:=
 sr [o1 2 (.asg ni)] (sr [im 6 0,oc 7 Alc [6] E6,im 5 7,oe 8 5 0,oe 9 5 1,ia 3 8,ia 4 9] (sr [im 10 3,ia 2 10] .ret))
def M1:AFn:=⟨ "mergelens/intern.Ids",SC.erase,[.tmp 2],1⟩
def KR:Ar:=
 sr [o1 4 (.asg kF)] (sr [im 5 0,ol 6 5,ob 7 .leq 6 (kI 4096),im 8 7,gt 9 8 (.mv 1),gt 10 8 (.lenK 9),gt 11 8 (.bin .leq 10 (kI 4096)),op3 12 8 11 kF,ia 4 12] .ret)
def G5:AFn:=⟨ "mergelens/shortest.limited",KR.erase,[.tmp 4],2⟩
def N0:Ar:=
 sr [o1 2 (.asg kF)] (sr [im 3 0,ob 4 .geq 3 (kI 0),im 5 4,gt 6 5 (.mv 0),gt 7 5 (.bin .leq 6 (kI 4096)),op3 8 5 7 kF,ia 2 8] .ret)
def Ja:AFn:=⟨AmX,N0.erase,[.tmp 2],1⟩
def KO:Ar:=
 sr [o1 6 (.asg ni),ia 7 (kI 0)] (sq (sr [im 11 1,oc 12 AmX [11] Jc,o1 13 (.un .not 12),im 14 13,gf 15 14 (.mv 2),oS ⟨some 16,.call AmX [15],some (14,false)⟩ Jc,gf 17 14
 (.un .not 16),op3 18 14 kT 17] (cn 18 (sr [o1 6 (.asg ni),ia 7 (kI 80)] .ret) .skip)) (sr [o1 19 (.build [.int .i64 0,.int .i64 0] [(0,1,kI (-1)),(1,1,kI (-1))]),o1 8 (.alloc [.int .i64 0,.int .i64 0]),o0 ⟨none,.store 2 8 19,none⟩] (sq (sr
 [im 20 0,ol 21 20,o1 22 (.mv (kI 0))] (.frame (rg [6,7,10] 22 30) [1008,1010] false (.join [.sl 6 false (.sl ID) tO,.si 7] (bk 0 (.loop [.sl 6 false (.sl ID) tO,.si 7,.si 22,.bx 1008 (.pair bI bI) .leaf] (sr [ob 23 .lss 22 21]
 (sq (cx 23 0) (sq (.frame (rg [6,7,10] 24 27) [1008,1010] false (.join [.sl 6 false (.sl ID) tO,.si 7,.bx 1008 (.pair bI bI) .leaf] (bk 1 (sr [ox 24 2 20 22,o1 25 (.load true 2 24),o1 10 (.alloc [.int .i64 0,.int .i64 0]),o0
 ⟨none,.store 2 10 25,none⟩] (sq (sr [fa 26 0 10,ld 27 26,fa 28 0 8,ld 29 28,ob 30 .leq 27 29,im 31 30,gf 32 31 (.fAddr 0 10),gf 33 31 (.load false 1 32),gf 34 31 (.mv 1),gf 35 31 (.bin .geq 33 34),op3 36 31 kT 35,im 37 36,gf 38 37 (.fAddr
 1 10),gf 39 37 (.load false 1 38),gf 40 37 (.fAddr 1 8),gf 41 37 (.load false 1 40),gf 42 37 (.bin .leq 39 41),op3 43 37 kT 42,im 44 43,gf 45 44 (.fAddr 1 10),gf 46 44 (.load false 1 45),gf 47 44 (.mv 2),gf 48 44 (.bin .geq 46 47),op3 49
 44 kT 48] (cn 49 (sr [o1 6 (.asg ni),ia 7 (kI 3)] .ret) .skip)) (rn [o1 50 (.load true 2 10),o0 ⟨none,.store 2 8 50,none⟩])))))) (rn [ob 51 .add 22 (kI 1),im 22 51]))))))))) (sr [im 52 0,im 53 1,im 54 2,oc 55 AmY
 [52,53,54] EP,ia 6 55,ia 7 (kI 0)] .ret))))
def G4:AFn:=⟨ "mergelens/script.FromPairs",KO.erase,[.tmp 6,.tmp 7],3⟩
def LQ:Ar:=
 sr [o1 4 (.asg ni),ia 5 (kI 0)] (sq (sr [im 6 0,im 7 1,oc 8 "mergelens/shortest.limited" [6,7] JZ,o1 9 (.un .not 8)] (cn 9 (sr [o1 4 (.asg ni),ia 5 (kI 1)] .ret) .skip)) (sr [im 10 0,im 11 1,oc 12 AmZ
 [10,11] GS,im 13 0,ol 14 13,im 15 1,ol 16 15,oc 17 "mergelens/script.FromPairs" [12,14,16] JY,oe 18 17 0,oe 19 17 1,ia 4 18,ia 5 19] .ret))
def Hq:AFn:=⟨ "mergelens/shortest.Script",LQ.erase,[.tmp 4,.tmp 5],2⟩
def Jm:Ar:=
 sr [o1 3 (.asg kF)] (sr [im 4 0,ob 5 .geq 4 (kI 0),im 6 5,gt 7 6 (.mv 0),gt 8 6 (.load false 1 1),gt 9 6 (.bin .lss 7 8),op3 10 6 9 kF,ia 3 10] .ret)
def Gt:AFn:=⟨ "mergelens/automaton.Check\x241",Jm.erase,[.tmp 3],2⟩
def LM:Ar:=
 sr [o1 1 (.box 0),ia 2 (kI 0)] (sr [fa 8 0 1,ld 9 8,ol 10 9,o1 3 (.alloc [.int .i64 0]),o0 ⟨none,.store 1 3 10,none⟩] (sr [o1 11 (.mkf ("mergelens/automaton.Check\x241",false) [3]),ia 4 11] (sq (sr [ld 12 3,ob 13 .lss 12 (kI 1),im 14 13,gf
 15 14 (.load false 1 3),gf 16 14 (.bin .gtr 15 (kI 8000)),op3 17 14 kT 16,im 18 17,⟨⟨some 19,.mv 4,some (18,false)⟩,none,⟨[],[]⟩,false,some 18,true,false⟩,⟨⟨some 20,.fAddr 1 1,some (18,false)⟩,none,⟨[],[]⟩,false,none,true,false⟩,⟨⟨some
 21,.load false 1 20,some (18,false)⟩,none,⟨[],[]⟩,false,none,true,false⟩,⟨⟨some 22,.callv 19 [21],some (18,false)⟩,none,Ey,false,none,true,true⟩,⟨⟨some 23,.un .not 22,some (18,false)⟩,none,⟨[],[]⟩,false,none,true,true⟩,op3
 24 18 kT 23] (cn 24 (sr [ia 2 (kI 2)] .ret) .skip)) (sq (sr [fa 25 0 1,ld 26 25,ol 27 26,o1 28 (.mv (kI 0))] (.frame (rg [2,6,7] 28 28) [1003,1006] true (.join [.si 2] (bk 0 (.loop [.si 2,.si 28,.bx 1003 bI .leaf] (sr [ob 29 .lss 28 27]
 (sq (cx 29 0) (sq (.frame (rg [2,6,7] 30 25) [1003,1006] true (.join [.si 2,.bx 1003 bI .leaf] (bk 1 (sr [ox 30 7 26 28,o1 31 (.load true 7 30),o1 6 (.alloc [.int .i64 0,.int .u64 0,.int .u64 0,.int .u64 0,.int .u64 0,.int .i64 0,.int .i64
 0]),o0 ⟨none,.store 7 6 31,none⟩] (sr [im 32 4,fa 33 5 6,ld 34 33,oS ⟨some 35,.callv 32 [34],none⟩ Ey,ia 7 35] (sq (sr [fa 36 0 6,ld 37 36] (.frame (rg [7] 38 15) [1003] true (.join [.sl 7 false .bool .leaf,.bx 1003 bI
 .leaf] (bk 2 (sq (sr [ob 39 .eql 37 (kI 0),ia 38 39] (.frame [38,40,41] [] false (.join [.sl 38 false .bool .leaf] (cn 38 .skip (sr [ob 40 .eql 37 (kI 2),ia 38 40] (.frame [38,41] [] false (.join [.sl 38 false .bool .leaf] (cn 38 .skip (rn
 [ob 41 .eql 37 (kI 3),ia 38 41]))))))))) (.frame (rg [7] 42 11) [1003] true (.join [.sl 7 false .bool .leaf,.bx 1003 bI .leaf] (cn 38 .skip (sr [ob 43 .eql 37 (kI 1),ia 42 43] (.frame (rg [7] 44 9) [1003] true (.join [.sl 7 false .bool
 .leaf,.bx 1003 bI .leaf] (cn 42 (rn [im 44 7,im 45 44,⟨⟨some 46,.mv 4,some (45,true)⟩,none,⟨[],[]⟩,false,some 45,true,false⟩,⟨⟨some 47,.fAddr 6 6,some (45,true)⟩,none,⟨[],[]⟩,false,none,true,false⟩,⟨⟨some 48,.load false 1 47,some
 (45,true)⟩,none,⟨[],[]⟩,false,none,true,false⟩,⟨⟨some 49,.callv 46 [48],some (45,true)⟩,none,Ey,false,none,true,true⟩,op3 50 45 49 kF,ia 7 50]) (sr [ob 52 .eql 37 (kI 4),ia 51 52] (.frame [7] [] false (.join [.sl 7 false
 .bool .leaf] (cn 51 (rn [o1 7 (.asg kT)]) (rn [o1 7 (.asg kF)]))))))))))))))))) (sr [im 53 7,o1 54 (.un .not 53)] (cn 54 (sr [ia 2 (kI 2)] .ret) .skip)))))))) (rn [ob 55 .add 28 (kI 1),im 28 55]))))))))) (sr [ia 2 (kI 0)] .ret)))))
def Hm:AFn:=⟨ "mergelens/automaton.Check",LM.erase,[.tmp 2],1⟩
def O9:Ar:=
 sr [o1 3 (.box 0),o1 6 (.asg (.c (.pointer none)))] (sq (.frame (rg [] 6 10) [1015] false (.join [.pt 6 1015 0,.bx 1015 AJ (.pair (.pair tM .leaf) (.pair .leaf (.pair .leaf (.pair tO tO))))] (.draw [ti (im 8 1) (ti (im 9 2) (ti
 (fa 10 0 3) (ti (ld 11 10) (ti (ol 12 11) (.alt (o1 7 (.load true 2 3)) (.alt (oT ⟨some 13,.mkSl 1 1 [.bool false] 12 12,none⟩ (some (.bool,.leaf))) (ti (o1 14 (.build [.slice none 0 0,.int .i64 0,.string ⟨#[]⟩,.int .i64 0,.slice none 0
 0,.slice none 0 0] [(0,2,7),(2,1,8),(3,1,9),(5,1,13)])) (.alt (o1 15 (.box 14)) (.alt (ia 6 15) .done .stop) .stop)) .stop) (.alt (oT ⟨some 13,.mkSl 1 1 [.bool false] 12 12,none⟩ (some (.bool,.leaf))) (ti (o1 7 (.load true 2 3)) (ti (o1 14
 (.build [.slice none 0 0,.int .i64 0,.string ⟨#[]⟩,.int .i64 0,.slice none 0 0,.slice none 0 0] [(0,2,7),(2,1,8),(3,1,9),(5,1,13)])) (.alt (o1 15 (.box 14)) (.alt (ia 6 15) .done .stop) .stop))) .stop))))))]))) .ret)
def JT:AFn:=⟨ "mergelens/search.start",O9.erase,[.tmp 6],3⟩
def LN:Ar:=
 sr [o1 3 (.box 0),o1 6 (.asg ni)] (sq (sr [fa 7 0 3,ld 8 7] (fk [6] 9 19 (.join [.sl 6 false (.sl bI) tO] (bk 0 (sr [ob 10 .eql 8 (kI 1),ia 9 10] (cn 9 (sr [fa 11 5 3,ld 12 11,fa 13 6 3,ld 14 13,oT ⟨some 15,.buildSl 1 [.int .i64 0] 2
 [(0,12),(1,14)],none⟩ (some (bI,.leaf)),ia 6 15] .ret) (sr [ob 17 .eql 8 (kI 2),ia 16 17] (fk [6] 18 10 (.join [.sl 6 false (.sl bI) tO] (cn 16 (sr [im 18 1] (cn 18 (sr [fa 19 5 3,ld 20 19,oT ⟨some 21,.buildSl 1 [.int .i64 0] 1
 [(0,20)],none⟩ (some (bI,.leaf)),ia 6 21] .ret) .skip)) (sr [ob 23 .eql 8 (kI 3),ia 22 23] (fk [6] 24 4 (.join [.sl 6 false (.sl bI) tO] (cn 22 (sr [im 24 2] (cn 24 (sr [fa 25 5 3,ld 26 25,oT ⟨some 27,.buildSl 1 [.int .i64 0] 1
 [(0,26)],none⟩ (some (bI,.leaf)),ia 6 27] .ret) .skip)) .skip)))))))))))))) (sr [o1 6 (.asg ni)] .ret))
def Hn:AFn:=⟨ "mergelens/automaton.Steps",LN.erase,[.tmp 6],3⟩
def I4:Ar:=
 sr [o1 3 (.box 1)] (sr [fa 6 0 3,ld 7 6,oT ⟨some 8,.buildSl 1 [.int .i64 0] 1 [(0,7)],none⟩ (some (bI,.leaf)),ia 4 8] (.frame (rg [4,5] 9 66) [0] true (.join [.bx 0 AJ (.pair (.pair tM .leaf) (.pair .leaf (.pair .leaf (.pair tO
 tO))))] (bk 0 (.loop [.sl 4 false (.sl bI) tO,.bx 0 AJ (.pair (.pair tM .leaf) (.pair .leaf (.pair .leaf (.pair tO tO))))] (sq (sr [im 9 4,ol 10 9,ob 11 .gtr 10 (kI 0)] (cx 11 0)) (.frame (rg [4,5] 12 63) [0] true (.join [.sl
 4 false (.sl bI) tO,.bx 0 AJ (.pair (.pair tM .leaf) (.pair .leaf (.pair .leaf (.pair tO tO))))] (bk 1 (sr [im 12 4,im 13 4,ol 14 13,ob 15 .sub 14 (kI 1),ox 16 1 12 15,ld 17 16,ia 5 17] (sr [im 18 4,im 19 4,ol 20 19,ob 21 .sub
 20 (kI 1),o1 22 (.slK 1 18 none (some 21)),ia 4 22] (sq (sr [im 23 0,o1 24 (.nilc 23),fa 25 5 24,ld 26 25,im 27 5,ox 28 1 26 27,ld 29 28] (cn 29 (.exit 1) .skip)) (sr [im 30 0,o1 31 (.nilc 30),fa 32 5 31,ld 33 32,im 34 5,ox 35 1 33 34,o0
 ⟨none,.store 1 35 kT,none⟩] (sq (.frame (rg [] 36 13) [0] true (.join [.bx 0 AJ (.pair (.pair tM .leaf) (.pair .leaf (.pair .leaf (.pair tO tO))))] (.draw [ti (im 36 0) (ti (im 37 0) (ti (o1 38 (.nilc 37)) (ti (fa 39 4 38) (ti
 (im 41 5) (ti (fa 42 1 3) (ti (ld 43 42) (ti (o1 44 (.build [.int .i64 0,.int .i64 0] [(0,1,41),(1,1,43)])) (.alt (ld 40 39) (.alt (oT ⟨some 45,.buildSl 2 [.int .i64 0,.int .i64 0] 1 [(0,44)],none⟩ (some (.pair bI bI,.leaf))) (.alt (oT
 ⟨some 46,.app 2 16 40 45,none⟩ (some (.pair bI bI,.leaf))) (ti (o1 47 (.nilc 36)) (ti (fa 48 4 47) (.alt (o0 ⟨none,.store 1 48 46,none⟩) .done .stop))) .stop) .stop) (.alt (oT ⟨some 45,.buildSl 2 [.int .i64 0,.int .i64 0] 1 [(0,44)],none⟩
 (some (.pair bI bI,.leaf))) (ti (ld 40 39) (.alt (oT ⟨some 46,.app 2 16 40 45,none⟩ (some (.pair bI bI,.leaf))) (ti (o1 47 (.nilc 36)) (ti (fa 48 4 47) (.alt (o0 ⟨none,.store 1 48 46,none⟩) .done .stop))) .stop)) .stop)))))))))]))) (fk [4]
 49 26 (.join [.sl 4 false (.sl bI) tO] (.draw [ti (im 49 4) (ti (im 50 0) (ti (o1 51 (.nilc 50)) (ti (fa 52 0 51) (ti (fa 53 0 52) (ti (ld 54 53) (ti (im 55 5) (ti (ox 56 7 54 55) (ti (o1 57 (.load true 7 56)) (ti (im 58 0) (ti (o1 59
 (.nilc 58)) (ti (fa 60 3 59) (ti (ld 61 60) (ti (ob 62 .eql 61 (kI 0)) (ti (im 63 0) (ti (o1 64 (.nilc 63)) (ti (fa 65 3 64) (ti (ld 66 65) (ti (im 67 0) (ti (o1 68 (.nilc 67)) (ti (fa 69 2 68) (ti (ld 70 69) (ti (o1 71 (.lenS 70)) (ti (ob
 72 .eql 66 71) (.alt (oc 73 "mergelens/automaton.Steps" [57,62,72] Lp) (.alt (oT ⟨some 74,.app 1 8 49 73,none⟩ (some (bI,.leaf))) (.alt (ia 4 74) .done .stop) .stop) .stop))))))))))))))))))))))))])))))))))))))))))
def FC:AFn:=⟨Am0,I4.erase,[],2⟩
def Gr:Ar:=
 sr [ia 2 (kI 0)] (sq (sr [im 5 0,o1 6 (.nilc 5),fa 7 4 6,ld 8 7,ol 9 8,o1 10 (.mv (kI 0))] (.frame (rg [2,4] 10 18) [1004] false (.join [.si 2] (bl 0 [2,10] (sr [ob 11 .lss 10 9] (sq (cx 11 0) (sq (.frame (rg [2,4] 12 15) [1004] false
 (.join [.si 2] (bk 1 (sr [ox 12 2 8 10,o1 13 (.load true 2 12),o1 4 (.alloc [.int .i64 0,.int .i64 0]),o0 ⟨none,.store 2 4 13,none⟩] (sq (.draw [ti (im 14 0) (ti (o1 15 (.nilc 14)) (ti (fa 16 0 15) (ti (fa 17 0 16) (ti (ld 18 17) (ti (fa
 19 0 4) (ti (ld 20 19) (ti (ox 21 7 18 20) (ti (fa 22 0 21) (ti (ld 23 22) (ti (ob 24 .eql 23 (kI 4)) .done))))))))))]) (cn 24 (sr [fa 25 1 4,ld 26 25,ia 2 26] .ret) .skip)))))) (rn [ob 27 .add 10 (kI 1),im 10 27])))))))) (sr [ia 2 (kI
 (-1))] .ret))
def Ee:AFn:=⟨An4,Gr.erase,[.tmp 2],1⟩
def Ie:Ar:=
 sr [im 6 0,o1 7 (.nilc 6),fa 8 4 7,ld 9 8,ol 10 9,o1 11 (.mv (kI 0))] (.frame (rg [4,5,9] 11 19) [0,1005] true (.join [.bx 0 AJ (.pair (.pair tM .leaf) (.pair .leaf (.pair .leaf (.pair tO tO))))] (bk 0 (.loop [.rf 9 ⟨.obj 0
 4,[]⟩ .leaf (.pair bI bI),.si 11,.bx 0 AJ (.pair (.pair tM .leaf) (.pair .leaf (.pair .leaf (.pair tO tO))))] (sr [ob 12 .lss 11 10] (sq (cx 12 0) (sq (.frame (rg [4,5,9] 13 16) [0,1005] true (.join [.rf 9 ⟨.obj 0 4,[]⟩ .leaf
 (.pair bI bI),.bx 0 AJ (.pair (.pair tM .leaf) (.pair .leaf (.pair .leaf (.pair tO tO))))] (bk 1 (sr [im 13 11,ox 14 2 9 11,o1 15 (.load true 2 14),o1 5 (.alloc [.int .i64 0,.int .i64 0]),ia 4 13,o0 ⟨none,.store 2 5 15,none⟩]
 (sr [fa 16 1 5,ld 17 16,im 18 1,ob 19 .gtr 17 18] (cn 19 (sr [im 20 0,im 21 0,o1 22 (.nilc 21),fa 23 4 22,ld 24 23,im 25 4,o1 26 (.slK 2 24 none (some 25)),o1 27 (.nilc 20),fa 28 4 27,o0 ⟨none,.store 1 28 26,none⟩] .ret) .skip)))))) (rn
 [ob 29 .add 11 (kI 1),im 11 29]))))))))
def Fk:AFn:=⟨ "(*mergelens/search.machine).keep",Ie.erase,[],2⟩
def Ig:Ar:=
 sq (fk [2] 7 9 (.join [.sl 2 false (.int .u8) .leaf] (.draw [ti (im 7 0) (ti (o1 8 (.nilc 7)) (ti (fa 9 2 8) (ti (ld 10 9) (ti (im 11 0) (ti (o1 12 (.nilc 11)) (ti (fa 13 3 12) (ti (ld 14 13) (ti (o1 15 (.ixS 10 14)) (.alt (ia 2 15) .done
 .stop)))))))))]))) (sr [im 16 0,o1 17 (.nilc 16),fa 18 3 17,ld 19 18,ob 20 .add 19 (kI 1),o1 21 (.nilc 16),fa 22 3 21,o0 ⟨none,.store 1 22 20,none⟩] (sr [im 23 0,o1 24 (.nilc 23),fa 25 4 24,ld 26 25,ia 3 26] (sq (.frame (rg [] 27 13) [0]
 true (.join [.bx 0 AJ (.pair (.pair tM .leaf) (.pair .leaf (.pair .leaf (.pair tO tO))))] (.draw [ti (im 27 0) (ti (im 28 0) (ti (im 29 0) (ti (o1 30 (.nilc 29)) (ti (fa 31 0 30) (ti (fa 32 0 31) (ti (ld 33 32) (ti (ol 34 33)
 (ti (o1 36 (.nilc 27)) (ti (fa 37 4 36) (.alt (oT ⟨some 35,.mkSl 1 1 [.bool false] 34 34,none⟩ (some (.bool,.leaf))) (.alt (o0 ⟨none,.store 1 37 ni,none⟩) (ti (o1 38 (.nilc 28)) (ti (fa 39 5 38) (.alt (o0 ⟨none,.store 1 39 35,none⟩) .done
 .stop))) .stop) (.alt (o0 ⟨none,.store 1 37 ni,none⟩) (.alt (oT ⟨some 35,.mkSl 1 1 [.bool false] 34 34,none⟩ (some (.bool,.leaf))) (ti (o1 38 (.nilc 28)) (ti (fa 39 5 38) (.alt (o0 ⟨none,.store 1 39 35,none⟩) .done .stop))) .stop)
 .stop)))))))))))]))) (sr [im 40 3,ol 41 40,o1 42 (.mv (kI 0))] (.frame (rg [5,6] 42 36) [0,1005,1006] true (.join [.bx 0 AJ (.pair (.pair tM .leaf) (.pair .leaf (.pair .leaf (.pair tO tO))))] (bk 0 (.loop [.si 42,.bx 0
 AJ (.pair (.pair tM .leaf) (.pair .leaf (.pair .leaf (.pair tO tO))))] (sr [ob 43 .lss 42 41] (sq (cx 43 0) (sq (.frame (rg [5,6] 44 33) [0,1005,1006] true (.join [.bx 0 AJ (.pair (.pair tM .leaf) (.pair .leaf
 (.pair .leaf (.pair tO tO))))] (bk 1 (sr [ox 44 2 40 42,o1 45 (.load true 2 44),o1 5 (.alloc [.int .i64 0,.int .i64 0]),o0 ⟨none,.store 2 5 45,none⟩] (sq (.frame (rg [6] 46 9) [1006] false (.join [.pt 6 1006 0,.bx 1006 DE .leaf] (.draw
 [ti (im 46 0) (ti (o1 47 (.nilc 46)) (ti (fa 48 0 47) (ti (fa 49 0 48) (ti (fa 51 0 5) (.alt (ld 50 49) (.alt (ld 52 51) (ti (ox 53 7 50 52) (.alt (o1 54 (.load true 7 53)) (.alt (o1 6 (.alloc [.int .i64 0,.int .u64 0,.int .u64 0,.int .u64
 0,.int .u64 0,.int .i64 0,.int .i64 0])) (.alt (o0 ⟨none,.store 7 6 54,none⟩) .done .stop) .stop) (.alt (o1 6 (.alloc [.int .i64 0,.int .u64 0,.int .u64 0,.int .u64 0,.int .u64 0,.int .i64 0,.int .i64 0])) (ti (o1 54 (.load true 7 53))
 (.alt (o0 ⟨none,.store 7 6 54,none⟩) .done .stop)) .stop))) (.alt (o1 6 (.alloc [.int .i64 0,.int .u64 0,.int .u64 0,.int .u64 0,.int .u64 0,.int .i64 0,.int .i64 0])) (ti (ld 52 51) (ti (ox 53 7 50 52) (ti (o1 54 (.load true 7 53)) (.alt
 (o0 ⟨none,.store 7 6 54,none⟩) .done .stop)))) .stop)) (.alt (ld 52 51) (.alt (ld 50 49) (ti (ox 53 7 50 52) (.alt (o1 54 (.load true 7 53)) (.alt (o1 6 (.alloc [.int .i64 0,.int .u64 0,.int .u64 0,.int .u64 0,.int .u64 0,.int .i64 0,.int
 .i64 0])) (.alt (o0 ⟨none,.store 7 6 54,none⟩) .done .stop) .stop) (.alt (o1 6 (.alloc [.int .i64 0,.int .u64 0,.int .u64 0,.int .u64 0,.int .u64 0,.int .i64 0,.int .i64 0])) (ti (o1 54 (.load true 7 53)) (.alt (o0 ⟨none,.store 7 6
 54,none⟩) .done .stop)) .stop))) (.alt (o1 6 (.alloc [.int .i64 0,.int .u64 0,.int .u64 0,.int .u64 0,.int .u64 0,.int .i64 0,.int .i64 0])) (ti (ld 50 49) (ti (ox 53 7 50 52) (ti (o1 54 (.load true 7 53)) (.alt (o0 ⟨none,.store 7 6
 54,none⟩) .done .stop)))) .stop)) (.alt (o1 6 (.alloc [.int .i64 0,.int .u64 0,.int .u64 0,.int .u64 0,.int .u64 0,.int .i64 0,.int .i64 0])) (ti (ld 50 49) (ti (ld 52 51) (ti (ox 53 7 50 52) (ti (o1 54 (.load true 7 53)) (.alt (o0
 ⟨none,.store 7 6 54,none⟩) .done .stop))))) .stop)))))))]))) (sr [fa 55 0 6,ld 56 55,ob 57 .eql 56 (kI 0),im 58 57,gt 59 58 (.mv 2),gt 60 58 (.bin .quo 59 (.c (.int .u8 64))),gt 61 58 (.fAddr 1 6),gt 62 58 (.ixAr 4 1 61 60),gt 63 58 (.load
 false 1 62),gt 64 58 (.mv 2),gt 65 58 (.bin .rem 64 (.c (.int .u8 64))),gt 66 58 (.bin .shr 63 65),gt 67 58 (.bin .and 66 (.c (.int .u64 1))),gt 68 58 (.bin .eql 67 (.c (.int .u64 1))),op3 69 58 68 kF] (.frame (rg [] 70 7) [0] true (.join
 [.bx 0 AJ (.pair (.pair tM .leaf) (.pair .leaf (.pair .leaf (.pair tO tO))))] (cn 69 (rn [im 70 0,fa 71 5 6,ld 72 71,fa 73 1 5,ld 74 73,o1 75 (.build [.int .i64 0,.int .i64 0] [(0,1,72),(1,1,74)]),oc 76
 Am0 [70,75] FH]) .skip))))))))) (rn [ob 77 .add 42 (kI 1),im 42 77]))))))))))))
def Fl:AFn:=⟨ "(*mergelens/search.machine).read",Ig.erase,[],1⟩
def P8:Ar:=
 sr [o1 3 (.box 0),o1 6 (.alloc [.int .i64 0,.int .i64 0]),o1 7 (.asg kF)] (sr [o1 12 (.load true 2 3),im 13 1,im 14 2,oc 15 "mergelens/search.start" [12,13,14] Oh,ia 8 15] (sr [o1 9 (.alloc [.int .i64 0,.int .i64 0])] (sr [o1 10
 (.asg kF)] (.frame (rg [7,10,11] 16 46) [1006,1009,1015] true (bk 0 (.loop [.sl 7 false .bool .leaf,.sl 10 false .bool .leaf,.bx 1006 (.pair bI bI) .leaf,.bx 1009 (.pair bI bI) .leaf,.bx 1015 AJ (.pair (.pair tM .leaf) (.pair
 .leaf (.pair .leaf (.pair tO tO))))] (.frame (rg [7,10,11] 16 46) [1006,1009,1015] true (.join [.sl 7 false .bool .leaf,.sl 10 false .bool .leaf,.bx 1006 (.pair bI bI) .leaf,.bx 1009 (.pair bI bI) .leaf,.bx 1015 AJ (.pair
 (.pair tM .leaf) (.pair .leaf (.pair .leaf (.pair tO tO))))] (bk 1 (sq (sr [im 16 10,o1 17 (.un .not 16)] (.frame (rg [] 18 9) [1015] true (.join [.bx 1015 AJ (.pair (.pair tM .leaf) (.pair .leaf (.pair .leaf (.pair tO tO))))]
 (cn 17 (.frame (rg [] 18 9) [1015] true (.join [.bx 1015 AJ (.pair (.pair tM .leaf) (.pair .leaf (.pair .leaf (.pair tO tO))))] (.draw [ti (im 18 8) (ti (fa 19 1 3) (ti (ld 20 19) (ti (im 21 8) (ti (o1 22 (.nilc 21)) (ti (fa
 23 3 22) (ti (ld 24 23) (ti (o1 25 (.build [.int .i64 0,.int .i64 0] [(0,1,20),(1,1,24)])) (.alt (oc 26 Am0 [18,25] FH) .done .stop))))))))]))) .skip)))) (sq (sr [im 27 8,oc 28
 An4 [27] Gj,ia 11 28] (sr [im 29 11,ob 30 .geq 29 (kI 0)] (.frame (rg [10] 31 9) [1009,1015] true (.join [.sl 10 false .bool .leaf,.bx 1009 (.pair bI bI) .leaf,.bx 1015
 AJ (.pair (.pair tM .leaf) (.pair .leaf (.pair .leaf (.pair tO tO))))] (cn 30 (sr [im 31 11,im 32 8,o1 33 (.nilc 32),fa 34 3 33,ld 35 34,o1 36 (.build [.int .i64 0,.int .i64 0] [(0,1,31),(1,1,35)]),o0 ⟨none,.store 2 9
 36,none⟩,o1 10 (.asg kT)] (rn [im 37 8,im 38 11,oc 39 "(*mergelens/search.machine).keep" [37,38] H5])) .skip))))) (sq (sr [im 40 8,o1 41 (.nilc 40),fa 42 3 41,ld 43 42,im 44 1,o1 45 (.lenS 44),ob 46 .eql 43 45,im 47
 46,gf 48 47 (.mv 10),gf 49 47 (.mv 48),gt 50 49 (.mv 8),gt 51 49 (.nilc 50),gt 52 49 (.fAddr 4 51),gt 53 49 (.load false 1 52),gt 54 49 (.lenK 53),gt 55 49 (.bin .eql 54 (kI 0)),gf 56 47 (.pick 49 55 kF),op3 57 47 kT 56] (cn 57 (sr [o1 58
 (.load true 2 9),im 59 10,o0 ⟨none,.store 2 6 58,none⟩,ia 7 59] .ret) .skip)) (rn [im 60 8,oc 61 "(*mergelens/search.machine).read" [60] H6])))))))))))))
def LX:AFn:=⟨ "mergelens/search.find",P8.erase,[.cell 6 true 2,.tmp 7],3⟩
def SE:Ar:=
 sr [o1 2 (.box 0),o1 4 (.asg kF),ia 5 (kI 0)] (sq (sr [o1 9 (.load true 2 2),oc 10 "mergelens/automaton.Check" [9] Lo,ia 6 10] (sr [im 11 6,ob 12 .neq 11 (kI 0)] (cn 12 (sr [im 13 6,o1 4 (.asg kF),ia 5 13] .ret) .skip))) (sr
 [o1 15 (.load true 2 2),im 16 1,oc 17 "mergelens/search.find" [15,16,kI 0] PV,im 14 17,oe 18 14 0,oe 19 14 1,o1 7 (.alloc [.int .i64 0,.int .i64 0]),o0 ⟨none,.store 2 7 18,none⟩,ia 8 19] (sr [im 20 8,ia 4 20,ia 5 (kI 0)] .ret)))
def M4:AFn:=⟨ "mergelens/search.Any",SE.erase,[.tmp 4,.tmp 5],2⟩
def UG:Ar:=
 sr [o1 2 (.asg (.c (.string ⟨#[]⟩)))] (sr [im 3 0,oc 4 "strings.TrimSuffix" [3,.c (.string ⟨#[10]⟩)] Dm,ia 2 4] .ret)
def Od:AFn:=⟨Ald,UG.erase,[.tmp 2],1⟩
end Go.VS
