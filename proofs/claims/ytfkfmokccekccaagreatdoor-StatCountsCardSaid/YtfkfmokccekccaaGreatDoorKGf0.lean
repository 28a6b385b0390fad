/- Functions of the program: typed code, and what it says, lifted. -/
import Derived.Test.YtfkfmokccekccaaGreatDoorKTxSig
import Derived.KernelRfl
set_option linter.unusedVariables false
set_option linter.unusedSimpArgs false
set_option maxRecDepth 8000
open List renaming getD → Qa0, length → Qa1
open Int renaming tmod → Qa2, toNat → Qa3
open BitVec renaming ofInt → Qa4, toNat → Qa5
namespace Go.VS
open IntKind
def Sl:Ax:=
 sr [ia 4 (kI 0)] (sr [im 5 0,o1 6 (.conv (.toInt .u64) 5),im 7 1,o1 8 (.conv (.toInt .u64) 7),ob 9 .rem 6 8,o1 10 (.conv (.toInt .i64) 9),ia 4 10] .ret)
def NZ:AFn:=⟨zS1,Sl.erase,[.tmp 4],2⟩
def XF(P:Pg)(x:(Int×Int))(K:Int→Unit→Prop):Prop:=
 ((u64.wrap x.2)≠0)∧
 K (i64.wrap (Qa2 (u64.wrap x.1) (u64.wrap x.2))) ()
theorem Adt{P}(h:Has P NZ){x K}(hw:XF P x K):Fn P zS1 Cb x K:=
 ZF Sl h hw
def V8:Ax:=
 sr [ia 4 (kI 0)] (sr [im 6 1,ob 7 .add 6 (kI 1),o1 8 (.conv (.toInt .u64) 7),ob 9 .mul 8 (.c (.int .u64 11400714819323198485)),ia 5 9] (sq (sr [im 10 0,ol 11 10,ob 12 .gtr 11 (kI 0)] (fk [5] 13 10 (.join [.sl 5 false (.int .u64) .leaf] (cn
 12 (rn [im 13 5,im 14 0,im 15 1,im 16 0,ol 17 16,ob 18 .rem 15 17,ox 19 1 14 18,ld 20 19,o1 21 (.conv (.toInt .u64) 20),ob 22 .xor 13 21,ia 5 22]) .skip)))) (sr [im 23 5,im 24 5,ob 25 .shr 24 (.c (.int .u64 31)),ob 26 .xor 23 25,ob 27 .mul
 26 (.c (.int .u64 13787848793156543929)),ia 5 27] (sr [im 28 5,im 29 5,ob 30 .shr 29 (.c (.int .u64 29)),ob 31 .xor 28 30,ob 32 .shr 31 (.c (.int .u64 1)),o1 33 (.conv (.toInt .i64) 32),ia 4 33] .ret))))
def P5:AFn:=⟨zS0,V8.erase,[.tmp 4],2⟩
def Aaj(P:Pg)(x:((List Int)×Int))(K:Int→Unit→Prop):Prop:=
 Ac (D:=Int) (fun J1=>(((decide ((x.1.length:Int)>0))=true→((x.1.length:Int)≠0)∧
 (0≤(Qa2 x.2 (x.1.length:Int))∧(Qa2 x.2 (x.1.length:Int))<(x.1.length:Int))∧
 ((Qa3 (Qa2 x.2 (x.1.length:Int)))<x.1.length)∧
 J1 (u64.wrap ((Qa5 (Qa4 u64.bits (u64.wrap ((u64.wrap (i64.wrap (x.2+1)))*11400714819323198485))^^^Qa4 u64.bits (u64.wrap (Qa0 x.1 (Qa3 (Qa2 x.2 (x.1.length:Int))) (0:Int)))):Nat):Int)))∧((decide ((x.1.length:Int)>0))=false→J1 (u64.wrap ((u64.wrap (i64.wrap (x.2+1)))*11400714819323198485))))) (fun d2=>(0≤(31:Int))∧
 (0≤(29:Int))∧
 (0≤(1:Int))∧
 K (i64.wrap (Int.fdiv (u64.wrap ((Qa5 (Qa4 u64.bits (u64.wrap ((u64.wrap ((Qa5 (Qa4 u64.bits d2^^^Qa4 u64.bits (Int.fdiv d2 (2^(min (Qa3 (31:Int)) u64.bits)))):Nat):Int))*13787848793156543929))^^^Qa4 u64.bits (Int.fdiv (u64.wrap ((u64.wrap ((Qa5 (Qa4 u64.bits d2^^^Qa4 u64.bits (Int.fdiv d2 (2^(min (Qa3 (31:Int)) u64.bits)))):Nat):Int))*13787848793156543929)) (2^(min (Qa3 (29:Int)) u64.bits)))):Nat):Int)) (2^(min (Qa3 (1:Int)) u64.bits)))) ())
theorem Af7{P}(h:Has P P5){x K}(hw:Aaj P x K):Fn P zS0 Bn x K:=
 ZF V8 h hw
def PQ:Ax:=
 sr [o1 2 (.asg (.c (.string ⟨#[]⟩)))] (sr [oT ⟨some 3,.buildSl 1 [.string ⟨#[]⟩] 10 [(0,.c (.string ⟨#[97]⟩)),(1,.c (.string ⟨#[98]⟩)),(2,.c (.string ⟨#[99]⟩)),(3,.c (.string ⟨#[97,98]⟩)),(4,.c (.string ⟨#[98,97]⟩)),(5,.c (.string
 ⟨#[]⟩)),(6,.c (.string ⟨#[97,97]⟩)),(7,.c (.string ⟨#[98,32,97]⟩)),(8,.c (.string ⟨#[120,43,121]⟩)),(9,.c (.string ⟨#[92]⟩))],none⟩ (some (.str,.leaf)),im 4 0,oc 5 zS1 [4,kI 10] Cb,ox 6 1 3 5,ld 7 6,ia 2 7]
 .ret)
def LM:AFn:=⟨AeE,PQ.erase,[.tmp 2],1⟩
abbrev NA:List (List UInt8):=([([97]:List UInt8),([98]:List UInt8),([99]:List UInt8),([97,98]:List UInt8),([98,97]:List UInt8),([]:List UInt8),([97,97]:List UInt8),([98,32,97]:List UInt8),([120,43,121]:List UInt8),([92]:List UInt8)]:List (List UInt8))
def Ug(P:Pg)(x:Int)(K:Bt8→Unit→Prop):Prop:=
 Fn P zS1 Cb (x,(10:Int)) (fun(d1:Int) _=>(0≤d1∧d1<((Qa1 NA:Nat):Int))∧
 (d1.toNat<Qa1 NA)∧
 K (Qa0 NA d1.toNat []) ())
theorem AaO{P}(h:Has P LM){x K}(hw:Ug P x K):Fn P AeE FO x K:=
 ZF PQ h hw
def PO:Ax:=
 sr [o1 8 (.asg (.c (.string ⟨#[]⟩)))] (sr [im 11 0,im 12 1,oc 13 zS0 [11,12] Bn,im 14 2,ob 15 .add 14 (kI 1),oc 16 zS1 [13,15] Cb,ia 2 16] (sr [o1 9 (.asg (.c (.string ⟨#[]⟩)))]
 (sq (sr [ia 10 (kI 0)] (fk [9,10] 17 17 (.join [.sl 9 false .str .leaf] (bk 0 (.loop [.sl 9 false .str .leaf,.si 10] (sq (sr [im 17 10,im 18 2,ob 19 .lss 17 18] (cx 19 0)) (sq (fk [9] 22 12 (.join [.sl 9 false .str .leaf] (bk 1 (rn [im 22
 9,im 23 0,im 24 1,ob 25 .add 24 (kI 1),im 26 10,ob 27 .add 25 26,oc 28 zS0 [23,27] Bn,im 29 3,oc 30 zS1 [28,29] Cb,oc 31 AeE [30] FO,ob 32 .add
 22 31,ob 33 .add 32 (.c (.string ⟨#[10]⟩)),ia 9 33])))) (rn [im 20 10,ob 21 .add 20 (kI 1),ia 10 21])))))))) (sq (sr [im 34 0,im 35 1,ob 36 .add 35 (kI 90),oc 37 zS0 [34,36] Bn,ob 38 .rem 37 (kI 4),ob 39 .eql
 38 (kI 0),im 40 39,gt 41 40 (.mv 9),gt 42 40 (.lenS 41),gt 43 40 (.bin .gtr 42 (kI 1)),op3 44 40 43 kF,im 45 44,gt 46 45 (.mv 9),gt 47 45 (.mv 9),gt 48 45 (.lenS 47),gt 49 45 (.bin .sub 48 (kI 2)),gt 50 45 (.ixS 46 49),gt 51 45 (.bin .neq
 50 (.c (.int .u8 10))),op3 52 45 51 kF] (fk [9] 53 5 (.join [.sl 9 false .str .leaf] (cn 52 (rn [im 53 9,im 54 9,o1 55 (.lenS 54),ob 56 .sub 55 (kI 1),o1 57 (.slS 53 none (some 56)),ia 9 57]) .skip)))) (sr [im 58 9,ia 8 58] .ret)))))
def LL:AFn:=⟨AcC,PO.erase,[.tmp 8],4⟩
def Uf(P:Pg)(x:((List Int)×(Int×(Int×Int))))(K:Bt8→Unit→Prop):Prop:=
 Fn P zS0 Bn (x.1,x.2.1) (fun(d1:Int) _=>Fn P zS1 Cb (d1,(i64.wrap (x.2.2.1+1))) (fun(d3:Int) _=>Ac (D:=Bt8) (fun J5=>Au (D:=(Bt8×Int)) (([]:List UInt8),(0:Int)) (fun d7 J8=>(((decide (d7.2<d3))=true→Ac (D:=Bt8) (fun J9=>Fn P zS0 Bn (x.1,(i64.wrap ((i64.wrap (x.2.1+1))+d7.2))) (fun(d11:Int) _=>Fn P zS1 Cb (d11,x.2.2.2) (fun(d13:Int) _=>Fn P AeE FO d13 (fun(d15:Bt8) _=>(d7.1.length+d15.length≤9223372036854775807)∧
 (Qa1 (d7.1++d15)+Qa1 ([10]:List UInt8)≤9223372036854775807)∧
 J9 ((d7.1++d15)++([10]:List UInt8)))))) (fun d10=>J8 (d10,(i64.wrap (d7.2+1)))))∧((decide (d7.2<d3))=false→J5 d7.1)))) (fun d6=>Fn P zS0 Bn (x.1,(i64.wrap (x.2.1+90))) (fun(d17:Int) _=>((4:Int)≠0)∧
 (((cond ((Qa2 d17 (4:Int))==0) (decide ((d6.length:Int)>1)) false)=true→0≤(i64.wrap ((d6.length:Int) -2))∧(i64.wrap ((d6.length:Int) -2))<(d6.length:Int)))∧
 Ac (D:=Bt8) (fun J19=>(((cond (cond ((Qa2 d17 (4:Int))==0) (decide ((d6.length:Int)>1)) false) (((UInt8.toNat (Qa0 d6 (Qa3 (i64.wrap ((d6.length:Int) -2))) 0):Nat):Int) !=10) false)=true→(0≤(i64.wrap ((d6.length:Int) -1))∧(i64.wrap ((d6.length:Int) -1))≤(d6.length:Int))∧
 J19 (List.take (Qa3 (i64.wrap ((d6.length:Int) -1))) d6))∧((cond (cond ((Qa2 d17 (4:Int))==0) (decide ((d6.length:Int)>1)) false) (((UInt8.toNat (Qa0 d6 (Qa3 (i64.wrap ((d6.length:Int) -2))) 0):Nat):Int) !=10) false)=false→J19 d6))) (fun d20=>K d20 ())))))
theorem AaN{P}(h:Has P LL){x K}(hw:Uf P x K):Fn P AcC EG x K:=
 ZF PO h hw
def NN:Ax:=
 sr [o1 6 (.asg ni)] (sr [oT ⟨some 10,.buildSl 1 [.string ⟨#[]⟩] 4 [(0,.c (.string ⟨#[97]⟩)),(1,.c (.string ⟨#[98,47,120]⟩)),(2,.c (.string ⟨#[98,47,121]⟩)),(3,.c (.string ⟨#[99,32,100]⟩))],none⟩ (some (.str,.leaf)),ia 7 10] (sr [o1 8 (.asg
 ni)] (sq (sr [ia 9 (kI 0)] (fk [8,9] 11 27 (.join [.sl 8 false (.sl (.pair .str .str)) tO] (bk 0 (.loop [.sl 8 false (.sl (.pair .str .str)) tO,.si 9] (sq (sr [im 11 9,ob 12 .lss 11 (kI 4)] (cx 12 0)) (sq (fk [8] 15 23 (.join [.sl 8 false
 (.sl (.pair .str .str)) tO] (bk 1 (sr [im 15 0,im 16 1,im 17 9,ob 18 .add 16 17,oc 19 zS0 [15,18] Bn,ob 20 .rem 19 (kI 3),ob 21 .gtr 20 (kI 0)] (fk [8] 22 16 (.join [.sl 8 false (.sl (.pair .str .str)) tO] (cn
 21 (fk [8] 22 16 (.join [.sl 8 false (.sl (.pair .str .str)) tO] (.draw [ti (im 22 8) (ti (im 23 7) (ti (im 24 9) (ti (ox 25 1 23 24) (ti (im 27 0) (ti (im 28 1) (ti (ob 29 .add 28 (kI 10)) (ti (im 30 9) (ti (ob 31 .mul (kI 20) 30) (ti (ob
 32 .add 29 31) (ti (im 33 2) (.alt (ld 26 25) (.alt (oc 34 AcC [27,32,33,kI 4] EG) (ti (o1 35 (.build [.string ⟨#[]⟩,.string ⟨#[]⟩] [(0,1,26),(1,1,34)])) (.alt (oT ⟨some 36,.buildSl 2 [.string
 ⟨#[]⟩,.string ⟨#[]⟩] 1 [(0,35)],none⟩ (some (.pair .str .str,.leaf))) (.alt (oT ⟨some 37,.app 2 32 22 36,none⟩ (some (.pair .str .str,.leaf))) (.alt (ia 8 37) .done .stop) .stop) .stop)) .stop) (.alt (oc 34 AcC
 [27,32,33,kI 4] EG) (ti (ld 26 25) (ti (o1 35 (.build [.string ⟨#[]⟩,.string ⟨#[]⟩] [(0,1,26),(1,1,34)])) (.alt (oT ⟨some 36,.buildSl 2 [.string ⟨#[]⟩,.string ⟨#[]⟩] 1 [(0,35)],none⟩ (some (.pair .str .str,.leaf))) (.alt (oT ⟨some
 37,.app 2 32 22 36,none⟩ (some (.pair .str .str,.leaf))) (.alt (ia 8 37) .done .stop) .stop) .stop))) .stop))))))))))))]))) .skip))))))) (rn [im 13 9,ob 14 .add 13 (kI 1),ia 9 14])))))))) (sr [im 38 8,ia 6 38] .ret))))
def JN:AFn:=⟨zS2,NN.erase,[.tmp 6],3⟩
abbrev Ei:List (List UInt8):=([([97]:List UInt8),([98,47,120]:List UInt8),([98,47,121]:List UInt8),([99,32,100]:List UInt8)]:List (List UInt8))
def Sw(P:Pg)(x:((List Int)×(Int×Int)))(K:(List (Bt8×Bt8))→Unit→Prop):Prop:=
 Ac (D:=(List (Bt8×Bt8))) (fun J1=>Au (D:=((List (Bt8×Bt8))×Int)) ([],(0:Int)) (fun d3 J4=>(((decide (d3.2<4))=true→Ac (D:=(List (Bt8×Bt8))) (fun J5=>Fn P zS0 Bn (x.1,(i64.wrap (x.2.1+d3.2))) (fun(d7:Int) _=>((3:Int)≠0)∧
 Ac (D:=(List (Bt8×Bt8))) (fun J9=>(((decide ((Qa2 d7 (3:Int))>0))=true→Ac (D:=(List (Bt8×Bt8))) (fun J11=>(0≤d3.2∧d3.2<((Qa1 Ei:Nat):Int))∧
 ((d3.2.toNat<Qa1 Ei)∧
 (Fn P AcC EG (x.1,((i64.wrap ((i64.wrap (x.2.1+10))+(i64.wrap ((20:Int)*d3.2)))),(x.2.2,(4:Int)))) (fun(d13:Bt8) _=>((((d3.1.length+Qa1 ([((Qa0 Ei d3.2.toNat []),d13)]:List (Bt8×Bt8)))*32≤140737488355328)∧
 (J11 (d3.1++([((Qa0 Ei d3.2.toNat []),d13)]:List (Bt8×Bt8))))∧True)∧True)∧True))∧True)∧((Fn P AcC EG (x.1,((i64.wrap ((i64.wrap (x.2.1+10))+(i64.wrap ((20:Int)*d3.2)))),(x.2.2,(4:Int)))) (fun(d15:Bt8) _=>(d3.2.toNat<Qa1 Ei)∧
 ((((d3.1.length+Qa1 ([((Qa0 Ei d3.2.toNat []),d15)]:List (Bt8×Bt8)))*32≤140737488355328)∧
 (J11 (d3.1++([((Qa0 Ei d3.2.toNat []),d15)]:List (Bt8×Bt8))))∧True)∧True)∧True))∧True)) (fun d12=>J9 d12))∧((decide ((Qa2 d7 (3:Int))>0))=false→J9 d3.1))) (fun d10=>J5 d10))) (fun d6=>J4 (d6,(i64.wrap (d3.2+1)))))∧((decide (d3.2<4))=false→J1 d3.1)))) (fun d2=>K d2 ())
theorem Y4{P}(h:Has P JN){x K}(hw:Sw P x K):Fn P zS2 BM x K:=
 ZF NN h hw
def KI:Ax:=
 sr [o1 2 (.asg ni)] (sr [o1 3 (.asg ni)] (sr [ia 4 (kI 0)] (sq (sr [ia 5 (kI 0)] (fk [] 3 30 (.join [.sl 3 false (.sl .str) tO] (bk 0 (.loop [.sl 3 false (.sl .str) tO,.si 4,.si 5] (sq (sr [im 6 5,im 7 0,o1 8 (.lenS 7),ob 9 .lss 6 8] (cx 9
 0)) (sq (fk [3,4] 12 21 (.join [.sl 3 false (.sl .str) tO,.si 4] (bk 1 (sr [im 12 0,im 13 5,o1 14 (.ixS 12 13),ob 15 .eql 14 (.c (.int .u8 10)),im 16 15,gf 17 16 (.mv 5),gf 18 16 (.bin .add 17 (kI 1)),gf 19 16 (.mv 0),gf 20 16 (.lenS
 19),gf 21 16 (.bin .eql 18 20),op3 22 16 kT 21] (fk [3,4] 23 10 (.join [.sl 3 false (.sl .str) tO,.si 4] (cn 22 (sr [im 23 3,im 24 0,im 25 4,im 26 5,ob 27 .add 26 (kI 1),o1 28 (.slS 24 (some 25) (some 27)),oT ⟨some 29,.buildSl 1 [.string
 ⟨#[]⟩] 1 [(0,28)],none⟩ (some (.str,.leaf)),oT ⟨some 30,.app 1 16 23 29,none⟩ (some (.str,.leaf)),ia 3 30] (rn [im 31 5,ob 32 .add 31 (kI 1),ia 4 32])) .skip))))))) (rn [im 10 5,ob 11 .add 10 (kI 1),ia 5 11])))))))) (sr [im 33 3,ia 2 33]
 .ret))))
def Hd:AFn:=⟨Aac,KI.erase,[.tmp 2],1⟩
def OH(P:Pg)(x:Bt8)(K:(List Bt8)→Unit→Prop):Prop:=
 Ac (D:=(List Bt8)) (fun J1=>Au (D:=((List Bt8)×(Int×Int))) ([],((0:Int),(0:Int))) (fun d3 J4=>(((decide (d3.2.2<(x.length:Int)))=true→Ac (D:=((List Bt8)×Int)) (fun J5=>(0≤d3.2.2∧d3.2.2<(x.length:Int))∧
 Ac (D:=((List Bt8)×Int)) (fun J7=>(((cond (((x.getD d3.2.2.toNat 0).toNat:Int)==10) true ((i64.wrap (d3.2.2+1))==(x.length:Int)))=true→(0≤d3.2.1∧d3.2.1≤(i64.wrap (d3.2.2+1))∧(i64.wrap (d3.2.2+1))≤(x.length:Int))∧
 ((d3.1.length+Qa1 ([(List.drop d3.2.1.toNat (List.take (Qa3 (i64.wrap (d3.2.2+1))) x))]:List Bt8))*16≤140737488355328)∧
 J7 ((d3.1++([(List.drop d3.2.1.toNat (List.take (Qa3 (i64.wrap (d3.2.2+1))) x))]:List Bt8)),(i64.wrap (d3.2.2+1))))∧((cond (((x.getD d3.2.2.toNat 0).toNat:Int)==10) true ((i64.wrap (d3.2.2+1))==(x.length:Int)))=false→J7 (d3.1,d3.2.1)))) (fun d8=>J5 d8)) (fun d6=>J4 (d6.1,(d6.2,(i64.wrap (d3.2.2+1))))))∧((decide (d3.2.2<(x.length:Int)))=false→J1 d3.1)))) (fun d2=>K d2 ())
theorem UN{P}(h:Has P Hd){x K}(hw:OH P x K):Fn P Aac CQ x K:=
 ZF KI h hw
def PR:Ax:=
 sr [o1 6 (.asg (.c (.string ⟨#[]⟩)))] (sr [im 10 0,oc 11 Aac [10] CQ,ia 7 11] (sr [o1 8 (.asg (.c (.string ⟨#[]⟩)))] (sq (sr [ia 9 (kI 0)] (fk [8,9] 12 32 (.join [.sl 8 false .str .leaf] (bk 0 (.loop
 [.sl 8 false .str .leaf,.si 9] (sq (sr [im 12 9,im 13 7,ol 14 13,ob 15 .lss 12 14] (cx 15 0)) (sq (fk [8] 18 26 (.join [.sl 8 false .str .leaf] (bk 1 (sq (sr [im 18 1,im 19 2,im 20 9,ob 21 .add 19 20,oc 22 zS0
 [18,21] Bn,ob 23 .rem 22 (kI 6)] (fk [8] 24 14 (.join [.sl 8 false .str .leaf] (bk 2 (sr [ob 25 .eql 23 (kI 0),ia 24 25] (cn 24 (.exit 1) (sr [ob 27 .eql 23 (kI 1),ia 26 27] (fk [8] 28 10 (.join [.sl 8 false .str .leaf] (cn 26 (rn
 [im 28 8,im 29 1,im 30 2,ob 31 .add 30 (kI 40),im 32 9,ob 33 .add 31 32,oc 34 zS0 [29,33] Bn,oc 35 AeE [34] FO,ob 36 .add 28 35,ob 37 .add 36 (.c (.string ⟨#[10]⟩)),ia 8 37])
 .skip)))))))))) (rn [im 38 8,im 39 7,im 40 9,ox 41 1 39 40,ld 42 41,ob 43 .add 38 42,ia 8 43]))))) (rn [im 16 9,ob 17 .add 16 (kI 1),ia 9 17])))))))) (sr [im 44 8,ia 6 44] .ret))))
def LN:AFn:=⟨Ajv,PR.erase,[.tmp 6],3⟩
def Uh(P:Pg)(x:(Bt8×((List Int)×Int)))(K:Bt8→Unit→Prop):Prop:=
 Fn P Aac CQ x.1 (fun(d1:(List Bt8)) _=>Ac (D:=Bt8) (fun J3=>Au (D:=(Bt8×Int)) (([]:List UInt8),(0:Int)) (fun d5 J6=>(((decide (d5.2<(d1.length:Int)))=true→Ac (D:=Bt8) (fun J7=>Fn P zS0 Bn (x.2.1,(i64.wrap (x.2.2+d5.2))) (fun(d9:Int) _=>((6:Int)≠0)∧
 Ac (D:=Bt8) (fun J11=>((((Qa2 d9 (6:Int))==0)=true→J7 d5.1)∧(((Qa2 d9 (6:Int))==0)=false→Ac (D:=Bt8) (fun J13=>((((Qa2 d9 (6:Int))==1)=true→Fn P zS0 Bn (x.2.1,(i64.wrap ((i64.wrap (x.2.2+40))+d5.2))) (fun(d15:Int) _=>Fn P AeE FO d15 (fun(d17:Bt8) _=>(d5.1.length+d17.length≤9223372036854775807)∧
 (Qa1 (d5.1++d17)+Qa1 ([10]:List UInt8)≤9223372036854775807)∧
 J13 ((d5.1++d17)++([10]:List UInt8)))))∧(((Qa2 d9 (6:Int))==1)=false→J13 d5.1))) (fun d14=>J11 d14)))) (fun d12=>(0≤d5.2∧d5.2<(d1.length:Int))∧
 (d5.2.toNat<d1.length)∧
 (d12.length+Qa1 (Qa0 d1 d5.2.toNat [])≤9223372036854775807)∧
 J7 (d12++(Qa0 d1 d5.2.toNat []))))) (fun d8=>J6 (d8,(i64.wrap (d5.2+1)))))∧((decide (d5.2<(d1.length:Int)))=false→J3 d5.1)))) (fun d4=>K d4 ()))
theorem AaP{P}(h:Has P LN){x K}(hw:Uh P x K):Fn P Ajv IL x K:=
 ZF PR h hw
def Mj:Ax:=
 sr [o1 8 (.asg ni)] (sr [o1 9 (.asg ni)] (sr [im 13 1,im 14 2,ob 15 .add 14 (kI 3),oc 16 zS0 [13,15] Bn,oc 17 zS1 [16,kI 4] Cb,ia 10 17] (sq (sr [ia 11 (kI 0)] (.frame (rg
 [9,11,12] 18 30) [1012] false (.join [.sl 9 false (.sl (.pair .str .str)) tO] (bk 0 (.loop [.sl 9 false (.sl (.pair .str .str)) tO,.si 11] (sq (sr [im 18 11,im 19 0,ol 20 19,ob 21 .lss 18 20] (cx 21 0)) (sq (.frame (rg [9,12] 24 24) [1012]
 false (.join [.sl 9 false (.sl (.pair .str .str)) tO] (bk 1 (sr [im 24 0,im 25 11,ox 26 2 24 25,o1 27 (.load true 2 26),o1 12 (.alloc [.string ⟨#[]⟩,.string ⟨#[]⟩]),o0 ⟨none,.store 2 12 27,none⟩] (sq (sr [im 28 11,im 29 10,ob 30 .eql 28
 29] (.frame (rg [] 31 13) [1012] false (.join [.bx 1012 (.pair .str .str) .leaf] (cn 30 (sr [fa 31 1 12,ld 32 31,im 33 1,im 34 2,ob 35 .add 34 (kI 7),oc 36 Ajv [32,33,35] IL,fa 37 1 12,o0 ⟨none,.store 1 37
 36,none⟩] (sr [im 38 1,im 39 2,ob 40 .add 39 (kI 5),oc 41 zS0 [38,40] Bn,ob 42 .rem 41 (kI 5),ob 43 .eql 42 (kI 0)] (cn 43 (.exit 1) .skip))) .skip)))) (rn [im 44 9,o1 45 (.load true 2 12),oT ⟨some 46,.buildSl
 2 [.string ⟨#[]⟩,.string ⟨#[]⟩] 1 [(0,45)],none⟩ (some (.pair .str .str,.leaf)),oT ⟨some 47,.app 2 32 44 46,none⟩ (some (.pair .str .str,.leaf)),ia 9 47])))))) (rn [im 22 11,ob 23 .add 22 (kI 1),ia 11 23])))))))) (sq (sr [im 48 9,ol 49
 48,ob 50 .eql 49 (kI 0)] (cn 50 (sr [im 51 1,im 52 2,im 53 3,oc 54 zS2 [51,52,53] BM,ia 8 54] .ret) .skip)) (sr [im 55 9,ia 8 55] .ret)))))
def H6:AFn:=⟨Ajw,Mj.erase,[.tmp 8],4⟩
def Qa(P:Pg)(x:((List (Bt8×Bt8))×((List Int)×(Int×Int))))(K:(List (Bt8×Bt8))→Unit→Prop):Prop:=
 Fn P zS0 Bn (x.2.1,(i64.wrap (x.2.2.1+3))) (fun(d1:Int) _=>Fn P zS1 Cb (d1,(4:Int)) (fun(d3:Int) _=>Ac (D:=(List (Bt8×Bt8))) (fun J5=>Au (D:=((List (Bt8×Bt8))×Int)) ([],(0:Int)) (fun d7 J8=>(((decide (d7.2<(x.1.length:Int)))=true→Ac (D:=(List (Bt8×Bt8))) (fun J9=>(0≤d7.2∧d7.2<(x.1.length:Int))∧
 (d7.2.toNat<x.1.length)∧
 Ac (D:=(Bt8×Bt8)) (fun J11=>(((d7.2==d3)=true→Fn P Ajv IL ((Qa0 x.1 d7.2.toNat ([],[])).2,(x.2.1,(i64.wrap (x.2.2.1+7)))) (fun(d13:Bt8) _=>Fn P zS0 Bn (x.2.1,(i64.wrap (x.2.2.1+5))) (fun(d15:Int) _=>((5:Int)≠0)∧
 ((((Qa2 d15 (5:Int))==0)=true→J9 d7.1)∧(((Qa2 d15 (5:Int))==0)=false→J11 ((Qa0 x.1 d7.2.toNat ([],[])).1,d13))))))∧((d7.2==d3)=false→J11 (Qa0 x.1 d7.2.toNat ([],[]))))) (fun d12=>((d7.1.length+Qa1 ([d12]:List (Bt8×Bt8)))*32≤140737488355328)∧
 J9 (d7.1++([d12]:List (Bt8×Bt8))))) (fun d10=>J8 (d10,(i64.wrap (d7.2+1)))))∧((decide (d7.2<(x.1.length:Int)))=false→J5 d7.1)))) (fun d6=>((((d6.length:Int)==0)=true→Fn P zS2 BM x.2 (fun(d17:(List (Bt8×Bt8))) _=>K d17 ()))∧(((d6.length:Int)==0)=false→K d6 ())))))
theorem Wu{P}(h:Has P H6){x K}(hw:Qa P x K):Fn P Ajw Gc x K:=
 ZF Mj h hw
def Mi:Ax:=
 sr [⟨⟨some 4,.asg ni,none⟩,none,⟨[],[]⟩,true,none,false,false⟩] (sq (sr [im 10 1,oc 11 zS0 [10,kI 3] Bn,ob 12 .rem 11 (kI 2),ob 13 .eql 12 (kI 0)] (cn 13 (sr [im 14 0,⟨⟨some 4,.asg
 14,none⟩,none,⟨[],[]⟩,true,none,false,false⟩] .ret) .skip)) (sr [im 15 0,ol 16 15,ia 5 16] (sr [im 17 5,oT ⟨some 18,.mkSl 3 56 [.slice none 0 0,.int .i64 0,.slice none 0 0] 17 17,none⟩ (some (Bg,.pair tO (.pair .leaf tM))),ia 6 18]
 (sq (sr [ia 7 (kI 0)] (.frame (rg [6,7,8,9] 19 43) [1008] true (.join [.sl 6 false (.sl Bg) (.node .own (.pair tO (.pair .leaf tM)))] (bk 0 (.loop [.sl 6 false (.sl Bg) (.node .own (.pair tO (.pair .leaf tM))),.si 7] (sq (sr [im
 19 7,im 20 5,ob 21 .lss 19 20] (cx 21 0)) (sq (.frame (rg [6,8,9] 24 38) [1008] true (.join [.sl 6 false (.sl Bg) (.node .own (.pair tO (.pair .leaf tM)))] (bk 1 (sr [im 24 0,im 25 7,ox 26 3 24 25,o1 27 (.load true 3 26),o1 8 (.alloc
 [.slice none 0 0,.int .i64 0,.slice none 0 0]),o0 ⟨none,.store 3 8 27,none⟩] (sr [fa 28 0 8,o0 ⟨none,.store 1 28 ni,none⟩] (sq (sr [ia 9 (kI 0)] (.frame (rg [9] 29 26) [1008] true (.join [.bx 1008 Bg (.pair tO (.pair .leaf tM))] (bk 2
 (.loop [.si 9,.bx 1008 Bg (.pair tO (.pair .leaf tM))] (sq (sr [im 29 9,im 30 0,im 31 7,ox 32 3 30 31,fa 33 0 32,ld 34 33,ol 35 34,ob 36 .lss 29 35] (cx 36 2)) (sq (.frame (rg [] 39 16) [1008] true (.join [.bx 1008 Bg (.pair tO
 (.pair .leaf tM))] (bk 3 (.frame (rg [] 39 16) [1008] true (.join [.bx 1008 Bg (.pair tO (.pair .leaf tM))] (.draw [ti (fa 39 0 8) (ti (im 41 5) (ti (ob 42 .sub 41 (kI 1)) (ti (im 43 0) (ti (im 44 7) (ti (ox 45 3 43 44) (ti (fa 46 0
 45) (ti (ld 47 46) (ti (im 48 9) (ti (ox 49 1 47 48) (ti (ld 50 49) (ti (ob 51 .sub 42 50) (.alt (ld 40 39) (.alt (oT ⟨some 52,.buildSl 1 [.int .i64 0] 1 [(0,51)],none⟩ (some (bI,.leaf))) (.alt (oT ⟨some 53,.app 1 8 40 52,none⟩ (some
 (bI,.leaf))) (ti (fa 54 0 8) (.alt (o0 ⟨none,.store 1 54 53,none⟩) .done .stop)) .stop) .stop) (.alt (oT ⟨some 52,.buildSl 1 [.int .i64 0] 1 [(0,51)],none⟩ (some (bI,.leaf))) (ti (ld 40 39) (.alt (oT ⟨some 53,.app 1 8 40 52,none⟩ (some
 (bI,.leaf))) (ti (fa 54 0 8) (.alt (o0 ⟨none,.store 1 54 53,none⟩) .done .stop)) .stop)) .stop)))))))))))))])))))) (rn [im 37 9,ob 38 .add 37 (kI 1),ia 9 38])))))))) (rn [im 55 6,im 56 5,ob 57 .sub 56 (kI 1),im 58 7,ob 59 .sub 57 58,o1 60
 (.load true 3 8),ox 61 3 55 59,o0 ⟨none,.store 3 61 60,none⟩]))))))) (rn [im 22 7,ob 23 .add 22 (kI 1),ia 7 23])))))))) (sr [im 62 6,⟨⟨some 4,.asg 62,none⟩,none,⟨[],[]⟩,true,none,false,false⟩] .ret)))))
def H5:AFn:=⟨Ajx,Mi.erase,[.tmp 4],2⟩
def P9(P:Pg)(x:((List Commit)×(List Int)))(K:(List Commit)→Unit→Prop):Prop:=
 Fn P zS0 Bn (x.2,(3:Int)) (fun(d1:Int) _=>((2:Int)≠0)∧
 ((((Qa2 d1 (2:Int))==0)=true→K x.1 ())∧(((Qa2 d1 (2:Int))==0)=false→(0≤(x.1.length:Int)∧(x.1.length:Int)≤(x.1.length:Int)∧((56:Nat):Int)*(x.1.length:Int)≤281474976710656)∧
 Ac (D:=(List Commit)) (fun J3=>Au (D:=((List Commit)×Int)) ((List.replicate (Qa3 (x.1.length:Int)) ([],((0:Int),[]))),(0:Int)) (fun d5 J6=>(((decide (d5.2<(x.1.length:Int)))=true→Ac (D:=(List Commit)) (fun J7=>(0≤d5.2∧d5.2<(x.1.length:Int))∧
 (d5.2.toNat<x.1.length)∧
 Ac (D:=Commit) (fun J9=>Au (D:=(Int×Commit)) ((0:Int),([],(Qa0 x.1 d5.2.toNat Ag).2)) (fun d11 J12=>(0≤d5.2∧d5.2<(x.1.length:Int))∧
 (d5.2.toNat<x.1.length)∧
 (((decide (d11.1<((Qa1 (Qa0 x.1 d5.2.toNat Ag).1:Nat):Int)))=true→Ac (D:=Commit) (fun J13=>Ac (D:=Commit) (fun J15=>(0≤d5.2∧d5.2<(x.1.length:Int))∧
 (d5.2.toNat<x.1.length)∧
 (0≤d11.1∧d11.1<((Qa1 (Qa0 x.1 d5.2.toNat Ag).1:Nat):Int))∧
 (d11.1.toNat<Qa1 (Qa0 x.1 d5.2.toNat Ag).1)∧
 (((((d11.2.1.length+Qa1 ([(i64.wrap ((i64.wrap ((x.1.length:Int) -1)) -(Qa0 (Qa0 x.1 d5.2.toNat Ag).1 d11.1.toNat (0:Int))))]:List Int))*8≤140737488355328)∧
 (J15 ((d11.2.1++([(i64.wrap ((i64.wrap ((x.1.length:Int) -1)) -(Qa0 (Qa0 x.1 d5.2.toNat Ag).1 d11.1.toNat (0:Int))))]:List Int)),d11.2.2))∧True)∧True)∧True)∧(((((d11.2.1.length+Qa1 ([(i64.wrap ((i64.wrap ((x.1.length:Int) -1)) -(Qa0 (Qa0 x.1 d5.2.toNat Ag).1 d11.1.toNat (0:Int))))]:List Int))*8≤140737488355328)∧
 (J15 ((d11.2.1++([(i64.wrap ((i64.wrap ((x.1.length:Int) -1)) -(Qa0 (Qa0 x.1 d5.2.toNat Ag).1 d11.1.toNat (0:Int))))]:List Int)),d11.2.2))∧True)∧True)∧True)) (fun d16=>J13 d16)) (fun d14=>J12 ((i64.wrap (d11.1+1)),d14)))∧((decide (d11.1<((Qa1 (Qa0 x.1 d5.2.toNat Ag).1:Nat):Int)))=false→J9 d11.2)))) (fun d10=>(0≤(i64.wrap ((i64.wrap ((x.1.length:Int) -1)) -d5.2))∧(i64.wrap ((i64.wrap ((x.1.length:Int) -1)) -d5.2))<(d5.1.length:Int))∧
 ((Qa3 (i64.wrap ((i64.wrap ((x.1.length:Int) -1)) -d5.2)))<d5.1.length)∧
 J7 (List.set d5.1 (Qa3 (i64.wrap ((i64.wrap ((x.1.length:Int) -1)) -d5.2))) d10))) (fun d8=>J6 (d8,(i64.wrap (d5.2+1)))))∧((decide (d5.2<(x.1.length:Int)))=false→J3 d5.1)))) (fun d4=>K d4 ()))))
theorem Wt{P}(h:Has P H5){x K}(hw:P9 P x K):Fn P Ajx Gb x K:=
 ZF Mi h hw
def NO:Ax:=
 sr [o1 6 (.asg ni)] (sr [im 11 0,oc 12 zS0 [11,kI 0] Bn,im 13 1,ob 14 .add 13 (kI 1),oc 15 zS1 [12,14] Cb,ia 1 15] (sr [oT ⟨some 16,.buildSl 3 [.slice none 0 0,.int .i64 0,.slice
 none 0 0] 0 [],none⟩ (some (Bg,.pair tM (.pair .leaf tM))),ia 7 16] (sq (sr [ia 8 (kI 0)] (.frame (rg [7,8,9,10] 17 95) [1009] true (.join [.sl 7 false (.sl Bg) (.node .own (.pair tM (.pair .leaf tM)))] (bk 0 (.loop [.sl 7 false
 (.sl Bg) (.node .own (.pair tM (.pair .leaf tM))),.si 8] (sq (sr [im 17 8,im 18 1,ob 19 .lss 17 18] (cx 19 0)) (sq (.frame (rg [7,9,10] 22 90) [1009] true (.join [.sl 7 false (.sl Bg) (.node .own (.pair tM (.pair .leaf tM)))] (bk
 1 (sr [im 22 0,im 23 8,ob 24 .add (kI 1000) 23,oc 25 zS0 [22,24] Bn,oc 26 zS1 [25,kI 5] Cb,o1 27 (.build [.slice none 0 0,.int .i64 0,.slice none 0 0] [(1,1,26)]),o1 9 (.alloc
 [.slice none 0 0,.int .i64 0,.slice none 0 0]),o0 ⟨none,.store 3 9 27,none⟩] (sq (sr [ia 10 (kI 0)] (.frame (rg [10] 28 26) [1009] true (.join [.bx 1009 Bg (.pair tO (.pair .leaf tO))] (bk 2 (.loop [.si 10,.bx 1009 Bg (.pair tO
 (.pair .leaf tO))] (sq (sr [im 28 10,im 29 8,ob 30 .lss 28 29] (cx 30 2)) (sq (.frame (rg [] 33 21) [1009] true (.join [.bx 1009 Bg (.pair tO (.pair .leaf tO))] (bk 3 (sr [im 33 0,im 34 8,ob 35 .mul (kI 40) 34,ob 36 .add (kI 1100)
 35,im 37 10,ob 38 .add 36 37,oc 39 zS0 [33,38] Bn,ob 40 .rem 39 (kI 3),ob 41 .eql 40 (kI 0),im 42 41,gt 43 42 (.fAddr 0 9),gt 44 42 (.load false 1 43),gt 45 42 (.lenK 44),gt 46 42 (.bin .lss 45 (kI 3)),op3 47
 42 46 kF] (.frame (rg [] 48 6) [1009] true (.join [.bx 1009 Bg (.pair tO (.pair .leaf tO))] (cn 47 (rn [fa 48 0 9,ld 49 48,im 50 10,oT ⟨some 51,.buildSl 1 [.int .i64 0] 1 [(0,50)],none⟩ (some (bI,.leaf)),oT ⟨some 52,.app 1 8 49
 51,none⟩ (some (bI,.leaf)),fa 53 0 9,o0 ⟨none,.store 1 53 52,none⟩]) .skip))))))) (rn [im 31 10,ob 32 .add 31 (kI 1),ia 10 32])))))))) (sq (sr [fa 54 0 9,ld 55 54,ol 56 55,ob 57 .eql 56 (kI 0),im 58 57,gt 59 58 (.mv 8),gt 60 58 (.bin .gtr
 59 (kI 0)),op3 61 58 60 kF,im 62 61,gt 63 62 (.mv 0),gt 64 62 (.mv 8),gt 65 62 (.bin .add (kI 1500) 64),oS ⟨some 66,.call zS0 [63,65],some (62,true)⟩ Bn,gt 67 62 (.bin .rem 66 (kI 4)),gt 68 62 (.bin .gtr 67
 (kI 0)),op3 69 62 68 kF] (.frame (rg [] 70 4) [1009] true (.join [.bx 1009 Bg (.pair tO (.pair .leaf tO))] (cn 69 (rn [im 70 8,ob 71 .sub 70 (kI 1),oT ⟨some 72,.buildSl 1 [.int .i64 0] 1 [(0,71)],none⟩ (some (bI,.leaf)),fa 73 0 9,o0
 ⟨none,.store 1 73 72,none⟩]) .skip)))) (sr [im 74 0,im 75 8,ob 76 .mul (kI 200) 75,ob 77 .add (kI 2000) 76,im 78 2,oc 79 zS2 [74,77,78] BM,fa 80 2 9,o0 ⟨none,.store 1 80 79,none⟩] (sq (sr [fa 81 0 9,ld
 82 81,ol 83 82,ob 84 .gtr 83 (kI 0),im 85 84,gt 86 85 (.mv 0),gt 87 85 (.mv 8),gt 88 85 (.bin .add (kI 1600) 87),oS ⟨some 89,.call zS0 [86,88],some (85,true)⟩ Bn,gt 90 85 (.bin .rem 89 (kI 4)),gt 91 85 (.bin
 .gtr 90 (kI 0)),op3 92 85 91 kF] (.frame (rg [] 93 15) [1009] true (.join [.bx 1009 Bg (.pair tO (.pair .leaf tO))] (cn 92 (rn [im 93 7,fa 94 0 9,ld 95 94,ox 96 1 95 (kI 0),ld 97 96,ox 98 3 93 97,fa 99 2 98,ld 100 99,im 101 0,im 102
 8,ob 103 .mul (kI 200) 102,ob 104 .add (kI 2000) 103,im 105 2,oc 106 Ajw [100,101,104,105] Gc,fa 107 2 9,o0 ⟨none,.store 1 107 106,none⟩]) .skip)))) (rn [im 108 7,o1 109 (.load true 3 9),⟨⟨some
 110,.buildSl 3 [.slice none 0 0,.int .i64 0,.slice none 0 0] 1 [(0,109)],none⟩,some (Bg,.pair tO (.pair .leaf tO)),⟨[],[]⟩,true,none,false,false⟩,oT ⟨some 111,.app 3 56 108 110,none⟩ (some (Bg,.pair tM (.pair .leaf tM))),ia 7
 111]))))))))) (rn [im 20 8,ob 21 .add 20 (kI 1),ia 8 21])))))))) (sq (.frz [7] (rn [im 112 7,im 113 0,oc 114 Ajx [112,113] Gb,ia 6 114])) .ret))))
def JO:AFn:=⟨Ajy,NO.erase,[.tmp 6],3⟩
def Sx(P:Pg)(x:((List Int)×(Int×Int)))(K:(List Commit)→Unit→Prop):Prop:=
 Fn P zS0 Bn (x.1,(0:Int)) (fun(d1:Int) _=>Fn P zS1 Cb (d1,(i64.wrap (x.2.1+1))) (fun(d3:Int) _=>Ac (D:=(List Commit)) (fun J5=>Au (D:=((List Commit)×Int)) (([]:List Commit),(0:Int)) (fun d7 J8=>(((decide (d7.2<d3))=true→Ac (D:=(List Commit)) (fun J9=>Fn P zS0 Bn (x.1,(i64.wrap ((1000:Int)+d7.2))) (fun(d11:Int) _=>Fn P zS1 Cb (d11,(5:Int)) (fun(d13:Int) _=>Ac (D:=Commit) (fun J15=>Au (D:=(Int×Commit)) ((0:Int),([],(d13,[]))) (fun d17 J18=>(((decide (d17.1<d7.2))=true→Ac (D:=Commit) (fun J19=>Fn P zS0 Bn (x.1,(i64.wrap ((i64.wrap ((1100:Int)+(i64.wrap ((40:Int)*d7.2))))+d17.1))) (fun(d21:Int) _=>((3:Int)≠0)∧
 Ac (D:=Commit) (fun J23=>(((cond ((Qa2 d21 (3:Int))==0) (decide ((d17.2.1.length:Int)<3)) false)=true→((d17.2.1.length+Qa1 ([d17.1]:List Int))*8≤140737488355328)∧
 J23 ((d17.2.1++([d17.1]:List Int)),d17.2.2))∧((cond ((Qa2 d21 (3:Int))==0) (decide ((d17.2.1.length:Int)<3)) false)=false→J23 d17.2))) (fun d24=>J19 d24))) (fun d20=>J18 ((i64.wrap (d17.1+1)),d20)))∧((decide (d17.1<d7.2))=false→J15 d17.2)))) (fun d16=>Ac (D:=Int) (fun J25=>(((cond ((d16.1.length:Int)==0) (decide (d7.2>0)) false)=true→Fn P zS0 Bn (x.1,(i64.wrap ((1500:Int)+d7.2))) (fun(d26:Int) _=>J25 d26))∧(((cond ((d16.1.length:Int)==0) (decide (d7.2>0)) false)=false→J25 (0:Int))∧True))) (fun d27=>(((cond ((d16.1.length:Int)==0) (decide (d7.2>0)) false)=true→(4:Int)≠0))∧
 Ac (D:=Commit) (fun J28=>(((cond (cond ((d16.1.length:Int)==0) (decide (d7.2>0)) false) (decide ((Qa2 d27 (4:Int))>0)) false)=true→J28 (([(i64.wrap (d7.2 -1))]:List Int),d16.2))∧((cond (cond ((d16.1.length:Int)==0) (decide (d7.2>0)) false) (decide ((Qa2 d27 (4:Int))>0)) false)=false→J28 d16))) (fun d29=>Fn P zS2 BM (x.1,((i64.wrap ((2000:Int)+(i64.wrap ((200:Int)*d7.2)))),x.2.2)) (fun(d30:(List (Bt8×Bt8))) _=>Ac (D:=Int) (fun J32=>(((decide ((d29.1.length:Int)>0))=true→Fn P zS0 Bn (x.1,(i64.wrap ((1600:Int)+d7.2))) (fun(d33:Int) _=>J32 d33))∧(((decide ((d29.1.length:Int)>0))=false→J32 (0:Int))∧True))) (fun d34=>(((decide ((d29.1.length:Int)>0))=true→(4:Int)≠0))∧
 Ac (D:=Commit) (fun J35=>(((cond (decide ((d29.1.length:Int)>0)) (decide ((Qa2 d34 (4:Int))>0)) false)=true→(0≤(0:Int)∧(0:Int)<(d29.1.length:Int))∧
 ((Qa3 (0:Int))<d29.1.length)∧
 (0≤(Qa0 d29.1 (Qa3 (0:Int)) (0:Int))∧(Qa0 d29.1 (Qa3 (0:Int)) (0:Int))<(d7.1.length:Int))∧
 ((Qa3 (Qa0 d29.1 (Qa3 (0:Int)) (0:Int)))<d7.1.length)∧
 Fn P Ajw Gc ((Qa0 d7.1 (Qa3 (Qa0 d29.1 (Qa3 (0:Int)) (0:Int))) Ag).2.2,(x.1,((i64.wrap ((2000:Int)+(i64.wrap ((200:Int)*d7.2)))),x.2.2))) (fun(d37:(List (Bt8×Bt8))) _=>J35 (d29.1,(d29.2.1,d37))))∧((cond (decide ((d29.1.length:Int)>0)) (decide ((Qa2 d34 (4:Int))>0)) false)=false→J35 (d29.1,(d29.2.1,d30))))) (fun d36=>((d7.1.length+Qa1 ([d36]:List Commit))*56≤140737488355328)∧
 J9 (d7.1++([d36]:List Commit))))))))))) (fun d10=>J8 (d10,(i64.wrap (d7.2+1)))))∧((decide (d7.2<d3))=false→J5 d7.1)))) (fun d6=>Fn P Ajx Gb (d6,x.1) (fun(d39:(List Commit)) _=>K d39 ()))))
theorem Y5{P}(h:Has P JO){x K}(hw:Sx P x K):Fn P Ajy HJ x K:=
 ZF NO h hw
def Lb:Ax:=
 sr [o1 2 (.asg kF)] (sr [im 3 0,ob 4 .geq 3 (kI 0),im 5 4,gt 6 5 (.mv 0),gt 7 5 (.bin .leq 6 (kI 2147483647)),op3 8 5 7 kF,ia 2 8] .ret)
def Hv:AFn:=⟨zS3,Lb.erase,[.tmp 2],1⟩
def OZ(P:Pg)(x:Int)(K:Bool→Unit→Prop):Prop:=
 K (cond (decide (x≥0)) (decide (x≤2147483647)) false) ()
theorem U6{P}(h:Has P Hv){x K}(hw:OZ P x K):Fn P zS3 Bx x K:=
 ZF Lb h hw
def Ms:Ax:=
 sr [ia 4 (kI 0)] (sq (sr [im 5 0,ob 6 .eql 5 (kI 0)] (cn 6 (sr [ia 4 (kI 0)] .ret) .skip)) (sr [im 7 0,ld 8 1,ob 9 .sub 8 (kI 1),ob 10 .mul 7 9,ld 11 2,ob 12 .quo 10 11,ob 13 .add (kI 1) 12,ia 4 13] .ret))
def Ih:AFn:=⟨Ahh,Ms.erase,[.tmp 4],3⟩
def Qj(P:Pg)(x:(Int×(Int×Int)))(K:Int→(Int×Int)→Prop):Prop:=
 (((x.1==0)=true→K (0:Int) x.2)∧((x.1==0)=false→(x.2.2≠0)∧
 K (i64.wrap ((1:Int)+(i64.wrap (Int.tdiv (i64.wrap (x.1*(i64.wrap (x.2.1 -1)))) x.2.2)))) x.2))
theorem WE{P}(h:Has P Ih){x K}(hw:Qj P x K):Fn P Ahh D9 x K:=
 ZF Ms h hw
def PV:Ax:=
 sr [o1 6 (.box 2),o1 7 (.box 3),ia 8 (kI 0),ia 9 (kI 0)] (sq (sr [ld 13 6,ld 14 7,ob 15 .leq 13 14] (cn 15 (sr [im 16 0,im 17 1,ia 8 16,ia 9 17] .ret) .skip)) (sr [o1 18 (.mkf (Ahh,false) [7,6]),ia 10 18] (sr [im 19
 10,im 20 0,im 21 1,ob 22 .add 20 21,oS ⟨some 23,.callv 19 [22],none⟩ D9,ia 11 23] (sq (sr [im 24 0,ob 25 .gtr 24 (kI 0),im 26 25,gt 27 26 (.mv 1),gt 28 26 (.bin .gtr 27 (kI 0)),op3 29 26 28 kF] (.frame [11,30,31] [] false (.join
 [.si 11] (cn 29 (rn [im 30 11,o1 31 (.mm true 30 (kI 2)),ia 11 31]) .skip)))) (sr [im 32 10,im 33 0,im 34 1,o1 35 (.mm false 33 34),oS ⟨some 36,.callv 32 [35],none⟩ D9,ia 12 36] (sq (sr [im 37 0,im 38 1,ob 39 .leq 37 38] (cn 39
 (sr [im 40 12,im 41 11,im 42 12,ob 43 .sub 41 42,ia 8 40,ia 9 43] .ret) .skip)) (sr [im 44 11,im 45 12,ob 46 .sub 44 45,im 47 12,ia 8 46,ia 9 47] .ret)))))))
def LQ:AFn:=⟨Ahi,PV.erase,[.tmp 8,.tmp 9],4⟩
def Uk(P:Pg)(x:Change)(K:(Int×Int)→Unit→Prop):Prop:=
 (((decide (x.2.2.1≤x.2.2.2))=true→K (x.1,x.2.1) ())∧((decide (x.2.2.1≤x.2.2.2))=false→Fn P Ahh D9 ((i64.wrap (x.1+x.2.1)),(x.2.2.2,x.2.2.1)) (fun(d1:Int) (e2:(Int×Int))=>Ac (D:=Int) (fun J3=>(((cond (decide (x.1>0)) (decide (x.2.1>0)) false)=true→J3 (if(2:Int)>d1 then(2:Int)else d1))∧((cond (decide (x.1>0)) (decide (x.2.1>0)) false)=false→J3 d1))) (fun d4=>Fn P Ahh D9 ((if x.2.1<x.1 then x.2.1 else x.1),e2) (fun(d5:Int) (e6:(Int×Int))=>(((decide (x.1≤x.2.1))=true→K (d5,(i64.wrap (d4 -d5))) ())∧((decide (x.1≤x.2.1))=false→K ((i64.wrap (d4 -d5)),d5) ())))))))
theorem AaS{P}(h:Has P LQ){x K}(hw:Uk P x K):Fn P Ahi GS x K:=
 ZF PV h hw
def PU:Ax:=
 sr [ia 8 (kI 0),ia 9 (kI 0),ia 10 (kI 0)] (sq (sr [im 13 3,ob 14 .lss 13 (kI 2),im 15 14,gf 16 15 (.mv 3),gf 17 15 (.bin .gtr 16 (kI 1000)),op3 18 15 kT 17,im 19 18,gf 20 19 (.mv 0),oS ⟨some 21,.call zS3 [20],some
 (19,false)⟩ Bx,gf 22 19 (.un .not 21),op3 23 19 kT 22,im 24 23,gf 25 24 (.mv 1),oS ⟨some 26,.call zS3 [25],some (24,false)⟩ Bx,gf 27 24 (.un .not 26),op3 28 24 kT 27,im 29 28,gf 30 29 (.mv 2),oS
 ⟨some 31,.call zS3 [30],some (29,false)⟩ Bx,gf 32 29 (.un .not 31),op3 33 29 kT 32,im 34 33,gf 35 34 (.mv 2),gf 36 34 (.mv 0),gf 37 34 (.mv 1),gf 38 34 (.bin .add 36 37),gf 39 34 (.bin .lss 35 38),op3 40 34
 kT 39] (cn 40 (sr [ia 8 (kI 0),ia 9 (kI 0),ia 10 (kI 3)] .ret) .skip)) (sr [im 42 0,im 43 1,im 44 2,im 45 3,oc 46 Ahi [42,43,44,45] GS,im 41 46,oe 47 41 0,oe 48 41 1,ia 11 47,ia 12 48] (sr [im 49 11,im 50 12,ia 8
 49,ia 9 50,ia 10 (kI 0)] .ret)))
def LP:AFn:=⟨Ajz,PU.erase,[.tmp 8,.tmp 9,.tmp 10],4⟩
def Uj(P:Pg)(x:Change)(K:(Int×(Int×Int))→Unit→Prop):Prop:=
 Ac (D:=Bool) (fun J1=>(((cond (decide (x.2.2.2<2)) true (decide (x.2.2.2>1000)))=false→Fn P zS3 Bx x.1 (fun(d2:Bool) _=>J1 d2))∧(((cond (decide (x.2.2.2<2)) true (decide (x.2.2.2>1000)))=true→J1 false)∧True))) (fun d3=>Ac (D:=Bool) (fun J4=>(((cond (cond (decide (x.2.2.2<2)) true (decide (x.2.2.2>1000))) true (!d3))=false→Fn P zS3 Bx x.2.1 (fun(d5:Bool) _=>J4 d5))∧(((cond (cond (decide (x.2.2.2<2)) true (decide (x.2.2.2>1000))) true (!d3))=true→J4 false)∧True))) (fun d6=>Ac (D:=Bool) (fun J7=>(((cond (cond (cond (decide (x.2.2.2<2)) true (decide (x.2.2.2>1000))) true (!d3)) true (!d6))=false→Fn P zS3 Bx x.2.2.1 (fun(d8:Bool) _=>J7 d8))∧(((cond (cond (cond (decide (x.2.2.2<2)) true (decide (x.2.2.2>1000))) true (!d3)) true (!d6))=true→J7 false)∧True))) (fun d9=>(((cond (cond (cond (cond (cond (decide (x.2.2.2<2)) true (decide (x.2.2.2>1000))) true (!d3)) true (!d6)) true (!d9)) true (decide (x.2.2.1<(i64.wrap (x.1+x.2.1)))))=true→K ((0:Int),((0:Int),(3:Int))) ())∧((cond (cond (cond (cond (cond (decide (x.2.2.2<2)) true (decide (x.2.2.2>1000))) true (!d3)) true (!d6)) true (!d9)) true (decide (x.2.2.1<(i64.wrap (x.1+x.2.1)))))=false→Fn P Ahi GS x (fun(d10:(Int×Int)) _=>K (d10.1,(d10.2,(0:Int))) ()))))))
theorem AaR{P}(h:Has P LP){x K}(hw:Uj P x K):Fn P Ajz GR x K:=
 ZF PU h hw
def KE:Ax:=
 sr [o1 0 (.asg kF)] (sr [oc 7 Ajz [kI 60,kI 40,kI 100,kI 10] GR,im 6 7,oe 8 6 0,oe 9 6 1,oe 10 6 2,ia 1 8,ia 2 9,ia 3 10] (sr [o1 12 (.build [.string ⟨#[]⟩,.int .i64 0,.int .i64 0] [(0,1,.c (.string
 ⟨#[120]⟩)),(1,1,kI 1),(2,1,kI 2)]),oT ⟨some 13,.buildSl 3 [.string ⟨#[]⟩,.int .i64 0,.int .i64 0] 1 [(0,12)],none⟩ (some (Dy,.leaf)),oc 14 "mergelens/stat.Format" [13,kI 10] Hz,im 11 14,oe 15 11 0,oe 16 11 1,ia 4 15,ia 5 16]
 (sr [im 17 3,ob 18 .eql 17 (kI 0),im 19 18,gt 20 19 (.mv 5),gt 21 19 (.bin .eql 20 (kI 0)),op3 22 19 21 kF,im 23 22,gt 24 23 (.mv 1),gt 25 23 (.bin .eql 24 (kI 6)),op3 26 23 25 kF,im 27 26,gt 28 27 (.mv 2),gt 29 27 (.bin .eql 28 (kI
 4)),op3 30 27 29 kF,im 31 30,gt 32 31 (.mv 4),o0 ⟨some 33,.bin .eql 32 (.c (.string ⟨#[32,120,32,124,32,51,32,43,45,45,10,32,49,32,102,105,108,101,115,44,32,49,32,97,100,100,101,100,44,32,50,32,114,101,109,111,118,101,100,10]⟩)),some
 (31,true)⟩,op3 34 31 33 kF,ia 0 34] .ret)))
def Hb:AFn:=⟨AcD,KE.erase,[.tmp 0],0⟩
def OE(P:Pg)(x:Unit)(K:Bool→Unit→Prop):Prop:=
 Fn P Ajz GR ((60:Int),((40:Int),((100:Int),(10:Int)))) (fun(d1:(Int×(Int×Int))) _=>Fn P "mergelens/stat.Format" Hz (([(([120]:List UInt8),((1:Int),(2:Int)))]:List Stat),(10:Int)) (fun(d3:(Bt8×Int)) _=>K (cond (cond (cond (cond (d1.2.2==0) (d3.2==0) false) (d1.1==6) false) (d1.2.1==4) false) (d3.1==([32,120,32,124,32,51,32,43,45,45,10,32,49,32,102,105,108,101,115,44,32,49,32,97,100,100,101,100,44,32,50,32,114,101,109,111,118,101,100,10]:List UInt8)) false) ()))
theorem UL{P}(h:Has P Hb){x K}(hw:OE P x K):Fn P AcD Df x K:=
 ZF KE h hw
def Mu:Ax:=
 sr [o1 2 (.asg kF)] (sr [im 3 0,oc 4 "strings.HasSuffix" [3,.c (.string ⟨#[10]⟩)] C7,ia 2 4] .ret)
def Ij:AFn:=⟨AjA,Mu.erase,[.tmp 2],1⟩
def Ql(P:Pg)(x:Bt8)(K:Bool→Unit→Prop):Prop:=
 Fn P "strings.HasSuffix" C7 (x,([10]:List UInt8)) (fun(d1:Bool) _=>K d1 ())
theorem WH{P}(h:Has P Ij){x K}(hw:Ql P x K):Fn P AjA Gj x K:=
 ZF Mu h hw
def Mt:Ax:=
 sr [ia 2 (kI 0)] (sr [im 4 0,oc 5 "strings.Count" [4,.c (.string ⟨#[10]⟩)] Ek,ia 3 5] (sq (sr [im 6 0,ob 7 .neq 6 (.c (.string ⟨#[]⟩)),im 8 7,gt 9 8 (.mv 0),oS ⟨some 10,.call AjA [9],some (8,true)⟩
 Gj,gt 11 8 (.un .not 10),op3 12 8 11 kF] (.frame [3,13,14] [] false (.join [.si 3] (cn 12 (rn [im 13 3,ob 14 .add 13 (kI 1),ia 3 14]) .skip)))) (sq (sr [im 15 0,o1 16 (.lenS 15),ob 17 .gtr 16 (kI 1048576),im 18 17,gf 19 18 (.mv
 3),gf 20 18 (.bin .gtr 19 (kI 4096)),op3 21 18 kT 20] (cn 21 (sr [ia 2 (kI 1)] .ret) .skip)) (sr [ia 2 (kI 0)] .ret))))
def Ii:AFn:=⟨AeF,Mt.erase,[.tmp 2],1⟩
def Qk(P:Pg)(x:Bt8)(K:Int→Unit→Prop):Prop:=
 Fn P "strings.Count" Ek (x,([10]:List UInt8)) (fun(d1:Int) _=>Ac (D:=Bool) (fun J3=>(((!(x==([]:List UInt8)))=true→Fn P AjA Gj x (fun(d4:Bool) _=>J3 d4))∧(((!(x==([]:List UInt8)))=false→J3 false)∧True))) (fun d5=>Ac (D:=Int) (fun J6=>(((cond (!(x==([]:List UInt8))) (!d5) false)=true→J6 (i64.wrap (d1+1)))∧((cond (!(x==([]:List UInt8))) (!d5) false)=false→J6 d1))) (fun d7=>(((cond (decide ((x.length:Int)>1048576)) true (decide (d7>4096)))=true→K (1:Int) ())∧((cond (decide ((x.length:Int)>1048576)) true (decide (d7>4096)))=false→K (0:Int) ())))))
theorem WG{P}(h:Has P Ii){x K}(hw:Qk P x K):Fn P AeF Ea x K:=
 ZF Mt h hw
end Go.VS
