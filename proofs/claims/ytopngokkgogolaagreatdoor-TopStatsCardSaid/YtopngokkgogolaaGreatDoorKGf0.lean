/- Functions of the program: typed code, and what it says, lifted. -/
import Derived.Test.YtopngokkgogolaaGreatDoorKTxSig
import Derived.KernelRfl
set_option linter.unusedVariables false
set_option linter.unusedSimpArgs false
set_option maxRecDepth 8000
open List renaming getD → Qa0, length → Qa1, take → Qa6
open Int renaming toNat → Qa2, tmod → Qa3
open BitVec renaming ofInt → Qa4, toNat → Qa5
namespace Go.VS
open IntKind
def Ps:AnF:=⟨zS2,8,[],[],[.tmp 4],2⟩
def Zv(P:Pg)(x:(Int×Int))(K:Int→Unit→Prop):Prop:=
 ((u64.wrap x.2)≠0)∧
 K (i64.wrap (Qa3 (u64.wrap x.1) (u64.wrap x.2))) ()
theorem Afr{P}(h:Hq P Ps){x K}(hw:Zv P x K):Fn P zS2 B8 x K:=
 zF h hw
def Rp:AnF:=⟨zS0,36,[],[dF 16 [5] 13 10,dJ 16 [.sl 5 false (.int .u64) .leaf]],[.tmp 4],2⟩
def Ab1(P:Pg)(x:((List Int)×Int))(K:Int→Unit→Prop):Prop:=
 Ac (D:=Int) (fun J1=>(((decide ((x.1.length:Int)>0))=true→((x.1.length:Int)≠0)∧
 (0≤(Qa3 x.2 (x.1.length:Int))∧(Qa3 x.2 (x.1.length:Int))<(x.1.length:Int))∧
 ((Qa2 (Qa3 x.2 (x.1.length:Int)))<x.1.length)∧
 J1 (u64.wrap ((Qa5 (Qa4 u64.bits (u64.wrap ((u64.wrap (i64.wrap (x.2+1)))*11400714819323198485))^^^Qa4 u64.bits (u64.wrap (Qa0 x.1 (Qa2 (Qa3 x.2 (x.1.length:Int))) (0:Int)))):Nat):Int)))∧((decide ((x.1.length:Int)>0))=false→J1 (u64.wrap ((u64.wrap (i64.wrap (x.2+1)))*11400714819323198485))))) (fun d2=>(0≤(31:Int))∧
 (0≤(29:Int))∧
 (0≤(1:Int))∧
 K (i64.wrap (Int.fdiv (u64.wrap ((Qa5 (Qa4 u64.bits (u64.wrap ((u64.wrap ((Qa5 (Qa4 u64.bits d2^^^Qa4 u64.bits (Int.fdiv d2 (2^(min (Qa2 (31:Int)) u64.bits)))):Nat):Int))*13787848793156543929))^^^Qa4 u64.bits (Int.fdiv (u64.wrap ((u64.wrap ((Qa5 (Qa4 u64.bits d2^^^Qa4 u64.bits (Int.fdiv d2 (2^(min (Qa2 (31:Int)) u64.bits)))):Nat):Int))*13787848793156543929)) (2^(min (Qa2 (29:Int)) u64.bits)))):Nat):Int)) (2^(min (Qa2 (1:Int)) u64.bits)))) ())
theorem Aiq{P}(h:Hq P Rp){x K}(hw:Ab1 P x K):Fn P zS0 BC x K:=
 zF h hw
def M4:AnF:=⟨Amg,95,[B8],[dT 5 (.str,.leaf)],[.tmp 2],1⟩
abbrev O8:List (List UInt8):=([([97]:List UInt8),([98]:List UInt8),([99]:List UInt8),([97,98]:List UInt8),([98,97]:List UInt8),([]:List UInt8),([97,97]:List UInt8),([98,32,97]:List UInt8),([120,43,121]:List UInt8),([92]:List UInt8)]:List (List UInt8))
def Wr(P:Pg)(x:Int)(K:Bt8→Unit→Prop):Prop:=
 Fn P zS2 B8 (x,(10:Int)) (fun(d1:Int) _=>(0≤d1∧d1<((Qa1 O8:Nat):Int))∧
 (d1.toNat<Qa1 O8)∧
 K (Qa0 O8 d1.toNat []) ())
theorem AcC{P}(h:Hq P M4){x K}(hw:Wr P x K):Fn P Amg G6 x K:=
 zF h hw
def M3:AnF:=⟨AjD,35,[BC,B8,BC,B8,G6,BC],[dF 19 [9,10] 17 17,dJ 19 [.sl 9 false .str .leaf],dL [.sl 9 false .str .leaf,.si 10],dF 31 [9] 22 12,dJ 31 [.sl 9 false .str .leaf],dF 72 [9] 53 5,dJ 72 [.sl 9 false .str .leaf]],[.tmp 8],4⟩
def Wq(P:Pg)(x:((List Int)×(Int×(Int×Int))))(K:Bt8→Unit→Prop):Prop:=
 Fn P zS0 BC (x.1,x.2.1) (fun(d1:Int) _=>Fn P zS2 B8 (d1,(i64.wrap (x.2.2.1+1))) (fun(d3:Int) _=>Ac (D:=Bt8) (fun J5=>AJ (D:=(Bt8×Int)) (([]:List UInt8),(0:Int)) (fun d7 J8=>(((decide (d7.2<d3))=true→Ac (D:=Bt8) (fun J9=>Fn P zS0 BC (x.1,(i64.wrap ((i64.wrap (x.2.1+1))+d7.2))) (fun(d11:Int) _=>Fn P zS2 B8 (d11,x.2.2.2) (fun(d13:Int) _=>Fn P Amg G6 d13 (fun(d15:Bt8) _=>(d7.1.length+d15.length≤9223372036854775807)∧
 (Qa1 (d7.1++d15)+Qa1 ([10]:List UInt8)≤9223372036854775807)∧
 J9 ((d7.1++d15)++([10]:List UInt8)))))) (fun d10=>J8 (d10,(i64.wrap (d7.2+1)))))∧((decide (d7.2<d3))=false→J5 d7.1)))) (fun d6=>Fn P zS0 BC (x.1,(i64.wrap (x.2.1+90))) (fun(d17:Int) _=>((4:Int)≠0)∧
 (((cond ((Qa3 d17 (4:Int))==0) (decide ((d6.length:Int)>1)) false)=true→0≤(i64.wrap ((d6.length:Int) -2))∧(i64.wrap ((d6.length:Int) -2))<(d6.length:Int)))∧
 Ac (D:=Bt8) (fun J19=>(((cond (cond ((Qa3 d17 (4:Int))==0) (decide ((d6.length:Int)>1)) false) (((UInt8.toNat (Qa0 d6 (Qa2 (i64.wrap ((d6.length:Int) -2))) 0):Nat):Int) !=10) false)=true→(0≤(i64.wrap ((d6.length:Int) -1))∧(i64.wrap ((d6.length:Int) -1))≤(d6.length:Int))∧
 J19 (Qa6 (Qa2 (i64.wrap ((d6.length:Int) -1))) d6))∧((cond (cond ((Qa3 d17 (4:Int))==0) (decide ((d6.length:Int)>1)) false) (((UInt8.toNat (Qa0 d6 (Qa2 (i64.wrap ((d6.length:Int) -2))) 0):Nat):Int) !=10) false)=false→J19 d6))) (fun d20=>K d20 ())))))
theorem AcB{P}(h:Hq P M3){x K}(hw:Wq P x K):Fn P AjD FH x K:=
 zF h hw
def Lo:AnF:=⟨AjE,59,[BC,FH,FH],[dT 5 (.str,.leaf),dF 14 [8,9] 11 27,dJ 14 [.sl 8 false (.sl (.pair .str .str)) tO],dL [.sl 8 false (.sl (.pair .str .str)) tO,.si 9],dF 25 [8] 15 23,dJ 25 [.sl 8 false (.sl (.pair .str .str)) tO],dF 35 [8] 22 16,dJ 35 [.sl 8 false (.sl (.pair .str .str)) tO],dF 36 [8] 22 16,dJ 36 [.sl 8 false (.sl (.pair .str .str)) tO],dT 51 (.pair .str .str,.leaf),dT 52 (.pair .str .str,.leaf),dT 57 (.pair .str .str,.leaf),dT 58 (.pair .str .str,.leaf)],[.tmp 6],3⟩
abbrev E5:List (List UInt8):=([([97]:List UInt8),([98,47,120]:List UInt8),([98,47,121]:List UInt8),([99,32,100]:List UInt8)]:List (List UInt8))
def UE(P:Pg)(x:((List Int)×(Int×Int)))(K:(List (Bt8×Bt8))→Unit→Prop):Prop:=
 Ac (D:=(List (Bt8×Bt8))) (fun J1=>AJ (D:=((List (Bt8×Bt8))×Int)) ([],(0:Int)) (fun d3 J4=>(((decide (d3.2<4))=true→Ac (D:=(List (Bt8×Bt8))) (fun J5=>Fn P zS0 BC (x.1,(i64.wrap (x.2.1+d3.2))) (fun(d7:Int) _=>((3:Int)≠0)∧
 Ac (D:=(List (Bt8×Bt8))) (fun J9=>(((decide ((Qa3 d7 (3:Int))>0))=true→Ac (D:=(List (Bt8×Bt8))) (fun J11=>(0≤d3.2∧d3.2<((Qa1 E5:Nat):Int))∧
 ((d3.2.toNat<Qa1 E5)∧
 (Fn P AjD FH (x.1,((i64.wrap ((i64.wrap (x.2.1+10))+(i64.wrap ((20:Int)*d3.2)))),(x.2.2,(4:Int)))) (fun(d13:Bt8) _=>((((d3.1.length+Qa1 ([((Qa0 E5 d3.2.toNat []),d13)]:List (Bt8×Bt8)))*32≤140737488355328)∧
 (J11 (d3.1++([((Qa0 E5 d3.2.toNat []),d13)]:List (Bt8×Bt8))))∧True)∧True)∧True))∧True)∧((Fn P AjD FH (x.1,((i64.wrap ((i64.wrap (x.2.1+10))+(i64.wrap ((20:Int)*d3.2)))),(x.2.2,(4:Int)))) (fun(d15:Bt8) _=>(d3.2.toNat<Qa1 E5)∧
 ((((d3.1.length+Qa1 ([((Qa0 E5 d3.2.toNat []),d15)]:List (Bt8×Bt8)))*32≤140737488355328)∧
 (J11 (d3.1++([((Qa0 E5 d3.2.toNat []),d15)]:List (Bt8×Bt8))))∧True)∧True)∧True))∧True)) (fun d12=>J9 d12))∧((decide ((Qa3 d7 (3:Int))>0))=false→J9 d3.1))) (fun d10=>J5 d10))) (fun d6=>J4 (d6,(i64.wrap (d3.2+1)))))∧((decide (d3.2<4))=false→J1 d3.1)))) (fun d2=>K d2 ())
theorem AaV{P}(h:Hq P Lo){x K}(hw:UE P x K):Fn P AjE EM x K:=
 zF h hw
def IH:AnF:=⟨AjF,34,[],[dF 13 [] 3 30,dJ 13 [.sl 3 false (.sl .str) tO],dL [.sl 3 false (.sl .str) tO,.si 4,.si 5],dF 26 [3,4] 12 21,dJ 26 [.sl 3 false (.sl .str) tO,.si 4],dF 40 [3,4] 23 10,dJ 40 [.sl 3 false (.sl .str) tO,.si 4],dT 49 (.str,.leaf),dT 50 (.str,.leaf)],[.tmp 2],1⟩
def Qh(P:Pg)(x:Bt8)(K:(List Bt8)→Unit→Prop):Prop:=
 Ac (D:=(List Bt8)) (fun J1=>AJ (D:=((List Bt8)×(Int×Int))) ([],((0:Int),(0:Int))) (fun d3 J4=>(((decide (d3.2.2<(x.length:Int)))=true→Ac (D:=((List Bt8)×Int)) (fun J5=>(0≤d3.2.2∧d3.2.2<(x.length:Int))∧
 Ac (D:=((List Bt8)×Int)) (fun J7=>(((cond (((x.getD d3.2.2.toNat 0).toNat:Int)==10) true ((i64.wrap (d3.2.2+1))==(x.length:Int)))=true→(0≤d3.2.1∧d3.2.1≤(i64.wrap (d3.2.2+1))∧(i64.wrap (d3.2.2+1))≤(x.length:Int))∧
 ((d3.1.length+Qa1 ([(List.drop d3.2.1.toNat (Qa6 (Qa2 (i64.wrap (d3.2.2+1))) x))]:List Bt8))*16≤140737488355328)∧
 J7 ((d3.1++([(List.drop d3.2.1.toNat (Qa6 (Qa2 (i64.wrap (d3.2.2+1))) x))]:List Bt8)),(i64.wrap (d3.2.2+1))))∧((cond (((x.getD d3.2.2.toNat 0).toNat:Int)==10) true ((i64.wrap (d3.2.2+1))==(x.length:Int)))=false→J7 (d3.1,d3.2.1)))) (fun d8=>J5 d8)) (fun d6=>J4 (d6.1,(d6.2,(i64.wrap (d3.2.2+1))))))∧((decide (d3.2.2<(x.length:Int)))=false→J1 d3.1)))) (fun d2=>K d2 ())
theorem W9{P}(h:Hq P IH){x K}(hw:Qh P x K):Fn P AjF Da x K:=
 zF h hw
def M5:AnF:=⟨Aof,37,[Da,BC,BC,G6],[dF 15 [8,9] 12 32,dJ 15 [.sl 8 false .str .leaf],dL [.sl 8 false .str .leaf,.si 9],dF 28 [8] 18 26,dJ 28 [.sl 8 false .str .leaf],dF 38 [8] 24 14,dJ 38 [.sl 8 false .str .leaf],dF 49 [8] 28 10,dJ 49 [.sl 8 false .str .leaf]],[.tmp 6],3⟩
def Ws(P:Pg)(x:(Bt8×((List Int)×Int)))(K:Bt8→Unit→Prop):Prop:=
 Fn P AjF Da x.1 (fun(d1:(List Bt8)) _=>Ac (D:=Bt8) (fun J3=>AJ (D:=(Bt8×Int)) (([]:List UInt8),(0:Int)) (fun d5 J6=>(((decide (d5.2<(d1.length:Int)))=true→Ac (D:=Bt8) (fun J7=>Fn P zS0 BC (x.2.1,(i64.wrap (x.2.2+d5.2))) (fun(d9:Int) _=>((6:Int)≠0)∧
 Ac (D:=Bt8) (fun J11=>((((Qa3 d9 (6:Int))==0)=true→J7 d5.1)∧(((Qa3 d9 (6:Int))==0)=false→Ac (D:=Bt8) (fun J13=>((((Qa3 d9 (6:Int))==1)=true→Fn P zS0 BC (x.2.1,(i64.wrap ((i64.wrap (x.2.2+40))+d5.2))) (fun(d15:Int) _=>Fn P Amg G6 d15 (fun(d17:Bt8) _=>(d5.1.length+d17.length≤9223372036854775807)∧
 (Qa1 (d5.1++d17)+Qa1 ([10]:List UInt8)≤9223372036854775807)∧
 J13 ((d5.1++d17)++([10]:List UInt8)))))∧(((Qa3 d9 (6:Int))==1)=false→J13 d5.1))) (fun d14=>J11 d14)))) (fun d12=>(0≤d5.2∧d5.2<(d1.length:Int))∧
 (d5.2.toNat<d1.length)∧
 (d12.length+Qa1 (Qa0 d1 d5.2.toNat [])≤9223372036854775807)∧
 J7 (d12++(Qa0 d1 d5.2.toNat []))))) (fun d8=>J6 (d8,(i64.wrap (d5.2+1)))))∧((decide (d5.2<(d1.length:Int)))=false→J3 d5.1)))) (fun d4=>K d4 ()))
theorem AcD{P}(h:Hq P M5){x K}(hw:Ws P x K):Fn P Aof JZ x K:=
 zF h hw
def Js:AnF:=⟨Aog,60,[BC,B8,JZ,BC,EM],[(18,.f (rg [9,11,12] 18 30) [1012] false),dJ 18 [.sl 9 false (.sl (.pair .str .str)) tO],dL [.sl 9 false (.sl (.pair .str .str)) tO,.si 11],(31,.f (rg [9,12] 24 24) [1012] false),dJ 31 [.sl 9 false (.sl (.pair .str .str)) tO],(46,.f (rg [] 31 13) [1012] false),dJ 46 [.bx 1012 (.pair .str .str) .leaf],dT 72 (.pair .str .str,.leaf),dT 73 (.pair .str .str,.leaf)],[.tmp 8],4⟩
def RA(P:Pg)(x:((List (Bt8×Bt8))×((List Int)×(Int×Int))))(K:(List (Bt8×Bt8))→Unit→Prop):Prop:=
 Fn P zS0 BC (x.2.1,(i64.wrap (x.2.2.1+3))) (fun(d1:Int) _=>Fn P zS2 B8 (d1,(4:Int)) (fun(d3:Int) _=>Ac (D:=(List (Bt8×Bt8))) (fun J5=>AJ (D:=((List (Bt8×Bt8))×Int)) ([],(0:Int)) (fun d7 J8=>(((decide (d7.2<(x.1.length:Int)))=true→Ac (D:=(List (Bt8×Bt8))) (fun J9=>(0≤d7.2∧d7.2<(x.1.length:Int))∧
 (d7.2.toNat<x.1.length)∧
 Ac (D:=(Bt8×Bt8)) (fun J11=>(((d7.2==d3)=true→Fn P Aof JZ ((Qa0 x.1 d7.2.toNat ([],[])).2,(x.2.1,(i64.wrap (x.2.2.1+7)))) (fun(d13:Bt8) _=>Fn P zS0 BC (x.2.1,(i64.wrap (x.2.2.1+5))) (fun(d15:Int) _=>((5:Int)≠0)∧
 ((((Qa3 d15 (5:Int))==0)=true→J9 d7.1)∧(((Qa3 d15 (5:Int))==0)=false→J11 ((Qa0 x.1 d7.2.toNat ([],[])).1,d13))))))∧((d7.2==d3)=false→J11 (Qa0 x.1 d7.2.toNat ([],[]))))) (fun d12=>((d7.1.length+Qa1 ([d12]:List (Bt8×Bt8)))*32≤140737488355328)∧
 J9 (d7.1++([d12]:List (Bt8×Bt8))))) (fun d10=>J8 (d10,(i64.wrap (d7.2+1)))))∧((decide (d7.2<(x.1.length:Int)))=false→J5 d7.1)))) (fun d6=>((((d6.length:Int)==0)=true→Fn P AjE EM x.2 (fun(d17:(List (Bt8×Bt8))) _=>K d17 ()))∧(((d6.length:Int)==0)=false→K d6 ())))))
theorem YU{P}(h:Hq P Js){x K}(hw:RA P x K):Fn P Aog HF x K:=
 zF h hw
def Jr:AnF:=⟨Aoh,61,[BC],[(2,.t none ⟨[],[]⟩ true none false false),(14,.t none ⟨[],[]⟩ true none false false),dT 25 (AW,.pair tO (.pair .leaf tM)),(31,.f (rg [6,7,8,9] 19 43) [1008] true),dJ 31 [.sl 6 false (.sl AW) (.node .own (.pair tO (.pair .leaf tM)))],dL [.sl 6 false (.sl AW) (.node .own (.pair tO (.pair .leaf tM))),.si 7],(43,.f (rg [6,8,9] 24 38) [1008] true),dJ 43 [.sl 6 false (.sl AW) (.node .own (.pair tO (.pair .leaf tM)))],(60,.f (rg [9] 29 26) [1008] true),dJ 60 [.bx 1008 AW (.pair tO (.pair .leaf tM))],dL [.si 9,.bx 1008 AW (.pair tO (.pair .leaf tM))],(77,.f (rg [] 39 16) [1008] true),dJ 77 [.bx 1008 AW (.pair tO (.pair .leaf tM))],(78,.f (rg [] 39 16) [1008] true),dJ 78 [.bx 1008 AW (.pair tO (.pair .leaf tM))],dT 92 (bI,.leaf),dT 93 (bI,.leaf),dT 96 (bI,.leaf),dT 98 (bI,.leaf),(121,.t none ⟨[],[]⟩ true none false false)],[.tmp 4],2⟩
def Rz(P:Pg)(x:((List Commit)×(List Int)))(K:(List Commit)→Unit→Prop):Prop:=
 Fn P zS0 BC (x.2,(3:Int)) (fun(d1:Int) _=>((2:Int)≠0)∧
 ((((Qa3 d1 (2:Int))==0)=true→K x.1 ())∧(((Qa3 d1 (2:Int))==0)=false→(0≤(x.1.length:Int)∧(x.1.length:Int)≤(x.1.length:Int)∧((56:Nat):Int)*(x.1.length:Int)≤281474976710656)∧
 Ac (D:=(List Commit)) (fun J3=>AJ (D:=((List Commit)×Int)) ((List.replicate (Qa2 (x.1.length:Int)) ([],((0:Int),[]))),(0:Int)) (fun d5 J6=>(((decide (d5.2<(x.1.length:Int)))=true→Ac (D:=(List Commit)) (fun J7=>(0≤d5.2∧d5.2<(x.1.length:Int))∧
 (d5.2.toNat<x.1.length)∧
 Ac (D:=Commit) (fun J9=>AJ (D:=(Int×Commit)) ((0:Int),([],(Qa0 x.1 d5.2.toNat Am).2)) (fun d11 J12=>(0≤d5.2∧d5.2<(x.1.length:Int))∧
 (d5.2.toNat<x.1.length)∧
 (((decide (d11.1<((Qa1 (Qa0 x.1 d5.2.toNat Am).1:Nat):Int)))=true→Ac (D:=Commit) (fun J13=>Ac (D:=Commit) (fun J15=>(0≤d5.2∧d5.2<(x.1.length:Int))∧
 (d5.2.toNat<x.1.length)∧
 (0≤d11.1∧d11.1<((Qa1 (Qa0 x.1 d5.2.toNat Am).1:Nat):Int))∧
 (d11.1.toNat<Qa1 (Qa0 x.1 d5.2.toNat Am).1)∧
 (((((d11.2.1.length+Qa1 ([(i64.wrap ((i64.wrap ((x.1.length:Int) -1)) -(Qa0 (Qa0 x.1 d5.2.toNat Am).1 d11.1.toNat (0:Int))))]:List Int))*8≤140737488355328)∧
 (J15 ((d11.2.1++([(i64.wrap ((i64.wrap ((x.1.length:Int) -1)) -(Qa0 (Qa0 x.1 d5.2.toNat Am).1 d11.1.toNat (0:Int))))]:List Int)),d11.2.2))∧True)∧True)∧True)∧(((((d11.2.1.length+Qa1 ([(i64.wrap ((i64.wrap ((x.1.length:Int) -1)) -(Qa0 (Qa0 x.1 d5.2.toNat Am).1 d11.1.toNat (0:Int))))]:List Int))*8≤140737488355328)∧
 (J15 ((d11.2.1++([(i64.wrap ((i64.wrap ((x.1.length:Int) -1)) -(Qa0 (Qa0 x.1 d5.2.toNat Am).1 d11.1.toNat (0:Int))))]:List Int)),d11.2.2))∧True)∧True)∧True)) (fun d16=>J13 d16)) (fun d14=>J12 ((i64.wrap (d11.1+1)),d14)))∧((decide (d11.1<((Qa1 (Qa0 x.1 d5.2.toNat Am).1:Nat):Int)))=false→J9 d11.2)))) (fun d10=>(0≤(i64.wrap ((i64.wrap ((x.1.length:Int) -1)) -d5.2))∧(i64.wrap ((i64.wrap ((x.1.length:Int) -1)) -d5.2))<(d5.1.length:Int))∧
 ((Qa2 (i64.wrap ((i64.wrap ((x.1.length:Int) -1)) -d5.2)))<d5.1.length)∧
 J7 (List.set d5.1 (Qa2 (i64.wrap ((i64.wrap ((x.1.length:Int) -1)) -d5.2))) d10))) (fun d8=>J6 (d8,(i64.wrap (d5.2+1)))))∧((decide (d5.2<(x.1.length:Int)))=false→J3 d5.1)))) (fun d4=>K d4 ()))))
theorem YT{P}(h:Hq P Jr){x K}(hw:Rz P x K):Fn P Aoh HE x K:=
 zF h hw
def Lp:AnF:=⟨Aoi,17,[BC,B8,BC,B8,BC,BC,EM,BC,HF,HE],[dT 13 (AW,.pair tM (.pair .leaf tM)),(19,.f (rg [7,8,9,10] 17 95) [1009] true),dJ 19 [.sl 7 false (.sl AW) (.node .own (.pair tM (.pair .leaf tM)))],dL [.sl 7 false (.sl AW) (.node .own (.pair tM (.pair .leaf tM))),.si 8],(31,.f (rg [7,9,10] 22 90) [1009] true),dJ 31 [.sl 7 false (.sl AW) (.node .own (.pair tM (.pair .leaf tM)))],(46,.f (rg [10] 28 26) [1009] true),dJ 46 [.bx 1009 AW (.pair tO (.pair .leaf tO))],dL [.si 10,.bx 1009 AW (.pair tO (.pair .leaf tO))],(58,.f (rg [] 33 21) [1009] true),dJ 58 [.bx 1009 AW (.pair tO (.pair .leaf tO))],(76,.f (rg [] 48 6) [1009] true),dJ 76 [.bx 1009 AW (.pair tO (.pair .leaf tO))],dT 81 (bI,.leaf),dT 82 (bI,.leaf),(109,.f (rg [] 70 4) [1009] true),dJ 109 [.bx 1009 AW (.pair tO (.pair .leaf tO))],dT 113 (bI,.leaf),(142,.f (rg [] 93 15) [1009] true),dJ 142 [.bx 1009 AW (.pair tO (.pair .leaf tO))],(164,.t (some (AW,.pair tO (.pair .leaf tO))) ⟨[],[]⟩ true none false false),dT 165 (AW,.pair tM (.pair .leaf tM)),(172,.z [7])],[.tmp 6],3⟩
def UF(P:Pg)(x:((List Int)×(Int×Int)))(K:(List Commit)→Unit→Prop):Prop:=
 Fn P zS0 BC (x.1,(0:Int)) (fun(d1:Int) _=>Fn P zS2 B8 (d1,(i64.wrap (x.2.1+1))) (fun(d3:Int) _=>Ac (D:=(List Commit)) (fun J5=>AJ (D:=((List Commit)×Int)) (([]:List Commit),(0:Int)) (fun d7 J8=>(((decide (d7.2<d3))=true→Ac (D:=(List Commit)) (fun J9=>Fn P zS0 BC (x.1,(i64.wrap ((1000:Int)+d7.2))) (fun(d11:Int) _=>Fn P zS2 B8 (d11,(5:Int)) (fun(d13:Int) _=>Ac (D:=Commit) (fun J15=>AJ (D:=(Int×Commit)) ((0:Int),([],(d13,[]))) (fun d17 J18=>(((decide (d17.1<d7.2))=true→Ac (D:=Commit) (fun J19=>Fn P zS0 BC (x.1,(i64.wrap ((i64.wrap ((1100:Int)+(i64.wrap ((40:Int)*d7.2))))+d17.1))) (fun(d21:Int) _=>((3:Int)≠0)∧
 Ac (D:=Commit) (fun J23=>(((cond ((Qa3 d21 (3:Int))==0) (decide ((d17.2.1.length:Int)<3)) false)=true→((d17.2.1.length+Qa1 ([d17.1]:List Int))*8≤140737488355328)∧
 J23 ((d17.2.1++([d17.1]:List Int)),d17.2.2))∧((cond ((Qa3 d21 (3:Int))==0) (decide ((d17.2.1.length:Int)<3)) false)=false→J23 d17.2))) (fun d24=>J19 d24))) (fun d20=>J18 ((i64.wrap (d17.1+1)),d20)))∧((decide (d17.1<d7.2))=false→J15 d17.2)))) (fun d16=>Ac (D:=Int) (fun J25=>(((cond ((d16.1.length:Int)==0) (decide (d7.2>0)) false)=true→Fn P zS0 BC (x.1,(i64.wrap ((1500:Int)+d7.2))) (fun(d26:Int) _=>J25 d26))∧(((cond ((d16.1.length:Int)==0) (decide (d7.2>0)) false)=false→J25 (0:Int))∧True))) (fun d27=>(((cond ((d16.1.length:Int)==0) (decide (d7.2>0)) false)=true→(4:Int)≠0))∧
 Ac (D:=Commit) (fun J28=>(((cond (cond ((d16.1.length:Int)==0) (decide (d7.2>0)) false) (decide ((Qa3 d27 (4:Int))>0)) false)=true→J28 (([(i64.wrap (d7.2 -1))]:List Int),d16.2))∧((cond (cond ((d16.1.length:Int)==0) (decide (d7.2>0)) false) (decide ((Qa3 d27 (4:Int))>0)) false)=false→J28 d16))) (fun d29=>Fn P AjE EM (x.1,((i64.wrap ((2000:Int)+(i64.wrap ((200:Int)*d7.2)))),x.2.2)) (fun(d30:(List (Bt8×Bt8))) _=>Ac (D:=Int) (fun J32=>(((decide ((d29.1.length:Int)>0))=true→Fn P zS0 BC (x.1,(i64.wrap ((1600:Int)+d7.2))) (fun(d33:Int) _=>J32 d33))∧(((decide ((d29.1.length:Int)>0))=false→J32 (0:Int))∧True))) (fun d34=>(((decide ((d29.1.length:Int)>0))=true→(4:Int)≠0))∧
 Ac (D:=Commit) (fun J35=>(((cond (decide ((d29.1.length:Int)>0)) (decide ((Qa3 d34 (4:Int))>0)) false)=true→(0≤(0:Int)∧(0:Int)<(d29.1.length:Int))∧
 ((Qa2 (0:Int))<d29.1.length)∧
 (0≤(Qa0 d29.1 (Qa2 (0:Int)) (0:Int))∧(Qa0 d29.1 (Qa2 (0:Int)) (0:Int))<(d7.1.length:Int))∧
 ((Qa2 (Qa0 d29.1 (Qa2 (0:Int)) (0:Int)))<d7.1.length)∧
 Fn P Aog HF ((Qa0 d7.1 (Qa2 (Qa0 d29.1 (Qa2 (0:Int)) (0:Int))) Am).2.2,(x.1,((i64.wrap ((2000:Int)+(i64.wrap ((200:Int)*d7.2)))),x.2.2))) (fun(d37:(List (Bt8×Bt8))) _=>J35 (d29.1,(d29.2.1,d37))))∧((cond (decide ((d29.1.length:Int)>0)) (decide ((Qa3 d34 (4:Int))>0)) false)=false→J35 (d29.1,(d29.2.1,d30))))) (fun d36=>((d7.1.length+Qa1 ([d36]:List Commit))*56≤140737488355328)∧
 J9 (d7.1++([d36]:List Commit))))))))))) (fun d10=>J8 (d10,(i64.wrap (d7.2+1)))))∧((decide (d7.2<d3))=false→J5 d7.1)))) (fun d6=>Fn P Aoh HE (d6,x.1) (fun(d39:(List Commit)) _=>K d39 ()))))
theorem AaW{P}(h:Hq P Lp){x K}(hw:UF P x K):Fn P Aoi I2 x K:=
 zF h hw
def JX:AnF:=⟨ "mergelens/regex.weight",260,[],[dF 14 [5,7] 11 12,dI 14 [5],dK [5,11],dF 24 [5,7] 13 9,dI 24 [5],dF 47 [4] 25 39,dI 47 [4]],[.tmp 4],2⟩
def Jh:AnF:=⟨ "mergelens/regex.Weights",193,[Oi],[dT 7 (bI,.leaf),(15,.f (rg [3,4,5] 11 12) [1005] false),dJ 15 [.sl 3 false (.sl bI) tO],dL [.sl 3 false (.sl bI) tO,.si 11],(25,.f (rg [3,4,5] 13 9) [1005] false),dJ 25 [.sl 3 false (.sl bI) tO]],[.tmp 2],1⟩
def Ji:AnF:=⟨ "mergelens/regex.bounded",322,[],[],[.tmp 2],1⟩
def M6:AnF:=⟨ "mergelens/regex.fits",290,[NQ],[dF 11 [4,6] 10 12,dJ 11 [.sl 4 false .bool .leaf],dL [.sl 4 false .bool .leaf,.si 10],dF 21 [4,6] 12 9,dJ 21 [.sl 4 false .bool .leaf],dF 50 [4] 24 26,dJ 50 [.sl 4 false .bool .leaf],(56,.f [24,26,27,28] [] false),dJ 56 [.sl 24 false .bool .leaf],(62,.f [24,27,28] [] false),dJ 62 [.sl 24 false .bool .leaf],(68,.f [24,28] [] false),dJ 68 [.sl 24 false .bool .leaf],(87,.f [33,35] [] false),dJ 87 [.sl 33 false .bool .leaf]],[.tmp 4],2⟩
def LX:AnF:=⟨ "mergelens/regex.Check",259,[Rr],[(26,.f (rg [2,3,4] 15 10) [1004] false),dI 26 [2],dK [2,15],(36,.f (rg [2,3,4] 17 7) [1004] false),dI 36 [2]],[.tmp 2],1⟩
def JW:AnF:=⟨ "mergelens/regex.Weight",192,[Qb,Jj],[],[.tmp 2,.tmp 3],1⟩
def EC:AnF:=⟨ "(*mergelens/automaton.builder).add",194,[],[(5,.f (rg [] 5 10) [0] true),dJ 5 [.bx 0 Az (.pair (.node .imm (.pair .leaf (.pair .leaf (.pair .leaf (.pair .leaf tM))))) (.pair tO tO))],dT 12 (Dv,.leaf),dT 13 (Dv,.leaf),dT 17 (Dv,.leaf),dT 19 (Dv,.leaf)],[.tmp 4],2⟩
def DT:AnF:=⟨ "(*mergelens/automaton.builder).choice",261,[Bx,Bx,BG],[(25,.f (rg [8,9] 22 15) [0] true),dJ 25 [.si 8,.bx 0 Az (.pair (.node .imm (.pair .leaf (.pair .leaf (.pair .leaf (.pair .leaf tM))))) (.pair tO tO))],dL [.si 8,.si 9,.bx 0 Az (.pair (.node .imm (.pair .leaf (.pair .leaf (.pair .leaf (.pair .leaf tM))))) (.pair tO tO))],(36,.f (rg [8] 26 11) [0] true),dJ 36 [.si 8,.bx 0 Az (.pair (.node .imm (.pair .leaf (.pair .leaf (.pair .leaf (.pair .leaf tM))))) (.pair tO tO))]],[.tmp 6],3⟩
def DU:AnF:=⟨ "(*mergelens/automaton.builder).repeat",262,[BG,Bx,Bx,BG,Bx],[(17,.f (rg [2,8,9] 18 17) [0] true),dJ 17 [.si 2,.bx 0 Az (.pair (.node .imm (.pair .leaf (.pair .leaf (.pair .leaf (.pair .leaf tM))))) (.pair tO tO))],(60,.f (rg [2] 41 11) [0] true),dJ 60 [.si 2,.bx 0 Az (.pair (.node .imm (.pair .leaf (.pair .leaf (.pair .leaf (.pair .leaf tM))))) (.pair tO tO))],dL [.si 2,.si 41,.bx 0 Az (.pair (.node .imm (.pair .leaf (.pair .leaf (.pair .leaf (.pair .leaf tM))))) (.pair tO tO))],(70,.f (rg [2] 43 8) [0] true),dJ 70 [.si 2,.bx 0 Az (.pair (.node .imm (.pair .leaf (.pair .leaf (.pair .leaf (.pair .leaf tM))))) (.pair tO tO))],(90,.f (rg [2] 54 7) [0] true),dJ 90 [.si 2,.bx 0 Az (.pair (.node .imm (.pair .leaf (.pair .leaf (.pair .leaf (.pair .leaf tM))))) (.pair tO tO))],dL [.si 2,.si 54,.bx 0 Az (.pair (.node .imm (.pair .leaf (.pair .leaf (.pair .leaf (.pair .leaf tM))))) (.pair tO tO))],(100,.f (rg [2] 56 4) [0] true),dJ 100 [.si 2,.bx 0 Az (.pair (.node .imm (.pair .leaf (.pair .leaf (.pair .leaf (.pair .leaf tM))))) (.pair tO tO))]],[.tmp 6],3⟩
def Ef:AnF:=⟨ "(*mergelens/automaton.builder).build",195,[BG,BG,BG,Bx,FE,FF],[(37,.f (rg [2,6,8] 27 51) [0] true),dJ 37 [.si 2,.si 6,.bx 0 Az (.pair (.node .imm (.pair .leaf (.pair .leaf (.pair .leaf (.pair .leaf tM))))) (.pair tO tO))],(83,.f (rg [2,6,8] 49 29) [0] true),dJ 83 [.si 2,.si 6,.bx 0 Az (.pair (.node .imm (.pair .leaf (.pair .leaf (.pair .leaf (.pair .leaf tM))))) (.pair tO tO))],(91,.f (rg [2,8] 53 12) [0] true),dJ 91 [.si 2,.bx 0 Az (.pair (.node .imm (.pair .leaf (.pair .leaf (.pair .leaf (.pair .leaf tM))))) (.pair tO tO))],dL [.si 2,.si 8,.bx 0 Az (.pair (.node .imm (.pair .leaf (.pair .leaf (.pair .leaf (.pair .leaf tM))))) (.pair tO tO))],(102,.f (rg [2] 57 8) [0] true),dJ 102 [.si 2,.bx 0 Az (.pair (.node .imm (.pair .leaf (.pair .leaf (.pair .leaf (.pair .leaf tM))))) (.pair tO tO))]],[.tmp 6],3⟩
def Ho:AnF:=⟨ "mergelens/automaton.Build",125,[Oh,Jj,BG,Bx],[(14,.f (rg [3] 14 9) [1002] false),dJ 14 [.si 3,.bx 1002 (.pair (.sl Dv) bI) (.pair tO .leaf)]],[.cell 2 true 2,.tmp 3],1⟩
def Hu:AnF:=⟨ "mergelens/pickaxe.compile",63,[L4,Lu],[(28,.z [4])],[.cell 2 true 2,.tmp 3],1⟩
def Dm:AnF:=⟨zS4,78,[],[(2,.t none ⟨[],[]⟩ true none false false),dT 16 (.sl (.pair .str .str),tM),(17,.t none ⟨[],[]⟩ true none false false),dF 33 [5,7] 22 13,dJ 33 [.sl 5 false (.sl (.sl (.pair .str .str))) (.node .own tM)],dL [.sl 5 false (.sl (.sl (.pair .str .str))) (.node .own tM),.si 22],dF 43 [5,7] 24 10,dJ 43 [.sl 5 false (.sl (.sl (.pair .str .str))) (.node .own tM)],dT 56 (.sl (.pair .str .str),tM),dT 57 (.sl (.pair .str .str),tM),(65,.t none ⟨[],[]⟩ true none false false)],[.tmp 4],2⟩
def LC(P:Pg)(x:((List Commit)×Int))(K:(List (List (Bt8×Bt8)))→Unit→Prop):Prop:=
 (0≤x.2∧x.2<(x.1.length:Int))∧
 (x.2.toNat<x.1.length)∧
 (((((Qa1 (Qa0 x.1 x.2.toNat Am).1:Nat):Int)==0)=true→K ([[]]:List (List (Bt8×Bt8))) ())∧((((Qa1 (Qa0 x.1 x.2.toNat Am).1:Nat):Int)==0)=false→(0≤x.2∧x.2<(x.1.length:Int))∧
 (x.2.toNat<x.1.length)∧
 Ac (D:=(List (List (Bt8×Bt8)))) (fun J1=>AJ (D:=((List (List (Bt8×Bt8)))×Int)) ([],(0:Int)) (fun d3 J4=>(((decide (d3.2<((Qa1 (Qa0 x.1 x.2.toNat Am).1:Nat):Int)))=true→Ac (D:=(List (List (Bt8×Bt8)))) (fun J5=>(0≤d3.2∧d3.2<((Qa1 (Qa0 x.1 x.2.toNat Am).1:Nat):Int))∧
 (d3.2.toNat<Qa1 (Qa0 x.1 x.2.toNat Am).1)∧
 (0≤(Qa0 (Qa0 x.1 x.2.toNat Am).1 d3.2.toNat (0:Int))∧(Qa0 (Qa0 x.1 x.2.toNat Am).1 d3.2.toNat (0:Int))<(x.1.length:Int))∧
 ((Qa2 (Qa0 (Qa0 x.1 x.2.toNat Am).1 d3.2.toNat (0:Int)))<x.1.length)∧
 ((d3.1.length+Qa1 ([(Qa0 x.1 (Qa2 (Qa0 (Qa0 x.1 x.2.toNat Am).1 d3.2.toNat (0:Int))) Am).2.2]:List (List (Bt8×Bt8))))*24≤140737488355328)∧
 J5 (d3.1++([(Qa0 x.1 (Qa2 (Qa0 (Qa0 x.1 x.2.toNat Am).1 d3.2.toNat (0:Int))) Am).2.2]:List (List (Bt8×Bt8))))) (fun d6=>J4 (d6,(i64.wrap (d3.2+1)))))∧((decide (d3.2<((Qa1 (Qa0 x.1 x.2.toNat Am).1:Nat):Int)))=false→J1 d3.1)))) (fun d2=>K d2 ())))
theorem QT{P}(h:Hq P Dm){x K}(hw:LC P x K):Fn P zS4 Bh x K:=
 zF h hw
def FY:AnF:=⟨Aoj,77,[Bh,Hc],[dF 14 [5,7,8,9] 14 19,dJ 14 [.sl 5 false (.sl (.sl (.pair .str bI))) (.node .own tO)],dL [.sl 5 false (.sl (.sl (.pair .str bI))) (.node .own tO),.si 14],dF 24 [5,7,8,9] 16 16,dJ 24 [.sl 5 false (.sl (.sl (.pair .str bI))) (.node .own tO)],dT 47 (.sl (.pair .str bI),tO),dT 48 (.sl (.pair .str bI),tO)],[.tmp 4],2⟩
def Rw(P:Pg)(x:((List Commit)×Int))(K:(List (List (Bt8×Int)))→Unit→Prop):Prop:=
 Fn P zS4 Bh x (fun(d1:(List (List (Bt8×Bt8)))) _=>Ac (D:=(List (List (Bt8×Int)))) (fun J3=>AJ (D:=((List (List (Bt8×Int)))×Int)) ([],(0:Int)) (fun d5 J6=>(((decide (d5.2<(d1.length:Int)))=true→Ac (D:=(List (List (Bt8×Int)))) (fun J7=>(0≤d5.2∧d5.2<(d1.length:Int))∧
 (d5.2.toNat<d1.length)∧
 (0≤x.2∧x.2<(x.1.length:Int))∧
 (x.2.toNat<x.1.length)∧
 Fn P Aok Hc ((Qa0 d1 d5.2.toNat []),(Qa0 x.1 x.2.toNat Am).2.2) (fun(d9:((List (Bt8×Int))×Int)) _=>((d5.1.length+Qa1 ([d9.1]:List (List (Bt8×Int))))*24≤140737488355328)∧
 J7 (d5.1++([d9.1]:List (List (Bt8×Int)))))) (fun d8=>J6 (d8,(i64.wrap (d5.2+1)))))∧((decide (d5.2<(d1.length:Int)))=false→J3 d5.1)))) (fun d4=>K d4 ()))
theorem YR{P}(h:Hq P FY){x K}(hw:Rw P x K):Fn P Aoj ET x K:=
 zF h hw
def Hb:AnF:=⟨zS5,79,[],[(10,.f (rg [4,5,7] 10 11) [1007] false),dJ 10 [.sl 4 false .str .leaf,.sl 5 false .bool .leaf],dL [.sl 4 false .str .leaf,.sl 5 false .bool .leaf,.si 10],(20,.f (rg [4,5,7] 12 8) [1007] false),dJ 20 [.sl 4 false .str .leaf,.sl 5 false .bool .leaf]],[.tmp 4,.tmp 5],2⟩
def UH(P:Pg)(x:((List (Bt8×Bt8))×Bt8))(K:(Bt8×Bool)→Unit→Prop):Prop:=
 Ac (D:=(Bt8×Bool)) (fun J1=>AJ (D:=(Bt8×(Bool×Int))) (([]:List UInt8),(false,(0:Int))) (fun d3 J4=>(((decide (d3.2.2<(x.1.length:Int)))=true→Ac (D:=(Bt8×Bool)) (fun J5=>(0≤d3.2.2∧d3.2.2<(x.1.length:Int))∧
 (d3.2.2.toNat<x.1.length)∧
 ((((Qa0 x.1 d3.2.2.toNat ([],[])).1==x.2)=true→K ((Qa0 x.1 d3.2.2.toNat ([],[])).2,true) ())∧(((Qa0 x.1 d3.2.2.toNat ([],[])).1==x.2)=false→J5 (d3.1,d3.2.1)))) (fun d6=>J4 (d6.1,(d6.2,(i64.wrap (d3.2.2+1))))))∧((decide (d3.2.2<(x.1.length:Int)))=false→J1 (d3.1,d3.2.1))))) (fun d2=>K (([]:List UInt8),false) ())
theorem AaY{P}(h:Hq P Hb){x K}(hw:UH P x K):Fn P zS5 Ca x K:=
 zF h hw
def Jg:AnF:=⟨ "mergelens/pickaxe.blobs",86,[Bh,Ca,Ca],[(17,.t none ET true none false false),(20,.f (rg [5,7,8,9,11,12,13,14,15] 23 44) [1011] false),dJ 20 [.sl 5 false (.sl (.sl (.pair .str .str))) (.node .own tO)],dL [.sl 5 false (.sl (.sl (.pair .str .str))) (.node .own tO),.si 23],(30,.f (rg [5,7,8,9,11,12,13,14,15] 25 41) [1011] false),dJ 30 [.sl 5 false (.sl (.sl (.pair .str .str))) (.node .own tO)],(47,.f (rg [9,11,12,13,14,15] 30 32) [1011] false),dJ 47 [.sl 9 false (.sl (.pair .str .str)) tO],dL [.sl 9 false (.sl (.pair .str .str)) tO,.si 30],(57,.f (rg [9,11,12,13,14,15] 32 29) [1011] false),dJ 57 [.sl 9 false (.sl (.pair .str .str)) tO],dF 65 [12,13] 34 10,dJ 65 [.sl 12 false .str .leaf],dF 86 [14,15] 44 11,dJ 86 [.sl 14 false .str .leaf],dT 112 (.pair .str .str,.leaf),dT 113 (.pair .str .str,.leaf),dT 121 (.sl (.pair .str .str),tO),dT 122 (.sl (.pair .str .str),tO)],[.tmp 4],2⟩
def F7:AnF:=⟨Amh,113,[CF],[],[.tmp 2],1⟩
def RH(P:Pg)(x:Bt8)(K:Bool→Unit→Prop):Prop:=
 Fn P "strings.HasSuffix" CF (x,([10]:List UInt8)) (fun(d1:Bool) _=>K d1 ())
theorem Y0{P}(h:Hq P F7){x K}(hw:RH P x K):Fn P Amh Eo x K:=
 zF h hw
def F6:AnF:=⟨Ami,118,[Ds,Eo],[(18,.f [3,13,14] [] false),dI 18 [3]],[.tmp 2],1⟩
def RG(P:Pg)(x:Bt8)(K:Int→Unit→Prop):Prop:=
 Fn P "strings.Count" Ds (x,([10]:List UInt8)) (fun(d1:Int) _=>Ac (D:=Bool) (fun J3=>(((!(x==([]:List UInt8)))=true→Fn P Amh Eo x (fun(d4:Bool) _=>J3 d4))∧(((!(x==([]:List UInt8)))=false→J3 false)∧True))) (fun d5=>Ac (D:=Int) (fun J6=>(((cond (!(x==([]:List UInt8))) (!d5) false)=true→J6 (i64.wrap (d1+1)))∧((cond (!(x==([]:List UInt8))) (!d5) false)=false→J6 d1))) (fun d7=>(((cond (decide ((x.length:Int)>1048576)) true (decide (d7>4096)))=true→K (1:Int) ())∧((cond (decide ((x.length:Int)>1048576)) true (decide (d7>4096)))=false→K (0:Int) ())))))
theorem YZ{P}(h:Hq P F6){x K}(hw:RG P x K):Fn P Ami En x K:=
 zF h hw
def F8:AnF:=⟨zS6,49,[En,Cu],[dF 37 [5] 20 5,dJ 37 [.sl 5 false (.sl .str) tO]],[.tmp 2,.tmp 3],1⟩
def RI(P:Pg)(x:Bt8)(K:((List Bt8)×Int)→Unit→Prop):Prop:=
 Fn P Ami En x (fun(d1:Int) _=>(((d1 !=0)=true→K ([],d1) ())∧((d1 !=0)=false→Fn P "strings.SplitAfter" Cu (x,([10]:List UInt8)) (fun(d3:(List Bt8)) _=>(0≤(i64.wrap ((d3.length:Int) -1))∧(i64.wrap ((d3.length:Int) -1))<(d3.length:Int))∧
 ((Qa2 (i64.wrap ((d3.length:Int) -1)))<d3.length)∧
 Ac (D:=(List Bt8)) (fun J5=>((((Qa0 d3 (Qa2 (i64.wrap ((d3.length:Int) -1))) [])==([]:List UInt8))=true→(0≤(i64.wrap ((d3.length:Int) -1))∧(i64.wrap ((d3.length:Int) -1))≤(d3.length:Int))∧
 (0+(Qa2 (i64.wrap ((d3.length:Int) -1)))≤d3.length)∧
 J5 (Qa6 (Qa2 (i64.wrap ((d3.length:Int) -1))) (List.drop 0 d3)))∧(((Qa0 d3 (Qa2 (i64.wrap ((d3.length:Int) -1))) [])==([]:List UInt8))=false→J5 d3))) (fun d6=>K (d6,(0:Int)) ())))))
theorem Y1{P}(h:Hq P F8){x K}(hw:RI P x K):Fn P zS6 BP x K:=
 zF h hw
def FZ:AnF:=⟨Amj,50,[Ek],[],[.tmp 2],1⟩
def RC(P:Pg)(x:(List (List Bt8)))(K:(List (List Int))→Unit→Prop):Prop:=
 Fn P Aol Ek x (fun(d1:((List (List Int))×(List Bt8))) _=>K d1.1 ())
theorem YW{P}(h:Hq P FZ){x K}(hw:RC P x K):Fn P Amj DJ x K:=
 zF h hw
def CT:AnF:=⟨Aqz,150,[],[],[.tmp 4],2⟩
def Kj(P:Pg)(x:((List Int)×(List Int)))(K:Bool→Unit→Prop):Prop:=
 K (cond (decide ((x.1.length:Int)≤4096)) (decide ((x.2.length:Int)≤4096)) false) ()
theorem P3{P}(h:Hq P CT){x K}(hw:Kj P x K):Fn P Aqz DZ x K:=
 zF h hw
def Ej:AnF:=⟨zS1,225,[],[],[.tmp 2],1⟩
def NT(P:Pg)(x:Int)(K:Bool→Unit→Prop):Prop:=
 K (cond (decide (x≥0)) (decide (x≤4096)) false) ()
theorem TY{P}(h:Hq P Ej){x K}(hw:NT P x K):Fn P zS1 AF x K:=
 zF h hw
def CS:AnF:=⟨Aom,151,[AF,AF,DY],[(33,.f (rg [6,7,10] 22 30) [1008,1010] false),dJ 33 [.sl 6 false (.sl AZ) tO,.si 7],dL [.sl 6 false (.sl AZ) tO,.si 7,.si 22,.bx 1008 (.pair bI bI) .leaf],(43,.f (rg [6,7,10] 24 27) [1008,1010] false),dJ 43 [.sl 6 false (.sl AZ) tO,.si 7,.bx 1008 (.pair bI bI) .leaf]],[.tmp 6,.tmp 7],3⟩
def Ki(P:Pg)(x:((List (Int×Int))×(Int×Int)))(K:((List Change)×Int)→Unit→Prop):Prop:=
 Fn P zS1 AF x.2.1 (fun(d1:Bool) _=>Ac (D:=Bool) (fun J3=>(((!d1)=false→Fn P zS1 AF x.2.2 (fun(d4:Bool) _=>J3 d4))∧(((!d1)=true→J3 false)∧True))) (fun d5=>(((cond (!d1) true (!d5))=true→K ([],(80:Int)) ())∧((cond (!d1) true (!d5))=false→Ac (D:=((List Change)×Int)) (fun J6=>AJ (D:=((List Change)×Change)) ([],((0:Int),((0:Int),((-1:Int),(-1:Int))))) (fun d8 J9=>(((decide (d8.2.2.1<(x.1.length:Int)))=true→Ac (D:=((List Change)×(Int×(Int×Int)))) (fun J10=>(0≤d8.2.2.1∧d8.2.2.1<(x.1.length:Int))∧
 (d8.2.2.1.toNat<x.1.length)∧
 (((cond (cond (cond (decide ((Qa0 x.1 d8.2.2.1.toNat ((0:Int),(0:Int))).1≤d8.2.2.2.1)) true (decide ((Qa0 x.1 d8.2.2.1.toNat ((0:Int),(0:Int))).1≥x.2.1))) true (decide ((Qa0 x.1 d8.2.2.1.toNat ((0:Int),(0:Int))).2≤d8.2.2.2.2))) true (decide ((Qa0 x.1 d8.2.2.1.toNat ((0:Int),(0:Int))).2≥x.2.2)))=true→K ([],(3:Int)) ())∧((cond (cond (cond (decide ((Qa0 x.1 d8.2.2.1.toNat ((0:Int),(0:Int))).1≤d8.2.2.2.1)) true (decide ((Qa0 x.1 d8.2.2.1.toNat ((0:Int),(0:Int))).1≥x.2.1))) true (decide ((Qa0 x.1 d8.2.2.1.toNat ((0:Int),(0:Int))).2≤d8.2.2.2.2))) true (decide ((Qa0 x.1 d8.2.2.1.toNat ((0:Int),(0:Int))).2≥x.2.2)))=false→J10 (d8.1,(d8.2.1,(Qa0 x.1 d8.2.2.1.toNat ((0:Int),(0:Int)))))))) (fun d11=>J9 (d11.1,(d11.2.1,((i64.wrap (d8.2.2.1+1)),d11.2.2)))))∧((decide (d8.2.2.1<(x.1.length:Int)))=false→J6 (d8.1,d8.2.1))))) (fun d7=>Fn P AqA DY x (fun(d12:(List Change)) _=>K (d12,(0:Int)) ()))))))
theorem P2{P}(h:Hq P CS){x K}(hw:Ki P x K):Fn P Aom CW x K:=
 zF h hw
def Dn:AnF:=⟨Amk,90,[DZ,E7,CW],[],[.tmp 4,.tmp 5],2⟩
def LD(P:Pg)(x:((List Int)×(List Int)))(K:((List Change)×Int)→Unit→Prop):Prop:=
 Fn P Aqz DZ x (fun(d1:Bool) _=>(((!d1)=true→K ([],(1:Int)) ())∧((!d1)=false→Fn P AqB E7 x (fun(d3:(List (Int×Int))) _=>Fn P Aom CW (d3,((x.1.length:Int),(x.2.length:Int))) (fun(d5:((List Change)×Int)) _=>K d5 ())))))
theorem QU{P}(h:Hq P Dn){x K}(hw:LD P x K):Fn P Amk B6 x K:=
 zF h hw
def Gs:AnF:=⟨ "mergelens/automaton.Check\x241",263,[],[],[.tmp 3],2⟩
def Hp:AnF:=⟨ "mergelens/automaton.Check",199,[Ez],[(25,.t none ⟨[],[]⟩ false (some 18) true false),(26,.t none ⟨[],[]⟩ false none true false),(27,.t none ⟨[],[]⟩ false none true false),(28,.t none Ez false none true true),(29,.t none ⟨[],[]⟩ false none true true),(44,.f (rg [2,6,7] 28 28) [1003,1006] true),dI 44 [2],dL [.si 2,.si 28,.bx 1003 bI .leaf],(54,.f (rg [2,6,7] 30 25) [1003,1006] true),dJ 54 [.si 2,.bx 1003 bI .leaf],(73,.f (rg [7] 38 15) [1003] true),dJ 73 [.sl 7 false .bool .leaf,.bx 1003 bI .leaf],(79,.f [38,40,41] [] false),dJ 79 [.sl 38 false .bool .leaf],(85,.f [38,41] [] false),dJ 85 [.sl 38 false .bool .leaf],(90,.f (rg [7] 42 11) [1003] true),dJ 90 [.sl 7 false .bool .leaf,.bx 1003 bI .leaf],(96,.f (rg [7] 44 9) [1003] true),dJ 96 [.sl 7 false .bool .leaf,.bx 1003 bI .leaf],(100,.t none ⟨[],[]⟩ false (some 45) true false),(101,.t none ⟨[],[]⟩ false none true false),(102,.t none ⟨[],[]⟩ false none true false),(103,.t none Ez false none true true),(110,.f [7] [] false),dJ 110 [.sl 7 false .bool .leaf]],[.tmp 2],1⟩
def JY:AnF:=⟨ "mergelens/search.start",264,[],[(5,.f (rg [] 6 10) [1015] false),dJ 5 [.pt 6 1015 0,.bx 1015 AG (.pair (.pair tM .leaf) (.pair .leaf (.pair .leaf (.pair tO tO))))],dT 12 (.bool,.leaf),dT 16 (.bool,.leaf)],[.tmp 6],3⟩
def Hr:AnF:=⟨ "mergelens/automaton.Steps",291,[],[dF 9 [6] 9 19,dJ 9 [.sl 6 false (.sl bI) tO],dT 21 (bI,.leaf),dF 28 [6] 18 10,dJ 28 [.sl 6 false (.sl bI) tO],dT 37 (bI,.leaf),dF 45 [6] 24 4,dJ 45 [.sl 6 false (.sl bI) tO],dT 54 (bI,.leaf)],[.tmp 6],3⟩
def FD:AnF:=⟨ "(*mergelens/search.machine).add",265,[Lw],[dT 7 (bI,.leaf),(9,.f (rg [4,5] 9 66) [0] true),dJ 9 [.bx 0 AG (.pair (.pair tM .leaf) (.pair .leaf (.pair .leaf (.pair tO tO))))],dL [.sl 4 false (.sl bI) tO,.bx 0 AG (.pair (.pair tM .leaf) (.pair .leaf (.pair .leaf (.pair tO tO))))],(20,.f (rg [4,5] 12 63) [0] true),dJ 20 [.sl 4 false (.sl bI) tO,.bx 0 AG (.pair (.pair tM .leaf) (.pair .leaf (.pair .leaf (.pair tO tO))))],(61,.f (rg [] 36 13) [0] true),dJ 61 [.bx 0 AG (.pair (.pair tM .leaf) (.pair .leaf (.pair .leaf (.pair tO tO))))],dT 71 (.pair bI bI,.leaf),dT 72 (.pair bI bI,.leaf),dT 76 (.pair bI bI,.leaf),dT 78 (.pair bI bI,.leaf),dF 82 [4] 49 26,dJ 82 [.sl 4 false (.sl bI) tO],dT 108 (bI,.leaf)],[],2⟩
def Eh:AnF:=⟨ "(*mergelens/search.machine).accepted",266,[],[(12,.f (rg [2,4] 10 18) [1004] false),dI 12 [2],dK [2,10],(22,.f (rg [2,4] 12 15) [1004] false),dI 22 [2]],[.tmp 2],1⟩
def Fp:AnF:=⟨ "(*mergelens/search.machine).keep",267,[],[(8,.f (rg [4,5,9] 11 19) [0,1005] true),dJ 8 [.bx 0 AG (.pair (.pair tM .leaf) (.pair .leaf (.pair .leaf (.pair tO tO))))],dL [.rf 9 ⟨.obj 0 4,[]⟩ .leaf (.pair bI bI),.si 11,.bx 0 AG (.pair (.pair tM .leaf) (.pair .leaf (.pair .leaf (.pair tO tO))))],(18,.f (rg [4,5,9] 13 16) [0,1005] true),dJ 18 [.rf 9 ⟨.obj 0 4,[]⟩ .leaf (.pair bI bI),.bx 0 AG (.pair (.pair tM .leaf) (.pair .leaf (.pair .leaf (.pair tO tO))))]],[],2⟩
def Fq:AnF:=⟨ "(*mergelens/search.machine).read",268,[FK],[dF 1 [2] 7 9,dJ 1 [.sl 2 false (.int .u8) .leaf],(30,.f (rg [] 27 13) [0] true),dJ 30 [.bx 0 AG (.pair (.pair tM .leaf) (.pair .leaf (.pair .leaf (.pair tO tO))))],dT 41 (.bool,.leaf),dT 47 (.bool,.leaf),(56,.f (rg [5,6] 42 36) [0,1005,1006] true),dJ 56 [.bx 0 AG (.pair (.pair tM .leaf) (.pair .leaf (.pair .leaf (.pair tO tO))))],dL [.si 42,.bx 0 AG (.pair (.pair tM .leaf) (.pair .leaf (.pair .leaf (.pair tO tO))))],(66,.f (rg [5,6] 44 33) [0,1005,1006] true),dJ 66 [.bx 0 AG (.pair (.pair tM .leaf) (.pair .leaf (.pair .leaf (.pair tO tO))))],(74,.f (rg [6] 46 9) [1006] false),dJ 74 [.pt 6 1006 0,.bx 1006 Dv .leaf],(131,.f (rg [] 70 7) [0] true),dJ 131 [.bx 0 AG (.pair (.pair tM .leaf) (.pair .leaf (.pair .leaf (.pair tO tO))))]],[],1⟩
def LY:AnF:=⟨ "mergelens/search.find",200,[Oj,FK,Gl,Ig,Ih],[(18,.f (rg [7,10,11] 16 46) [1006,1009,1015] true),dL [.sl 7 false .bool .leaf,.sl 10 false .bool .leaf,.bx 1006 (.pair bI bI) .leaf,.bx 1009 (.pair bI bI) .leaf,.bx 1015 AG (.pair (.pair tM .leaf) (.pair .leaf (.pair .leaf (.pair tO tO))))],(20,.f (rg [7,10,11] 16 46) [1006,1009,1015] true),dJ 20 [.sl 7 false .bool .leaf,.sl 10 false .bool .leaf,.bx 1006 (.pair bI bI) .leaf,.bx 1009 (.pair bI bI) .leaf,.bx 1015 AG (.pair (.pair tM .leaf) (.pair .leaf (.pair .leaf (.pair tO tO))))],(26,.f (rg [] 18 9) [1015] true),dJ 26 [.bx 1015 AG (.pair (.pair tM .leaf) (.pair .leaf (.pair .leaf (.pair tO tO))))],(27,.f (rg [] 18 9) [1015] true),dJ 27 [.bx 1015 AG (.pair (.pair tM .leaf) (.pair .leaf (.pair .leaf (.pair tO tO))))],(48,.f (rg [10] 31 9) [1009,1015] true),dJ 48 [.sl 10 false .bool .leaf,.bx 1009 (.pair bI bI) .leaf,.bx 1015 AG (.pair (.pair tM .leaf) (.pair .leaf (.pair .leaf (.pair tO tO))))]],[.cell 6 true 2,.tmp 7],3⟩
def M7:AnF:=⟨ "mergelens/search.Any",129,[Lv,Qc],[],[.tmp 4,.tmp 5],2⟩
def Oe:AnF:=⟨ "mergelens/text.Bare",130,[Dc],[],[.tmp 2],1⟩
end Go.VS
