/- Functions of the program: typed code, and what it says, lifted. -/
import Derived.Test.YtopngokkgogolaaKTxSig
import Derived.KernelRfl
set_option linter.unusedVariables false
set_option linter.unusedSimpArgs false
set_option maxRecDepth 8000
namespace Go.VS
open IntKind
def EP:A0:=
 sr [o1 1 (.box 0),ia 2 (kI 0)] (sr [fa 8 0 1,ld 9 8,ol 10 9,o1 3 (.alloc [.int .i64 0]),o0 ⟨none,.store 1 3 10,none⟩] (sr [o1 11 (.mkf (zS8,false) [3]),ia 4 11] (sq (sr [ld 12 3,ob 13 .lss 12 (kI 1),im 14 13,gf
 15 14 (.load false 1 3),gf 16 14 (.bin .gtr 15 (kI 8000)),op3 17 14 kT 16,im 18 17,⟨⟨some 19,.mv 4,some (18,false)⟩,none,⟨[],[]⟩,false,some 18,true,false⟩,⟨⟨some 20,.fAddr 1 1,some (18,false)⟩,none,⟨[],[]⟩,false,none,true,false⟩,⟨⟨some
 21,.load false 1 20,some (18,false)⟩,none,⟨[],[]⟩,false,none,true,false⟩,⟨⟨some 22,.callv 19 [21],some (18,false)⟩,none,AU,false,none,true,true⟩,⟨⟨some 23,.un .not 22,some (18,false)⟩,none,⟨[],[]⟩,false,none,true,true⟩,op3
 24 18 kT 23] (cn 24 (sr [ia 2 (kI 2)] .ret) .skip)) (sq (sr [fa 25 0 1,ld 26 25,ol 27 26,o1 28 (.mv (kI 0))] (.frame (rg [2,6,7] 28 28) [1003,1006] true (.join [.si 2] (bk 0 (.loop [.si 2,.si 28,.bx 1003 bI .leaf] (sr [ob 29 .lss 28 27]
 (sq (cx 29 0) (sq (.frame (rg [2,6,7] 30 25) [1003,1006] true (.join [.si 2,.bx 1003 bI .leaf] (bk 1 (sr [ox 30 7 26 28,o1 31 (.load true 7 30),o1 6 (.alloc [.int .i64 0,.int .u64 0,.int .u64 0,.int .u64 0,.int .u64 0,.int .i64 0,.int .i64
 0]),o0 ⟨none,.store 7 6 31,none⟩] (sr [im 32 4,fa 33 5 6,ld 34 33,oS ⟨some 35,.callv 32 [34],none⟩ AU,ia 7 35] (sq (sr [fa 36 0 6,ld 37 36] (.frame (rg [7] 38 15) [1003] true (.join [.sl 7 false .bool .leaf,.bx 1003 bI
 .leaf] (bk 2 (sq (sr [ob 39 .eql 37 (kI 0),ia 38 39] (.frame [38,40,41] [] false (.join [.sl 38 false .bool .leaf] (cn 38 .skip (sr [ob 40 .eql 37 (kI 2),ia 38 40] (.frame [38,41] [] false (.join [.sl 38 false .bool .leaf] (cn 38 .skip (rn
 [ob 41 .eql 37 (kI 3),ia 38 41]))))))))) (.frame (rg [7] 42 11) [1003] true (.join [.sl 7 false .bool .leaf,.bx 1003 bI .leaf] (cn 38 .skip (sr [ob 43 .eql 37 (kI 1),ia 42 43] (.frame (rg [7] 44 9) [1003] true (.join [.sl 7 false .bool
 .leaf,.bx 1003 bI .leaf] (cn 42 (rn [im 44 7,im 45 44,⟨⟨some 46,.mv 4,some (45,true)⟩,none,⟨[],[]⟩,false,some 45,true,false⟩,⟨⟨some 47,.fAddr 6 6,some (45,true)⟩,none,⟨[],[]⟩,false,none,true,false⟩,⟨⟨some 48,.load false 1 47,some
 (45,true)⟩,none,⟨[],[]⟩,false,none,true,false⟩,⟨⟨some 49,.callv 46 [48],some (45,true)⟩,none,AU,false,none,true,true⟩,op3 50 45 49 kF,ia 7 50]) (sr [ob 52 .eql 37 (kI 4),ia 51 52] (.frame [7] [] false (.join [.sl 7 false
 .bool .leaf] (cn 51 (rn [o1 7 (.asg kT)]) (rn [o1 7 (.asg kF)]))))))))))))))))) (sr [im 53 7,o1 54 (.un .not 53)] (cn 54 (sr [ia 2 (kI 2)] .ret) .skip)))))))) (rn [ob 55 .add 28 (kI 1),im 28 55]))))))))) (sr [ia 2 (kI 0)] .ret)))))
def Dv:AFn:=⟨zS9,EP.erase,[.tmp 2],1⟩
def GW(P:Pg)(x:((List State)×Int))(K:Int→Unit→Prop):Prop:=
 (((cond (decide ((x.1.length:Int)<1)) true (decide ((x.1.length:Int)>8000)))=true→(((cond true true false)=true→K (2:Int) ())∧((cond true true false)=false→Ak (D:=Int) (fun J1=>Bf (D:=(Int×(Int×Int))) ((0:Int),((0:Int),(x.1.length:Int))) (fun d3 J4=>(((decide (d3.2.1<(x.1.length:Int)))=true→Ak (D:=(Int×Int)) (fun J5=>(0≤d3.2.1∧d3.2.1<(x.1.length:Int))∧
 (d3.2.1.toNat<x.1.length)∧
 Fn P zS8 AU ((List.getD x.1 d3.2.1.toNat Al).2.2.1,d3.2.2) (fun(d7:Bool) (e8:Int)=>Ak (D:=(Bool×Int)) (fun J9=>Ak (D:=Bool) (fun J11=>((((List.getD x.1 d3.2.1.toNat Al).1==0)=true→J11 ((List.getD x.1 d3.2.1.toNat Al).1==0))∧(((List.getD x.1 d3.2.1.toNat Al).1==0)=false→Ak (D:=Bool) (fun J13=>((((List.getD x.1 d3.2.1.toNat Al).1==2)=true→J13 ((List.getD x.1 d3.2.1.toNat Al).1==2))∧(((List.getD x.1 d3.2.1.toNat Al).1==2)=false→J13 ((List.getD x.1 d3.2.1.toNat Al).1==3)))) (fun d14=>J11 d14)))) (fun d12=>Ak (D:=(Bool×Int)) (fun J15=>((d12=true→J15 (d7,e8))∧(d12=false→Ak (D:=(Bool×Int)) (fun J17=>((((List.getD x.1 d3.2.1.toNat Al).1==1)=true→((d7=true→Fn P zS8 AU ((List.getD x.1 d3.2.1.toNat Al).2.2.2,e8) (fun(d19:Bool) (e20:Int)=>J17 ((cond true d19 false),e20)))∧(d7=false→J17 ((cond false false false),e8))))∧(((List.getD x.1 d3.2.1.toNat Al).1==1)=false→Ak (D:=Bool) (fun J21=>((((List.getD x.1 d3.2.1.toNat Al).1==4)=true→J21 true)∧(((List.getD x.1 d3.2.1.toNat Al).1==4)=false→J21 false))) (fun d22=>J17 (d22,e8))))) (fun d18=>J15 d18)))) (fun d16=>J9 d16))) (fun d10=>(((!d10.1)=true→K (2:Int) ())∧((!d10.1)=false→J5 (d3.1,d10.2)))))) (fun d6=>J4 (d6.1,((i64.wrap (d3.2.1+1)),d6.2))))∧((decide (d3.2.1<(x.1.length:Int)))=false→J1 d3.1)))) (fun d2=>K (0:Int) ()))))∧((cond (decide ((x.1.length:Int)<1)) true (decide ((x.1.length:Int)>8000)))=false→Fn P zS8 AU (x.2,(x.1.length:Int)) (fun(d23:Bool) (e24:Int)=>(((cond false true (!d23))=true→K (2:Int) ())∧((cond false true (!d23))=false→Ak (D:=Int) (fun J25=>Bf (D:=(Int×(Int×Int))) ((0:Int),((0:Int),e24)) (fun d27 J28=>(((decide (d27.2.1<(x.1.length:Int)))=true→Ak (D:=(Int×Int)) (fun J29=>(0≤d27.2.1∧d27.2.1<(x.1.length:Int))∧
 (d27.2.1.toNat<x.1.length)∧
 Fn P zS8 AU ((List.getD x.1 d27.2.1.toNat Al).2.2.1,d27.2.2) (fun(d31:Bool) (e32:Int)=>Ak (D:=(Bool×Int)) (fun J33=>Ak (D:=Bool) (fun J35=>((((List.getD x.1 d27.2.1.toNat Al).1==0)=true→J35 ((List.getD x.1 d27.2.1.toNat Al).1==0))∧(((List.getD x.1 d27.2.1.toNat Al).1==0)=false→Ak (D:=Bool) (fun J37=>((((List.getD x.1 d27.2.1.toNat Al).1==2)=true→J37 ((List.getD x.1 d27.2.1.toNat Al).1==2))∧(((List.getD x.1 d27.2.1.toNat Al).1==2)=false→J37 ((List.getD x.1 d27.2.1.toNat Al).1==3)))) (fun d38=>J35 d38)))) (fun d36=>Ak (D:=(Bool×Int)) (fun J39=>((d36=true→J39 (d31,e32))∧(d36=false→Ak (D:=(Bool×Int)) (fun J41=>((((List.getD x.1 d27.2.1.toNat Al).1==1)=true→((d31=true→Fn P zS8 AU ((List.getD x.1 d27.2.1.toNat Al).2.2.2,e32) (fun(d43:Bool) (e44:Int)=>J41 ((cond true d43 false),e44)))∧(d31=false→J41 ((cond false false false),e32))))∧(((List.getD x.1 d27.2.1.toNat Al).1==1)=false→Ak (D:=Bool) (fun J45=>((((List.getD x.1 d27.2.1.toNat Al).1==4)=true→J45 true)∧(((List.getD x.1 d27.2.1.toNat Al).1==4)=false→J45 false))) (fun d46=>J41 (d46,e32))))) (fun d42=>J39 d42)))) (fun d40=>J33 d40))) (fun d34=>(((!d34.1)=true→K (2:Int) ())∧((!d34.1)=false→J29 (d27.1,d34.2)))))) (fun d30=>J28 (d30.1,((i64.wrap (d27.2.1+1)),d30.2))))∧((decide (d27.2.1<(x.1.length:Int)))=false→J25 d27.1)))) (fun d26=>K (0:Int) ()))))))
theorem JV{P}(h:Has P Dv){x K}(hw:GW P x K):Fn P zS9 Bh x K:=
 ZF EP h hw
def Hf:A0:=
 sr [o1 0 (.asg kF)] (sr [oc 7 WO [.c (.string ⟨#[97]⟩)] D6,im 6 7,oe 8 6 0,oe 9 6 1,ia 1 8,ia 2 9] (sq (.frz [1] (rn [im 11 1,oc 12 WX [11] CD,im 10 12,oe 13
 10 0,oe 14 10 1,o1 3 (.alloc [.slice none 0 0,.int .i64 0]),o0 ⟨none,.store 2 3 13,none⟩,ia 4 14])) (sq (sr [im 15 4,ob 16 .neq 15 (kI 0),im 17 16,gf 18 17 (.load true 2 3),oS ⟨some 19,.call WY [18],some
 (17,false)⟩ D7,gf 20 17 (.bin .neq 19 (kI 0)),op3 21 17 kT 20] (cn 21 (sr [o1 0 (.asg kF)] .ret) .skip)) (sr [o1 22 (.load true 2 3),oc 23 W7 [22,.c (.string ⟨#[97]⟩),kI 0] Ex,ia 5 23] (sr
 [im 24 5,ox 25 1 24 (kI 1),ld 26 25,im 27 26,gt 28 27 (.mv 5),gt 29 27 (.ixA 1 28 (kI 0)),gt 30 27 (.load false 1 29),gt 31 27 (.un .not 30),op3 32 27 31 kF,im 33 32,gt 34 33 (.load true 2 3),oS ⟨some 35,.call zS9
 [34],some (33,true)⟩ Bh,gt 36 33 (.bin .eql 35 (kI 0)),op3 37 33 36 kF,im 38 37,gt 39 38 (.build [.slice none 0 0,.int .i64 0] []),oS ⟨some 40,.call zS9 [39],some (38,true)⟩ Bh,gt 41 38
 (.bin .eql 40 (kI 2)),op3 42 38 41 kF,ia 0 42] .ret)))))
def Fa:AFn:=⟨YS,Hf.erase,[.tmp 0],0⟩
def Jt(P:Pg)(x:Unit)(K:Bool→Unit→Prop):Prop:=
 Fn P WO D6 ([97]:List UInt8) (fun(d1:((List Node)×Int)) (e2:Unit)=>Fn P WX CD d1.1 (fun(d3:(((List State)×Int)×Int)) (e4:Unit)=>Ak (D:=Int) (fun J5=>(((d3.2 !=0)=false→Fn P WY D7 d3.1 (fun(d6:Int) _=>J5 d6))∧(((d3.2 !=0)=true→J5 (0:Int))∧True))) (fun d7=>(((cond (d3.2 !=0) true (d7 !=0))=true→K false ())∧((cond (d3.2 !=0) true (d7 !=0))=false→Fn P W7 Ex (d3.1,(([97]:List UInt8),(0:Int))) (fun(d8:(List Bool)) (e9:Unit)=>(0≤(1:Int)∧(1:Int)<(d8.length:Int))∧
 ((Int.toNat (1:Int))<d8.length)∧
 (((List.getD d8 (Int.toNat (1:Int)) false)=true→0≤(0:Int)∧(0:Int)<(d8.length:Int)))∧
 (((List.getD d8 (Int.toNat (1:Int)) false)=true→(Int.toNat (0:Int))<d8.length))∧
 Ak (D:=Int) (fun J10=>(((cond (List.getD d8 (Int.toNat (1:Int)) false) (!(List.getD d8 (Int.toNat (0:Int)) false)) false)=true→Fn P zS9 Bh d3.1 (fun(d11:Int) _=>J10 d11))∧(((cond (List.getD d8 (Int.toNat (1:Int)) false) (!(List.getD d8 (Int.toNat (0:Int)) false)) false)=false→J10 (0:Int))∧True))) (fun d12=>Ak (D:=Int) (fun J13=>(((cond (cond (List.getD d8 (Int.toNat (1:Int)) false) (!(List.getD d8 (Int.toNat (0:Int)) false)) false) (d12==0) false)=true→Fn P zS9 Bh ([],(0:Int)) (fun(d14:Int) _=>J13 d14))∧(((cond (cond (List.getD d8 (Int.toNat (1:Int)) false) (!(List.getD d8 (Int.toNat (0:Int)) false)) false) (d12==0) false)=false→J13 (0:Int))∧True))) (fun d15=>K (cond (cond (cond (List.getD d8 (Int.toNat (1:Int)) false) (!(List.getD d8 (Int.toNat (0:Int)) false)) false) (d12==0) false) (d15==2) false) ()))))))))
theorem Nt{P}(h:Has P Fa){x K}(hw:Jt P x K):Fn P YS Fg x K:=
 ZF Hf h hw
def Mh:A0:=
 sr [ia 4 (kI 0)] (sr [im 5 0,o1 6 (.conv (.toInt .u64) 5),im 7 1,o1 8 (.conv (.toInt .u64) 7),ob 9 .rem 6 8,o1 10 (.conv (.toInt .i64) 9),ia 4 10] .ret)
def I1:AFn:=⟨zS1,Mh.erase,[.tmp 4],2⟩
def OW(P:Pg)(x:(Int×Int))(K:Int→Unit→Prop):Prop:=
 ((u64.wrap x.2)≠0)∧
 K (i64.wrap (Int.tmod (u64.wrap x.1) (u64.wrap x.2))) ()
theorem SB{P}(h:Has P I1){x K}(hw:OW P x K):Fn P zS1 A9 x K:=
 ZF Mh h hw
def Ot:A0:=
 sr [ia 4 (kI 0)] (sr [im 6 1,ob 7 .add 6 (kI 1),o1 8 (.conv (.toInt .u64) 7),ob 9 .mul 8 (.c (.int .u64 11400714819323198485)),ia 5 9] (sq (sr [im 10 0,ol 11 10,ob 12 .gtr 11 (kI 0)] (fk [5] 13 10 (.join [.sl 5 false (.int .u64) .leaf] (cn
 12 (rn [im 13 5,im 14 0,im 15 1,im 16 0,ol 17 16,ob 18 .rem 15 17,ox 19 1 14 18,ld 20 19,o1 21 (.conv (.toInt .u64) 20),ob 22 .xor 13 21,ia 5 22]) .skip)))) (sr [im 23 5,im 24 5,ob 25 .shr 24 (.c (.int .u64 31)),ob 26 .xor 23 25,ob 27 .mul
 26 (.c (.int .u64 13787848793156543929)),ia 5 27] (sr [im 28 5,im 29 5,ob 30 .shr 29 (.c (.int .u64 29)),ob 31 .xor 28 30,ob 32 .shr 31 (.c (.int .u64 1)),o1 33 (.conv (.toInt .i64) 32),ia 4 33] .ret))))
def Kq:AFn:=⟨zS4,Ot.erase,[.tmp 4],2⟩
def QF(P:Pg)(x:((List Int)×Int))(K:Int→Unit→Prop):Prop:=
 Ak (D:=Int) (fun J1=>(((decide ((x.1.length:Int)>0))=true→((x.1.length:Int)≠0)∧
 (0≤(Int.tmod x.2 (x.1.length:Int))∧(Int.tmod x.2 (x.1.length:Int))<(x.1.length:Int))∧
 ((Int.toNat (Int.tmod x.2 (x.1.length:Int)))<x.1.length)∧
 J1 (u64.wrap ((BitVec.toNat (BitVec.ofInt u64.bits (u64.wrap ((u64.wrap (i64.wrap (x.2+1)))*11400714819323198485))^^^BitVec.ofInt u64.bits (u64.wrap (List.getD x.1 (Int.toNat (Int.tmod x.2 (x.1.length:Int))) (0:Int)))):Nat):Int)))∧((decide ((x.1.length:Int)>0))=false→J1 (u64.wrap ((u64.wrap (i64.wrap (x.2+1)))*11400714819323198485))))) (fun d2=>(0≤(31:Int))∧
 (0≤(29:Int))∧
 (0≤(1:Int))∧
 K (i64.wrap (Int.fdiv (u64.wrap ((BitVec.toNat (BitVec.ofInt u64.bits (u64.wrap ((u64.wrap ((BitVec.toNat (BitVec.ofInt u64.bits d2^^^BitVec.ofInt u64.bits (Int.fdiv d2 (2^(min (Int.toNat (31:Int)) u64.bits)))):Nat):Int))*13787848793156543929))^^^BitVec.ofInt u64.bits (Int.fdiv (u64.wrap ((u64.wrap ((BitVec.toNat (BitVec.ofInt u64.bits d2^^^BitVec.ofInt u64.bits (Int.fdiv d2 (2^(min (Int.toNat (31:Int)) u64.bits)))):Nat):Int))*13787848793156543929)) (2^(min (Int.toNat (29:Int)) u64.bits)))):Nat):Int)) (2^(min (Int.toNat (1:Int)) u64.bits)))) ())
theorem Uz{P}(h:Has P Kq){x K}(hw:QF P x K):Fn P zS4 Cg x K:=
 ZF Ot h hw
def HS:A0:=
 sr [o1 4 (.alloc [.slice none 0 0,.int .i64 0])] (sr [im 8 1,oc 9 zS1 [8,kI 7] A9,ob 10 .add (kI 1) 9,ia 1 10] (sr [im 11 0,oc 12 zS4 [11,kI 0] Cg,im 13 1,oc 14
 zS1 [12,13] A9,o1 15 (.build [.slice none 0 0,.int .i64 0] [(1,1,14)]),o1 5 (.alloc [.slice none 0 0,.int .i64 0]),o0 ⟨none,.store 2 5 15,none⟩] (sq (sr [ia 6 (kI 0)] (.frame (rg [6,7] 16 44) [1005,1007]
 true (.join [.bx 1005 (.pair (.sl Ck) bI) (.pair tO .leaf)] (bk 0 (.loop [.si 6,.bx 1005 (.pair (.sl Ck) bI) (.pair tO .leaf)] (sq (sr [im 16 6,im 17 1,ob 18 .lss 16 17] (cx 18 0)) (sq (.frame (rg [7] 21 39) [1005,1007] true (.join
 [.bx 1005 (.pair (.sl Ck) bI) (.pair tO .leaf)] (bk 1 (sr [im 21 0,im 22 6,ob 23 .mul (kI 4) 22,ob 24 .add (kI 1) 23,oc 25 zS4 [21,24] Cg,oc 26 zS1 [25,kI 5] A9,im 27 0,im
 28 6,ob 29 .mul (kI 4) 28,ob 30 .add (kI 2) 29,oc 31 zS4 [27,30] Cg,im 32 1,oc 33 zS1 [31,32] A9,im 34 0,im 35 6,ob 36 .mul (kI 4) 35,ob 37 .add (kI 3) 36,oc 38
 zS4 [34,37] Cg,im 39 1,oc 40 zS1 [38,39] A9,o1 41 (.build [.int .i64 0,.int .u64 0,.int .u64 0,.int .u64 0,.int .u64 0,.int .i64 0,.int .i64 0] [(0,1,26),(5,1,33),(6,1,40)]),o1
 7 (.alloc [.int .i64 0,.int .u64 0,.int .u64 0,.int .u64 0,.int .u64 0,.int .i64 0,.int .i64 0]),o0 ⟨none,.store 7 7 41,none⟩] (sq (.frame (rg [] 42 12) [1007] false (.join [.bx 1007 Ck .leaf] (.draw [ti (fa 42 1 7) (ti (im 44 0) (ti
 (im 45 6) (ti (ob 46 .mul (kI 4) 45) (ti (ob 47 .add (kI 4) 46) (.alt (o1 43 (.load true 4 42)) (.alt (oc 48 zS4 [44,47] Cg) (.alt (oc 49 zS1 [48,kI 2] A9) (ti (o1 50 (.conv
 (.toInt .u8) 49)) (ti (ob 51 .add (.c (.int .u8 97)) 50) (.alt (oc 52 zS6 [43,51] BI) (ti (fa 53 1 7) (.alt (o0 ⟨none,.store 4 53 52,none⟩) .done .stop)) .stop))) .stop) .stop) (.alt (oc 48
 zS4 [44,47] Cg) (.alt (o1 43 (.load true 4 42)) (.alt (oc 49 zS1 [48,kI 2] A9) (ti (o1 50 (.conv (.toInt .u8) 49)) (ti (ob 51 .add (.c (.int .u8 97)) 50) (.alt (oc 52
 zS6 [43,51] BI) (ti (fa 53 1 7) (.alt (o0 ⟨none,.store 4 53 52,none⟩) .done .stop)) .stop))) .stop) (.alt (oc 49 zS1 [48,kI 2] A9) (ti (o1 43 (.load true 4 42)) (ti (o1 50
 (.conv (.toInt .u8) 49)) (ti (ob 51 .add (.c (.int .u8 97)) 50) (.alt (oc 52 zS6 [43,51] BI) (ti (fa 53 1 7) (.alt (o0 ⟨none,.store 4 53 52,none⟩) .done .stop)) .stop)))) .stop)) .stop))))))]))) (rn [fa
 54 0 5,ld 55 54,o1 56 (.load true 7 7),oT ⟨some 57,.buildSl 7 [.int .i64 0,.int .u64 0,.int .u64 0,.int .u64 0,.int .u64 0,.int .i64 0,.int .i64 0] 1 [(0,56)],none⟩ (some (Ck,.leaf)),oT ⟨some 58,.app 7 56 55 57,none⟩ (some
 (Ck,.leaf)),fa 59 0 5,o0 ⟨none,.store 1 59 58,none⟩])))))) (rn [im 19 6,ob 20 .add 19 (kI 1),ia 6 20])))))))) (sr [o1 60 (.load true 2 5),o0 ⟨none,.store 2 4 60,none⟩] .ret))))
def FI:AFn:=⟨YT,HS.erase,[.cell 4 true 2],2⟩
def Ks(P:Pg)(x:((List Int)×Int))(K:((List State)×Int)→Unit→Prop):Prop:=
 Fn P zS1 A9 (x.2,(7:Int)) (fun(d1:Int) (e2:Unit)=>Fn P zS4 Cg (x.1,(0:Int)) (fun(d3:Int) (e4:Unit)=>Fn P zS1 A9 (d3,(i64.wrap ((1:Int)+d1))) (fun(d5:Int) (e6:Unit)=>Ak (D:=((List State)×Int)) (fun J7=>Bf (D:=(Int×((List State)×Int))) ((0:Int),([],d5)) (fun d9 J10=>(((decide (d9.1<(i64.wrap ((1:Int)+d1))))=true→Ak (D:=((List State)×Int)) (fun J11=>Fn P zS4 Cg (x.1,(i64.wrap ((1:Int)+(i64.wrap ((4:Int)*d9.1))))) (fun(d13:Int) (e14:Unit)=>Fn P zS1 A9 (d13,(5:Int)) (fun(d15:Int) (e16:Unit)=>Fn P zS4 Cg (x.1,(i64.wrap ((2:Int)+(i64.wrap ((4:Int)*d9.1))))) (fun(d17:Int) (e18:Unit)=>Fn P zS1 A9 (d17,(i64.wrap ((1:Int)+d1))) (fun(d19:Int) (e20:Unit)=>Fn P zS4 Cg (x.1,(i64.wrap ((3:Int)+(i64.wrap ((4:Int)*d9.1))))) (fun(d21:Int) (e22:Unit)=>Fn P zS1 A9 (d21,(i64.wrap ((1:Int)+d1))) (fun(d23:Int) (e24:Unit)=>Ak (D:=State) (fun J25=>((Fn P zS4 Cg (x.1,(i64.wrap ((4:Int)+(i64.wrap ((4:Int)*d9.1))))) (fun(d27:Int) (e28:Unit)=>(Fn P zS1 A9 (d27,(2:Int)) (fun(d29:Int) (e30:Unit)=>(Fn P zS6 BI (((0:Int),((0:Int),((0:Int),(0:Int)))),(u8.wrap ((97:Int)+(u8.wrap d29)))) (fun(d31:(Int×(Int×(Int×Int)))) (e32:Unit)=>(J25 (d15,(d31,(d19,d23))))∧True))∧True))∧True))∧True)∧((Fn P zS4 Cg (x.1,(i64.wrap ((4:Int)+(i64.wrap ((4:Int)*d9.1))))) (fun(d33:Int) (e34:Unit)=>((Fn P zS1 A9 (d33,(2:Int)) (fun(d35:Int) (e36:Unit)=>(Fn P zS6 BI (((0:Int),((0:Int),((0:Int),(0:Int)))),(u8.wrap ((97:Int)+(u8.wrap d35)))) (fun(d37:(Int×(Int×(Int×Int)))) (e38:Unit)=>(J25 (d15,(d37,(d19,d23))))∧True))∧True))∧True)∧((Fn P zS1 A9 (d33,(2:Int)) (fun(d39:Int) (e40:Unit)=>(Fn P zS6 BI (((0:Int),((0:Int),((0:Int),(0:Int)))),(u8.wrap ((97:Int)+(u8.wrap d39)))) (fun(d41:(Int×(Int×(Int×Int)))) (e42:Unit)=>(J25 (d15,(d41,(d19,d23))))∧True))∧True))∧True)))∧True)) (fun d26=>((d9.2.1.length+List.length ([d26]:List State))*56≤140737488355328)∧
 J11 ((d9.2.1++([d26]:List State)),d9.2.2))))))))) (fun d12=>J10 ((i64.wrap (d9.1+1)),d12)))∧((decide (d9.1<(i64.wrap ((1:Int)+d1))))=false→J7 d9.2)))) (fun d8=>K d8 ()))))
theorem OE{P}(h:Has P FI){x K}(hw:Ks P x K):Fn P YT FL x K:=
 ZF HS h hw
def ER:A0:=
 sr [o1 3 (.box 0),o1 6 (.asg ni)] (sq (sr [fa 7 0 3,ld 8 7] (fk [6] 9 19 (.join [.sl 6 false (.sl bI) tO] (bk 0 (sr [ob 10 .eql 8 (kI 1),ia 9 10] (cn 9 (sr [fa 11 5 3,ld 12 11,fa 13 6 3,ld 14 13,oT ⟨some 15,.buildSl 1 [.int .i64 0] 2
 [(0,12),(1,14)],none⟩ (some (bI,.leaf)),ia 6 15] .ret) (sr [ob 17 .eql 8 (kI 2),ia 16 17] (fk [6] 18 10 (.join [.sl 6 false (.sl bI) tO] (cn 16 (sr [im 18 1] (cn 18 (sr [fa 19 5 3,ld 20 19,oT ⟨some 21,.buildSl 1 [.int .i64 0] 1
 [(0,20)],none⟩ (some (bI,.leaf)),ia 6 21] .ret) .skip)) (sr [ob 23 .eql 8 (kI 3),ia 22 23] (fk [6] 24 4 (.join [.sl 6 false (.sl bI) tO] (cn 22 (sr [im 24 2] (cn 24 (sr [fa 25 5 3,ld 26 25,oT ⟨some 27,.buildSl 1 [.int .i64 0] 1
 [(0,26)],none⟩ (some (bI,.leaf)),ia 6 27] .ret) .skip)) .skip)))))))))))))) (sr [o1 6 (.asg ni)] .ret))
def Dw:AFn:=⟨W8,ER.erase,[.tmp 6],3⟩
def GX(P:Pg)(x:(State×(Bool×Bool)))(K:(List Int)→Unit→Prop):Prop:=
 Ak (D:=(List Int)) (fun J1=>(((x.1.1==1)=true→K ([x.1.2.2.1,x.1.2.2.2]:List Int) ())∧((x.1.1==1)=false→Ak (D:=(List Int)) (fun J3=>(((x.1.1==2)=true→((x.2.1=true→K ([x.1.2.2.1]:List Int) ())∧(x.2.1=false→J3 [])))∧((x.1.1==2)=false→Ak (D:=(List Int)) (fun J5=>(((x.1.1==3)=true→((x.2.2=true→K ([x.1.2.2.1]:List Int) ())∧(x.2.2=false→J5 [])))∧((x.1.1==3)=false→J5 []))) (fun d6=>J3 d6)))) (fun d4=>J1 d4)))) (fun d2=>K [] ())
theorem JW{P}(h:Has P Dw){x K}(hw:GX P x K):Fn P W8 CE x K:=
 ZF ER h hw
def D2:A0:=
 sr [o1 4 (.box 0),o1 8 (.asg ni),ia 9 (kI 0)] (sq (sr [o1 21 (.load true 2 4),oc 22 zS9 [21] Bh,ia 10 22] (sr [im 23 10,ob 24 .neq 23 (kI 0)] (cn 24 (sr [im 25 10,o1 8 (.asg ni),ia 9 25] .ret) .skip)))
 (sr [fa 26 0 4,ld 27 26,ol 28 27,oT ⟨some 29,.mkSl 1 1 [.bool false] 28 28,none⟩ (some (.bool,.leaf)),ia 11 29] (sr [o1 12 (.asg ni)] (sq (sr [im 30 1,ol 31 30,o1 32 (.mv (kI 0))] (fk [8,9,11,12,14] 32 25 (.join [.sl 8 false (.sl bI)
 tO,.si 9,.sl 11 false (.sl .bool) tO,.sl 12 false (.sl bI) tO] (bk 0 (.loop [.sl 8 false (.sl bI) tO,.si 9,.sl 11 false (.sl .bool) tO,.sl 12 false (.sl bI) tO,.si 32] (sr [ob 33 .lss 32 31] (sq (cx 33 0) (sq (fk [8,9,11,12,14] 34 22
 (.join [.sl 8 false (.sl bI) tO,.si 9,.sl 11 false (.sl .bool) tO,.sl 12 false (.sl bI) tO] (bk 1 (sr [ox 34 1 30 32,ld 35 34,ia 14 35] (sq (sr [im 36 14,ob 37 .lss 36 (kI 0),im 38 37,gf 39 38 (.mv 14),gf 40 38 (.mv 11),gf 41 38 (.lenK
 40),gf 42 38 (.bin .geq 39 41),op3 43 38 kT 42] (cn 43 (sr [o1 8 (.asg ni),ia 9 (kI 3)] .ret) .skip)) (sr [im 44 11,im 45 14,ox 46 1 44 45,ld 47 46,o1 48 (.un .not 47)] (fk [11,12] 49 7 (.join [.sl 11 false (.sl .bool) tO,.sl 12 false (.sl
 bI) tO] (cn 48 (sr [im 49 11,im 50 14,ox 51 1 49 50,o0 ⟨none,.store 1 51 kT,none⟩] (rn [im 52 12,im 53 14,oT ⟨some 54,.buildSl 1 [.int .i64 0] 1 [(0,53)],none⟩ (some (bI,.leaf)),oT ⟨some 55,.app 1 8 52 54,none⟩ (some (bI,.leaf)),ia 12
 55])) .skip))))))))) (rn [ob 56 .add 32 (kI 1),im 32 56]))))))))) (sq (fk [11,12,15,17] 57 40 (.join [.sl 11 false (.sl .bool) tO] (bk 2 (.loop [.sl 11 false (.sl .bool) tO,.sl 12 false (.sl bI) tO] (sq (sr [im 57 12,ol 58 57,ob 59 .gtr 58
 (kI 0)] (cx 59 2)) (fk [11,12,15,17] 60 37 (.join [.sl 11 false (.sl .bool) tO,.sl 12 false (.sl bI) tO] (bk 3 (sr [im 60 12,im 61 12,ol 62 61,ob 63 .sub 62 (kI 1),ox 64 1 60 63,ld 65 64,ia 15 65] (sr [im 66 12,im 67 12,ol 68 67,ob 69 .sub
 68 (kI 1),o1 70 (.slK 1 66 none (some 69)),ia 12 70] (sr [fa 71 0 4,ld 72 71,im 73 15,ox 74 7 72 73,o1 75 (.load true 7 74),im 76 2,im 77 3,oc 78 W8 [75,76,77] CE,ol 79 78,o1 80 (.mv (kI 0))] (fk
 [11,12,17] 80 17 (.join [.sl 11 false (.sl .bool) tO,.sl 12 false (.sl bI) tO] (bk 4 (.loop [.sl 11 false (.sl .bool) tO,.sl 12 false (.sl bI) tO,.si 80] (sr [ob 81 .lss 80 79] (sq (cx 81 4) (sq (fk [11,12,17] 82 14 (.join [.sl 11 false
 (.sl .bool) tO,.sl 12 false (.sl bI) tO] (bk 5 (sr [ox 82 1 78 80,ld 83 82,ia 17 83] (sr [im 84 11,im 85 17,ox 86 1 84 85,ld 87 86,o1 88 (.un .not 87)] (fk [11,12] 89 7 (.join [.sl 11 false (.sl .bool) tO,.sl 12 false (.sl bI) tO] (cn 88
 (sr [im 89 11,im 90 17,ox 91 1 89 90,o0 ⟨none,.store 1 91 kT,none⟩] (rn [im 92 12,im 93 17,oT ⟨some 94,.buildSl 1 [.int .i64 0] 1 [(0,93)],none⟩ (some (bI,.leaf)),oT ⟨some 95,.app 1 8 92 94,none⟩ (some (bI,.leaf)),ia 12 95])) .skip))))))))
 (rn [ob 96 .add 80 (kI 1),im 80 96]))))))))))))))))))) (sr [o1 18 (.asg ni)] (sq (sr [im 97 11,ol 98 97,o1 99 (.mv (kI 0))] (fk [18,19,20] 99 11 (.join [.sl 18 false (.sl bI) tO] (bk 6 (.loop [.sl 18 false (.sl bI) tO,.si 99] (sr [ob 100
 .lss 99 98] (sq (cx 100 6) (sq (fk [18,19,20] 101 8 (.join [.sl 18 false (.sl bI) tO] (bk 7 (sr [im 101 99,ox 102 1 97 99,ld 103 102,ia 19 101,ia 20 103] (sr [im 104 20] (fk [18] 105 4 (.join [.sl 18 false (.sl bI) tO] (cn 104 (rn [im 105
 18,im 106 19,oT ⟨some 107,.buildSl 1 [.int .i64 0] 1 [(0,106)],none⟩ (some (bI,.leaf)),oT ⟨some 108,.app 1 8 105 107,none⟩ (some (bI,.leaf)),ia 18 108]) .skip)))))))) (rn [ob 109 .add 99 (kI 1),im 99 109]))))))))) (sr [im 110 18,ia 8
 110,ia 9 (kI 0)] .ret))))))))
def CO:AFn:=⟨YU,D2.erase,[.tmp 8,.tmp 9],4⟩
def FF(P:Pg)(x:(((List State)×Int)×((List Int)×(Bool×Bool))))(K:((List Int)×Int)→Unit→Prop):Prop:=
 Fn P zS9 Bh x.1 (fun(d1:Int) (e2:Unit)=>(((d1 !=0)=true→K ([],d1) ())∧((d1 !=0)=false→(0≤(x.1.1.length:Int)∧(x.1.1.length:Int)≤(x.1.1.length:Int)∧((1:Nat):Int)*(x.1.1.length:Int)≤281474976710656)∧
 Ak (D:=((List Int)×(Int×((List Bool)×(List Int))))) (fun J3=>Bf (D:=((List Int)×(Int×((List Bool)×((List Int)×Int))))) ([],((0:Int),((List.replicate (Int.toNat (x.1.1.length:Int)) false),([],(0:Int))))) (fun d5 J6=>(((decide (d5.2.2.2.2<(x.2.1.length:Int)))=true→Ak (D:=((List Int)×(Int×((List Bool)×(List Int))))) (fun J7=>(0≤d5.2.2.2.2∧d5.2.2.2.2<(x.2.1.length:Int))∧
 (d5.2.2.2.2.toNat<x.2.1.length)∧
 (((cond (decide ((List.getD x.2.1 d5.2.2.2.2.toNat (0:Int))<0)) true (decide ((List.getD x.2.1 d5.2.2.2.2.toNat (0:Int))≥(d5.2.2.1.length:Int))))=true→K ([],(3:Int)) ())∧((cond (decide ((List.getD x.2.1 d5.2.2.2.2.toNat (0:Int))<0)) true (decide ((List.getD x.2.1 d5.2.2.2.2.toNat (0:Int))≥(d5.2.2.1.length:Int))))=false→(0≤(List.getD x.2.1 d5.2.2.2.2.toNat (0:Int))∧(List.getD x.2.1 d5.2.2.2.2.toNat (0:Int))<(d5.2.2.1.length:Int))∧
 ((Int.toNat (List.getD x.2.1 d5.2.2.2.2.toNat (0:Int)))<d5.2.2.1.length)∧
 Ak (D:=((List Bool)×(List Int))) (fun J9=>(((!(List.getD d5.2.2.1 (Int.toNat (List.getD x.2.1 d5.2.2.2.2.toNat (0:Int))) false))=true→(0≤(List.getD x.2.1 d5.2.2.2.2.toNat (0:Int))∧(List.getD x.2.1 d5.2.2.2.2.toNat (0:Int))<(d5.2.2.1.length:Int))∧
 ((Int.toNat (List.getD x.2.1 d5.2.2.2.2.toNat (0:Int)))<d5.2.2.1.length)∧
 ((d5.2.2.2.1.length+List.length ([(List.getD x.2.1 d5.2.2.2.2.toNat (0:Int))]:List Int))*8≤140737488355328)∧
 J9 ((List.set d5.2.2.1 (Int.toNat (List.getD x.2.1 d5.2.2.2.2.toNat (0:Int))) true),(d5.2.2.2.1++([(List.getD x.2.1 d5.2.2.2.2.toNat (0:Int))]:List Int))))∧((!(List.getD d5.2.2.1 (Int.toNat (List.getD x.2.1 d5.2.2.2.2.toNat (0:Int))) false))=false→J9 (d5.2.2.1,d5.2.2.2.1)))) (fun d10=>J7 (d5.1,(d5.2.1,d10)))))) (fun d8=>J6 (d8.1,(d8.2.1,(d8.2.2.1,(d8.2.2.2,(i64.wrap (d5.2.2.2.2+1))))))))∧((decide (d5.2.2.2.2<(x.2.1.length:Int)))=false→J3 (d5.1,(d5.2.1,(d5.2.2.1,d5.2.2.2.1))))))) (fun d4=>Ak (D:=(List Bool)) (fun J11=>Bf (D:=((List Bool)×(List Int))) d4.2.2 (fun d13 J14=>(((decide ((d13.2.length:Int)>0))=true→Ak (D:=((List Bool)×(List Int))) (fun J15=>(0≤(i64.wrap ((d13.2.length:Int) -1))∧(i64.wrap ((d13.2.length:Int) -1))<(d13.2.length:Int))∧
 ((Int.toNat (i64.wrap ((d13.2.length:Int) -1)))<d13.2.length)∧
 (0≤(i64.wrap ((d13.2.length:Int) -1))∧(i64.wrap ((d13.2.length:Int) -1))≤(d13.2.length:Int))∧
 (0+(Int.toNat (i64.wrap ((d13.2.length:Int) -1)))≤d13.2.length)∧
 (0≤(List.getD d13.2 (Int.toNat (i64.wrap ((d13.2.length:Int) -1))) (0:Int))∧(List.getD d13.2 (Int.toNat (i64.wrap ((d13.2.length:Int) -1))) (0:Int))<(x.1.1.length:Int))∧
 ((Int.toNat (List.getD d13.2 (Int.toNat (i64.wrap ((d13.2.length:Int) -1))) (0:Int)))<x.1.1.length)∧
 Fn P W8 CE ((List.getD x.1.1 (Int.toNat (List.getD d13.2 (Int.toNat (i64.wrap ((d13.2.length:Int) -1))) (0:Int))) Al),x.2.2) (fun(d17:(List Int)) (e18:Unit)=>Ak (D:=((List Bool)×(List Int))) (fun J19=>Bf (D:=((List Bool)×((List Int)×Int))) (d13.1,((List.take (Int.toNat (i64.wrap ((d13.2.length:Int) -1))) (List.drop 0 d13.2)),(0:Int))) (fun d21 J22=>(((decide (d21.2.2<(d17.length:Int)))=true→Ak (D:=((List Bool)×(List Int))) (fun J23=>(0≤d21.2.2∧d21.2.2<(d17.length:Int))∧
 (d21.2.2.toNat<d17.length)∧
 (0≤(List.getD d17 d21.2.2.toNat (0:Int))∧(List.getD d17 d21.2.2.toNat (0:Int))<(d21.1.length:Int))∧
 ((Int.toNat (List.getD d17 d21.2.2.toNat (0:Int)))<d21.1.length)∧
 Ak (D:=((List Bool)×(List Int))) (fun J25=>(((!(List.getD d21.1 (Int.toNat (List.getD d17 d21.2.2.toNat (0:Int))) false))=true→(0≤(List.getD d17 d21.2.2.toNat (0:Int))∧(List.getD d17 d21.2.2.toNat (0:Int))<(d21.1.length:Int))∧
 ((Int.toNat (List.getD d17 d21.2.2.toNat (0:Int)))<d21.1.length)∧
 ((d21.2.1.length+List.length ([(List.getD d17 d21.2.2.toNat (0:Int))]:List Int))*8≤140737488355328)∧
 J25 ((List.set d21.1 (Int.toNat (List.getD d17 d21.2.2.toNat (0:Int))) true),(d21.2.1++([(List.getD d17 d21.2.2.toNat (0:Int))]:List Int))))∧((!(List.getD d21.1 (Int.toNat (List.getD d17 d21.2.2.toNat (0:Int))) false))=false→J25 (d21.1,d21.2.1)))) (fun d26=>J23 d26)) (fun d24=>J22 (d24.1,(d24.2,(i64.wrap (d21.2.2+1))))))∧((decide (d21.2.2<(d17.length:Int)))=false→J19 (d21.1,d21.2.1))))) (fun d20=>J15 d20))) (fun d16=>J14 d16))∧((decide ((d13.2.length:Int)>0))=false→J11 d13.1)))) (fun d12=>Ak (D:=(List Int)) (fun J27=>Bf (D:=((List Int)×Int)) ([],(0:Int)) (fun d29 J30=>(((decide (d29.2<(d12.length:Int)))=true→Ak (D:=(List Int)) (fun J31=>(0≤d29.2∧d29.2<(d12.length:Int))∧
 (d29.2.toNat<d12.length)∧
 Ak (D:=(List Int)) (fun J33=>(((List.getD d12 d29.2.toNat false)=true→((d29.1.length+List.length ([d29.2]:List Int))*8≤140737488355328)∧
 J33 (d29.1++([d29.2]:List Int)))∧((List.getD d12 d29.2.toNat false)=false→J33 d29.1))) (fun d34=>J31 d34)) (fun d32=>J30 (d32,(i64.wrap (d29.2+1)))))∧((decide (d29.2<(d12.length:Int)))=false→J27 d29.1)))) (fun d28=>K (d28,(0:Int)) ()))))))
theorem Io{P}(h:Has P CO){x K}(hw:FF P x K):Fn P YU CR x K:=
 ZF D2 h hw
def Kk:A0:=
 sr [o1 4 (.asg kF)] (sq (sr [im 6 0,ol 7 6,im 8 1,ol 9 8,ob 10 .neq 7 9] (cn 10 (sr [o1 4 (.asg kF)] .ret) .skip)) (sq (sr [ia 5 (kI 0)] (fk [4,5] 11 15 (.join [.sl 4 false .bool .leaf] (bk 0 (.loop [.sl 4 false .bool .leaf,.si 5] (sq (sr
 [im 11 5,im 12 0,ol 13 12,ob 14 .lss 11 13] (cx 14 0)) (sq (fk [4] 17 9 (.join [.sl 4 false .bool .leaf] (bk 1 (sq (.draw [ti (im 17 0) (ti (im 18 5) (ti (ox 19 1 17 18) (ti (ld 20 19) (ti (im 21 1) (ti (im 22 5) (ti (ox 23 1 21 22) (ti
 (ld 24 23) (ti (ob 25 .neq 20 24) .done))))))))]) (cn 25 (sr [o1 4 (.asg kF)] .ret) .skip))))) (rn [im 15 5,ob 16 .add 15 (kI 1),ia 5 16])))))))) (sr [o1 4 (.asg kT)] .ret)))
def HC:AFn:=⟨YV,Kk.erase,[.tmp 4],2⟩
def Nb(P:Pg)(x:((List Int)×(List Int)))(K:Bool→Unit→Prop):Prop:=
 ((((x.1.length:Int) !=(x.2.length:Int))=true→K false ())∧(((x.1.length:Int) !=(x.2.length:Int))=false→Ak (D:=Bool) (fun J1=>Bf (D:=(Bool×Int)) (false,(0:Int)) (fun d3 J4=>(((decide (d3.2<(x.1.length:Int)))=true→Ak (D:=Bool) (fun J5=>(0≤d3.2∧d3.2<(x.1.length:Int))∧
 (d3.2.toNat<x.1.length)∧
 (0≤d3.2∧d3.2<(x.2.length:Int))∧
 (d3.2.toNat<x.2.length)∧
 ((((List.getD x.1 d3.2.toNat (0:Int)) !=(List.getD x.2 d3.2.toNat (0:Int)))=true→K false ())∧(((List.getD x.1 d3.2.toNat (0:Int)) !=(List.getD x.2 d3.2.toNat (0:Int)))=false→J5 d3.1))) (fun d6=>J4 (d6,(i64.wrap (d3.2+1)))))∧((decide (d3.2<(x.1.length:Int)))=false→J1 d3.1)))) (fun d2=>K true ())))
theorem Q4{P}(h:Has P HC){x K}(hw:Nb P x K):Fn P YV HD x K:=
 ZF Kk h hw
end Go.VS
