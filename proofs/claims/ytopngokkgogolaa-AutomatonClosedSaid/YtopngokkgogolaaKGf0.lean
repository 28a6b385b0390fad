/- Functions of the program: typed code, and what it says, lifted. -/
import Derived.Test.YtopngokkgogolaaKTxSig
import Derived.KernelRfl
set_option linter.unusedVariables false
set_option linter.unusedSimpArgs false
set_option maxRecDepth 8000
namespace Go.VS
open IntKind
def D4:A0:=
 sr [o1 3 (.box 1),ia 4 (kI 0)] (sq (.frame (rg [] 5 10) [0] true (.join [.bx 0 AD (.pair .leaf (.pair .leaf (.pair .leaf (.pair (.node .own (.pair .leaf (.pair .leaf (.pair .leaf (.pair .leaf tM))))) .leaf))))] (.draw [ti (im 5
 0) (ti (im 6 0) (ti (o1 7 (.nilc 6)) (ti (fa 8 3 7) (ti (o1 10 (.load true 8 3)) (.alt (ld 9 8) (.alt (oT ⟨some 11,.buildSl 8 [.int .i64 0,.int .u64 0,.int .u64 0,.int .u64 0,.int .u64 0,.int .i64 0,.int .i64 0,.slice none 0 0] 1
 [(0,10)],none⟩ (some (Gc,.pair .leaf (.pair .leaf (.pair .leaf (.pair .leaf tM)))))) (.alt (oT ⟨some 12,.app 8 80 9 11,none⟩ (some (Gc,.pair .leaf (.pair .leaf (.pair .leaf (.pair .leaf tM)))))) (ti (o1 13 (.nilc 5)) (ti (fa 14 3 13)
 (.alt (o0 ⟨none,.store 1 14 12,none⟩) .done .stop))) .stop) .stop) (.alt (oT ⟨some 11,.buildSl 8 [.int .i64 0,.int .u64 0,.int .u64 0,.int .u64 0,.int .u64 0,.int .i64 0,.int .i64 0,.slice none 0 0] 1 [(0,10)],none⟩ (some (Gc,.pair
 .leaf (.pair .leaf (.pair .leaf (.pair .leaf tM)))))) (ti (ld 9 8) (.alt (oT ⟨some 12,.app 8 80 9 11,none⟩ (some (Gc,.pair .leaf (.pair .leaf (.pair .leaf (.pair .leaf tM)))))) (ti (o1 13 (.nilc 5)) (ti (fa 14 3 13) (.alt (o0
 ⟨none,.store 1 14 12,none⟩) .done .stop))) .stop)) .stop))))))]))) (sr [im 15 0,o1 16 (.nilc 15),fa 17 3 16,ld 18 17,ol 19 18,ob 20 .sub 19 (kI 1),ia 4 20] .ret))
def CQ:AFn:=⟨zS0,D4.erase,[.tmp 4],2⟩
def FH(P:Pg)(x:(Ae×Node))(K:Int→Ae→Prop):Prop:=
 Ak (D:=Ae) (fun J1=>(((((x.1.2.2.2.1.length+List.length ([x.2]:List Node))*80≤140737488355328)∧
 (J1 (x.1.1,(x.1.2.1,(x.1.2.2.1,((x.1.2.2.2.1++([x.2]:List Node)),x.1.2.2.2.2)))))∧True)∧True)∧True)∧(((((x.1.2.2.2.1.length+List.length ([x.2]:List Node))*80≤140737488355328)∧
 (J1 (x.1.1,(x.1.2.1,(x.1.2.2.1,((x.1.2.2.2.1++([x.2]:List Node)),x.1.2.2.2.2)))))∧True)∧True)∧True)) (fun d2=>K (i64.wrap ((d2.2.2.2.1.length:Int) -1)) d2)
theorem Iq{P}(h:Has P CQ){x K}(hw:FH P x K):Fn P zS0 Av x K:=
 ZF D4 h hw
def ES:A0:=
 sr [o1 4 (.asg kF)] (sq (fk [] 4 24 (.join [.sl 4 false .bool .leaf] (.draw [ti (im 5 0) (ti (o1 6 (.nilc 5)) (ti (fa 7 1 6) (ti (ld 8 7) (ti (im 9 0) (ti (o1 10 (.nilc 9)) (ti (fa 11 0 10) (ti (ld 12 11) (ti (o1 13 (.lenS 12)) (ti (ob 14
 .lss 8 13) (ti (im 15 14) (ti (gt 16 15 (.mv 0)) (ti (gt 17 15 (.nilc 16)) (ti (gt 18 15 (.fAddr 0 17)) (ti (gt 19 15 (.load false 1 18)) (ti (gt 20 15 (.mv 0)) (ti (gt 21 15 (.nilc 20)) (ti (gt 22 15 (.fAddr 1 21)) (ti (gt 23 15 (.load
 false 1 22)) (ti (gt 24 15 (.ixS 19 23)) (ti (gt 25 15 (.mv 1)) (ti (gt 26 15 (.bin .eql 24 25)) (ti (op3 27 15 26 kF) (.alt (ia 4 27) .done .stop)))))))))))))))))))))))]))) .ret)
def Dx:AFn:=⟨zS7,ES.erase,[.tmp 4],2⟩
def GY(P:Pg)(x:(Ae×Int))(K:Bool→Ae→Prop):Prop:=
 Ak (D:=Bool) (fun J1=>(((decide (x.1.2.1<(x.1.1.length:Int)))=true→0≤x.1.2.1∧x.1.2.1<(x.1.1.length:Int)))∧
 (J1 (cond (decide (x.1.2.1<(x.1.1.length:Int))) (((x.1.1.getD x.1.2.1.toNat 0).toNat:Int)==x.2) false))∧True) (fun d2=>K d2 x.1)
theorem JX{P}(h:Has P Dx){x K}(hw:GY P x K):Fn P zS7 AW x K:=
 ZF ES h hw
def IV:A0:=
 sr [o1 2 (.box 0),o1 4 (.alloc [.int .u64 0,.int .u64 0,.int .u64 0,.int .u64 0])] (sr [im 5 1,ob 6 .quo 5 (.c (.int .u8 64)),im 7 1,ob 8 .quo 7 (.c (.int .u8 64)),o1 9 (.ixAr 4 1 2 8),ld 10 9,im 11 1,ob 12 .rem 11 (.c (.int .u8 64)),ob 13
 .shl (.c (.int .u64 1)) 12,ob 14 .or 10 13,o1 15 (.ixAr 4 1 2 6),o0 ⟨none,.store 1 15 14,none⟩] (sr [o1 16 (.load true 4 2),o0 ⟨none,.store 4 4 16,none⟩] .ret))
def GQ:AFn:=⟨zS6,IV.erase,[.cell 4 true 4],2⟩
def Mm(P:Pg)(x:((Int×(Int×(Int×Int)))×Int))(K:(Int×(Int×(Int×Int)))→Unit→Prop):Prop:=
 ((64:Int)≠0)∧
 ((64:Int)≠0)∧
 (0≤(u8.wrap (Int.tdiv x.2 (64:Int)))∧(u8.wrap (Int.tdiv x.2 (64:Int)))<((4:Nat):Int))∧
 ((Int.toNat (u8.wrap (Int.tdiv x.2 (64:Int))))<4)∧
 ((64:Int)≠0)∧
 (0≤(Int.tmod x.2 (64:Int)))∧
 (0≤(u8.wrap (Int.tdiv x.2 (64:Int)))∧(u8.wrap (Int.tdiv x.2 (64:Int)))<((4:Nat):Int))∧
 ((Int.toNat (u8.wrap (Int.tdiv x.2 (64:Int))))<4)∧
 K ((if(Int.toNat (u8.wrap (Int.tdiv x.2 (64:Int))))=0 then(u64.wrap ((BitVec.toNat (BitVec.ofInt u64.bits (List.getD [x.1.1,x.1.2.1,x.1.2.2.1,x.1.2.2.2] (Int.toNat (u8.wrap (Int.tdiv x.2 (64:Int)))) (0:Int))|||BitVec.ofInt u64.bits (u64.wrap ((1:Int)*2^(min (Int.toNat (Int.tmod x.2 (64:Int))) u64.bits)))):Nat):Int))else x.1.1),((if(Int.toNat (u8.wrap (Int.tdiv x.2 (64:Int))))=1 then(u64.wrap ((BitVec.toNat (BitVec.ofInt u64.bits (List.getD [x.1.1,x.1.2.1,x.1.2.2.1,x.1.2.2.2] (Int.toNat (u8.wrap (Int.tdiv x.2 (64:Int)))) (0:Int))|||BitVec.ofInt u64.bits (u64.wrap ((1:Int)*2^(min (Int.toNat (Int.tmod x.2 (64:Int))) u64.bits)))):Nat):Int))else x.1.2.1),((if(Int.toNat (u8.wrap (Int.tdiv x.2 (64:Int))))=2 then(u64.wrap ((BitVec.toNat (BitVec.ofInt u64.bits (List.getD [x.1.1,x.1.2.1,x.1.2.2.1,x.1.2.2.2] (Int.toNat (u8.wrap (Int.tdiv x.2 (64:Int)))) (0:Int))|||BitVec.ofInt u64.bits (u64.wrap ((1:Int)*2^(min (Int.toNat (Int.tmod x.2 (64:Int))) u64.bits)))):Nat):Int))else x.1.2.2.1),(if(Int.toNat (u8.wrap (Int.tdiv x.2 (64:Int))))=3 then(u64.wrap ((BitVec.toNat (BitVec.ofInt u64.bits (List.getD [x.1.1,x.1.2.1,x.1.2.2.1,x.1.2.2.2] (Int.toNat (u8.wrap (Int.tdiv x.2 (64:Int)))) (0:Int))|||BitVec.ofInt u64.bits (u64.wrap ((1:Int)*2^(min (Int.toNat (Int.tmod x.2 (64:Int))) u64.bits)))):Nat):Int))else x.1.2.2.2)))) ()
theorem P7{P}(h:Has P GQ){x K}(hw:Mm P x K):Fn P zS6 BI x K:=
 ZF IV h hw
def D3:A0:=
 sr [ia 2 (kI 0)] (sq (fk [3] 5 9 (.join [.sl 3 false (.int .u8) .leaf] (.draw [ti (im 5 0) (ti (o1 6 (.nilc 5)) (ti (fa 7 0 6) (ti (ld 8 7) (ti (im 9 0) (ti (o1 10 (.nilc 9)) (ti (fa 11 1 10) (ti (ld 12 11) (ti (o1 13 (.ixS 8 12)) (.alt (ia
 3 13) .done .stop)))))))))]))) (sr [im 14 0,o1 15 (.nilc 14),fa 16 1 15,ld 17 16,ob 18 .add 17 (kI 1),o1 19 (.nilc 14),fa 20 1 19,o0 ⟨none,.store 1 20 18,none⟩] (sq (sr [im 21 3] (.frame (rg [2,3,4] 22 105) [0] true (.join [.si 2,.sl 3
 false (.int .u8) .leaf,.bx 0 AD (.pair .leaf (.pair .leaf (.pair .leaf (.pair (.node .own (.pair .leaf (.pair .leaf (.pair .leaf (.pair .leaf tM))))) .leaf))))] (bk 0 (sr [ob 23 .eql 21 (.c (.int .u8 40)),ia 22 23] (cn 22 (sq
 (sr [im 24 0,o1 25 (.nilc 24),fa 26 2 25,ld 27 26,ob 28 .geq 27 (kI 50)] (cn 28 (sr [im 29 0,oc 30 zS5 [29,kI 1] AK,ia 2 30] .ret) .skip)) (sr [im 31 0,o1 32 (.nilc 31),fa 33 2 32,ld
 34 33,ob 35 .add 34 (kI 1),o1 36 (.nilc 31),fa 37 2 36,o0 ⟨none,.store 1 37 35,none⟩] (sr [im 38 0,oc 39 Tv [38] Be,ia 4 39] (sq (sr [im 40 0,o1 41 (.nilc 40),fa 42 4 41,ld 43
 42,ob 44 .eql 43 (kI 0),im 45 44,⟨⟨some 46,.mv 0,some (45,true)⟩,none,⟨[],[]⟩,false,some 45,true,false⟩,⟨⟨some 47,.call zS7 [46,.c (.int .u8 41)],some
 (45,true)⟩,none,AW,false,none,true,true⟩,⟨⟨some 48,.un .not 47,some (45,true)⟩,none,⟨[],[]⟩,false,none,true,true⟩,op3 49 45 48 kF] (cn 49 (sr [im 50 0,oc 51 zS5 [50,kI 40]
 AK,ia 2 51] .ret) .skip)) (sr [im 52 0,o1 53 (.nilc 52),fa 54 2 53,ld 55 54,ob 56 .sub 55 (kI 1),o1 57 (.nilc 52),fa 58 2 57,o0 ⟨none,.store 1 58 56,none⟩] (sr [im 59 0,o1 60 (.nilc 59),fa 61 1 60,ld 62 61,ob 63 .add 62
 (kI 1),o1 64 (.nilc 59),fa 65 1 64,o0 ⟨none,.store 1 65 63,none⟩] (sr [im 66 4,ia 2 66] .ret))))))) (sr [ob 68 .eql 21 (.c (.int .u8 91)),ia 67 68] (cn 67 (sr [im 69 0,oc 70 Zx [69]
 Fp,ia 2 70] .ret) (sr [ob 72 .eql 21 (.c (.int .u8 46)),ia 71 72] (cn 71 (sr [im 73 0,o1 74 (.build [.int .u64 0,.int .u64 0,.int .u64 0,.int .u64 0] []),oc 75 Zy [74]
 F9,o1 76 (.build [.int .i64 0,.int .u64 0,.int .u64 0,.int .u64 0,.int .u64 0,.int .i64 0,.int .i64 0,.slice none 0 0] [(0,1,kI 1),(1,4,75)]),oc 77 zS0 [73,76] Av,ia 2
 77] .ret) (sr [ob 79 .eql 21 (.c (.int .u8 94)),ia 78 79] (cn 78 (sr [im 80 0,o1 81 (.build [.int .i64 0,.int .u64 0,.int .u64 0,.int .u64 0,.int .u64 0,.int .i64 0,.int .i64 0,.slice none 0 0] [(0,1,kI 2)]),oc 82
 zS0 [80,81] Av,ia 2 82] .ret) (sr [ob 84 .eql 21 (.c (.int .u8 36)),ia 83 84] (cn 83 (sr [im 85 0,o1 86 (.build [.int .i64 0,.int .u64 0,.int .u64 0,.int .u64 0,.int .u64 0,.int .i64
 0,.int .i64 0,.slice none 0 0] [(0,1,kI 3)]),oc 87 zS0 [85,86] Av,ia 2 87] .ret) (sq (sr [ob 89 .eql 21 (.c (.int .u8 41)),ia 88 89] (fk [88] 90 5 (.join [.sl 88 false .bool .leaf] (cn
 88 .skip (sr [ob 90 .eql 21 (.c (.int .u8 124)),ia 88 90] (fk [88] 91 4 (.join [.sl 88 false .bool .leaf] (cn 88 .skip (sr [ob 91 .eql 21 (.c (.int .u8 42)),ia 88 91] (.frame [88,92,93,94] [] false (.join [.sl 88 false .bool .leaf] (cn 88
 .skip (sr [ob 92 .eql 21 (.c (.int .u8 43)),ia 88 92] (.frame [88,93,94] [] false (.join [.sl 88 false .bool .leaf] (cn 88 .skip (sr [ob 93 .eql 21 (.c (.int .u8 63)),ia 88 93] (.frame [88,94] [] false (.join [.sl 88 false .bool .leaf] (cn
 88 .skip (rn [ob 94 .eql 21 (.c (.int .u8 123)),ia 88 94]))))))))))))))))))))) (cn 88 (sr [im 95 0,oc 96 zS5 [95,kI 40] AK,ia 2 96] .ret) (sr [ob 98 .eql 21 (.c (.int .u8 92)),ia 97
 98] (.frame (rg [2,3] 99 28) [0] true (.join [.si 2,.sl 3 false (.int .u8) .leaf,.bx 0 AD (.pair .leaf (.pair .leaf (.pair .leaf (.pair (.node .own (.pair .leaf (.pair .leaf (.pair .leaf (.pair .leaf tM))))) .leaf))))] (cn 97
 (sq (sq (.draw [ti (im 99 0) (ti (o1 100 (.nilc 99)) (ti (fa 101 1 100) (ti (ld 102 101) (ti (im 103 0) (ti (o1 104 (.nilc 103)) (ti (fa 105 0 104) (ti (ld 106 105) (ti (o1 107 (.lenS 106)) (ti (ob 108 .geq 102 107) .done)))))))))]) (cn
 108 (sr [im 109 0,oc 110 zS5 [109,kI 40] AK,ia 2 110] .ret) .skip)) (sq (fk [3] 111 9 (.join [.sl 3 false (.int .u8) .leaf] (.draw [ti (im 111 0) (ti (o1 112 (.nilc 111)) (ti (fa 113 0
 112) (ti (ld 114 113) (ti (im 115 0) (ti (o1 116 (.nilc 115)) (ti (fa 117 1 116) (ti (ld 118 117) (ti (o1 119 (.ixS 114 118)) (.alt (ia 3 119) .done .stop)))))))))]))) (rn [im 120 0,o1 121 (.nilc 120),fa 122 1 121,ld 123 122,ob 124 .add
 123 (kI 1),o1 125 (.nilc 120),fa 126 1 125,o0 ⟨none,.store 1 126 124,none⟩]))) .skip)))))))))))))))))))) (sr [im 127 0,o1 128 (.build [.int .u64 0,.int .u64 0,.int .u64 0,.int .u64 0] []),im 129 3,oc 130 zS6
 [128,129] BI,o1 131 (.build [.int .i64 0,.int .u64 0,.int .u64 0,.int .u64 0,.int .u64 0,.int .i64 0,.int .i64 0,.slice none 0 0] [(0,1,kI 1),(1,4,130)]),oc 132 zS0 [127,131]
 Av,ia 2 132] .ret))))
def CP:AFn:=⟨Vg,D3.erase,[.tmp 2],1⟩
def FG(P:Pg)(x:Ae)(K:Int→Ae→Prop):Prop:=
 Ak (D:=Int) (fun J1=>(0≤x.2.1∧x.2.1<(x.1.length:Int))∧
 (J1 ((x.1.getD x.2.1.toNat 0).toNat:Int))∧True) (fun d2=>Ak (D:=(Int×(Int×Ae))) (fun J3=>(((d2==40)=true→(((decide (x.2.2.1≥50))=true→Fn P zS5 AK ((x.1,((i64.wrap (x.2.1+1)),x.2.2)),(1:Int)) (fun(d5:Int) (e6:Ae)=>K d5 e6))∧((decide (x.2.2.1≥50))=false→Fn P Tv Be (x.1,((i64.wrap (x.2.1+1)),((i64.wrap (x.2.2.1+1)),x.2.2.2))) (fun(d7:Int) (e8:Ae)=>(((e8.2.2.2.2==0)=true→Fn P zS7 AW (e8,(41:Int)) (fun(d9:Bool) (e10:Ae)=>(((cond true (!d9) false)=true→Fn P zS5 AK (e10,(40:Int)) (fun(d11:Int) (e12:Ae)=>K d11 e12))∧((cond true (!d9) false)=false→K d7 (e10.1,((i64.wrap (e10.2.1+1)),((i64.wrap (e10.2.2.1 -1)),e10.2.2.2)))))))∧((e8.2.2.2.2==0)=false→(((cond false false false)=true→Fn P zS5 AK (e8,(40:Int)) (fun(d13:Int) (e14:Ae)=>K d13 e14))∧((cond false false false)=false→K d7 (e8.1,((i64.wrap (e8.2.1+1)),((i64.wrap (e8.2.2.1 -1)),e8.2.2.2)))))))))))∧((d2==40)=false→(((d2==91)=true→Fn P Zx Fp (x.1,((i64.wrap (x.2.1+1)),x.2.2)) (fun(d15:Int) (e16:Ae)=>K d15 e16))∧((d2==91)=false→(((d2==46)=true→Fn P Zy F9 ((0:Int),((0:Int),((0:Int),(0:Int)))) (fun(d17:(Int×(Int×(Int×Int)))) (e18:Unit)=>Fn P zS0 Av ((x.1,((i64.wrap (x.2.1+1)),x.2.2)),((1:Int),(d17,((0:Int),((0:Int),[]))))) (fun(d19:Int) (e20:Ae)=>K d19 e20)))∧((d2==46)=false→(((d2==94)=true→Fn P zS0 Av ((x.1,((i64.wrap (x.2.1+1)),x.2.2)),((2:Int),(((0:Int),((0:Int),((0:Int),(0:Int)))),((0:Int),((0:Int),[]))))) (fun(d21:Int) (e22:Ae)=>K d21 e22))∧((d2==94)=false→(((d2==36)=true→Fn P zS0 Av ((x.1,((i64.wrap (x.2.1+1)),x.2.2)),((3:Int),(((0:Int),((0:Int),((0:Int),(0:Int)))),((0:Int),((0:Int),[]))))) (fun(d23:Int) (e24:Ae)=>K d23 e24))∧((d2==36)=false→Ak (D:=Bool) (fun J25=>(((d2==41)=true→J25 (d2==41))∧((d2==41)=false→Ak (D:=Bool) (fun J27=>(((d2==124)=true→J27 (d2==124))∧((d2==124)=false→Ak (D:=Bool) (fun J29=>(((d2==42)=true→J29 (d2==42))∧((d2==42)=false→Ak (D:=Bool) (fun J31=>(((d2==43)=true→J31 (d2==43))∧((d2==43)=false→Ak (D:=Bool) (fun J33=>(((d2==63)=true→J33 (d2==63))∧((d2==63)=false→J33 (d2==123)))) (fun d34=>J31 d34)))) (fun d32=>J29 d32)))) (fun d30=>J27 d30)))) (fun d28=>J25 d28)))) (fun d26=>((d26=true→Fn P zS5 AK ((x.1,((i64.wrap (x.2.1+1)),x.2.2)),(40:Int)) (fun(d35:Int) (e36:Ae)=>K d35 e36))∧(d26=false→Ak (D:=(Int×(Int×Ae))) (fun J37=>(((d2==92)=true→(((decide ((i64.wrap (x.2.1+1))≥(x.1.length:Int)))=true→Fn P zS5 AK ((x.1,((i64.wrap (x.2.1+1)),x.2.2)),(40:Int)) (fun(d39:Int) (e40:Ae)=>K d39 e40))∧((decide ((i64.wrap (x.2.1+1))≥(x.1.length:Int)))=false→Ak (D:=Int) (fun J41=>(0≤(i64.wrap (x.2.1+1))∧(i64.wrap (x.2.1+1))<(x.1.length:Int))∧
 (J41 ((UInt8.toNat (List.getD x.1 (Int.toNat (i64.wrap (x.2.1+1))) 0):Nat):Int))∧True) (fun d42=>J37 ((0:Int),(d42,(x.1,((i64.wrap ((i64.wrap (x.2.1+1))+1)),x.2.2))))))))∧((d2==92)=false→J37 ((0:Int),(d2,(x.1,((i64.wrap (x.2.1+1)),x.2.2))))))) (fun d38=>J3 d38))))))))))))))) (fun d4=>Fn P zS6 BI (((0:Int),((0:Int),((0:Int),(0:Int)))),d4.2.1) (fun(d43:(Int×(Int×(Int×Int)))) (e44:Unit)=>Fn P zS0 Av (d4.2.2,((1:Int),(d43,((0:Int),((0:Int),[]))))) (fun(d45:Int) (e46:Ae)=>K d45 e46))))
theorem Ip{P}(h:Has P CP){x K}(hw:FG P x K):Fn P Vg BQ x K:=
 ZF D3 h hw
def DQ:A0:=
 sr [ia 2 (kI 0)] (sr [im 7 0,oc 8 zS7 [7,.c (.int .u8 94)] AW,im 9 8,⟨⟨some 10,.mv 0,some (9,false)⟩,none,⟨[],[]⟩,false,some 9,true,false⟩,⟨⟨some 11,.call
 zS7 [10,.c (.int .u8 36)],some (9,false)⟩,none,AW,false,none,true,true⟩,op3 12 9 kT 11,ia 3 12] (sr [im 13 0,oc 14 Vg [13] BQ,ia 4
 14] (sq (sq (.draw [ti (im 15 0) (ti (o1 16 (.nilc 15)) (ti (fa 17 4 16) (ti (ld 18 17) (ti (ob 19 .neq 18 (kI 0)) (ti (im 20 19) (ti (gf 21 20 (.mv 0)) (ti (gf 22 20 (.nilc 21)) (ti (gf 23 20 (.fAddr 1 22)) (ti (gf 24 20 (.load false 1
 23)) (ti (gf 25 20 (.mv 0)) (ti (gf 26 20 (.nilc 25)) (ti (gf 27 20 (.fAddr 0 26)) (ti (gf 28 20 (.load false 1 27)) (ti (gf 29 20 (.lenS 28)) (ti (gf 30 20 (.bin .geq 24 29)) (ti (op3 31 20 kT 30) .done))))))))))))))))]) (cn 31 (sr [im 32
 4,ia 2 32] .ret) .skip)) (sr [ia 5 (kI 0),ia 6 (kI (-1))] (sq (sq (.draw [ti (im 33 0) (ti (o1 34 (.nilc 33)) (ti (fa 35 0 34) (ti (ld 36 35) (ti (im 37 0) (ti (o1 38 (.nilc 37)) (ti (fa 39 1 38) (ti (ld 40 39) (ti (o1 41 (.ixS 36 40))
 .done))))))))]) (.frame (rg [2,5,6] 42 14) [0] true (.join [.si 2,.si 5,.si 6,.bx 0 AD (.pair .leaf (.pair .leaf (.pair .leaf (.pair (.node .own (.pair .leaf (.pair .leaf (.pair .leaf (.pair .leaf tM))))) .leaf))))] (bk 0 (sr
 [ob 44 .eql 41 (.c (.int .u8 42)),ia 43 44] (.frame (rg [2,5,6,42] 45 11) [0] true (.join [.si 2,.si 5,.si 6,.bx 0 AD (.pair .leaf (.pair .leaf (.pair .leaf (.pair (.node .own (.pair .leaf (.pair .leaf (.pair .leaf (.pair .leaf
 tM))))) .leaf))))] (cn 43 .skip (sr [ob 46 .eql 41 (.c (.int .u8 43)),ia 45 46] (.frame (rg [2,5,6,42] 47 9) [0] true (.join [.si 2,.si 5,.si 6,.bx 0 AD (.pair .leaf (.pair .leaf (.pair .leaf (.pair (.node .own (.pair .leaf
 (.pair .leaf (.pair .leaf (.pair .leaf tM))))) .leaf))))] (cn 45 (rn [ia 5 (kI 1)]) (sr [ob 48 .eql 41 (.c (.int .u8 63)),ia 47 48] (.frame (rg [2,5,6,42] 49 7) [0] true (.join [.si 2,.si 5,.si 6,.bx 0 AD (.pair .leaf (.pair
 .leaf (.pair .leaf (.pair (.node .own (.pair .leaf (.pair .leaf (.pair .leaf (.pair .leaf tM))))) .leaf))))] (cn 47 (rn [ia 6 (kI 1)]) (sr [ob 50 .eql 41 (.c (.int .u8 123)),ia 49 50] (cn 49 (rn [im 52 0,oc 53
 YR [52] Dp,im 51 53,oe 54 51 0,oe 55 51 1,ia 5 54,ia 6 55]) (sr [im 42 4,ia 2 42] .ret))))))))))))))))))) (sq (sr [im 56 3,im 57 56,gf 58 57 (.mv 0),gf 59 57 (.nilc 58),gf 60 57
 (.fAddr 4 59),gf 61 57 (.load false 1 60),gf 62 57 (.bin .neq 61 (kI 0)),op3 63 57 kT 62] (cn 63 (sr [im 64 0,oc 65 zS5 [64,kI 40] AK,ia 2 65] .ret) .skip)) (sr [im 66 0,o1 67 (.nilc
 66),fa 68 1 67,ld 69 68,ob 70 .add 69 (kI 1),o1 71 (.nilc 66),fa 72 1 71,o0 ⟨none,.store 1 72 70,none⟩] (sr [im 73 0,im 74 5,im 75 6,im 76 4,⟨⟨some 77,.buildSl 1 [.int .i64 0] 1 [(0,76)],none⟩,some
 (bI,.leaf),⟨[],[]⟩,true,none,false,false⟩,o1 78 (.build [.int .i64 0,.int .u64 0,.int .u64 0,.int .u64 0,.int .u64 0,.int .i64 0,.int .i64 0,.slice none 0 0] [(0,1,kI 6),(5,1,74),(6,1,75),(7,1,77)]),oc 79
 zS0 [73,78] Av,ia 2 79] .ret))))))))
def CB:AFn:=⟨WN,DQ.erase,[.tmp 2],1⟩
def Fq(P:Pg)(x:Ae)(K:Int→Ae→Prop):Prop:=
 Fn P zS7 AW (x,(94:Int)) (fun(d1:Bool) (e2:Ae)=>((d1=true→Fn P Vg BQ e2 (fun(d3:Int) (e4:Ae)=>(((cond (e4.2.2.2.2 !=0) true (decide (e4.2.1≥(e4.1.length:Int))))=true→K d3 e4)∧((cond (e4.2.2.2.2 !=0) true (decide (e4.2.1≥(e4.1.length:Int))))=false→(0≤e4.2.1∧e4.2.1<(e4.1.length:Int))∧
 Ak (D:=(Int×(Int×(Int×Ae)))) (fun J5=>Ak (D:=(Int×(Int×(Int×Ae)))) (fun J7=>(((((e4.1.getD e4.2.1.toNat 0).toNat:Int)==42)=true→J7 ((0:Int),((0:Int),((-1:Int),e4))))∧((((e4.1.getD e4.2.1.toNat 0).toNat:Int)==42)=false→Ak (D:=(Int×(Int×(Int×Ae)))) (fun J9=>(((((e4.1.getD e4.2.1.toNat 0).toNat:Int)==43)=true→J9 ((0:Int),((1:Int),((-1:Int),e4))))∧((((e4.1.getD e4.2.1.toNat 0).toNat:Int)==43)=false→Ak (D:=(Int×(Int×(Int×Ae)))) (fun J11=>(((((e4.1.getD e4.2.1.toNat 0).toNat:Int)==63)=true→J11 ((0:Int),((0:Int),((1:Int),e4))))∧((((e4.1.getD e4.2.1.toNat 0).toNat:Int)==63)=false→(((((e4.1.getD e4.2.1.toNat 0).toNat:Int)==123)=true→Fn P YR Dp e4 (fun(d13:(Int×Int)) (e14:Ae)=>J11 ((0:Int),(d13.1,(d13.2,e14)))))∧((((e4.1.getD e4.2.1.toNat 0).toNat:Int)==123)=false→K d3 e4))))) (fun d12=>J9 d12)))) (fun d10=>J7 d10)))) (fun d8=>J5 d8)) (fun d6=>(((cond (cond true true false) true (d6.2.2.2.2.2.2.2 !=0))=true→Fn P zS5 AK (d6.2.2.2,(40:Int)) (fun(d15:Int) (e16:Ae)=>K d15 e16))∧((cond (cond true true false) true (d6.2.2.2.2.2.2.2 !=0))=false→Fn P zS0 Av ((d6.2.2.2.1,((i64.wrap (d6.2.2.2.2.1+1)),d6.2.2.2.2.2)),((6:Int),(((0:Int),((0:Int),((0:Int),(0:Int)))),(d6.2.1,(d6.2.2.1,([d3]:List Int)))))) (fun(d17:Int) (e18:Ae)=>K d17 e18))))))))∧(d1=false→Fn P zS7 AW (e2,(36:Int)) (fun(d19:Bool) (e20:Ae)=>Fn P Vg BQ e20 (fun(d21:Int) (e22:Ae)=>(((cond (e22.2.2.2.2 !=0) true (decide (e22.2.1≥(e22.1.length:Int))))=true→K d21 e22)∧((cond (e22.2.2.2.2 !=0) true (decide (e22.2.1≥(e22.1.length:Int))))=false→(0≤e22.2.1∧e22.2.1<(e22.1.length:Int))∧
 Ak (D:=(Int×(Int×(Int×Ae)))) (fun J23=>Ak (D:=(Int×(Int×(Int×Ae)))) (fun J25=>(((((e22.1.getD e22.2.1.toNat 0).toNat:Int)==42)=true→J25 ((0:Int),((0:Int),((-1:Int),e22))))∧((((e22.1.getD e22.2.1.toNat 0).toNat:Int)==42)=false→Ak (D:=(Int×(Int×(Int×Ae)))) (fun J27=>(((((e22.1.getD e22.2.1.toNat 0).toNat:Int)==43)=true→J27 ((0:Int),((1:Int),((-1:Int),e22))))∧((((e22.1.getD e22.2.1.toNat 0).toNat:Int)==43)=false→Ak (D:=(Int×(Int×(Int×Ae)))) (fun J29=>(((((e22.1.getD e22.2.1.toNat 0).toNat:Int)==63)=true→J29 ((0:Int),((0:Int),((1:Int),e22))))∧((((e22.1.getD e22.2.1.toNat 0).toNat:Int)==63)=false→(((((e22.1.getD e22.2.1.toNat 0).toNat:Int)==123)=true→Fn P YR Dp e22 (fun(d31:(Int×Int)) (e32:Ae)=>J29 ((0:Int),(d31.1,(d31.2,e32)))))∧((((e22.1.getD e22.2.1.toNat 0).toNat:Int)==123)=false→K d21 e22))))) (fun d30=>J27 d30)))) (fun d28=>J25 d28)))) (fun d26=>J23 d26)) (fun d24=>(((cond (cond false true d19) true (d24.2.2.2.2.2.2.2 !=0))=true→Fn P zS5 AK (d24.2.2.2,(40:Int)) (fun(d33:Int) (e34:Ae)=>K d33 e34))∧((cond (cond false true d19) true (d24.2.2.2.2.2.2.2 !=0))=false→Fn P zS0 Av ((d24.2.2.2.1,((i64.wrap (d24.2.2.2.2.1+1)),d24.2.2.2.2.2)),((6:Int),(((0:Int),((0:Int),((0:Int),(0:Int)))),(d24.2.1,(d24.2.2.1,([d21]:List Int)))))) (fun(d35:Int) (e36:Ae)=>K d35 e36)))))))))))
theorem Ia{P}(h:Has P CB){x K}(hw:Fq P x K):Fn P WN B8 x K:=
 ZF DQ h hw
def Cx:A0:=
 sr [ia 2 (kI 0)] (sr [o1 3 (.asg ni)] (sq (.frame (rg [] 3 55) [0] true (.join [.sl 3 false (.sl bI) tO,.bx 0 AD (.pair .leaf (.pair .leaf (.pair .leaf (.pair (.node .own (.pair .leaf (.pair .leaf (.pair .leaf (.pair .leaf
 tM))))) .leaf))))] (bk 0 (.loop [.sl 3 false (.sl bI) tO,.bx 0 AD (.pair .leaf (.pair .leaf (.pair .leaf (.pair (.node .own (.pair .leaf (.pair .leaf (.pair .leaf (.pair .leaf tM))))) .leaf))))] (sq (sq (.draw [ti (im 4 0) (ti
 (o1 5 (.nilc 4)) (ti (fa 6 4 5) (ti (ld 7 6) (ti (ob 8 .eql 7 (kI 0)) (ti (im 9 8) (ti (gt 10 9 (.mv 0)) (ti (gt 11 9 (.nilc 10)) (ti (gt 12 9 (.fAddr 1 11)) (ti (gt 13 9 (.load false 1 12)) (ti (gt 14 9 (.mv 0)) (ti (gt 15 9 (.nilc 14))
 (ti (gt 16 9 (.fAddr 0 15)) (ti (gt 17 9 (.load false 1 16)) (ti (gt 18 9 (.lenS 17)) (ti (gt 19 9 (.bin .lss 13 18)) (ti (op3 20 9 19 kF) (ti (im 21 20) (ti (gt 22 21 (.mv 0)) (ti (gt 23 21 (.nilc 22)) (ti (gt 24 21 (.fAddr 0 23)) (ti (gt
 25 21 (.load false 1 24)) (ti (gt 26 21 (.mv 0)) (ti (gt 27 21 (.nilc 26)) (ti (gt 28 21 (.fAddr 1 27)) (ti (gt 29 21 (.load false 1 28)) (ti (gt 30 21 (.ixS 25 29)) (ti (gt 31 21 (.bin .neq 30 (.c (.int .u8 124)))) (ti (op3 32 21 31 kF)
 (ti (im 33 32) (ti (gt 34 33 (.mv 0)) (ti (gt 35 33 (.nilc 34)) (ti (gt 36 33 (.fAddr 0 35)) (ti (gt 37 33 (.load false 1 36)) (ti (gt 38 33 (.mv 0)) (ti (gt 39 33 (.nilc 38)) (ti (gt 40 33 (.fAddr 1 39)) (ti (gt 41 33 (.load false 1 40))
 (ti (gt 42 33 (.ixS 37 41)) (ti (gt 43 33 (.bin .eql 42 (.c (.int .u8 41)))) (ti (gt 44 33 (.mv 43)) (ti (gt 45 44 (.mv 0)) (ti (gt 46 44 (.nilc 45)) (ti (gt 47 44 (.fAddr 2 46)) (ti (gt 48 44 (.load false 1 47)) (ti (gt 49 44 (.bin .gtr
 48 (kI 0))) (ti (gt 50 33 (.pick 44 49 kF)) (ti (gt 51 33 (.un .not 50)) (ti (op3 52 33 51 kF) .done))))))))))))))))))))))))))))))))))))))))))))))))]) (cx 52 0)) (.frame (rg [3] 53 5) [0] true (.join [.sl 3 false (.sl bI) tO,.bx 0
 AD (.pair .leaf (.pair .leaf (.pair .leaf (.pair (.node .own (.pair .leaf (.pair .leaf (.pair .leaf (.pair .leaf tM))))) .leaf))))] (bk 1 (rn [im 53 3,im 54 0,oc 55 WN [54]
 B8,oT ⟨some 56,.buildSl 1 [.int .i64 0] 1 [(0,55)],none⟩ (some (bI,.leaf)),oT ⟨some 57,.app 1 8 53 56,none⟩ (some (bI,.leaf)),ia 3 57]))))))))) (sq (.frame (rg [2] 58 20) [0] true (.join [.si 2,.bx 0 AD (.pair
 .leaf (.pair .leaf (.pair .leaf (.pair (.node .own (.pair .leaf (.pair .leaf (.pair .leaf (.pair .leaf tM))))) .leaf))))] (bk 2 (sr [im 59 0,o1 60 (.nilc 59),fa 61 4 60,ld 62 61,ob 63 .neq 62 (kI 0),ia 58 63] (cn 58 (sr [ia 2 (kI 0)] .ret)
 (sr [im 65 3,ol 66 65,ob 67 .eql 66 (kI 0),ia 64 67] (cn 64 (sr [im 68 0,o1 69 (.build [.int .i64 0,.int .u64 0,.int .u64 0,.int .u64 0,.int .u64 0,.int .i64 0,.int .i64 0,.slice none 0 0] [(0,1,kI 0)]),oc 70
 zS0 [68,69] Av,ia 2 70] .ret) (sr [im 72 3,ol 73 72,ob 74 .eql 73 (kI 1),ia 71 74] (cn 71 (sr [im 75 3,ox 76 1 75 (kI 0),ld 77 76,ia 2 77] .ret) .skip))))))))) (sq (.frz [3] (rn [im 78
 0,im 79 3,o1 80 (.build [.int .i64 0,.int .u64 0,.int .u64 0,.int .u64 0,.int .u64 0,.int .i64 0,.int .i64 0,.slice none 0 0] [(0,1,kI 4),(7,1,79)]),oc 81 zS0 [78,80] Av,ia 2 81]))
 .ret))))
def BM:AFn:=⟨Sd,Cx.erase,[.tmp 2],1⟩
def DG(P:Pg)(x:Ae)(K:Int→Ae→Prop):Prop:=
 Ak (D:=((List Int)×Ae)) (fun J1=>Bf (D:=((List Int)×Ae)) ([],x) (fun d3 J4=>(((cond (d3.2.2.2.2.2==0) (decide (d3.2.2.1<(d3.2.1.length:Int))) false)=true→0≤d3.2.2.1∧d3.2.2.1<(d3.2.1.length:Int)))∧
 (((cond (cond (d3.2.2.2.2.2==0) (decide (d3.2.2.1<(d3.2.1.length:Int))) false) (((d3.2.1.getD d3.2.2.1.toNat 0).toNat:Int) !=124) false)=true→0≤d3.2.2.1∧d3.2.2.1<(d3.2.1.length:Int)))∧
 (((cond (cond (cond (d3.2.2.2.2.2==0) (decide (d3.2.2.1<(d3.2.1.length:Int))) false) (((d3.2.1.getD d3.2.2.1.toNat 0).toNat:Int) !=124) false) (!(cond (((d3.2.1.getD d3.2.2.1.toNat 0).toNat:Int)==41) (decide (d3.2.2.2.1>0)) false)) false)=true→Ak (D:=((List Int)×Ae)) (fun J5=>Fn P WN B8 d3.2 (fun(d7:Int) (e8:Ae)=>((d3.1.length+List.length ([d7]:List Int))*8≤140737488355328)∧
 J5 ((d3.1++([d7]:List Int)),e8))) (fun d6=>J4 d6))∧((cond (cond (cond (d3.2.2.2.2.2==0) (decide (d3.2.2.1<(d3.2.1.length:Int))) false) (((d3.2.1.getD d3.2.2.1.toNat 0).toNat:Int) !=124) false) (!(cond (((d3.2.1.getD d3.2.2.1.toNat 0).toNat:Int)==41) (decide (d3.2.2.2.1>0)) false)) false)=false→J1 d3)))) (fun d2=>Ak (D:=(Int×Ae)) (fun J9=>(((d2.2.2.2.2.2 !=0)=true→K (0:Int) d2.2)∧((d2.2.2.2.2.2 !=0)=false→((((d2.1.length:Int)==0)=true→Fn P zS0 Av (d2.2,((0:Int),(((0:Int),((0:Int),((0:Int),(0:Int)))),((0:Int),((0:Int),[]))))) (fun(d11:Int) (e12:Ae)=>K d11 e12))∧(((d2.1.length:Int)==0)=false→((((d2.1.length:Int)==1)=true→(0≤(0:Int)∧(0:Int)<(d2.1.length:Int))∧
 ((Int.toNat (0:Int))<d2.1.length)∧
 K (List.getD d2.1 (Int.toNat (0:Int)) (0:Int)) d2.2)∧(((d2.1.length:Int)==1)=false→J9 ((0:Int),d2.2)))))))) (fun d10=>Fn P zS0 Av (d10.2,((4:Int),(((0:Int),((0:Int),((0:Int),(0:Int)))),((0:Int),((0:Int),d2.1))))) (fun(d13:Int) (e14:Ae)=>K d13 e14)))
theorem FQ{P}(h:Has P BM){x K}(hw:DG P x K):Fn P Sd AS x K:=
 ZF Cx h hw
def De:A0:=
 sr [ia 2 (kI 0)] (sr [im 4 0,oc 5 Sd [4] AS,oT ⟨some 6,.buildSl 1 [.int .i64 0] 1 [(0,5)],none⟩ (some (bI,.leaf)),ia 3 6] (sq (.frame (rg [3] 7 21) [0] true (.join [.sl 3
 false (.sl bI) tO,.bx 0 AD (.pair .leaf (.pair .leaf (.pair .leaf (.pair (.node .own (.pair .leaf (.pair .leaf (.pair .leaf (.pair .leaf tM))))) .leaf))))] (bk 0 (.loop [.sl 3 false (.sl bI) tO,.bx 0 AD (.pair .leaf
 (.pair .leaf (.pair .leaf (.pair (.node .own (.pair .leaf (.pair .leaf (.pair .leaf (.pair .leaf tM))))) .leaf))))] (sq (sr [im 7 0,o1 8 (.nilc 7),fa 9 4 8,ld 10 9,ob 11 .eql 10 (kI 0),im 12 11,⟨⟨some 13,.mv 0,some
 (12,true)⟩,none,⟨[],[]⟩,false,some 12,true,false⟩,⟨⟨some 14,.call zS7 [13,.c (.int .u8 124)],some (12,true)⟩,none,AW,false,none,true,true⟩,op3 15 12 14 kF] (cx 15 0)) (.frame (rg [3] 16
 12) [0] true (.join [.sl 3 false (.sl bI) tO,.bx 0 AD (.pair .leaf (.pair .leaf (.pair .leaf (.pair (.node .own (.pair .leaf (.pair .leaf (.pair .leaf (.pair .leaf tM))))) .leaf))))] (bk 1 (sr [im 16 0,o1 17 (.nilc 16),fa 18 1
 17,ld 19 18,ob 20 .add 19 (kI 1),o1 21 (.nilc 16),fa 22 1 21,o0 ⟨none,.store 1 22 20,none⟩] (rn [im 23 3,im 24 0,oc 25 Sd [24] AS,oT ⟨some 26,.buildSl 1 [.int .i64 0] 1
 [(0,25)],none⟩ (some (bI,.leaf)),oT ⟨some 27,.app 1 8 23 26,none⟩ (some (bI,.leaf)),ia 3 27])))))))))) (sq (sr [im 28 0,o1 29 (.nilc 28),fa 30 4 29,ld 31 30,ob 32 .neq 31 (kI 0),im 33 32,gf 34 33 (.mv 3),gf 35 33 (.lenK 34),gf 36 33 (.bin
 .eql 35 (kI 1)),op3 37 33 kT 36] (cn 37 (sr [im 38 3,ox 39 1 38 (kI 0),ld 40 39,ia 2 40] .ret) .skip)) (sq (.frz [3] (rn [im 41 0,im 42 3,o1 43 (.build [.int .i64 0,.int .u64 0,.int .u64 0,.int .u64 0,.int .u64 0,.int .i64 0,.int .i64
 0,.slice none 0 0] [(0,1,kI 5),(7,1,42)]),oc 44 zS0 [41,43] Av,ia 2 44])) .ret))))
def Cj:AFn:=⟨Tv,De.erase,[.tmp 2],1⟩
def Ez(P:Pg)(x:Ae)(K:Int→Ae→Prop):Prop:=
 Fn P Sd AS x (fun(d1:Int) (e2:Ae)=>Ak (D:=((List Int)×Ae)) (fun J3=>Bf (D:=((List Int)×Ae)) (([d1]:List Int),e2) (fun d5 J6=>(((d5.2.2.2.2.2==0)=true→Fn P zS7 AW (d5.2,(124:Int)) (fun(d7:Bool) (e8:Ae)=>(((cond true d7 false)=true→Ak (D:=((List Int)×Ae)) (fun J9=>Fn P Sd AS (e8.1,((i64.wrap (e8.2.1+1)),e8.2.2)) (fun(d11:Int) (e12:Ae)=>((d5.1.length+List.length ([d11]:List Int))*8≤140737488355328)∧
 J9 ((d5.1++([d11]:List Int)),e12))) (fun d10=>J6 d10))∧((cond true d7 false)=false→J3 (d5.1,e8)))))∧((d5.2.2.2.2.2==0)=false→(((cond false false false)=true→Ak (D:=((List Int)×Ae)) (fun J13=>Fn P Sd AS (d5.2.1,((i64.wrap (d5.2.2.1+1)),d5.2.2.2)) (fun(d15:Int) (e16:Ae)=>((d5.1.length+List.length ([d15]:List Int))*8≤140737488355328)∧
 J13 ((d5.1++([d15]:List Int)),e16))) (fun d14=>J6 d14))∧((cond false false false)=false→J3 d5)))))) (fun d4=>(((cond (d4.2.2.2.2.2 !=0) true ((d4.1.length:Int)==1))=true→(0≤(0:Int)∧(0:Int)<(d4.1.length:Int))∧
 ((Int.toNat (0:Int))<d4.1.length)∧
 K (List.getD d4.1 (Int.toNat (0:Int)) (0:Int)) d4.2)∧((cond (d4.2.2.2.2.2 !=0) true ((d4.1.length:Int)==1))=false→Fn P zS0 Av (d4.2,((5:Int),(((0:Int),((0:Int),((0:Int),(0:Int)))),((0:Int),((0:Int),d4.1))))) (fun(d17:Int) (e18:Ae)=>K d17 e18)))))
theorem Hn{P}(h:Has P Cj){x K}(hw:Ez P x K):Fn P Tv Be x K:=
 ZF De h hw
def Hg:A0:=
 sr [o1 2 (.asg ni),ia 3 (kI 0)] (sq (sr [im 5 0,o1 6 (.lenS 5),ob 7 .gtr 6 (kI 256)] (cn 7 (sr [o1 2 (.asg ni),ia 3 (kI 1)] .ret) .skip)) (sr [im 8 0,o1 9 (.build [.string ⟨#[]⟩,.int .i64 0,.int .i64 0,.slice none 0 0,.int .i64 0]
 [(0,1,8)]),o1 10 (.box 9),ia 4 10] (sr [im 11 4,oc 12 Tv [11] Be] (sq (sr [im 13 4,o1 14 (.nilc 13),fa 15 4 14,ld 16 15,ob 17 .eql 16 (kI 0),im 18 17,gt 19 18 (.mv 4),gt 20 18
 (.nilc 19),gt 21 18 (.fAddr 1 20),gt 22 18 (.load false 1 21),gt 23 18 (.mv 0),gt 24 18 (.lenS 23),gt 25 18 (.bin .lss 22 24),op3 26 18 25 kF] (.frame [27,28] [1010] true (.join [.bx 1010 AD (.pair .leaf (.pair .leaf (.pair
 .leaf (.pair (.node .own (.pair .leaf (.pair .leaf (.pair .leaf (.pair .leaf tM))))) .leaf))))] (cn 26 (rn [im 27 4,oc 28 zS5 [27,kI 40] AK]) .skip)))) (sq (sr [im 29 4,o1 30 (.nilc
 29),fa 31 4 30,ld 32 31,ob 33 .neq 32 (kI 0)] (cn 33 (sq (fk [2,3] 34 4 (.join [.sl 2 false (.sl Gc) (.node .own (.pair .leaf (.pair .leaf (.pair .leaf (.pair .leaf tM))))),.si 3] (.draw [ti (im 34 4) (ti (o1 35 (.nilc 34)) (ti (fa 36 4
 35) (.alt (ld 37 36) (.alt (o1 2 (.asg ni)) (.alt (ia 3 37) .done .stop) .stop) (.alt (o1 2 (.asg ni)) (ti (ld 37 36) (.alt (ia 3 37) .done .stop)) .stop))))]))) .ret) .skip)) (sr [im 38 4,o1 39 (.nilc 38),fa 40 3 39,ld 41 40,ia 2 41,ia 3
 (kI 0)] .ret))))))
def Fb:AFn:=⟨WO,Hg.erase,[.tmp 2,.tmp 3],1⟩
def Ju(P:Pg)(x:Bt8)(K:((List Node)×Int)→Unit→Prop):Prop:=
 (((decide ((x.length:Int)>256))=true→K ([],(1:Int)) ())∧((decide ((x.length:Int)>256))=false→Fn P Tv Be (x,((0:Int),((0:Int),([],(0:Int))))) (fun(d1:Int) (e2:Ae)=>Ak (D:=Ae) (fun J3=>(((cond (e2.2.2.2.2==0) (decide (e2.2.1<(x.length:Int))) false)=true→Fn P zS5 AK (e2,(40:Int)) (fun(d5:Int) (e6:Ae)=>J3 e6))∧((cond (e2.2.2.2.2==0) (decide (e2.2.1<(x.length:Int))) false)=false→J3 e2))) (fun d4=>(((d4.2.2.2.2 !=0)=true→Ak (D:=((List Node)×Int)) (fun J7=>(((J7 ([],d4.2.2.2.2))∧True)∧True)∧(((J7 ([],d4.2.2.2.2))∧True)∧True)) (fun d8=>K d8 ()))∧((d4.2.2.2.2 !=0)=false→K (d4.2.2.2.1,(0:Int)) ()))))))
theorem Nu{P}(h:Has P Fb){x K}(hw:Ju P x K):Fn P WO D6 x K:=
 ZF Hg h hw
def GC:A0:=
 sr [o1 2 (.box 0),ia 4 (kI 0)] (sr [ia 5 (kI 0)] (sq (sr [fa 8 7 2,ld 9 8,ol 10 9,o1 11 (.mv (kI 0))] (fj [5,7] 11 12 [5] (bl 0 [5,11] (sr [ob 12 .lss 11 10] (sq (cx 12 0) (sq (fj [5,7] 13 9 [5] (bk 1 (sr [ox 13 1 9 11,ld 14 13,ia 7 14] (rn
 [im 15 5,im 16 1,im 17 7,ox 18 1 16 17,ld 19 18,ob 20 .add 15 19,o1 21 (.mm false 20 (kI 4001)),ia 5 21])))) (rn [ob 22 .add 11 (kI 1),im 11 22]))))))) (sq (sr [fa 23 0 2,ld 24 23] (fj [4] 25 39 [4] (bk 2 (sr [ob 26 .eql 24 (kI 4),ia 25
 26] (cn 25 (sr [im 27 5,ia 4 27] .ret) (sr [ob 29 .eql 24 (kI 5),ia 28 29] (cn 28 (sr [im 30 5,fa 31 7 2,ld 32 31,ol 33 32,ob 34 .add 30 33,ob 35 .sub 34 (kI 1),o1 36 (.mm false 35 (kI 4001)),ia 4 36] .ret) (sr [ob 38 .eql 24 (kI 6),ia 37
 38] (cn 37 (sq (sr [fa 39 6 2,ld 40 39,ob 41 .lss 40 (kI 0)] (cn 41 (sr [fa 42 5 2,ld 43 42,im 44 5,ob 45 .mul 43 44,im 46 5,ob 47 .add 45 46,ob 48 .add 47 (kI 1),o1 49 (.mm false 48 (kI 4001)),ia 4 49] .ret) .skip)) (sr [fa 50 5 2,ld 51
 50,im 52 5,ob 53 .mul 51 52,fa 54 6 2,ld 55 54,fa 56 5 2,ld 57 56,ob 58 .sub 55 57,im 59 5,ob 60 .add 59 (kI 1),ob 61 .mul 58 60,ob 62 .add 53 61,o1 63 (.mm false 62 (kI 4001)),ia 4 63] .ret)) .skip))))))))) (sr [ia 4 (kI 1)] .ret))))
def Ew:AFn:=⟨WQ,GC.erase,[.tmp 4],2⟩
def Ie(P:Pg)(x:(Node×(List Int)))(K:Int→Unit→Prop):Prop:=
 Ak (D:=Int) (fun J1=>Bf (D:=(Int×Int)) ((0:Int),(0:Int)) (fun d3 J4=>(((decide (d3.2<(x.1.2.2.2.2.length:Int)))=true→Ak (D:=Int) (fun J5=>(0≤d3.2∧d3.2<(x.1.2.2.2.2.length:Int))∧
 (d3.2.toNat<x.1.2.2.2.2.length)∧
 (0≤(List.getD x.1.2.2.2.2 d3.2.toNat (0:Int))∧(List.getD x.1.2.2.2.2 d3.2.toNat (0:Int))<(x.2.length:Int))∧
 ((Int.toNat (List.getD x.1.2.2.2.2 d3.2.toNat (0:Int)))<x.2.length)∧
 J5 (if(4001:Int)<(i64.wrap (d3.1+(List.getD x.2 (Int.toNat (List.getD x.1.2.2.2.2 d3.2.toNat (0:Int))) (0:Int))))then(4001:Int)else(i64.wrap (d3.1+(List.getD x.2 (Int.toNat (List.getD x.1.2.2.2.2 d3.2.toNat (0:Int))) (0:Int)))))) (fun d6=>J4 (d6,(i64.wrap (d3.2+1)))))∧((decide (d3.2<(x.1.2.2.2.2.length:Int)))=false→J1 d3.1)))) (fun d2=>Ak (D:=Int) (fun J7=>(((x.1.1==4)=true→K d2 ())∧((x.1.1==4)=false→(((x.1.1==5)=true→K (if(4001:Int)<(i64.wrap ((i64.wrap (d2+(x.1.2.2.2.2.length:Int))) -1))then(4001:Int)else(i64.wrap ((i64.wrap (d2+(x.1.2.2.2.2.length:Int))) -1))) ())∧((x.1.1==5)=false→(((x.1.1==6)=true→(((decide (x.1.2.2.2.1<0))=true→K (if(4001:Int)<(i64.wrap ((i64.wrap ((i64.wrap (x.1.2.2.1*d2))+d2))+1))then(4001:Int)else(i64.wrap ((i64.wrap ((i64.wrap (x.1.2.2.1*d2))+d2))+1))) ())∧((decide (x.1.2.2.2.1<0))=false→K (if(4001:Int)<(i64.wrap ((i64.wrap (x.1.2.2.1*d2))+(i64.wrap ((i64.wrap (x.1.2.2.2.1 -x.1.2.2.1))*(i64.wrap (d2+1))))))then(4001:Int)else(i64.wrap ((i64.wrap (x.1.2.2.1*d2))+(i64.wrap ((i64.wrap (x.1.2.2.2.1 -x.1.2.2.1))*(i64.wrap (d2+1))))))) ())))∧((x.1.1==6)=false→J7 (0:Int)))))))) (fun d8=>K (1:Int) ()))
theorem MO{P}(h:Has P Ew){x K}(hw:Ie P x K):Fn P WQ DD x K:=
 ZF GC h hw
def FB:A0:=
 sr [o1 2 (.asg ni)] (sr [im 6 0,ol 7 6,oT ⟨some 8,.mkSl 1 8 [.int .i64 0] 7 7,none⟩ (some (bI,.leaf)),ia 3 8] (sq (sr [im 9 0,ol 10 9,o1 11 (.mv (kI 0))] (.frame (rg [3,4,5] 11 12) [1005] false (.join [.sl 3 false (.sl bI) tO] (bk 0 (.loop
 [.sl 3 false (.sl bI) tO,.si 11] (sr [ob 12 .lss 11 10] (sq (cx 12 0) (sq (.frame (rg [3,4,5] 13 9) [1005] false (.join [.sl 3 false (.sl bI) tO] (bk 1 (sr [im 13 11,ox 14 8 9 11,o1 15 (.load true 8 14),o1 5 (.alloc [.int .i64 0,.int .u64
 0,.int .u64 0,.int .u64 0,.int .u64 0,.int .i64 0,.int .i64 0,.slice none 0 0]),ia 4 13,o0 ⟨none,.store 8 5 15,none⟩] (rn [im 16 3,im 17 4,o1 18 (.load true 8 5),im 19 3,oc 20 WQ [18,19] DD,ox 21 1 16
 17,o0 ⟨none,.store 1 21 20,none⟩]))))) (rn [ob 22 .add 11 (kI 1),im 11 22]))))))))) (sr [im 23 3,ia 2 23] .ret)))
def Ef:AFn:=⟨Tw,FB.erase,[.tmp 2],1⟩
def H3(P:Pg)(x:(List Node))(K:(List Int)→Unit→Prop):Prop:=
 (0≤(x.length:Int)∧(x.length:Int)≤(x.length:Int)∧((8:Nat):Int)*(x.length:Int)≤281474976710656)∧
 Ak (D:=(List Int)) (fun J1=>Bf (D:=((List Int)×Int)) ((List.replicate (Int.toNat (x.length:Int)) (0:Int)),(0:Int)) (fun d3 J4=>(((decide (d3.2<(x.length:Int)))=true→Ak (D:=(List Int)) (fun J5=>(0≤d3.2∧d3.2<(x.length:Int))∧
 (d3.2.toNat<x.length)∧
 Fn P WQ DD ((List.getD x d3.2.toNat BC),d3.1) (fun(d7:Int) (e8:Unit)=>(0≤d3.2∧d3.2<(d3.1.length:Int))∧
 (d3.2.toNat<d3.1.length)∧
 J5 (List.set d3.1 d3.2.toNat d7))) (fun d6=>J4 (d6,(i64.wrap (d3.2+1)))))∧((decide (d3.2<(x.length:Int)))=false→J1 d3.1)))) (fun d2=>K d2 ())
theorem L4{P}(h:Has P Ef){x K}(hw:H3 P x K):Fn P Tw Cf x K:=
 ZF FB h hw
def FC:A0:=
 sr [o1 1 (.box 0),o1 2 (.asg kF)] (sr [fa 3 5 1,ld 4 3,ob 5 .geq 4 (kI 0),im 6 5,gt 7 6 (.fAddr 5 1),gt 8 6 (.load false 1 7),gt 9 6 (.bin .leq 8 (kI 100)),op3 10 6 9 kF,im 11 10,gt 12 11 (.fAddr 6 1),gt 13 11 (.load false 1 12),gt 14 11
 (.bin .eql 13 (kI (-1))),gt 15 11 (.mv 14),gf 16 15 (.fAddr 6 1),gf 17 15 (.load false 1 16),gf 18 15 (.fAddr 5 1),gf 19 15 (.load false 1 18),gf 20 15 (.bin .geq 17 19),gf 21 15 (.mv 20),gt 22 21 (.fAddr 6 1),gt 23 21 (.load false 1
 22),gt 24 21 (.bin .leq 23 (kI 100)),gf 25 15 (.pick 21 24 kF),gt 26 11 (.pick 15 kT 25),op3 27 11 26 kF,ia 2 27] .ret)
def Eg:AFn:=⟨WR,FC.erase,[.tmp 2],1⟩
def H4(P:Pg)(x:Node)(K:Bool→Unit→Prop):Prop:=
 K (cond (cond (decide (x.2.2.1≥0)) (decide (x.2.2.1≤100)) false) (cond (x.2.2.2.1==(-1:Int)) true (cond (decide (x.2.2.2.1≥x.2.2.1)) (decide (x.2.2.2.1≤100)) false)) false) ()
theorem L5{P}(h:Has P Eg){x K}(hw:H4 P x K):Fn P WR Df x K:=
 ZF FC h hw
def HU:A0:=
 sr [o1 2 (.box 0),o1 4 (.asg kF)] (sq (sr [fa 7 7 2,ld 8 7,ol 9 8,o1 10 (.mv (kI 0))] (fk [4,6] 10 12 (.join [.sl 4 false .bool .leaf] (bk 0 (.loop [.sl 4 false .bool .leaf,.si 10] (sr [ob 11 .lss 10 9] (sq (cx 11 0) (sq (fk [4,6] 12 9
 (.join [.sl 4 false .bool .leaf] (bk 1 (sr [ox 12 1 8 10,ld 13 12,ia 6 13] (sr [im 14 6,ob 15 .lss 14 (kI 0),im 16 15,gf 17 16 (.mv 6),gf 18 16 (.mv 1),gf 19 16 (.bin .geq 17 18),op3 20 16 kT 19] (cn 20 (sr [o1 4 (.asg kF)] .ret)
 .skip)))))) (rn [ob 21 .add 10 (kI 1),im 10 21]))))))))) (sq (sr [fa 22 0 2,ld 23 22] (fk [4] 24 26 (.join [.sl 4 false .bool .leaf] (bk 2 (sq (sr [ob 25 .eql 23 (kI 0),ia 24 25] (.frame [24,26,27,28] [] false (.join [.sl 24 false .bool
 .leaf] (cn 24 .skip (sr [ob 26 .eql 23 (kI 1),ia 24 26] (.frame [24,27,28] [] false (.join [.sl 24 false .bool .leaf] (cn 24 .skip (sr [ob 27 .eql 23 (kI 2),ia 24 27] (.frame [24,28] [] false (.join [.sl 24 false .bool .leaf] (cn 24 .skip
 (rn [ob 28 .eql 23 (kI 3),ia 24 28]))))))))))))) (cn 24 (sr [fa 29 7 2,ld 30 29,ol 31 30,ob 32 .eql 31 (kI 0),ia 4 32] .ret) (sq (sr [ob 34 .eql 23 (kI 4),ia 33 34] (.frame [33,35] [] false (.join [.sl 33 false .bool .leaf] (cn 33 .skip
 (rn [ob 35 .eql 23 (kI 5),ia 33 35]))))) (cn 33 (sr [fa 36 7 2,ld 37 36,ol 38 37,ob 39 .geq 38 (kI 2),ia 4 39] .ret) (sr [ob 41 .eql 23 (kI 6),ia 40 41] (cn 40 (sr [fa 42 7 2,ld 43 42,ol 44 43,ob 45 .eql 44 (kI 1),im 46 45,gt 47 46 (.load
 true 8 2),oS ⟨some 48,.call WR [47],some (46,true)⟩ Df,op3 49 46 48 kF,ia 4 49] .ret) .skip)))))))))) (sr [o1 4 (.asg kF)] .ret)))
def FK:AFn:=⟨WT,HU.erase,[.tmp 4],2⟩
def Kv(P:Pg)(x:(Node×Int))(K:Bool→Unit→Prop):Prop:=
 Ak (D:=Bool) (fun J1=>Bf (D:=(Bool×Int)) (false,(0:Int)) (fun d3 J4=>(((decide (d3.2<(x.1.2.2.2.2.length:Int)))=true→Ak (D:=Bool) (fun J5=>(0≤d3.2∧d3.2<(x.1.2.2.2.2.length:Int))∧
 (d3.2.toNat<x.1.2.2.2.2.length)∧
 (((cond (decide ((List.getD x.1.2.2.2.2 d3.2.toNat (0:Int))<0)) true (decide ((List.getD x.1.2.2.2.2 d3.2.toNat (0:Int))≥x.2)))=true→K false ())∧((cond (decide ((List.getD x.1.2.2.2.2 d3.2.toNat (0:Int))<0)) true (decide ((List.getD x.1.2.2.2.2 d3.2.toNat (0:Int))≥x.2)))=false→J5 d3.1))) (fun d6=>J4 (d6,(i64.wrap (d3.2+1)))))∧((decide (d3.2<(x.1.2.2.2.2.length:Int)))=false→J1 d3.1)))) (fun d2=>Ak (D:=Bool) (fun J7=>Ak (D:=Bool) (fun J9=>(((x.1.1==0)=true→J9 (x.1.1==0))∧((x.1.1==0)=false→Ak (D:=Bool) (fun J11=>(((x.1.1==1)=true→J11 (x.1.1==1))∧((x.1.1==1)=false→Ak (D:=Bool) (fun J13=>(((x.1.1==2)=true→J13 (x.1.1==2))∧((x.1.1==2)=false→J13 (x.1.1==3)))) (fun d14=>J11 d14)))) (fun d12=>J9 d12)))) (fun d10=>((d10=true→K ((x.1.2.2.2.2.length:Int)==0) ())∧(d10=false→Ak (D:=Bool) (fun J15=>(((x.1.1==4)=true→J15 (x.1.1==4))∧((x.1.1==4)=false→J15 (x.1.1==5)))) (fun d16=>((d16=true→K (decide ((x.1.2.2.2.2.length:Int)≥2)) ())∧(d16=false→(((x.1.1==6)=true→Ak (D:=Bool) (fun J17=>((((x.1.2.2.2.2.length:Int)==1)=true→Fn P WR Df x.1 (fun(d18:Bool) _=>J17 d18))∧((((x.1.2.2.2.2.length:Int)==1)=false→J17 false)∧True))) (fun d19=>K (cond ((x.1.2.2.2.2.length:Int)==1) d19 false) ()))∧((x.1.1==6)=false→J7 d2))))))))) (fun d8=>K false ()))
theorem OH{P}(h:Has P FK){x K}(hw:Kv P x K):Fn P WT Ey x K:=
 ZF HU h hw
def Hj:A0:=
 sr [ia 2 (kI 0)] (sq (sr [im 5 0,ol 6 5,ob 7 .eql 6 (kI 0),im 8 7,gf 9 8 (.mv 0),gf 10 8 (.lenK 9),gf 11 8 (.bin .gtr 10 (kI 4000)),op3 12 8 kT 11] (cn 12 (sr [ia 2 (kI 2)] .ret) .skip)) (sq (sr [im 13 0,ol 14 13,o1 15 (.mv (kI 0))] (.frame
 (rg [2,3,4] 15 10) [1004] false (.join [.si 2] (bl 0 [2,15] (sr [ob 16 .lss 15 14] (sq (cx 16 0) (sq (.frame (rg [2,3,4] 17 7) [1004] false (.join [.si 2] (bk 1 (sr [im 17 15,ox 18 8 13 15,o1 19 (.load true 8 18),o1 4 (.alloc [.int .i64
 0,.int .u64 0,.int .u64 0,.int .u64 0,.int .u64 0,.int .i64 0,.int .i64 0,.slice none 0 0]),ia 3 17,o0 ⟨none,.store 8 4 19,none⟩] (sr [o1 20 (.load true 8 4),im 21 3,oc 22 WT [20,21] Ey,o1 23 (.un .not 22)]
 (cn 23 (sr [ia 2 (kI 2)] .ret) .skip)))))) (rn [ob 24 .add 15 (kI 1),im 15 24])))))))) (sr [ia 2 (kI 0)] .ret)))
def Ff:AFn:=⟨WU,Hj.erase,[.tmp 2],1⟩
def Jy(P:Pg)(x:(List Node))(K:Int→Unit→Prop):Prop:=
 (((cond ((x.length:Int)==0) true (decide ((x.length:Int)>4000)))=true→K (2:Int) ())∧((cond ((x.length:Int)==0) true (decide ((x.length:Int)>4000)))=false→Ak (D:=Int) (fun J1=>Bf (D:=(Int×Int)) ((0:Int),(0:Int)) (fun d3 J4=>(((decide (d3.2<(x.length:Int)))=true→Ak (D:=Int) (fun J5=>(0≤d3.2∧d3.2<(x.length:Int))∧
 (d3.2.toNat<x.length)∧
 Fn P WT Ey ((List.getD x d3.2.toNat BC),d3.2) (fun(d7:Bool) (e8:Unit)=>(((!d7)=true→K (2:Int) ())∧((!d7)=false→J5 d3.1)))) (fun d6=>J4 (d6,(i64.wrap (d3.2+1)))))∧((decide (d3.2<(x.length:Int)))=false→J1 d3.1)))) (fun d2=>K (0:Int) ())))
theorem Nx{P}(h:Has P Ff){x K}(hw:Jy P x K):Fn P WU D9 x K:=
 ZF Hj h hw
def GB:A0:=
 sr [ia 2 (kI 0),ia 3 (kI 0)] (sq (sr [im 5 0,oc 6 WU [5] D9,ia 4 6] (sr [im 7 4,ob 8 .neq 7 (kI 0)] (cn 8 (sr [im 9 4,ia 2 (kI 0),ia 3 9] .ret) .skip))) (sr [im 10 0,oc 11 Tw [10]
 Cf,im 12 0,ol 13 12,ob 14 .sub 13 (kI 1),ox 15 1 11 14,ld 16 15,ia 2 16,ia 3 (kI 0)] .ret))
def Ev:AFn:=⟨WV,GB.erase,[.tmp 2,.tmp 3],1⟩
def Ic(P:Pg)(x:(List Node))(K:(Int×Int)→Unit→Prop):Prop:=
 Fn P WU D9 x (fun(d1:Int) (e2:Unit)=>(((d1 !=0)=true→K ((0:Int),d1) ())∧((d1 !=0)=false→Fn P Tw Cf x (fun(d3:(List Int)) (e4:Unit)=>(0≤(i64.wrap ((x.length:Int) -1))∧(i64.wrap ((x.length:Int) -1))<(d3.length:Int))∧
 ((Int.toNat (i64.wrap ((x.length:Int) -1)))<d3.length)∧
 K ((List.getD d3 (Int.toNat (i64.wrap ((x.length:Int) -1))) (0:Int)),(0:Int)) ()))))
theorem MN{P}(h:Has P Ev){x K}(hw:Ic P x K):Fn P WV DC x K:=
 ZF GB h hw
def CV:A0:=
 sr [o1 3 (.box 1),ia 4 (kI 0)] (sq (.frame (rg [] 5 10) [0] true (.join [.bx 0 Ay (.pair (.node .imm (.pair .leaf (.pair .leaf (.pair .leaf (.pair .leaf tM))))) (.pair tO tO))] (.draw [ti (im 5 0) (ti (im 6 0) (ti (o1 7
 (.nilc 6)) (ti (fa 8 2 7) (ti (o1 10 (.load true 7 3)) (.alt (ld 9 8) (.alt (oT ⟨some 11,.buildSl 7 [.int .i64 0,.int .u64 0,.int .u64 0,.int .u64 0,.int .u64 0,.int .i64 0,.int .i64 0] 1 [(0,10)],none⟩ (some (Ck,.leaf))) (.alt (oT
 ⟨some 12,.app 7 56 9 11,none⟩ (some (Ck,.leaf))) (ti (o1 13 (.nilc 5)) (ti (fa 14 2 13) (.alt (o0 ⟨none,.store 1 14 12,none⟩) .done .stop))) .stop) .stop) (.alt (oT ⟨some 11,.buildSl 7 [.int .i64 0,.int .u64 0,.int .u64 0,.int .u64
 0,.int .u64 0,.int .i64 0,.int .i64 0] 1 [(0,10)],none⟩ (some (Ck,.leaf))) (ti (ld 9 8) (.alt (oT ⟨some 12,.app 7 56 9 11,none⟩ (some (Ck,.leaf))) (ti (o1 13 (.nilc 5)) (ti (fa 14 2 13) (.alt (o0 ⟨none,.store 1 14 12,none⟩) .done
 .stop))) .stop)) .stop))))))]))) (sr [im 15 0,o1 16 (.nilc 15),fa 17 2 16,ld 18 17,ol 19 18,ob 20 .sub 19 (kI 1),ia 4 20] .ret))
def Cd:AFn:=⟨zS2,CV.erase,[.tmp 4],2⟩
def Er(P:Pg)(x:(Ac×State))(K:Int→Ac→Prop):Prop:=
 Ak (D:=Ac) (fun J1=>(((((x.1.2.2.length+List.length ([x.2]:List State))*56≤140737488355328)∧
 (J1 (x.1.1,(x.1.2.1,(x.1.2.2++([x.2]:List State)))))∧True)∧True)∧True)∧(((((x.1.2.2.length+List.length ([x.2]:List State))*56≤140737488355328)∧
 (J1 (x.1.1,(x.1.2.1,(x.1.2.2++([x.2]:List State)))))∧True)∧True)∧True)) (fun d2=>K (i64.wrap ((d2.2.2.length:Int) -1)) d2)
theorem G8{P}(h:Has P Cd){x K}(hw:Er P x K):Fn P zS2 Au x K:=
 ZF CV h hw
def Cu:A0:=
 sr [ia 6 (kI 0)] (sr [im 10 1,ol 11 10,ob 12 .sub 11 (kI 1),ia 7 12] (sr [im 13 0,im 14 1,im 15 7,ox 16 1 14 15,ld 17 16,im 18 2,oc 19 zS3 [13,17,18] Aq,ia 8 19] (sq (sr [im 20 7,ob
 21 .sub 20 (kI 1),ia 9 21] (.frame (rg [8,9] 22 15) [0] true (.join [.si 8,.bx 0 Ay (.pair (.node .imm (.pair .leaf (.pair .leaf (.pair .leaf (.pair .leaf tM))))) (.pair tO tO))] (bk 0 (.loop [.si 8,.si 9,.bx 0
 Ay (.pair (.node .imm (.pair .leaf (.pair .leaf (.pair .leaf (.pair .leaf tM))))) (.pair tO tO))] (sq (sr [im 22 9,ob 23 .geq 22 (kI 0)] (cx 23 0)) (sq (.frame (rg [8] 26 11) [0] true (.join [.si 8,.bx 0 Ay
 (.pair (.node .imm (.pair .leaf (.pair .leaf (.pair .leaf (.pair .leaf tM))))) (.pair tO tO))] (bk 1 (rn [im 26 0,im 27 0,im 28 1,im 29 9,ox 30 1 28 29,ld 31 30,im 32 2,oc 33 zS3 [27,31,32]
 Aq,im 34 8,o1 35 (.build [.int .i64 0,.int .u64 0,.int .u64 0,.int .u64 0,.int .u64 0,.int .i64 0,.int .i64 0] [(0,1,kI 1),(5,1,33),(6,1,34)]),oc 36 zS2 [26,35]
 Au,ia 8 36])))) (rn [im 24 9,ob 25 .sub 24 (kI 1),ia 9 25])))))))) (sr [im 37 8,ia 6 37] .ret))))
def A2:AFn:=⟨WW,Cu.erase,[.tmp 6],3⟩
def DE(P:Pg)(x:(Ac×((List Int)×Int)))(K:Int→Ac→Prop):Prop:=
 (0≤(i64.wrap ((x.2.1.length:Int) -1))∧(i64.wrap ((x.2.1.length:Int) -1))<(x.2.1.length:Int))∧
 ((Int.toNat (i64.wrap ((x.2.1.length:Int) -1)))<x.2.1.length)∧
 Fn P zS3 Aq (x.1,((List.getD x.2.1 (Int.toNat (i64.wrap ((x.2.1.length:Int) -1))) (0:Int)),x.2.2)) (fun(d1:Int) (e2:Ac)=>Ak (D:=(Int×Ac)) (fun J3=>Bf (D:=(Int×(Int×Ac))) (d1,((i64.wrap ((i64.wrap ((x.2.1.length:Int) -1)) -1)),e2)) (fun d5 J6=>(((decide (d5.2.1≥0))=true→Ak (D:=(Int×Ac)) (fun J7=>(0≤d5.2.1∧d5.2.1<(x.2.1.length:Int))∧
 (d5.2.1.toNat<x.2.1.length)∧
 Fn P zS3 Aq (d5.2.2,((List.getD x.2.1 d5.2.1.toNat (0:Int)),x.2.2)) (fun(d9:Int) (e10:Ac)=>Fn P zS2 Au (e10,((1:Int),(((0:Int),((0:Int),((0:Int),(0:Int)))),(d9,d5.1)))) (fun(d11:Int) (e12:Ac)=>J7 (d11,e12)))) (fun d8=>J6 (d8.1,((i64.wrap (d5.2.1 -1)),d8.2))))∧((decide (d5.2.1≥0))=false→J3 (d5.1,d5.2.2))))) (fun d4=>K d4.1 d4.2))
theorem FO{P}(h:Has P A2){x K}(hw:DE P x K):Fn P WW Bn x K:=
 ZF Cu h hw
def Cw:A0:=
 sr [o1 4 (.box 1),ia 6 (kI 0)] (sr [fa 11 7 4,ld 12 11,ox 13 1 12 (kI 0),ld 14 13,ia 7 14] (sq (sr [fa 15 6 4,ld 16 15,ob 17 .lss 16 (kI 0)] (.frame (rg [2,8,9] 18 17) [0] true (.join [.si 2,.bx 0 Ay (.pair (.node .imm
 (.pair .leaf (.pair .leaf (.pair .leaf (.pair .leaf tM))))) (.pair tO tO))] (cn 17 (sr [im 18 0,im 19 2,o1 20 (.build [.int .i64 0,.int .u64 0,.int .u64 0,.int .u64 0,.int .u64 0,.int .i64 0,.int .i64 0] [(0,1,kI 1),(6,1,19)]),oc 21
 zS2 [18,20] Au,ia 8 21] (sr [im 22 0,im 23 7,im 24 8,oc 25 zS3 [22,23,24] Aq,ia 9 25] (sr [im 26 0,o1 27 (.nilc 26),fa 28 2
 27,ld 29 28,im 30 8,im 31 9,ox 32 7 29 30,fa 33 5 32,o0 ⟨none,.store 1 33 31,none⟩] (rn [im 34 8,ia 2 34])))) .skip)))) (sr [im 35 2,ia 10 35] (sq (sr [fa 36 6 4,ld 37 36,fa 38 5 4,ld 39 38,ob 40 .sub 37 39,o1 41 (.mv (kI 0))] (.frame (rg
 [2] 41 11) [0] true (.join [.si 2,.bx 0 Ay (.pair (.node .imm (.pair .leaf (.pair .leaf (.pair .leaf (.pair .leaf tM))))) (.pair tO tO))] (bk 0 (.loop [.si 2,.si 41,.bx 0 Ay (.pair (.node .imm (.pair .leaf
 (.pair .leaf (.pair .leaf (.pair .leaf tM))))) (.pair tO tO))] (sr [ob 42 .lss 41 40] (sq (cx 42 0) (sq (.frame (rg [2] 43 8) [0] true (.join [.si 2,.bx 0 Ay (.pair (.node .imm (.pair .leaf (.pair .leaf (.pair .leaf (.pair
 .leaf tM))))) (.pair tO tO))] (bk 1 (rn [im 43 0,im 44 0,im 45 7,im 46 2,oc 47 zS3 [44,45,46] Aq,im 48 10,o1 49 (.build [.int .i64 0,.int .u64 0,.int .u64 0,.int .u64 0,.int .u64
 0,.int .i64 0,.int .i64 0] [(0,1,kI 1),(5,1,47),(6,1,48)]),oc 50 zS2 [43,49] Au,ia 2 50])))) (rn [ob 51 .add 41 (kI 1),im 41 51]))))))))) (sq (sr [fa 52 5 4,ld 53 52,o1 54 (.mv (kI 0))]
 (.frame (rg [2] 54 7) [0] true (.join [.si 2,.bx 0 Ay (.pair (.node .imm (.pair .leaf (.pair .leaf (.pair .leaf (.pair .leaf tM))))) (.pair tO tO))] (bk 2 (.loop [.si 2,.si 54,.bx 0 Ay (.pair (.node .imm
 (.pair .leaf (.pair .leaf (.pair .leaf (.pair .leaf tM))))) (.pair tO tO))] (sr [ob 55 .lss 54 53] (sq (cx 55 2) (sq (.frame (rg [2] 56 4) [0] true (.join [.si 2,.bx 0 Ay (.pair (.node .imm (.pair .leaf (.pair .leaf (.pair
 .leaf (.pair .leaf tM))))) (.pair tO tO))] (bk 3 (rn [im 56 0,im 57 7,im 58 2,oc 59 zS3 [56,57,58] Aq,ia 2 59])))) (rn [ob 60 .add 54 (kI 1),im 54 60]))))))))) (sr [im 61 2,ia 6 61]
 .ret))))))
def A3:AFn:=⟨Vh,Cw.erase,[.tmp 6],3⟩
def DF(P:Pg)(x:(Ac×(Node×Int)))(K:Int→Ac→Prop):Prop:=
 (0≤(0:Int)∧(0:Int)<(x.2.1.2.2.2.2.length:Int))∧
 ((Int.toNat (0:Int))<x.2.1.2.2.2.2.length)∧
 Ak (D:=(Int×Ac)) (fun J1=>(((decide (x.2.1.2.2.2.1<0))=true→Fn P zS2 Au (x.1,((1:Int),(((0:Int),((0:Int),((0:Int),(0:Int)))),((0:Int),x.2.2)))) (fun(d3:Int) (e4:Ac)=>Fn P zS3 Aq (e4,((List.getD x.2.1.2.2.2.2 (Int.toNat (0:Int)) (0:Int)),d3)) (fun(d5:Int) (e6:Ac)=>(0≤d3∧d3<(e6.2.2.length:Int))∧
 (d3.toNat<e6.2.2.length)∧
 J1 (d3,(e6.1,(e6.2.1,(List.set e6.2.2 d3.toNat ((List.getD e6.2.2 d3.toNat Al).1,((List.getD e6.2.2 d3.toNat Al).2.1,(d5,(List.getD e6.2.2 d3.toNat Al).2.2.2))))))))))∧((decide (x.2.1.2.2.2.1<0))=false→J1 (x.2.2,x.1)))) (fun d2=>Ak (D:=(Int×Ac)) (fun J7=>Bf (D:=(Int×(Int×Ac))) (d2.1,((0:Int),d2.2)) (fun d9 J10=>(((decide (d9.2.1<(i64.wrap (x.2.1.2.2.2.1 -x.2.1.2.2.1))))=true→Ak (D:=(Int×Ac)) (fun J11=>Fn P zS3 Aq (d9.2.2,((List.getD x.2.1.2.2.2.2 (Int.toNat (0:Int)) (0:Int)),d9.1)) (fun(d13:Int) (e14:Ac)=>Fn P zS2 Au (e14,((1:Int),(((0:Int),((0:Int),((0:Int),(0:Int)))),(d13,d2.1)))) (fun(d15:Int) (e16:Ac)=>J11 (d15,e16)))) (fun d12=>J10 (d12.1,((i64.wrap (d9.2.1+1)),d12.2))))∧((decide (d9.2.1<(i64.wrap (x.2.1.2.2.2.1 -x.2.1.2.2.1))))=false→J7 (d9.1,d9.2.2))))) (fun d8=>Ak (D:=(Int×Ac)) (fun J17=>Bf (D:=(Int×(Int×Ac))) (d8.1,((0:Int),d8.2)) (fun d19 J20=>(((decide (d19.2.1<x.2.1.2.2.1))=true→Ak (D:=(Int×Ac)) (fun J21=>Fn P zS3 Aq (d19.2.2,((List.getD x.2.1.2.2.2.2 (Int.toNat (0:Int)) (0:Int)),d19.1)) (fun(d23:Int) (e24:Ac)=>J21 (d23,e24))) (fun d22=>J20 (d22.1,((i64.wrap (d19.2.1+1)),d22.2))))∧((decide (d19.2.1<x.2.1.2.2.1))=false→J17 (d19.1,d19.2.2))))) (fun d18=>K d18.1 d18.2)))
theorem FP{P}(h:Has P A3){x K}(hw:DF P x K):Fn P Vh A4 x K:=
 ZF Cw h hw
def CA:A0:=
 sr [ia 6 (kI 0)] (sq (sr [im 9 0,o1 10 (.nilc 9),fa 11 1 10,ld 12 11,im 13 1,ox 14 1 12 13,ld 15 14,ob 16 .eql 15 (kI 0)] (cn 16 (sr [im 17 2,ia 6 17] .ret) .skip)) (sr [im 18 0,o1 19 (.nilc 18),fa 20 0 19,ld 21 20,im 22 1,ox 23 8 21 22,o1
 24 (.load true 8 23),o1 7 (.alloc [.int .i64 0,.int .u64 0,.int .u64 0,.int .u64 0,.int .u64 0,.int .i64 0,.int .i64 0,.slice none 0 0]),o0 ⟨none,.store 8 7 24,none⟩] (sq (sr [fa 25 0 7,ld 26 25] (.frame (rg [2,6,8] 27 51) [0] true (.join
 [.si 2,.si 6,.bx 0 Ay (.pair (.node .imm (.pair .leaf (.pair .leaf (.pair .leaf (.pair .leaf tM))))) (.pair tO tO))] (bk 0 (sr [ob 28 .eql 26 (kI 1),ia 27 28] (cn 27 (sr [im 29 0,fa 30 1 7,o1 31 (.load true 4 30),im 32 2,o1
 33 (.build [.int .i64 0,.int .u64 0,.int .u64 0,.int .u64 0,.int .u64 0,.int .i64 0,.int .i64 0] [(0,1,kI 0),(1,4,31),(5,1,32)]),oc 34 zS2 [29,33] Au,ia 6 34] .ret) (sr [ob 36 .eql 26
 (kI 2),ia 35 36] (cn 35 (sr [im 37 0,im 38 2,o1 39 (.build [.int .i64 0,.int .u64 0,.int .u64 0,.int .u64 0,.int .u64 0,.int .i64 0,.int .i64 0] [(0,1,kI 2),(5,1,38)]),oc 40 zS2 [37,39]
 Au,ia 6 40] .ret) (sr [ob 42 .eql 26 (kI 3),ia 41 42] (cn 41 (sr [im 43 0,im 44 2,o1 45 (.build [.int .i64 0,.int .u64 0,.int .u64 0,.int .u64 0,.int .u64 0,.int .i64 0,.int .i64 0] [(0,1,kI 3),(5,1,44)]),oc 46
 zS2 [43,45] Au,ia 6 46] .ret) (sr [ob 48 .eql 26 (kI 4),ia 47 48] (.frame (rg [2,6,8] 49 29) [0] true (.join [.si 2,.si 6,.bx 0 Ay (.pair (.node .imm (.pair .leaf (.pair
 .leaf (.pair .leaf (.pair .leaf tM))))) (.pair tO tO))] (cn 47 (sr [fa 49 7 7,ld 50 49,ol 51 50,ob 52 .sub 51 (kI 1),ia 8 52] (.frame (rg [2,8] 53 12) [0] true (.join [.si 2,.bx 0 Ay (.pair (.node .imm (.pair .leaf (.pair
 .leaf (.pair .leaf (.pair .leaf tM))))) (.pair tO tO))] (bk 1 (.loop [.si 2,.si 8,.bx 0 Ay (.pair (.node .imm (.pair .leaf (.pair .leaf (.pair .leaf (.pair .leaf tM))))) (.pair tO tO))] (sq (sr [im 53 8,ob 54 .geq 53 (kI
 0)] (cx 54 1)) (sq (.frame (rg [2] 57 8) [0] true (.join [.si 2,.bx 0 Ay (.pair (.node .imm (.pair .leaf (.pair .leaf (.pair .leaf (.pair .leaf tM))))) (.pair tO tO))] (bk 2 (rn [im 57 0,fa 58 7 7,ld 59 58,im 60 8,ox 61 1
 59 60,ld 62 61,im 63 2,oc 64 zS3 [57,62,63] Aq,ia 2 64])))) (rn [im 55 8,ob 56 .sub 55 (kI 1),ia 8 56])))))))) (sr [ob 66 .eql 26 (kI 5),ia 65 66] (cn 65 (sr [im 67 0,fa 68 7 7,ld
 69 68,im 70 2,oc 71 WW [67,69,70] Bn,ia 6 71] .ret) (sr [ob 73 .eql 26 (kI 6),ia 72 73] (cn 72 (sr [im 74 0,o1 75 (.load true 8 7),im 76 2,oc 77
 Vh [74,75,76] A4,ia 6 77] .ret) .skip)))))))))))))))))) (sr [im 78 2,ia 6 78] .ret))))
def BA:AFn:=⟨zS3,CA.erase,[.tmp 6],3⟩
def DZ(P:Pg)(x:(Ac×(Int×Int)))(K:Int→Ac→Prop):Prop:=
 (0≤x.2.1∧x.2.1<(x.1.2.1.length:Int))∧
 (x.2.1.toNat<x.1.2.1.length)∧
 ((((List.getD x.1.2.1 x.2.1.toNat (0:Int))==0)=true→K x.2.2 x.1)∧(((List.getD x.1.2.1 x.2.1.toNat (0:Int))==0)=false→(0≤x.2.1∧x.2.1<(x.1.1.length:Int))∧
 (x.2.1.toNat<x.1.1.length)∧
 Ak (D:=(Int×(Int×Ac))) (fun J1=>((((List.getD x.1.1 x.2.1.toNat BC).1==1)=true→Fn P zS2 Au (x.1,((0:Int),((List.getD x.1.1 x.2.1.toNat BC).2.1,(x.2.2,(0:Int))))) (fun(d3:Int) (e4:Ac)=>K d3 e4))∧(((List.getD x.1.1 x.2.1.toNat BC).1==1)=false→((((List.getD x.1.1 x.2.1.toNat BC).1==2)=true→Fn P zS2 Au (x.1,((2:Int),(((0:Int),((0:Int),((0:Int),(0:Int)))),(x.2.2,(0:Int))))) (fun(d5:Int) (e6:Ac)=>K d5 e6))∧(((List.getD x.1.1 x.2.1.toNat BC).1==2)=false→((((List.getD x.1.1 x.2.1.toNat BC).1==3)=true→Fn P zS2 Au (x.1,((3:Int),(((0:Int),((0:Int),((0:Int),(0:Int)))),(x.2.2,(0:Int))))) (fun(d7:Int) (e8:Ac)=>K d7 e8))∧(((List.getD x.1.1 x.2.1.toNat BC).1==3)=false→Ak (D:=(Int×(Int×Ac))) (fun J9=>((((List.getD x.1.1 x.2.1.toNat BC).1==4)=true→Ak (D:=(Int×Ac)) (fun J11=>Bf (D:=(Int×(Int×Ac))) (x.2.2,((i64.wrap (((List.length (List.getD x.1.1 x.2.1.toNat BC).2.2.2.2:Nat):Int) -1)),x.1)) (fun d13 J14=>(((decide (d13.2.1≥0))=true→Ak (D:=(Int×Ac)) (fun J15=>(0≤d13.2.1∧d13.2.1<((List.length (List.getD x.1.1 x.2.1.toNat BC).2.2.2.2:Nat):Int))∧
 (d13.2.1.toNat<List.length (List.getD x.1.1 x.2.1.toNat BC).2.2.2.2)∧
 Fn P zS3 Aq (d13.2.2,((List.getD (List.getD x.1.1 x.2.1.toNat BC).2.2.2.2 d13.2.1.toNat (0:Int)),d13.1)) (fun(d17:Int) (e18:Ac)=>J15 (d17,e18))) (fun d16=>J14 (d16.1,((i64.wrap (d13.2.1 -1)),d16.2))))∧((decide (d13.2.1≥0))=false→J11 (d13.1,d13.2.2))))) (fun d12=>J9 (d12.1,((0:Int),d12.2))))∧(((List.getD x.1.1 x.2.1.toNat BC).1==4)=false→((((List.getD x.1.1 x.2.1.toNat BC).1==5)=true→Fn P WW Bn (x.1,((List.getD x.1.1 x.2.1.toNat BC).2.2.2.2,x.2.2)) (fun(d19:Int) (e20:Ac)=>K d19 e20))∧(((List.getD x.1.1 x.2.1.toNat BC).1==5)=false→((((List.getD x.1.1 x.2.1.toNat BC).1==6)=true→Fn P Vh A4 (x.1,((List.getD x.1.1 x.2.1.toNat BC),x.2.2)) (fun(d21:Int) (e22:Ac)=>K d21 e22))∧(((List.getD x.1.1 x.2.1.toNat BC).1==6)=false→J9 (x.2.2,((0:Int),x.1))))))))) (fun d10=>J1 d10)))))))) (fun d2=>K d2.1 d2.2.2)))
theorem Gl{P}(h:Has P BA){x K}(hw:DZ P x K):Fn P zS3 Aq x K:=
 ZF CA h hw
def EO:A0:=
 sr [o1 2 (.alloc [.slice none 0 0,.int .i64 0]),ia 3 (kI 0)] (sr [im 10 0,oc 11 WV [10] DC,im 9 11,oe 12 9 0,oe 13 9 1,ia 4 12,ia 5 13] (sq (.frame (rg [3] 14 9) [1002] false (.join [.si 3,.bx 1002 (.pair
 (.sl Ck) bI) (.pair tO .leaf)] (bk 0 (sr [im 15 5,ob 16 .neq 15 (kI 0),ia 14 16] (cn 14 (sr [o1 17 (.build [.slice none 0 0,.int .i64 0] []),im 18 5,o0 ⟨none,.store 2 2 17,none⟩,ia 3 18] .ret) (sr [im 20 4,ob 21 .gtr 20 (kI 4000),ia 19
 21] (cn 19 (sr [o1 22 (.build [.slice none 0 0,.int .i64 0] []),o0 ⟨none,.store 2 2 22,none⟩,ia 3 (kI 1)] .ret) .skip))))))) (sr [im 23 0,im 24 0,oc 25 Tw [24] Cf,o1 26 (.build [.slice none 0 0,.slice
 none 0 0,.slice none 0 0] [(0,1,23),(1,1,25)]),o1 27 (.box 26),ia 6 27] (sr [im 28 6,o1 29 (.build [.int .i64 0,.int .u64 0,.int .u64 0,.int .u64 0,.int .u64 0,.int .i64 0,.int .i64 0] [(0,1,kI 4)]),oc 30
 zS2 [28,29] Au,ia 7 30] (sr [im 31 6,im 32 0,ol 33 32,ob 34 .sub 33 (kI 1),im 35 7,oc 36 zS3 [31,34,35] Aq,ia 8 36] (sr [im 37
 6,o1 38 (.nilc 37),fa 39 2 38,ld 40 39,im 41 8,o1 42 (.build [.slice none 0 0,.int .i64 0] [(0,1,40),(1,1,41)]),o0 ⟨none,.store 2 2 42,none⟩,ia 3 (kI 0)] .ret))))))
def Du:AFn:=⟨WX,EO.erase,[.cell 2 true 2,.tmp 3],1⟩
def GV(P:Pg)(x:(List Node))(K:(((List State)×Int)×Int)→Unit→Prop):Prop:=
 Fn P WV DC x (fun(d1:(Int×Int)) (e2:Unit)=>Ak (D:=(Int×((List State)×Int))) (fun J3=>(((d1.2 !=0)=true→K (([],(0:Int)),d1.2) ())∧((d1.2 !=0)=false→(((decide (d1.1>4000))=true→K (([],(0:Int)),(1:Int)) ())∧((decide (d1.1>4000))=false→J3 ((0:Int),([],(0:Int)))))))) (fun d4=>Fn P Tw Cf x (fun(d5:(List Int)) (e6:Unit)=>Fn P zS2 Au ((x,(d5,[])),((4:Int),(((0:Int),((0:Int),((0:Int),(0:Int)))),((0:Int),(0:Int))))) (fun(d7:Int) (e8:Ac)=>Fn P zS3 Aq (e8,((i64.wrap ((x.length:Int) -1)),d7)) (fun(d9:Int) (e10:Ac)=>K ((e10.2.2,d9),(0:Int)) ())))))
theorem JU{P}(h:Has P Du){x K}(hw:GV P x K):Fn P WX CD x K:=
 ZF EO h hw
def Hh:A0:=
 sr [o1 1 (.box 0),ia 2 (kI 0)] (sr [fa 6 0 1,ld 7 6,ol 8 7,ia 3 8] (sq (sr [im 9 3,ob 10 .lss 9 (kI 1),im 11 10,gf 12 11 (.mv 3),gf 13 11 (.bin .gtr 12 (kI 8000)),op3 14 11 kT 13,im 15 14,gf 16 15 (.fAddr 1 1),gf 17 15 (.load false 1 16),gf
 18 15 (.bin .lss 17 (kI 0)),op3 19 15 kT 18,im 20 19,gf 21 20 (.fAddr 1 1),gf 22 20 (.load false 1 21),gf 23 20 (.mv 3),gf 24 20 (.bin .geq 22 23),op3 25 20 kT 24] (cn 25 (sr [ia 2 (kI 2)] .ret) .skip)) (sq (sr [ia 4 (kI 0)] (.frame (rg
 [2,4,5] 26 50) [1005] false (.join [.si 2] (bl 0 [2,4] (sq (sr [im 26 4,im 27 3,ob 28 .lss 26 27] (cx 28 0)) (sq (.frame (rg [2,5] 31 45) [1005] false (.join [.si 2] (bk 1 (sr [fa 31 0 1,ld 32 31,im 33 4,ox 34 7 32 33,o1 35 (.load true 7
 34),o1 5 (.alloc [.int .i64 0,.int .u64 0,.int .u64 0,.int .u64 0,.int .u64 0,.int .i64 0,.int .i64 0]),o0 ⟨none,.store 7 5 35,none⟩] (sr [fa 36 0 5,ld 37 36,ob 38 .lss 37 (kI 0),im 39 38,gf 40 39 (.fAddr 0 5),gf 41 39 (.load false 1
 40),gf 42 39 (.bin .gtr 41 (kI 4)),op3 43 39 kT 42,im 44 43,gf 45 44 (.fAddr 0 5),gf 46 44 (.load false 1 45),gf 47 44 (.bin .neq 46 (kI 4)),gf 48 44 (.mv 47),gt 49 48 (.fAddr 5 5),gt 50 48 (.load false 1 49),gt 51 48 (.bin .lss 50 (kI
 0)),gt 52 48 (.mv 51),gf 53 52 (.fAddr 5 5),gf 54 52 (.load false 1 53),gf 55 52 (.mv 3),gf 56 52 (.bin .geq 54 55),gt 57 48 (.pick 52 kT 56),gf 58 44 (.pick 48 57 kF),op3 59 44 kT 58,im 60 59,gf 61 60 (.fAddr 0 5),gf 62 60 (.load false 1
 61),gf 63 60 (.bin .eql 62 (kI 1)),gf 64 60 (.mv 63),gt 65 64 (.fAddr 6 5),gt 66 64 (.load false 1 65),gt 67 64 (.bin .lss 66 (kI 0)),gt 68 64 (.mv 67),gf 69 68 (.fAddr 6 5),gf 70 68 (.load false 1 69),gf 71 68 (.mv 3),gf 72 68 (.bin .geq
 70 71),gt 73 64 (.pick 68 kT 72),gf 74 60 (.pick 64 73 kF),op3 75 60 kT 74] (cn 75 (sr [ia 2 (kI 2)] .ret) .skip)))))) (rn [im 29 4,ob 30 .add 29 (kI 1),ia 4 30]))))))) (sr [ia 2 (kI 0)] .ret))))
def Fc:AFn:=⟨WY,Hh.erase,[.tmp 2],1⟩
def Jv(P:Pg)(x:((List State)×Int))(K:Int→Unit→Prop):Prop:=
 (((cond (cond (cond (decide ((x.1.length:Int)<1)) true (decide ((x.1.length:Int)>8000))) true (decide (x.2<0))) true (decide (x.2≥(x.1.length:Int))))=true→K (2:Int) ())∧((cond (cond (cond (decide ((x.1.length:Int)<1)) true (decide ((x.1.length:Int)>8000))) true (decide (x.2<0))) true (decide (x.2≥(x.1.length:Int))))=false→Ak (D:=Int) (fun J1=>Bf (D:=(Int×Int)) ((0:Int),(0:Int)) (fun d3 J4=>(((decide (d3.2<(x.1.length:Int)))=true→Ak (D:=Int) (fun J5=>(0≤d3.2∧d3.2<(x.1.length:Int))∧
 (d3.2.toNat<x.1.length)∧
 (((cond (cond (cond (decide ((List.getD x.1 d3.2.toNat Al).1<0)) true (decide ((List.getD x.1 d3.2.toNat Al).1>4))) true (cond ((List.getD x.1 d3.2.toNat Al).1 !=4) (cond (decide ((List.getD x.1 d3.2.toNat Al).2.2.1<0)) true (decide ((List.getD x.1 d3.2.toNat Al).2.2.1≥(x.1.length:Int)))) false)) true (cond ((List.getD x.1 d3.2.toNat Al).1==1) (cond (decide ((List.getD x.1 d3.2.toNat Al).2.2.2<0)) true (decide ((List.getD x.1 d3.2.toNat Al).2.2.2≥(x.1.length:Int)))) false))=true→K (2:Int) ())∧((cond (cond (cond (decide ((List.getD x.1 d3.2.toNat Al).1<0)) true (decide ((List.getD x.1 d3.2.toNat Al).1>4))) true (cond ((List.getD x.1 d3.2.toNat Al).1 !=4) (cond (decide ((List.getD x.1 d3.2.toNat Al).2.2.1<0)) true (decide ((List.getD x.1 d3.2.toNat Al).2.2.1≥(x.1.length:Int)))) false)) true (cond ((List.getD x.1 d3.2.toNat Al).1==1) (cond (decide ((List.getD x.1 d3.2.toNat Al).2.2.2<0)) true (decide ((List.getD x.1 d3.2.toNat Al).2.2.2≥(x.1.length:Int)))) false))=false→J5 d3.1))) (fun d6=>J4 (d6,(i64.wrap (d3.2+1)))))∧((decide (d3.2<(x.1.length:Int)))=false→J1 d3.1)))) (fun d2=>K (0:Int) ())))
theorem Nv{P}(h:Has P Fc){x K}(hw:Jv P x K):Fn P WY D7 x K:=
 ZF Hh h hw
def Hi:A0:=
 sr [o1 4 (.box 0),o1 8 (.asg ni)] (sr [oT ⟨some 13,.buildSl 1 [.bool false] 0 [],none⟩ (some (.bool,.leaf)),im 14 1,oT ⟨some 15,.app 1 1 13 14,none⟩ (some (.bool,.leaf)),ia 9 15] (sr [o1 10 (.asg kT)] (sq (.frame (rg [9,10,11,12] 16 70)
 [1012] false (.join [.sl 9 false (.sl .bool) tO] (bk 0 (.loop [.sl 9 false (.sl .bool) tO,.sl 10 false .bool .leaf] (sq (sr [im 16 10] (cx 16 0)) (.frame (rg [9,10,11,12] 17 69) [1012] false (.join [.sl 9 false (.sl .bool) tO,.sl 10 false
 .bool .leaf] (bk 1 (sr [o1 10 (.asg kF)] (sr [ia 11 (kI 0)] (.frame (rg [9,10,11,12] 17 69) [1012] false (.join [.sl 9 false (.sl .bool) tO,.sl 10 false .bool .leaf] (bk 2 (.loop [.sl 9 false (.sl .bool) tO,.sl 10 false .bool .leaf,.si 11]
 (sq (sr [im 17 11,im 18 9,ol 19 18,ob 20 .lss 17 19] (cx 20 2)) (sq (.frame (rg [9,10,12] 23 63) [1012] false (.join [.sl 9 false (.sl .bool) tO,.sl 10 false .bool .leaf] (bk 3 (sr [fa 23 0 4,ld 24 23,im 25 11,ox 26 7 24 25,o1 27 (.load
 true 7 26),o1 12 (.alloc [.int .i64 0,.int .u64 0,.int .u64 0,.int .u64 0,.int .u64 0,.int .i64 0,.int .i64 0]),o0 ⟨none,.store 7 12 27,none⟩] (sq (sr [im 28 9,im 29 11,ox 30 1 28 29,ld 31 30,im 32 31,gt 33 32 (.fAddr 0 12),gt 34 32 (.load
 false 1 33),gt 35 32 (.bin .eql 34 (kI 1)),gt 36 32 (.mv 35),gf 37 36 (.fAddr 0 12),gf 38 36 (.load false 1 37),gf 39 36 (.bin .eql 38 (kI 2)),gf 40 36 (.mv 39),gt 41 40 (.mv 2),gf 42 36 (.pick 40 41 kF),gt 43 32 (.pick 36 kT 42),gt 44 32
 (.mv 43),gf 45 44 (.fAddr 0 12),gf 46 44 (.load false 1 45),gf 47 44 (.bin .eql 46 (kI 3)),gf 48 44 (.mv 47),gt 49 48 (.mv 3),gf 50 44 (.pick 48 49 kF),gt 51 32 (.pick 44 kT 50),op3 52 32 51 kF,im 53 52,gt 54 53 (.mv 9),gt 55 53 (.fAddr 5
 12),gt 56 53 (.load false 1 55),gt 57 53 (.ixA 1 54 56),gt 58 53 (.load false 1 57),gt 59 53 (.un .not 58),op3 60 53 59 kF] (fk [9,10] 61 4 (.join [.sl 9 false (.sl .bool) tO,.sl 10 false .bool .leaf] (cn 60 (sr [im 61 9,fa 62 5 12,ld 63
 62,ox 64 1 61 63,o0 ⟨none,.store 1 64 kT,none⟩] (rn [o1 10 (.asg kT)])) .skip)))) (sr [im 65 9,im 66 11,ox 67 1 65 66,ld 68 67,im 69 68,gt 70 69 (.fAddr 0 12),gt 71 69 (.load false 1 70),gt 72 69 (.bin .eql 71 (kI 1)),op3 73 69 72 kF,im 74
 73,gt 75 74 (.mv 9),gt 76 74 (.fAddr 6 12),gt 77 74 (.load false 1 76),gt 78 74 (.ixA 1 75 77),gt 79 74 (.load false 1 78),gt 80 74 (.un .not 79),op3 81 74 80 kF] (fk [9,10] 82 4 (.join [.sl 9 false (.sl .bool) tO,.sl 10 false .bool .leaf]
 (cn 81 (sr [im 82 9,fa 83 6 12,ld 84 83,ox 85 1 82 84,o0 ⟨none,.store 1 85 kT,none⟩] (rn [o1 10 (.asg kT)])) .skip))))))))) (rn [im 21 11,ob 22 .add 21 (kI 1),ia 11 22]))))))))))))))))) (sr [im 86 9,ia 8 86] .ret))))
def Fe:AFn:=⟨WZ,Hi.erase,[.tmp 8],4⟩
def Jw(P:Pg)(x:(((List State)×Int)×((List Bool)×(Bool×Bool))))(K:(List Bool)→Unit→Prop):Prop:=
 ((List.length ([]:List Bool)+x.2.1.length)*1≤140737488355328)∧
 Ak (D:=(List Bool)) (fun J1=>Bf (D:=((List Bool)×Bool)) ((([]:List Bool)++x.2.1),true) (fun d3 J4=>((d3.2=true→Ak (D:=((List Bool)×Bool)) (fun J5=>Ak (D:=((List Bool)×Bool)) (fun J7=>Bf (D:=((List Bool)×(Bool×Int))) (d3.1,(false,(0:Int))) (fun d9 J10=>(((decide (d9.2.2<(d9.1.length:Int)))=true→Ak (D:=((List Bool)×Bool)) (fun J11=>(0≤d9.2.2∧d9.2.2<(x.1.1.length:Int))∧
 (d9.2.2.toNat<x.1.1.length)∧
 (0≤d9.2.2∧d9.2.2<(d9.1.length:Int))∧
 (d9.2.2.toNat<d9.1.length)∧
 (((cond (List.getD d9.1 d9.2.2.toNat false) (cond (cond ((List.getD x.1.1 d9.2.2.toNat Al).1==1) true (cond ((List.getD x.1.1 d9.2.2.toNat Al).1==2) x.2.2.1 false)) true (cond ((List.getD x.1.1 d9.2.2.toNat Al).1==3) x.2.2.2 false)) false)=true→0≤(List.getD x.1.1 d9.2.2.toNat Al).2.2.1∧(List.getD x.1.1 d9.2.2.toNat Al).2.2.1<(d9.1.length:Int)))∧
 (((cond (List.getD d9.1 d9.2.2.toNat false) (cond (cond ((List.getD x.1.1 d9.2.2.toNat Al).1==1) true (cond ((List.getD x.1.1 d9.2.2.toNat Al).1==2) x.2.2.1 false)) true (cond ((List.getD x.1.1 d9.2.2.toNat Al).1==3) x.2.2.2 false)) false)=true→(Int.toNat (List.getD x.1.1 d9.2.2.toNat Al).2.2.1)<d9.1.length))∧
 Ak (D:=((List Bool)×Bool)) (fun J13=>(((cond (cond (List.getD d9.1 d9.2.2.toNat false) (cond (cond ((List.getD x.1.1 d9.2.2.toNat Al).1==1) true (cond ((List.getD x.1.1 d9.2.2.toNat Al).1==2) x.2.2.1 false)) true (cond ((List.getD x.1.1 d9.2.2.toNat Al).1==3) x.2.2.2 false)) false) (!(List.getD d9.1 (Int.toNat (List.getD x.1.1 d9.2.2.toNat Al).2.2.1) false)) false)=true→(0≤(List.getD x.1.1 d9.2.2.toNat Al).2.2.1∧(List.getD x.1.1 d9.2.2.toNat Al).2.2.1<(d9.1.length:Int))∧
 ((Int.toNat (List.getD x.1.1 d9.2.2.toNat Al).2.2.1)<d9.1.length)∧
 J13 ((List.set d9.1 (Int.toNat (List.getD x.1.1 d9.2.2.toNat Al).2.2.1) true),true))∧((cond (cond (List.getD d9.1 d9.2.2.toNat false) (cond (cond ((List.getD x.1.1 d9.2.2.toNat Al).1==1) true (cond ((List.getD x.1.1 d9.2.2.toNat Al).1==2) x.2.2.1 false)) true (cond ((List.getD x.1.1 d9.2.2.toNat Al).1==3) x.2.2.2 false)) false) (!(List.getD d9.1 (Int.toNat (List.getD x.1.1 d9.2.2.toNat Al).2.2.1) false)) false)=false→J13 (d9.1,d9.2.1)))) (fun d14=>(0≤d9.2.2∧d9.2.2<(d14.1.length:Int))∧
 (d9.2.2.toNat<d14.1.length)∧
 (((cond (List.getD d14.1 d9.2.2.toNat false) ((List.getD x.1.1 d9.2.2.toNat Al).1==1) false)=true→0≤(List.getD x.1.1 d9.2.2.toNat Al).2.2.2∧(List.getD x.1.1 d9.2.2.toNat Al).2.2.2<(d14.1.length:Int)))∧
 (((cond (List.getD d14.1 d9.2.2.toNat false) ((List.getD x.1.1 d9.2.2.toNat Al).1==1) false)=true→(Int.toNat (List.getD x.1.1 d9.2.2.toNat Al).2.2.2)<d14.1.length))∧
 Ak (D:=((List Bool)×Bool)) (fun J15=>(((cond (cond (List.getD d14.1 d9.2.2.toNat false) ((List.getD x.1.1 d9.2.2.toNat Al).1==1) false) (!(List.getD d14.1 (Int.toNat (List.getD x.1.1 d9.2.2.toNat Al).2.2.2) false)) false)=true→(0≤(List.getD x.1.1 d9.2.2.toNat Al).2.2.2∧(List.getD x.1.1 d9.2.2.toNat Al).2.2.2<(d14.1.length:Int))∧
 ((Int.toNat (List.getD x.1.1 d9.2.2.toNat Al).2.2.2)<d14.1.length)∧
 J15 ((List.set d14.1 (Int.toNat (List.getD x.1.1 d9.2.2.toNat Al).2.2.2) true),true))∧((cond (cond (List.getD d14.1 d9.2.2.toNat false) ((List.getD x.1.1 d9.2.2.toNat Al).1==1) false) (!(List.getD d14.1 (Int.toNat (List.getD x.1.1 d9.2.2.toNat Al).2.2.2) false)) false)=false→J15 d14))) (fun d16=>J11 d16))) (fun d12=>J10 (d12.1,(d12.2,(i64.wrap (d9.2.2+1))))))∧((decide (d9.2.2<(d9.1.length:Int)))=false→J7 (d9.1,d9.2.1))))) (fun d8=>J5 d8)) (fun d6=>J4 d6))∧(d3.2=false→J1 d3.1)))) (fun d2=>K d2 ())
theorem Nw{P}(h:Has P Fe){x K}(hw:Jw P x K):Fn P WZ D8 x K:=
 ZF Hi h hw
def IU:A0:=
 sr [o1 2 (.box 0),o1 4 (.asg kF)] (sr [im 5 1,ob 6 .quo 5 (.c (.int .u8 64)),o1 7 (.ixAr 4 1 2 6),ld 8 7,im 9 1,ob 10 .rem 9 (.c (.int .u8 64)),ob 11 .shr 8 10,ob 12 .and 11 (.c (.int .u64 1)),ob 13 .eql 12 (.c (.int .u64 1)),ia 4 13] .ret)
def GP:AFn:=⟨W0,IU.erase,[.tmp 4],2⟩
def Ml(P:Pg)(x:((Int×(Int×(Int×Int)))×Int))(K:Bool→Unit→Prop):Prop:=
 ((64:Int)≠0)∧
 (0≤(u8.wrap (Int.tdiv x.2 (64:Int)))∧(u8.wrap (Int.tdiv x.2 (64:Int)))<((4:Nat):Int))∧
 ((Int.toNat (u8.wrap (Int.tdiv x.2 (64:Int))))<4)∧
 ((64:Int)≠0)∧
 (0≤(Int.tmod x.2 (64:Int)))∧
 K ((u64.wrap ((BitVec.toNat (BitVec.ofInt u64.bits (Int.fdiv (List.getD [x.1.1,x.1.2.1,x.1.2.2.1,x.1.2.2.2] (Int.toNat (u8.wrap (Int.tdiv x.2 (64:Int)))) (0:Int)) (2^(min (Int.toNat (Int.tmod x.2 (64:Int))) u64.bits)))&&&BitVec.ofInt u64.bits (1:Int)):Nat):Int))==1) ()
theorem P6{P}(h:Has P GP){x K}(hw:Ml P x K):Fn P W0 Fo x K:=
 ZF IU h hw
def HT:A0:=
 sr [o1 3 (.box 0),o1 6 (.asg ni)] (sr [im 13 1,o1 14 (.lenS 13),ob 15 .add 14 (kI 1),oT ⟨some 16,.mkSl 1 1 [.bool false] 15 15,none⟩ (some (.bool,.leaf)),ia 7 16] (sr [fa 17 0 3,ld 18 17,ol 19 18,oT ⟨some 20,.mkSl 1 1 [.bool false] 19
 19,none⟩ (some (.bool,.leaf)),ia 8 20] (sr [im 21 8,fa 22 1 3,ld 23 22,ox 24 1 21 23,o0 ⟨none,.store 1 24 kT,none⟩] (sq (sr [im 25 2,ia 9 25] (.frame (rg [7,8,9,10,11,12] 26 69) [1012] false (.join [.sl 7 false (.sl .bool) tO] (bk 0 (.loop
 [.sl 7 false (.sl .bool) tO,.sl 8 false (.sl .bool) tO,.si 9] (sq (sr [im 26 9,im 27 1,o1 28 (.lenS 27),ob 29 .leq 26 28] (cx 29 0)) (sq (.frame (rg [7,8,10,11,12] 32 63) [1012] false (.join [.sl 7 false (.sl .bool) tO,.sl 8 false (.sl
 .bool) tO] (bk 1 (sr [o1 32 (.load true 2 3),im 33 8,im 34 9,ob 35 .eql 34 (kI 0),im 36 9,im 37 1,o1 38 (.lenS 37),ob 39 .eql 36 38,oc 40 WZ [32,33,35,39] D8,ia 8 40] (sr [im 41 8,ol 42 41,oT ⟨some
 43,.mkSl 1 1 [.bool false] 42 42,none⟩ (some (.bool,.leaf)),ia 10 43] (sq (sr [ia 11 (kI 0)] (.frame (rg [7,10,11,12] 44 50) [1012] false (.join [.sl 7 false (.sl .bool) tO,.sl 10 false (.sl .bool) tO] (bk 2 (.loop [.sl 7 false (.sl .bool)
 tO,.sl 10 false (.sl .bool) tO,.si 11] (sq (sr [im 44 11,im 45 8,ol 46 45,ob 47 .lss 44 46] (cx 47 2)) (sq (.frame (rg [7,10,12] 50 44) [1012] false (.join [.sl 7 false (.sl .bool) tO,.sl 10 false (.sl .bool) tO] (bk 3 (sr [fa 50 0 3,ld 51
 50,im 52 11,ox 53 7 51 52,o1 54 (.load true 7 53),o1 12 (.alloc [.int .i64 0,.int .u64 0,.int .u64 0,.int .u64 0,.int .u64 0,.int .i64 0,.int .i64 0]),o0 ⟨none,.store 7 12 54,none⟩] (sq (sr [im 55 8,im 56 11,ox 57 1 55 56,ld 58 57,im 59
 58,gt 60 59 (.fAddr 0 12),gt 61 59 (.load false 1 60),gt 62 59 (.bin .eql 61 (kI 4)),op3 63 59 62 kF] (.frame [7,64,65,66] [] false (.join [.sl 7 false (.sl .bool) tO] (cn 63 (rn [im 64 7,im 65 9,ox 66 1 64 65,o0 ⟨none,.store 1 66
 kT,none⟩]) .skip)))) (sq (fk [] 67 23 (.join [.sl 89 false .bool .leaf] (.draw [ti (im 67 8) (ti (im 68 11) (ti (ox 69 1 67 68) (ti (ld 70 69) (ti (im 71 70) (ti (gt 72 71 (.fAddr 0 12)) (ti (gt 73 71 (.load false 1 72)) (ti (gt 74 71
 (.bin .eql 73 (kI 0))) (ti (op3 75 71 74 kF) (ti (im 76 75) (ti (gt 77 76 (.mv 9)) (ti (gt 78 76 (.mv 1)) (ti (gt 79 76 (.lenS 78)) (ti (gt 80 76 (.bin .lss 77 79)) (ti (op3 81 76 80 kF) (ti (im 82 81) (ti (gt 83 82 (.fAddr 1 12)) (ti (gt
 84 82 (.load true 4 83)) (ti (gt 85 82 (.mv 1)) (ti (gt 86 82 (.mv 9)) (ti (gt 87 82 (.ixS 85 86)) (.alt (oS ⟨some 88,.call W0 [84,87],some (82,true)⟩ Fo) (ti (op3 89 82 88 kF) .done)
 .stop)))))))))))))))))))))]))) (fk [10] 90 4 (.join [.sl 10 false (.sl .bool) tO] (cn 89 (rn [im 90 10,fa 91 5 12,ld 92 91,ox 93 1 90 92,o0 ⟨none,.store 1 93 kT,none⟩]) .skip))))))))) (rn [im 48 11,ob 49 .add 48 (kI 1),ia 11 49]))))))))
 (rn [im 94 10,ia 8 94]))))))) (rn [im 30 9,ob 31 .add 30 (kI 1),ia 9 31])))))))) (sr [im 95 7,ia 6 95] .ret)))))
def FJ:AFn:=⟨W7,HT.erase,[.tmp 6],3⟩
def Ku(P:Pg)(x:(((List State)×Int)×(Bt8×Int)))(K:(List Bool)→Unit→Prop):Prop:=
 (0≤(i64.wrap ((x.2.1.length:Int)+1))∧(i64.wrap ((x.2.1.length:Int)+1))≤(i64.wrap ((x.2.1.length:Int)+1))∧((1:Nat):Int)*(i64.wrap ((x.2.1.length:Int)+1))≤281474976710656)∧
 (0≤(x.1.1.length:Int)∧(x.1.1.length:Int)≤(x.1.1.length:Int)∧((1:Nat):Int)*(x.1.1.length:Int)≤281474976710656)∧
 (0≤x.1.2∧x.1.2<((List.length (List.replicate (Int.toNat (x.1.1.length:Int)) false):Nat):Int))∧
 (x.1.2.toNat<List.length (List.replicate (Int.toNat (x.1.1.length:Int)) false))∧
 Ak (D:=(List Bool)) (fun J1=>Bf (D:=((List Bool)×((List Bool)×Int))) ((List.replicate (Int.toNat (i64.wrap ((x.2.1.length:Int)+1))) false),((List.set (List.replicate (Int.toNat (x.1.1.length:Int)) false) x.1.2.toNat true),x.2.2)) (fun d3 J4=>(((decide (d3.2.2≤(x.2.1.length:Int)))=true→Ak (D:=((List Bool)×(List Bool))) (fun J5=>Fn P WZ D8 (x.1,(d3.2.1,((d3.2.2==0),(d3.2.2==(x.2.1.length:Int))))) (fun(d7:(List Bool)) (e8:Unit)=>(0≤(d7.length:Int)∧(d7.length:Int)≤(d7.length:Int)∧((1:Nat):Int)*(d7.length:Int)≤281474976710656)∧
 Ak (D:=((List Bool)×(List Bool))) (fun J9=>Bf (D:=((List Bool)×((List Bool)×Int))) (d3.1,((List.replicate (Int.toNat (d7.length:Int)) false),(0:Int))) (fun d11 J12=>(((decide (d11.2.2<(d7.length:Int)))=true→Ak (D:=((List Bool)×(List Bool))) (fun J13=>(0≤d11.2.2∧d11.2.2<(x.1.1.length:Int))∧
 (d11.2.2.toNat<x.1.1.length)∧
 (0≤d11.2.2∧d11.2.2<(d7.length:Int))∧
 (d11.2.2.toNat<d7.length)∧
 Ak (D:=(List Bool)) (fun J15=>(((cond (List.getD d7 d11.2.2.toNat false) ((List.getD x.1.1 d11.2.2.toNat Al).1==4) false)=true→(0≤d3.2.2∧d3.2.2<(d11.1.length:Int))∧
 (d3.2.2.toNat<d11.1.length)∧
 J15 (List.set d11.1 d3.2.2.toNat true))∧((cond (List.getD d7 d11.2.2.toNat false) ((List.getD x.1.1 d11.2.2.toNat Al).1==4) false)=false→J15 d11.1))) (fun d16=>Ak (D:=Bool) (fun J17=>(0≤d11.2.2∧d11.2.2<(d7.length:Int))∧
 (d11.2.2.toNat<d7.length)∧
 (((cond (cond (List.getD d7 d11.2.2.toNat false) ((List.getD x.1.1 d11.2.2.toNat Al).1==0) false) (decide (d3.2.2<(x.2.1.length:Int))) false)=true→0≤d3.2.2∧d3.2.2<(x.2.1.length:Int)))∧
 (Ak (D:=Bool) (fun J19=>(((cond (cond (List.getD d7 d11.2.2.toNat false) ((List.getD x.1.1 d11.2.2.toNat Al).1==0) false) (decide (d3.2.2<(x.2.1.length:Int))) false)=true→Fn P W0 Fo ((List.getD x.1.1 d11.2.2.toNat Al).2.1,((x.2.1.getD d3.2.2.toNat 0).toNat:Int)) (fun(d20:Bool) _=>J19 d20))∧(((cond (cond (List.getD d7 d11.2.2.toNat false) ((List.getD x.1.1 d11.2.2.toNat Al).1==0) false) (decide (d3.2.2<(x.2.1.length:Int))) false)=false→J19 false)∧True))) (fun d21=>J17 (cond (cond (cond (List.getD d7 d11.2.2.toNat false) ((List.getD x.1.1 d11.2.2.toNat Al).1==0) false) (decide (d3.2.2<(x.2.1.length:Int))) false) d21 false)))∧True) (fun d18=>Ak (D:=(List Bool)) (fun J22=>((d18=true→(0≤(List.getD x.1.1 d11.2.2.toNat Al).2.2.1∧(List.getD x.1.1 d11.2.2.toNat Al).2.2.1<(d11.2.1.length:Int))∧
 ((Int.toNat (List.getD x.1.1 d11.2.2.toNat Al).2.2.1)<d11.2.1.length)∧
 J22 (List.set d11.2.1 (Int.toNat (List.getD x.1.1 d11.2.2.toNat Al).2.2.1) true))∧(d18=false→J22 d11.2.1))) (fun d23=>J13 (d16,d23))))) (fun d14=>J12 (d14.1,(d14.2,(i64.wrap (d11.2.2+1))))))∧((decide (d11.2.2<(d7.length:Int)))=false→J9 (d11.1,d11.2.1))))) (fun d10=>J5 d10))) (fun d6=>J4 (d6.1,(d6.2,(i64.wrap (d3.2.2+1))))))∧((decide (d3.2.2≤(x.2.1.length:Int)))=false→J1 d3.1)))) (fun d2=>K d2 ())
theorem OG{P}(h:Has P FJ){x K}(hw:Ku P x K):Fn P W7 Ex x K:=
 ZF HT h hw
def D1:A0:=
 sr [o1 3 (.asg kF)] (sr [im 4 0,ob 5 .geq 4 (kI 0),im 6 5,gt 7 6 (.mv 0),gt 8 6 (.load false 1 1),gt 9 6 (.bin .lss 7 8),op3 10 6 9 kF,ia 3 10] .ret)
def CN:AFn:=⟨zS8,D1.erase,[.tmp 3],2⟩
def FE(P:Pg)(x:(Int×Int))(K:Bool→Int→Prop):Prop:=
 K (cond (decide (x.1≥0)) (decide (x.1<x.2)) false) x.2
theorem Im{P}(h:Has P CN){x K}(hw:FE P x K):Fn P zS8 AU x K:=
 ZF D1 h hw
end Go.VS
