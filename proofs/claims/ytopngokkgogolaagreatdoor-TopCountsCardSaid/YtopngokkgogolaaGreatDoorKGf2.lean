/- Functions of the program: typed code, and what it says, lifted. -/
import Derived.Test.YtopngokkgogolaaGreatDoorKTxSig
import Derived.KernelRfl
set_option linter.unusedVariables false
set_option linter.unusedSimpArgs false
set_option maxRecDepth 8000
open Int renaming toNat → Qa0
open List renaming getD → Qa1, length → Qa2, replicate → Qa3
namespace Go.VS
open IntKind
def EG:Ar:=
 sr [o1 4 (.asg ni)] (sr [im 14 0,ol 15 14,oT ⟨some 16,.mkSl 1 8 [.int .i64 0] 15 15,none⟩ (some (bI,.leaf)),o1 5 (.alloc [.slice none 0 0]),o0 ⟨none,.store 1 5 16,none⟩] (sq (sr [ld 17 5,ol 18 17,o1 19 (.mv (kI 0))] (.frame (rg [6] 19 7)
 [1005] true (.join [.bx 1005 (.sl bI) tO] (bk 0 (.loop [.si 19,.bx 1005 (.sl bI) tO] (sr [ob 20 .lss 19 18] (sq (cx 20 0) (sq (.frame (rg [6] 21 4) [1005] true (.join [.bx 1005 (.sl bI) tO] (bk 1 (sr [im 21 19,ia 6 21] (rn [ld 22 5,im 23
 6,ox 24 1 22 23,o0 ⟨none,.store 1 24 (kI (-1)),none⟩]))))) (rn [ob 25 .add 19 (kI 1),im 19 25]))))))))) (sr [o1 7 (.alloc [.slice none 0 0])] (sr [o1 26 (.mkf (Ahe,false) [5,7]),ia 8 26] (sq (sr [im 27
 1,ol 28 27,o1 29 (.mv (kI 0))] (.frame (rg [10] 29 8) [1005,1007] true (.join [.bx 1005 (.sl bI) tO,.bx 1007 (.sl bI) tO] (bk 2 (.loop [.si 29,.bx 1005 (.sl bI) tO,.bx 1007 (.sl bI) tO] (sr [ob 30 .lss 29 28] (sq (cx 30 2) (sq (.frame (rg
 [10] 31 5) [1005,1007] true (.join [.bx 1005 (.sl bI) tO,.bx 1007 (.sl bI) tO] (bk 3 (sr [ox 31 1 27 29,ld 32 31,ia 10 32] (rn [im 33 8,im 34 10,oS ⟨some 35,.callv 33 [34],none⟩ BL]))))) (rn [ob 36 .add 29 (kI 1),im
 29 36]))))))))) (sq (.frame (rg [11,13] 37 34) [1005,1007] true (.join [.bx 1005 (.sl bI) tO] (bk 4 (.loop [.bx 1005 (.sl bI) tO,.bx 1007 (.sl bI) tO] (sq (sr [ld 37 7,ol 38 37,ob 39 .gtr 38 (kI 0)] (cx 39 4)) (.frame (rg [11,13] 40 31)
 [1005,1007] true (.join [.bx 1005 (.sl bI) tO,.bx 1007 (.sl bI) tO] (bk 5 (sr [ld 40 7,ld 41 7,ol 42 41,ob 43 .sub 42 (kI 1),ox 44 1 40 43,ld 45 44,ia 11 45] (sr [ld 46 7,ld 47 7,ol 48 47,ob 49 .sub 48 (kI 1),o1 50 (.slK 1 46 none (some
 49)),o0 ⟨none,.store 1 7 50,none⟩] (sr [im 51 0,im 52 11,ox 53 3 51 52,fa 54 0 53,ld 55 54,ol 56 55,o1 57 (.mv (kI 0))] (.frame (rg [13] 57 14) [1005,1007] true (.join [.bx 1005 (.sl bI) tO,.bx 1007 (.sl bI) tO] (bk 6 (.loop [.si 57,.bx
 1005 (.sl bI) tO,.bx 1007 (.sl bI) tO] (sr [ob 58 .lss 57 56] (sq (cx 58 6) (sq (.frame (rg [13] 59 11) [1005,1007] true (.join [.bx 1005 (.sl bI) tO,.bx 1007 (.sl bI) tO] (bk 7 (sr [ox 59 1 55 57,ld 60 59,ia 13 60] (sr [im 61 8,im 62
 13,oS ⟨some 63,.callv 61 [62],none⟩ BL] (rn [ld 64 5,im 65 13,ox 66 1 64 65,ld 67 66,ob 68 .add 67 (kI 1),ox 69 1 64 65,o0 ⟨none,.store 1 69 68,none⟩])))))) (rn [ob 70 .add 57 (kI 1),im 57 70]))))))))))))))))))) (sr
 [ld 71 5,ia 4 71] .ret)))))))
def Dy:AFn:=⟨Am3,EG.erase,[.tmp 4],2⟩
def Hd(P:Pg)(x:((List Commit)×(List Int)))(K:(List Int)→Unit→Prop):Prop:=
 (0≤(x.1.length:Int)∧(x.1.length:Int)≤(x.1.length:Int)∧((8:Nat):Int)*(x.1.length:Int)≤281474976710656)∧
 Ah (D:=(List Int)) (fun J1=>A4 (D:=(Int×(List Int))) ((0:Int),(Qa3 (Qa0 (x.1.length:Int)) (0:Int))) (fun d3 J4=>(((decide (d3.1<((Qa2 (Qa3 (Qa0 (x.1.length:Int)) (0:Int)):Nat):Int)))=true→Ah (D:=(List Int)) (fun J5=>(0≤d3.1∧d3.1<(d3.2.length:Int))∧
 (d3.1.toNat<d3.2.length)∧
 J5 (List.set d3.2 d3.1.toNat (-1:Int))) (fun d6=>J4 ((i64.wrap (d3.1+1)),d6)))∧((decide (d3.1<((Qa2 (Qa3 (Qa0 (x.1.length:Int)) (0:Int)):Nat):Int)))=false→J1 d3.2)))) (fun d2=>Ah (D:=((List Int)×(List Int))) (fun J7=>A4 (D:=(Int×((List Int)×(List Int)))) ((0:Int),(d2,[])) (fun d9 J10=>(((decide (d9.1<(x.2.length:Int)))=true→Ah (D:=((List Int)×(List Int))) (fun J11=>(0≤d9.1∧d9.1<(x.2.length:Int))∧
 (d9.1.toNat<x.2.length)∧
 Fn P Ahe BL ((Qa1 x.2 d9.1.toNat (0:Int)),d9.2) (fun(d13:Unit) (e14:((List Int)×(List Int)))=>J11 e14)) (fun d12=>J10 ((i64.wrap (d9.1+1)),d12)))∧((decide (d9.1<(x.2.length:Int)))=false→J7 d9.2)))) (fun d8=>Ah (D:=(List Int)) (fun J15=>A4 (D:=((List Int)×(List Int))) d8 (fun d17 J18=>(((decide ((d17.2.length:Int)>0))=true→Ah (D:=((List Int)×(List Int))) (fun J19=>(0≤(i64.wrap ((d17.2.length:Int) -1))∧(i64.wrap ((d17.2.length:Int) -1))<(d17.2.length:Int))∧
 ((Qa0 (i64.wrap ((d17.2.length:Int) -1)))<d17.2.length)∧
 (0≤(i64.wrap ((d17.2.length:Int) -1))∧(i64.wrap ((d17.2.length:Int) -1))≤(d17.2.length:Int))∧
 (0+(Qa0 (i64.wrap ((d17.2.length:Int) -1)))≤d17.2.length)∧
 (0≤(Qa1 d17.2 (Qa0 (i64.wrap ((d17.2.length:Int) -1))) (0:Int))∧(Qa1 d17.2 (Qa0 (i64.wrap ((d17.2.length:Int) -1))) (0:Int))<(x.1.length:Int))∧
 ((Qa0 (Qa1 d17.2 (Qa0 (i64.wrap ((d17.2.length:Int) -1))) (0:Int)))<x.1.length)∧
 Ah (D:=((List Int)×(List Int))) (fun J21=>A4 (D:=(Int×((List Int)×(List Int)))) ((0:Int),(d17.1,(List.take (Qa0 (i64.wrap ((d17.2.length:Int) -1))) (List.drop 0 d17.2)))) (fun d23 J24=>(((decide (d23.1<((Qa2 (Qa1 x.1 (Qa0 (Qa1 d17.2 (Qa0 (i64.wrap ((d17.2.length:Int) -1))) (0:Int))) Ak).1:Nat):Int)))=true→Ah (D:=((List Int)×(List Int))) (fun J25=>(0≤d23.1∧d23.1<((Qa2 (Qa1 x.1 (Qa0 (Qa1 d17.2 (Qa0 (i64.wrap ((d17.2.length:Int) -1))) (0:Int))) Ak).1:Nat):Int))∧
 (d23.1.toNat<Qa2 (Qa1 x.1 (Qa0 (Qa1 d17.2 (Qa0 (i64.wrap ((d17.2.length:Int) -1))) (0:Int))) Ak).1)∧
 Fn P Ahe BL ((Qa1 (Qa1 x.1 (Qa0 (Qa1 d17.2 (Qa0 (i64.wrap ((d17.2.length:Int) -1))) (0:Int))) Ak).1 d23.1.toNat (0:Int)),d23.2) (fun(d27:Unit) (e28:((List Int)×(List Int)))=>(0≤(Qa1 (Qa1 x.1 (Qa0 (Qa1 d17.2 (Qa0 (i64.wrap ((d17.2.length:Int) -1))) (0:Int))) Ak).1 d23.1.toNat (0:Int))∧(Qa1 (Qa1 x.1 (Qa0 (Qa1 d17.2 (Qa0 (i64.wrap ((d17.2.length:Int) -1))) (0:Int))) Ak).1 d23.1.toNat (0:Int))<(e28.1.length:Int))∧
 ((Qa0 (Qa1 (Qa1 x.1 (Qa0 (Qa1 d17.2 (Qa0 (i64.wrap ((d17.2.length:Int) -1))) (0:Int))) Ak).1 d23.1.toNat (0:Int)))<e28.1.length)∧
 (0≤(Qa1 (Qa1 x.1 (Qa0 (Qa1 d17.2 (Qa0 (i64.wrap ((d17.2.length:Int) -1))) (0:Int))) Ak).1 d23.1.toNat (0:Int))∧(Qa1 (Qa1 x.1 (Qa0 (Qa1 d17.2 (Qa0 (i64.wrap ((d17.2.length:Int) -1))) (0:Int))) Ak).1 d23.1.toNat (0:Int))<(e28.1.length:Int))∧
 ((Qa0 (Qa1 (Qa1 x.1 (Qa0 (Qa1 d17.2 (Qa0 (i64.wrap ((d17.2.length:Int) -1))) (0:Int))) Ak).1 d23.1.toNat (0:Int)))<e28.1.length)∧
 J25 ((List.set e28.1 (Qa0 (Qa1 (Qa1 x.1 (Qa0 (Qa1 d17.2 (Qa0 (i64.wrap ((d17.2.length:Int) -1))) (0:Int))) Ak).1 d23.1.toNat (0:Int))) (i64.wrap ((Qa1 e28.1 (Qa0 (Qa1 (Qa1 x.1 (Qa0 (Qa1 d17.2 (Qa0 (i64.wrap ((d17.2.length:Int) -1))) (0:Int))) Ak).1 d23.1.toNat (0:Int))) (0:Int))+1))),e28.2))) (fun d26=>J24 ((i64.wrap (d23.1+1)),d26)))∧((decide (d23.1<((Qa2 (Qa1 x.1 (Qa0 (Qa1 d17.2 (Qa0 (i64.wrap ((d17.2.length:Int) -1))) (0:Int))) Ak).1:Nat):Int)))=false→J21 d23.2)))) (fun d22=>J19 d22)) (fun d20=>J18 d20))∧((decide ((d17.2.length:Int)>0))=false→J15 d17.1)))) (fun d16=>K d16 ())))
theorem L5{P}(h:Has P Dy){x K}(hw:Hd P x K):Fn P Am3 Dz x K:=
 zF EG h hw
def KJ:Ar:=
 sr [o1 3 (.box 1),ia 4 (kI 0)] (sq (.frame (rg [] 5 10) [0] true (.join [.bx 0 AK (.pair .leaf (.pair .leaf (.pair .leaf (.node .own (.pair .leaf (.pair .leaf (.pair .leaf (.pair .leaf tM))))))))] (.draw [ti (im 5 0) (ti (im 6 0)
 (ti (o1 7 (.nilc 6)) (ti (fa 8 3 7) (ti (o1 10 (.load true 8 3)) (.alt (ld 9 8) (.alt (oT ⟨some 11,.buildSl 8 [.int .i64 0,.int .u64 0,.int .u64 0,.int .u64 0,.int .u64 0,.int .i64 0,.int .i64 0,.slice none 0 0] 1 [(0,10)],none⟩ (some
 (HC,.pair .leaf (.pair .leaf (.pair .leaf (.pair .leaf tM)))))) (.alt (oT ⟨some 12,.app 8 80 9 11,none⟩ (some (HC,.pair .leaf (.pair .leaf (.pair .leaf (.pair .leaf tM)))))) (ti (o1 13 (.nilc 5)) (ti (fa 14 3 13) (.alt (o0
 ⟨none,.store 1 14 12,none⟩) .done .stop))) .stop) .stop) (.alt (oT ⟨some 11,.buildSl 8 [.int .i64 0,.int .u64 0,.int .u64 0,.int .u64 0,.int .u64 0,.int .i64 0,.int .i64 0,.slice none 0 0] 1 [(0,10)],none⟩ (some (HC,.pair .leaf (.pair
 .leaf (.pair .leaf (.pair .leaf tM)))))) (ti (ld 9 8) (.alt (oT ⟨some 12,.app 8 80 9 11,none⟩ (some (HC,.pair .leaf (.pair .leaf (.pair .leaf (.pair .leaf tM)))))) (ti (o1 13 (.nilc 5)) (ti (fa 14 3 13) (.alt (o0 ⟨none,.store 1 14
 12,none⟩) .done .stop))) .stop)) .stop))))))]))) (sr [im 15 0,o1 16 (.nilc 15),fa 17 3 16,ld 18 17,ol 19 18,ob 20 .sub 19 (kI 1),ia 4 20] .ret))
def G1:AFn:=⟨Ahf,KJ.erase,[.tmp 4],2⟩
def I2:Ar:=
 sr [ia 6 (kI 0)] (sq (sr [im 7 2,ol 8 7] (.frame (rg [6] 9 10) [0] true (.join [.si 6,.bx 0 AK (.pair .leaf (.pair .leaf (.pair .leaf (.node .own (.pair .leaf (.pair .leaf (.pair .leaf (.pair .leaf tM))))))))] (bk 0 (sr [ob 10
 .eql 8 (kI 0),ia 9 10] (cn 9 (sr [im 11 0,o1 12 (.build [.int .i64 0,.int .u64 0,.int .u64 0,.int .u64 0,.int .u64 0,.int .i64 0,.int .i64 0,.slice none 0 0] []),oc 13 Ahf [11,12] C9,ia 6 13]
 .ret) (sr [ob 15 .eql 8 (kI 1),ia 14 15] (cn 14 (sr [im 16 2,ox 17 1 16 (kI 0),ld 18 17,ia 6 18] .ret) .skip)))))))) (sr [im 19 0,im 20 1,im 21 2,o1 22 (.build [.int .i64 0,.int .u64 0,.int .u64 0,.int .u64 0,.int .u64 0,.int .i64 0,.int
 .i64 0,.slice none 0 0] [(0,1,20),(7,1,21)]),oc 23 Ahf [19,22] C9,ia 6 23] .ret))
def FA:AFn:=⟨Am4,I2.erase,[.tmp 6],3⟩
def Jn:Ar:=
 sr [o1 2 (.asg (.c (.int .u8 0))),o1 3 (.asg kF)] (sq (sq (.draw [ti (im 4 0) (ti (o1 5 (.nilc 4)) (ti (fa 6 1 5) (ti (ld 7 6) (ti (im 8 0) (ti (o1 9 (.nilc 8)) (ti (fa 10 0 9) (ti (ld 11 10) (ti (o1 12 (.lenS 11)) (ti (ob 13 .eql 7 12)
 .done)))))))))]) (cn 13 (sr [o1 2 (.asg (.c (.int .u8 0))),o1 3 (.asg kF)] .ret) .skip)) (sq (fk [2,3] 14 9 (.join [.sl 2 false (.int .u8) .leaf,.sl 3 false .bool .leaf] (.draw [ti (im 14 0) (ti (o1 15 (.nilc 14)) (ti (fa 16 0 15) (ti (ld
 17 16) (ti (im 18 0) (ti (o1 19 (.nilc 18)) (ti (fa 20 1 19) (ti (ld 21 20) (ti (o1 22 (.ixS 17 21)) (.alt (ia 2 22) (.alt (o1 3 (.asg kT)) .done .stop) .stop)))))))))]))) .ret))
def Gu:AFn:=⟨AjE,Jn.erase,[.tmp 2,.tmp 3],1⟩
def Ib:Ar:=
 sr [ia 4 (kI 0)] (sr [im 8 0,o1 9 (.nilc 8),fa 10 1 9,ld 11 10,ob 12 .add 11 (kI 1),o1 13 (.nilc 8),fa 14 1 13,o0 ⟨none,.store 1 14 12,none⟩] (sr [im 15 0,im 16 1,o1 17 (.build [.int .i64 0,.int .u64 0,.int .u64 0,.int .u64 0,.int .u64
 0,.int .i64 0,.int .i64 0,.slice none 0 0] [(0,1,16)]),oc 18 Ahf [15,17] C9,ia 5 18] (sq (sr [im 20 0,oc 21 AjE [20] DK,im 19 21,oe 22 19 0,oe 23 19
 1,ia 6 22,ia 7 23] (sr [im 24 7,im 25 24,gt 26 25 (.mv 6),oS ⟨some 27,.call "strings.IndexByte" [.c (.string ⟨#[42,43,63,123]⟩),26],some (25,true)⟩ PJ,gt 28 25 (.bin .geq 27 (kI 0)),op3 29 25 28 kF] (.frame [30] [] false
 (.join [] (cn 29 (rn [o1 30 (.mkI 29 (kI 40)),o0 ⟨none,.panic 30,none⟩]) .skip))))) (sr [im 31 5,ia 4 31] .ret))))
def Fi:AFn:=⟨Am5,Ib.erase,[.tmp 4],2⟩
def Jo:Ar:=
 sr [o1 4 (.asg (.c .nilFunc))] (sq (sr [im 5 1] (fj [4] 6 22 [] (bk 0 (sr [ob 7 .eql 5 (.c (.int .u8 40)),ia 6 7] (cn 6 (sr [im 8 0,o1 9 (.mkf (Aoo,true) [8]),ia 4 9] .ret) (sr [ob 11 .eql 5 (.c (.int .u8
 91)),ia 10 11] (cn 10 (sr [im 12 0,o1 13 (.mkf ("(*mergelens/regex.parser).class",true) [12]),ia 4 13] .ret) (sr [ob 15 .eql 5 (.c (.int .u8 46)),ia 14 15] (cn 14 (sr [im 16 0,o1 17 (.mkf ("(*mergelens/regex.parser).any",true) [16]),ia 4
 17] .ret) (sr [ob 19 .eql 5 (.c (.int .u8 92)),ia 18 19] (cn 18 (sr [im 20 0,o1 21 (.mkf ("(*mergelens/regex.parser).escape",true) [20]),ia 4 21] .ret) (sq (sr [ob 23 .eql 5 (.c (.int .u8 42)),ia 22 23] (.frame [22,24,25,26] [] false
 (.join [.sl 22 false .bool .leaf] (cn 22 .skip (sr [ob 24 .eql 5 (.c (.int .u8 43)),ia 22 24] (.frame [22,25,26] [] false (.join [.sl 22 false .bool .leaf] (cn 22 .skip (sr [ob 25 .eql 5 (.c (.int .u8 63)),ia 22 25] (.frame [22,26] []
 false (.join [.sl 22 false .bool .leaf] (cn 22 .skip (rn [ob 26 .eql 5 (.c (.int .u8 123)),ia 22 26]))))))))))))) (.frame [27] [] false (.join [] (cn 22 (rn [o1 27 (.mkI 29 (kI 40)),o0 ⟨none,.panic 27,none⟩]) .skip))))))))))))))) (sr [im
 28 0,o1 29 (.mkf (An1,true) [28]),ia 4 29] .ret))
def Gv:AFn:=⟨ "(*mergelens/regex.parser).step",Jo.erase,[.tmp 4],2⟩
def KK:Ar:=
 sr [o1 4 (.asg kF)] (sr [im 8 0,oc 9 AjE [8] DK,im 7 9,oe 10 7 0,oe 11 7 1,ia 5 10,ia 6 11] (sq (sr [im 12 6,o1 13 (.un .not 12),im 14 13,gf 15 14 (.mv 5),gf 16 14 (.mv 1),gf 17 14 (.bin .neq 15
 16),op3 18 14 kT 17] (cn 18 (sr [o1 4 (.asg kF)] .ret) .skip)) (sr [im 19 0,o1 20 (.nilc 19),fa 21 1 20,ld 22 21,ob 23 .add 22 (kI 1),o1 24 (.nilc 19),fa 25 1 24,o0 ⟨none,.store 1 25 23,none⟩] (sr [o1 4 (.asg kT)] .ret))))
def G2:AFn:=⟨An0,KK.erase,[.tmp 4],2⟩
def Gq:Ar:=
 sr [ia 2 (kI 0),ia 3 (kI 0),o1 4 (.asg kF)] (sq (.frame (rg [] 2 22) [0] true (.join [.si 2,.si 3,.sl 4 false .bool .leaf,.bx 0 AK (.pair .leaf (.pair .leaf (.pair .leaf (.node .own (.pair .leaf (.pair .leaf (.pair .leaf (.pair
 .leaf tM))))))))] (bk 0 (sr [im 6 0,oc 7 An0 [6,.c (.int .u8 42)] Da,ia 5 7] (cn 5 (sr [ia 2 (kI 0),ia 3 (kI (-1)),o1 4 (.asg kT)] .ret) (sr [im 9 0,oc 10 An0 [9,.c
 (.int .u8 43)] Da,ia 8 10] (cn 8 (sr [ia 2 (kI 1),ia 3 (kI (-1)),o1 4 (.asg kT)] .ret) (sr [im 12 0,oc 13 An0 [12,.c (.int .u8 63)] Da,ia 11 13] (cn 11 (sr [ia 2 (kI 0),ia 3 (kI
 1),o1 4 (.asg kT)] .ret) (sr [im 15 0,oc 16 An0 [15,.c (.int .u8 123)] Da,ia 14 16] (cn 14 (sr [im 18 0,oc 19 "(*mergelens/regex.parser).bounds" [18] N2,im 17 19,oe 20 17 0,oe
 21 17 1,ia 2 20,ia 3 21] (sr [im 22 2,im 23 3,ia 2 22,ia 3 23,o1 4 (.asg kT)] .ret)) .skip))))))))))) (sr [ia 2 (kI 0),ia 3 (kI 0),o1 4 (.asg kF)] .ret))
def Ed:AFn:=⟨An5,Gq.erase,[.tmp 2,.tmp 3,.tmp 4],1⟩
def KL:Ar:=
 sr [o1 3 (.box 1),ia 4 (kI 0)] (sr [im 5 0,o1 6 (.load true 4 3),o1 7 (.build [.int .i64 0,.int .u64 0,.int .u64 0,.int .u64 0,.int .u64 0,.int .i64 0,.int .i64 0,.slice none 0 0] [(0,1,kI 1),(1,4,6)]),oc 8 Ahf
 [5,7] C9,ia 4 8] .ret)
def G3:AFn:=⟨ "(*mergelens/regex.parser).set",KL.erase,[.tmp 4],2⟩
def MS:Ar:=
 sr [o1 2 (.box 0),o1 4 (.alloc [.int .u64 0,.int .u64 0,.int .u64 0,.int .u64 0])] (sr [im 5 1,ob 6 .quo 5 (.c (.int .u8 64)),o1 7 (.ixAr 4 1 2 6),ld 8 7,im 9 1,ob 10 .rem 9 (.c (.int .u8 64)),ob 11 .shl (.c (.int .u64 1)) 10,ob 12 .or 8
 11,o1 13 (.ixAr 4 1 2 6),o0 ⟨none,.store 1 13 12,none⟩] (sr [o1 14 (.load true 4 2),o0 ⟨none,.store 4 4 14,none⟩] .ret))
def Ih:AFn:=⟨ "(mergelens/regex.set).with",MS.erase,[.cell 4 true 4],2⟩
def Jp:Ar:=
 sr [o1 2 (.asg (.c (.int .u8 0)))] (sr [im 6 0,oc 7 AjE [6] DK,im 5 7,oe 8 5 0,oe 9 5 1,ia 3 8,ia 4 9] (sq (sr [im 10 4,o1 11 (.un .not 10)] (.frame [12] [] false (.join [] (cn 11 (rn [o1 12
 (.mkI 29 (kI 40)),o0 ⟨none,.panic 12,none⟩]) .skip)))) (sr [im 13 0,o1 14 (.nilc 13),fa 15 1 14,ld 16 15,ob 17 .add 16 (kI 1),o1 18 (.nilc 13),fa 19 1 18,o0 ⟨none,.store 1 19 17,none⟩] (sr [im 20 3,ia 2 20] .ret))))
def Gw:AFn:=⟨ "(*mergelens/regex.parser).take",Jp.erase,[.tmp 2],1⟩
def Ic:Ar:=
 sr [ia 2 (kI 0)] (sr [im 3 0,o1 4 (.build [.int .u64 0,.int .u64 0,.int .u64 0,.int .u64 0] []),im 5 0,oc 6 "(*mergelens/regex.parser).take" [5] Jk,oc 7 "(mergelens/regex.set).with" [4,6] Mn,oc 8
 "(*mergelens/regex.parser).set" [3,7] JX,ia 2 8] .ret)
def Fj:AFn:=⟨An1,Ic.erase,[.tmp 2],1⟩
def I3:Ar:=
 sr [ia 4 (kI 0)] (sq (sr [im 10 1] (.frame (rg [4] 11 8) [0] true (.join [.si 4,.bx 0 AK (.pair .leaf (.pair .leaf (.pair .leaf (.node .own (.pair .leaf (.pair .leaf (.pair .leaf (.pair .leaf tM))))))))] (bk 0 (sr [ob 12 .eql 10
 (.c (.int .u8 94)),ia 11 12] (cn 11 (sr [im 13 0,oc 14 Am5 [13,kI 2] Fm,ia 4 14] .ret) (sr [ob 16 .eql 10 (.c (.int .u8 36)),ia 15 16] (cn 15 (sr [im 17 0,oc 18
 Am5 [17,kI 3] Fm,ia 4 18] .ret) .skip)))))))) (sr [im 19 0,im 20 1,oc 21 "(*mergelens/regex.parser).step" [19,20] Jj,ia 5 21] (sr [im 22 5,oS ⟨some 23,.callv 22 [],none⟩
 JW,ia 6 23] (sr [im 25 0,oc 26 An5 [25] Gi,im 24 26,oe 27 24 0,oe 28 24 1,oe 29 24 2,ia 7 27,ia 8 28,ia 9 29] (sq (sr [im 30 9,o1 31 (.un .not 30)] (cn 31
 (sr [im 32 6,ia 4 32] .ret) .skip)) (sr [im 33 0,im 34 7,im 35 8,im 36 6,⟨⟨some 37,.buildSl 1 [.int .i64 0] 1 [(0,36)],none⟩,some (bI,.leaf),⟨[],[]⟩,true,none,false,false⟩,o1 38 (.build [.int .i64 0,.int .u64 0,.int .u64 0,.int .u64 0,.int
 .u64 0,.int .i64 0,.int .i64 0,.slice none 0 0] [(0,1,kI 6),(5,1,34),(6,1,35),(7,1,37)]),oc 39 Ahf [33,38] C9,ia 4 39] .ret))))))
def FB:AFn:=⟨ "(*mergelens/regex.parser).piece",I3.erase,[.tmp 4],2⟩
def FU:Ar:=
 sr [ia 2 (kI 0)] (sr [o1 3 (.asg ni)] (.frame (rg [] 2 28) [0] true (bk 0 (.loop [.si 2,.sl 3 false (.sl bI) tO,.bx 0 AK (.pair .leaf (.pair .leaf (.pair .leaf (.node .own (.pair .leaf (.pair .leaf (.pair .leaf (.pair .leaf
 tM))))))))] (.frame (rg [] 2 28) [0] true (.join [.si 2,.sl 3 false (.sl bI) tO,.bx 0 AK (.pair .leaf (.pair .leaf (.pair .leaf (.node .own (.pair .leaf (.pair .leaf (.pair .leaf (.pair .leaf tM))))))))] (bk 1 (sr [im 7 0,oc 8
 AjE [7] DK,im 6 8,oe 9 6 0,oe 10 6 1,ia 4 9,ia 5 10] (sq (sr [im 11 5,o1 12 (.un .not 11),im 13 12,gf 14 13 (.mv 4),gf 15 13 (.bin .eql 14 (.c (.int .u8 124))),op3 16 13 kT 15,im 17 16,gf 18 17
 (.mv 4),gf 19 17 (.bin .eql 18 (.c (.int .u8 41))),op3 20 17 kT 19] (cn 20 (sq (.frz [3] (rn [im 21 0,im 22 3,oc 23 Am4 [21,kI 4,22] FG,ia 2 23])) .ret) .skip)) (rn [im 24 3,im 25 0,im 26
 4,oc 27 "(*mergelens/regex.parser).piece" [25,26] IM,oT ⟨some 28,.buildSl 1 [.int .i64 0] 1 [(0,27)],none⟩ (some (bI,.leaf)),oT ⟨some 29,.app 1 8 24 28,none⟩ (some (bI,.leaf)),ia 3 29]))))))))))
def D0:AFn:=⟨Am6,FU.erase,[.tmp 2],1⟩
def HT:Ar:=
 sr [ia 2 (kI 0)] (sr [im 4 0,oc 5 Am6 [4] D1,oT ⟨some 6,.buildSl 1 [.int .i64 0] 1 [(0,5)],none⟩ (some (bI,.leaf)),ia 3 6] (sq (.frame (rg [3] 7 7) [0] true (.join [.sl 3 false
 (.sl bI) tO,.bx 0 AK (.pair .leaf (.pair .leaf (.pair .leaf (.node .own (.pair .leaf (.pair .leaf (.pair .leaf (.pair .leaf tM))))))))] (bk 0 (.loop [.sl 3 false (.sl bI) tO,.bx 0 AK (.pair .leaf (.pair .leaf (.pair
 .leaf (.node .own (.pair .leaf (.pair .leaf (.pair .leaf (.pair .leaf tM))))))))] (sq (sr [im 7 0,oc 8 An0 [7,.c (.int .u8 124)] Da] (cx 8 0)) (.frame (rg [3] 9 5) [0] true (.join [.sl 3 false
 (.sl bI) tO,.bx 0 AK (.pair .leaf (.pair .leaf (.pair .leaf (.node .own (.pair .leaf (.pair .leaf (.pair .leaf (.pair .leaf tM))))))))] (bk 1 (rn [im 9 3,im 10 0,oc 11 Am6 [10]
 D1,oT ⟨some 12,.buildSl 1 [.int .i64 0] 1 [(0,11)],none⟩ (some (bI,.leaf)),oT ⟨some 13,.app 1 8 9 12,none⟩ (some (bI,.leaf)),ia 3 13]))))))))) (sq (.frz [3] (rn [im 14 0,im 15 3,oc 16
 Am4 [14,kI 5,15] FG,ia 2 16])) .ret)))
def EL:AFn:=⟨An6,HT.erase,[.tmp 2],1⟩
def Pa:Ar:=
 sr [ia 4 (kI 0)] (sq (sr [im 6 0,oc 7 zS3 [6] CN,ia 5 7] (sr [im 8 5,ob 9 .neq 8 (kI 0)] (cn 9 (sr [im 10 5,ia 4 10] .ret) .skip))) (sr [im 11 1,oc 12 zS3 [11] CN,ia 4 12] .ret))
def Ll:AFn:=⟨ "mergelens/tree.both",Pa.erase,[.tmp 4],2⟩
def Uf(P:Pg)(x:((List (Bt8×Bt8))×(List (Bt8×Bt8))))(K:Int→Unit→Prop):Prop:=
 Fn P zS3 CN x.1 (fun(d1:Int) _=>(((d1 !=0)=true→K d1 ())∧((d1 !=0)=false→Fn P zS3 CN x.2 (fun(d3:Int) _=>K d3 ()))))
theorem Zv{P}(h:Has P Ll){x K}(hw:Uf P x K):Fn P "mergelens/tree.both" Lv x K:=
 zF Pa h hw
end Go.VS
