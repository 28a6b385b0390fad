/- Functions of the program: typed code, and what it says, lifted. -/
import Derived.Test.YtfkfmokccekccaaDoorKTxSig
import Derived.KernelRfl
set_option linter.unusedVariables false
set_option linter.unusedSimpArgs false
set_option maxRecDepth 8000
namespace Go.VS
open IntKind
def AbI:Bq:=
 sr [o1 4 (.asg kF)] (sr [im 26 0,oc 27 XO [26] AbM,im 25 27,oe 28 25 0,oe 29 25 1,ia 5 28,ia 6 29] (sr [im 30 1,oc 31 zS1 [30,kI 100] B2,ob 32 .add (kI 1) 31,ia 1 32]
 (sr [im 34 5,im 35 6,im 36 1,oc 37 XT [34,35,36] AbW,im 33 37,oe 38 33 0,oe 39 33 1,ia 7 38,ia 8 39] (sq (sr [im 40 8,ob 41 .neq 40 (kI 0)] (cn 41 (sr [o1 4 (.asg kF)] .ret) .skip)) (sq (sr [ia 9 (kI
 0)] (fk [4,9,10,11,12,13,14,15,16,17,18,19,20] 42 116 (.join [.sl 4 false .bool .leaf] (bk 0 (.loop [.sl 4 false .bool .leaf,.si 9] (sq (sr [im 42 9,im 43 7,ol 44 43,ob 45 .lss 42 44] (cx 45 0)) (sq (fk [4,10,11,12,13,14,15,16,17,18,19,20]
 48 110 (.join [.sl 4 false .bool .leaf] (bk 1 (sr [im 49 5,im 50 7,im 51 9,ox 52 3 50 51,fa 53 0 52,ld 54 53,oc 55 zS3 [49,54] Abm,im 48 55,oe 56 48 0,oe 57 48 1,ia 10 56,ia 11 57] (sr [im 59 6,im 60
 7,im 61 9,ox 62 3 60 61,fa 63 1 62,ld 64 63,oc 65 zS3 [59,64] Abm,im 58 65,oe 66 58 0,oe 67 58 1,ia 12 66,ia 13 67] (sr [im 69 6,im 70 7,im 71 9,ox 72 3 70 71,fa 73 0 72,ld 74 73,oc 75
 zS3 [69,74] Abm,im 68 75,oe 76 68 0,oe 77 68 1,ia 14 76,ia 15 77] (sr [im 79 5,im 80 7,im 81 9,ox 82 3 80 81,fa 83 1 82,ld 84 83,oc 85 zS3 [79,84] Abm,im 78 85,oe 86
 78 0,oe 87 78 1,ia 16 86,ia 17 87] (sr [im 89 10,im 90 12,oc 91 zS4 [89,90] Abg,im 88 91,oe 92 88 0,oe 93 88 1,ia 18 92,ia 19 93] (sq (sq (.draw [ti (im 94 11) (ti (o1 95 (.un .not 94)) (ti (im 96 95) (ti
 (gf 97 96 (.mv 13)) (ti (gf 98 96 (.un .not 97)) (ti (op3 99 96 kT 98) (ti (im 100 99) (ti (gf 101 100 (.mv 15)) (ti (op3 102 100 kT 101) (ti (im 103 102) (ti (gf 104 103 (.mv 17)) (ti (op3 105 103 kT 104) (ti (im 106 105) (ti (gf 107 106
 (.mv 19)) (ti (gf 108 106 (.bin .neq 107 (kI 0))) (ti (op3 109 106 kT 108) (ti (im 110 109) (ti (gf 111 110 (.mv 18)) (ti (gf 112 110 (.mv 7)) (ti (gf 113 110 (.mv 9)) (ti (gf 114 110 (.ixA 3 112 113)) (ti (gf 115 110 (.fAddr 2 114)) (ti
 (gf 116 110 (.load false 1 115)) (ti (gf 117 110 (.bin .neq 111 116)) (ti (op3 118 110 kT 117) (ti (im 119 118) (ti (gf 120 119 (.mv 18)) (ti (gf 121 119 (.mv 1)) (ti (gf 122 119 (.bin .lss 120 121)) (ti (op3 123 119 kT 122) (ti (im 124
 123) (ti (gf 125 124 (.mv 9)) (ti (gf 126 124 (.bin .gtr 125 (kI 0))) (ti (gf 127 124 (.mv 126)) (ti (gt 128 127 (.mv 7)) (ti (gt 129 127 (.mv 9)) (ti (gt 130 127 (.ixA 3 128 129)) (ti (gt 131 127 (.fAddr 1 130)) (ti (gt 132 127 (.load
 false 1 131)) (ti (gt 133 127 (.mv 7)) (ti (gt 134 127 (.mv 9)) (ti (gt 135 127 (.bin .sub 134 (kI 1))) (ti (gt 136 127 (.ixA 3 133 135)) (ti (gt 137 127 (.fAddr 1 136)) (ti (gt 138 127 (.load false 1 137)) (ti (gt 139 127 (.bin .leq 132
 138)) (ti (gf 140 124 (.pick 127 139 kF)) (ti (op3 141 124 kT 140) .done)))))))))))))))))))))))))))))))))))))))))))))))]) (cn 141 (sr [o1 4 (.asg kF)] .ret) .skip)) (sr [ia 20 (kI 0)] (fk [4,20] 142 16 (.join [.sl 4 false .bool .leaf] (bk
 2 (.loop [.sl 4 false .bool .leaf,.si 20] (sq (sr [im 142 20,im 143 9,ob 144 .lss 142 143] (cx 144 2)) (sq (fk [4] 147 11 (.join [.sl 4 false .bool .leaf] (bk 3 (sq (.draw [ti (im 147 7) (ti (im 148 20) (ti (ox 149 3 147 148) (ti (fa 150 0
 149) (ti (ld 151 150) (ti (im 152 7) (ti (im 153 9) (ti (ox 154 3 152 153) (ti (fa 155 0 154) (ti (ld 156 155) (ti (ob 157 .eql 151 156) .done))))))))))]) (cn 157 (sr [o1 4 (.asg kF)] .ret) .skip))))) (rn [im 145 20,ob 146 .add 145 (kI
 1),ia 20 146]))))))))))))))))) (rn [im 46 9,ob 47 .add 46 (kI 1),ia 9 47])))))))) (sq (sr [ia 21 (kI 0)] (fk [4,21,22,23,24] 158 48 (.join [.sl 4 false .bool .leaf] (bk 4 (.loop [.sl 4 false .bool .leaf,.si 21] (sq (sr [im 158 21,im 159
 5,ol 160 159,ob 161 .lss 158 160] (cx 161 4)) (sq (fk [4,22,23,24] 164 42 (.join [.sl 4 false .bool .leaf] (bk 5 (sr [ia 22 (kI 0)] (fk [4,22,23,24] 164 42 (.join [.sl 4 false .bool .leaf] (bk 6 (.loop [.sl 4 false .bool .leaf,.si 22] (sq
 (sr [im 164 22,im 165 6,ol 166 165,ob 167 .lss 164 166] (cx 167 6)) (sq (fk [4,23,24] 170 36 (.join [.sl 4 false .bool .leaf] (bk 7 (sq (fj [23,24] 170 14 [23,24] (.draw [ti (im 171 5) (ti (im 172 21) (ti (ox 173 2 171 172) (ti (fa 174 1
 173) (ti (ld 175 174) (ti (im 176 6) (ti (im 177 22) (ti (ox 178 2 176 177) (ti (fa 179 1 178) (ti (ld 180 179) (.alt (oc 181 zS4 [175,180] Abg) (ti (im 170 181) (.alt (oe 182 170 0) (.alt (oe 183 170 1)
 (.alt (ia 23 182) (.alt (ia 24 183) .done .stop) .stop) (.alt (ia 23 182) (.alt (oe 183 170 1) (.alt (ia 24 183) .done .stop) .stop) .stop)) (.alt (oe 183 170 1) (.alt (oe 182 170 0) (.alt (ia 23 182) (.alt (ia 24 183) .done .stop) .stop)
 .stop) .stop))) .stop))))))))))])) (sq (fk [] 184 22 (.join [.sl 205 false .bool .leaf] (.draw [ti (im 184 24) (ti (ob 185 .neq 184 (kI 0)) (ti (im 186 185) (ti (gf 187 186 (.mv 23)) (ti (gf 188 186 (.mv 1)) (ti (gf 189 186 (.bin .geq 187
 188)) (ti (gf 190 186 (.mv 189)) (ti (gt 191 190 (.mv 7)) (ti (gt 192 190 (.mv 5)) (ti (gt 193 190 (.mv 21)) (ti (gt 194 190 (.ixA 2 192 193)) (ti (gt 195 190 (.fAddr 0 194)) (ti (gt 196 190 (.load false 1 195)) (ti (gt 197 190 (.mv 6))
 (ti (gt 198 190 (.mv 22)) (ti (gt 199 190 (.ixA 2 197 198)) (ti (gt 200 190 (.fAddr 0 199)) (ti (gt 201 190 (.load false 1 200)) (.alt (oS ⟨some 202,.call XP [191,196,201],some (190,true)⟩ AbV) (ti (gt
 203 190 (.un .not 202)) (ti (gf 204 186 (.pick 190 203 kF)) (ti (op3 205 186 kT 204) .done))) .stop))))))))))))))))))]))) (cn 205 (sr [o1 4 (.asg kF)] .ret) .skip)))))) (rn [im 168 22,ob 169 .add 168 (kI 1),ia 22 169]))))))))))) (rn [im
 162 21,ob 163 .add 162 (kI 1),ia 21 163])))))))) (sr [oc 206 XL [] AbE,ia 4 206] .ret)))))))
def Aby:AFn:=⟨YR,AbI.erase,[.tmp 4],2⟩
def Ab6(P:Pg)(x:((List Int)×Int))(K:Bool→Unit→Prop):Prop:=
 Fn P XO AbM x.1 (fun(d1:((List ((List UInt8)×(List UInt8)))×(List ((List UInt8)×(List UInt8))))) (e2:Unit)=>Fn P zS1 B2 (x.2,(100:Int)) (fun(d3:Int) (e4:Unit)=>Fn P XT AbW (d1.1,(d1.2,(i64.wrap ((1:Int)+d3)))) (fun(d5:((List Rename)×Int)) (e6:Unit)=>(((d5.2 !=(0:Int))=true→K false ())∧((d5.2 !=(0:Int))=false→Av (D:=Bool) (fun J7=>DD (D:=(Bool×Int)) (false,(0:Int)) (fun d9 J10=>(((decide (d9.2<(d5.1.length:Int)))=true→Av (D:=Bool) (fun J11=>(0≤d9.2∧d9.2<(d5.1.length:Int))∧
 (d9.2.toNat<d5.1.length)∧
 Fn P zS3 Abm (d1.1,(List.getD d5.1 d9.2.toNat AaK).1) (fun(d13:((List UInt8)×Bool)) (e14:Unit)=>(0≤d9.2∧d9.2<(d5.1.length:Int))∧
 (d9.2.toNat<d5.1.length)∧
 Fn P zS3 Abm (d1.2,(List.getD d5.1 d9.2.toNat AaK).2.1) (fun(d15:((List UInt8)×Bool)) (e16:Unit)=>(0≤d9.2∧d9.2<(d5.1.length:Int))∧
 (d9.2.toNat<d5.1.length)∧
 Fn P zS3 Abm (d1.2,(List.getD d5.1 d9.2.toNat AaK).1) (fun(d17:((List UInt8)×Bool)) (e18:Unit)=>(0≤d9.2∧d9.2<(d5.1.length:Int))∧
 (d9.2.toNat<d5.1.length)∧
 Fn P zS3 Abm (d1.1,(List.getD d5.1 d9.2.toNat AaK).2.1) (fun(d19:((List UInt8)×Bool)) (e20:Unit)=>Fn P zS4 Abg (d13.1,d15.1) (fun(d21:(Int×Int)) (e22:Unit)=>(((cond (cond (cond (cond (!d13.2) true (!d15.2)) true d17.2) true d19.2) true (d21.2 !=(0:Int)))=false→0≤d9.2∧d9.2<(d5.1.length:Int)))∧
 (((cond (cond (cond (cond (!d13.2) true (!d15.2)) true d17.2) true d19.2) true (d21.2 !=(0:Int)))=false→d9.2.toNat<d5.1.length))∧
 (((decide (d9.2>(0:Int)))=true→((cond (cond (cond (cond (cond (cond (!d13.2) true (!d15.2)) true d17.2) true d19.2) true (d21.2 !=(0:Int))) true (d21.1 !=(List.getD d5.1 d9.2.toNat AaK).2.2)) true (decide (d21.1<(i64.wrap ((1:Int)+d3)))))=false→0≤d9.2∧d9.2<(d5.1.length:Int))))∧
 (((decide (d9.2>(0:Int)))=true→((cond (cond (cond (cond (cond (cond (!d13.2) true (!d15.2)) true d17.2) true d19.2) true (d21.2 !=(0:Int))) true (d21.1 !=(List.getD d5.1 d9.2.toNat AaK).2.2)) true (decide (d21.1<(i64.wrap ((1:Int)+d3)))))=false→d9.2.toNat<d5.1.length)))∧
 (((decide (d9.2>(0:Int)))=true→((cond (cond (cond (cond (cond (cond (!d13.2) true (!d15.2)) true d17.2) true d19.2) true (d21.2 !=(0:Int))) true (d21.1 !=(List.getD d5.1 d9.2.toNat AaK).2.2)) true (decide (d21.1<(i64.wrap ((1:Int)+d3)))))=false→0≤(i64.wrap (d9.2 -(1:Int)))∧(i64.wrap (d9.2 -(1:Int)))<(d5.1.length:Int))))∧
 (((decide (d9.2>(0:Int)))=true→((cond (cond (cond (cond (cond (cond (!d13.2) true (!d15.2)) true d17.2) true d19.2) true (d21.2 !=(0:Int))) true (d21.1 !=(List.getD d5.1 d9.2.toNat AaK).2.2)) true (decide (d21.1<(i64.wrap ((1:Int)+d3)))))=false→(Int.toNat (i64.wrap (d9.2 -(1:Int))))<d5.1.length)))∧
 (((cond (cond (cond (cond (cond (cond (cond (!d13.2) true (!d15.2)) true d17.2) true d19.2) true (d21.2 !=(0:Int))) true (d21.1 !=(List.getD d5.1 d9.2.toNat AaK).2.2)) true (decide (d21.1<(i64.wrap ((1:Int)+d3))))) true (cond (decide (d9.2>(0:Int))) ((Op.bytesLess (List.getD d5.1 d9.2.toNat AaK).2.1 (List.getD d5.1 (Int.toNat (i64.wrap (d9.2 -(1:Int)))) AaK).2.1)||((List.getD d5.1 d9.2.toNat AaK).2.1==(List.getD d5.1 (Int.toNat (i64.wrap (d9.2 -(1:Int)))) AaK).2.1)) false))=true→K false ())∧((cond (cond (cond (cond (cond (cond (cond (!d13.2) true (!d15.2)) true d17.2) true d19.2) true (d21.2 !=(0:Int))) true (d21.1 !=(List.getD d5.1 d9.2.toNat AaK).2.2)) true (decide (d21.1<(i64.wrap ((1:Int)+d3))))) true (cond (decide (d9.2>(0:Int))) ((Op.bytesLess (List.getD d5.1 d9.2.toNat AaK).2.1 (List.getD d5.1 (Int.toNat (i64.wrap (d9.2 -(1:Int)))) AaK).2.1)||((List.getD d5.1 d9.2.toNat AaK).2.1==(List.getD d5.1 (Int.toNat (i64.wrap (d9.2 -(1:Int)))) AaK).2.1)) false))=false→Av (D:=Bool) (fun J23=>DD (D:=(Bool×Int)) (d9.1,(0:Int)) (fun d25 J26=>(((decide (d25.2<d9.2))=true→Av (D:=Bool) (fun J27=>(0≤d25.2∧d25.2<(d5.1.length:Int))∧
 (d25.2.toNat<d5.1.length)∧
 (0≤d9.2∧d9.2<(d5.1.length:Int))∧
 (d9.2.toNat<d5.1.length)∧
 ((((List.getD d5.1 d25.2.toNat AaK).1==(List.getD d5.1 d9.2.toNat AaK).1)=true→K false ())∧(((List.getD d5.1 d25.2.toNat AaK).1==(List.getD d5.1 d9.2.toNat AaK).1)=false→J27 d25.1))) (fun d28=>J26 (d28,(i64.wrap (d25.2+(1:Int))))))∧((decide (d25.2<d9.2))=false→J23 d25.1)))) (fun d24=>J11 d24))))))))) (fun d12=>J10 (d12,(i64.wrap (d9.2+(1:Int))))))∧((decide (d9.2<(d5.1.length:Int)))=false→J7 d9.1)))) (fun d8=>Av (D:=Bool) (fun J29=>DD (D:=(Bool×Int)) (d8,(0:Int)) (fun d31 J32=>(((decide (d31.2<(d1.1.length:Int)))=true→Av (D:=Bool) (fun J33=>Av (D:=Bool) (fun J35=>DD (D:=(Bool×Int)) (d31.1,(0:Int)) (fun d37 J38=>(((decide (d37.2<(d1.2.length:Int)))=true→Av (D:=Bool) (fun J39=>Av (D:=(Int×Int)) (fun J41=>(0≤d31.2∧d31.2<(d1.1.length:Int))∧
 (d31.2.toNat<d1.1.length)∧
 (0≤d37.2∧d37.2<(d1.2.length:Int))∧
 (d37.2.toNat<d1.2.length)∧
 (Fn P zS4 Abg ((List.getD d1.1 d31.2.toNat ([],[])).2,(List.getD d1.2 d37.2.toNat ([],[])).2) (fun(d43:(Int×Int)) (e44:Unit)=>((((J41 d43)∧True)∧True)∧((((J41 d43)∧True)∧True)∧True))∧(((((J41 d43)∧True)∧True)∧True)∧True)))∧True) (fun d42=>Av (D:=Bool) (fun J45=>(((decide (d42.1≥(i64.wrap ((1:Int)+d3))))=true→((d42.2 !=(0:Int))=false→0≤d31.2∧d31.2<(d1.1.length:Int))))∧
 (((decide (d42.1≥(i64.wrap ((1:Int)+d3))))=true→((d42.2 !=(0:Int))=false→d31.2.toNat<d1.1.length)))∧
 (((decide (d42.1≥(i64.wrap ((1:Int)+d3))))=true→((d42.2 !=(0:Int))=false→0≤d37.2∧d37.2<(d1.2.length:Int))))∧
 (((decide (d42.1≥(i64.wrap ((1:Int)+d3))))=true→((d42.2 !=(0:Int))=false→d37.2.toNat<d1.2.length)))∧
 (Av (D:=Bool) (fun J47=>(((decide (d42.1≥(i64.wrap ((1:Int)+d3))))=true→((d42.2 !=(0:Int))=false→Fn P XP AbV (d5.1,((List.getD d1.1 d31.2.toNat ([],[])).1,(List.getD d1.2 d37.2.toNat ([],[])).1)) (fun(d48:Bool) _=>J47 d48)))∧(((decide (d42.1≥(i64.wrap ((1:Int)+d3))))=false→J47 false)∧(((d42.2 !=(0:Int))=true→J47 false)∧True)))) (fun d49=>J45 (cond (d42.2 !=(0:Int)) true (cond (decide (d42.1≥(i64.wrap ((1:Int)+d3)))) (!d49) false))))∧True) (fun d46=>((d46=true→K false ())∧(d46=false→J39 d37.1))))) (fun d40=>J38 (d40,(i64.wrap (d37.2+(1:Int))))))∧((decide (d37.2<(d1.2.length:Int)))=false→J35 d37.1)))) (fun d36=>J33 d36)) (fun d34=>J32 (d34,(i64.wrap (d31.2+(1:Int))))))∧((decide (d31.2<(d1.1.length:Int)))=false→J29 d31.1)))) (fun d30=>Fn P XL AbE () (fun(d50:Bool) (e51:Unit)=>K d50 ()))))))))
theorem AcF{P}(h:Has P Aby){x K}(hw:Ab6 P x K):Fn P YR Abj x K:=
 Cx (c:=AbI) h rfl rfl (by kernel_rfl) (Eq.mpr (show Cq P Aby Abj AbI x K=_ by kernel_rfl) hw)
def AcS:Bq:=
 sr [o1 4 (.asg (.c (.string ⟨#[]⟩))),o1 5 (.asg kF)] (sq (sr [im 8 0,ol 9 8,o1 10 (.mv (kI 0))] (.frame (rg [4,5,7] 10 11) [1007] false (.join [.sl 4 false .str .leaf,.sl 5 false .bool .leaf] (bk 0 (.loop [.sl 4 false .str .leaf,.sl 5 false
 .bool .leaf,.si 10] (sr [ob 11 .lss 10 9] (sq (cx 11 0) (sq (.frame (rg [4,5,7] 12 8) [1007] false (.join [.sl 4 false .str .leaf,.sl 5 false .bool .leaf] (bk 1 (sr [ox 12 2 8 10,o1 13 (.load true 2 12),o1 7 (.alloc [.string ⟨#[]⟩,.string
 ⟨#[]⟩]),o0 ⟨none,.store 2 7 13,none⟩] (sr [fa 14 0 7,ld 15 14,im 16 1,ob 17 .eql 15 16] (cn 17 (sr [fa 18 1 7,ld 19 18,ia 4 19,o1 5 (.asg kT)] .ret) .skip)))))) (rn [ob 20 .add 10 (kI 1),im 10 20]))))))))) (sr [o1 4 (.asg (.c (.string
 ⟨#[]⟩))),o1 5 (.asg kF)] .ret))
def Ack:AFn:=⟨zS7,AcS.erase,[.tmp 4,.tmp 5],2⟩
def Adk(P:Pg)(x:((List ((List UInt8)×(List UInt8)))×(List UInt8)))(K:((List UInt8)×Bool)→Unit→Prop):Prop:=
 Av (D:=((List UInt8)×Bool)) (fun J1=>DD (D:=((List UInt8)×(Bool×Int))) (([]:List UInt8),(false,(0:Int))) (fun d3 J4=>(((decide (d3.2.2<(x.1.length:Int)))=true→Av (D:=((List UInt8)×Bool)) (fun J5=>(0≤d3.2.2∧d3.2.2<(x.1.length:Int))∧
 (d3.2.2.toNat<x.1.length)∧
 ((((List.getD x.1 d3.2.2.toNat ([],[])).1==x.2)=true→K ((List.getD x.1 d3.2.2.toNat ([],[])).2,true) ())∧(((List.getD x.1 d3.2.2.toNat ([],[])).1==x.2)=false→J5 (d3.1,d3.2.1)))) (fun d6=>J4 (d6.1,(d6.2,(i64.wrap (d3.2.2+(1:Int)))))))∧((decide (d3.2.2<(x.1.length:Int)))=false→J1 (d3.1,d3.2.1))))) (fun d2=>K (([]:List UInt8),false) ())
theorem Aep{P}(h:Has P Ack){x K}(hw:Adk P x K):Fn P zS7 AbC x K:=
 Cx (c:=AcS) h rfl rfl (by kernel_rfl) (Eq.mpr (show Cq P Ack AbC AcS x K=_ by kernel_rfl) hw)
def Ab7:Bq:=
 sr [o1 8 (.asg ni)] (sr [o1 9 (.asg ni)] (sq (sr [im 20 2,ol 21 20,o1 22 (.mv (kI 0))] (.frame (rg [9,11,12,13,15,16,17,18,19] 22 50) [1011,1015] false (.join [.sl 9 false (.sl AaH) tO] (bk 0 (.loop [.sl 9 false (.sl AaH) tO,.si 22]
 (sr [ob 23 .lss 22 21] (sq (cx 23 0) (sq (.frame (rg [9,11,12,13,15,16,17,18,19] 24 47) [1011,1015] false (.join [.sl 9 false (.sl AaH) tO] (bk 1 (sr [ox 24 2 20 22,o1 25 (.load true 2 24),o1 11 (.alloc [.string ⟨#[]⟩,.int .i64 0]),o0
 ⟨none,.store 2 11 25,none⟩] (sq (sr [fa 26 1 11,ld 27 26,ob 28 .neq 27 (kI 2)] (cn 28 (.exit 1) .skip)) (sr [im 30 0,fa 31 0 11,ld 32 31,oc 33 zS7 [30,32] AbC,im 29 33,oe 34 29 0,oe 35 29 1,ia 12 34,ia 13 35] (sr
 [im 36 2,ol 37 36,o1 38 (.mv (kI 0))] (.frame (rg [9,15,16,17,18,19] 38 33) [1015] false (.join [.sl 9 false (.sl AaH) tO] (bk 2 (.loop [.sl 9 false (.sl AaH) tO,.si 38] (sr [ob 39 .lss 38 37] (sq (cx 39 2) (sq (.frame (rg
 [9,15,16,17,18,19] 40 30) [1015] false (.join [.sl 9 false (.sl AaH) tO] (bk 3 (sr [ox 40 2 36 38,o1 41 (.load true 2 40),o1 15 (.alloc [.string ⟨#[]⟩,.int .i64 0]),o0 ⟨none,.store 2 15 41,none⟩] (sq (sr [fa 42 1 15,ld 43 42,ob 44 .neq
 43 (kI 1)] (cn 44 (.exit 3) .skip)) (sr [im 46 1,fa 47 0 15,ld 48 47,oc 49 zS7 [46,48] AbC,im 45 49,oe 50 45 0,oe 51 45 1,ia 16 50,ia 17 51] (sr [im 53 12,im 54 16,oc 55 zS4 [53,54]
 Abg,im 52 55,oe 56 52 0,oe 57 52 1,ia 18 56,ia 19 57] (sr [im 58 18,im 59 3,ob 60 .geq 58 59] (fk [9] 61 9 (.join [.sl 9 false (.sl AaH) tO] (cn 60 (rn [im 61 9,fa 62 0 11,ld 63 62,fa 64 0 15,ld 65 64,im 66 18,o1 67 (.build
 [.string ⟨#[]⟩,.string ⟨#[]⟩,.int .i64 0] [(0,1,63),(1,1,65),(2,1,66)]),oT ⟨some 68,.buildSl 3 [.string ⟨#[]⟩,.string ⟨#[]⟩,.int .i64 0] 1 [(0,67)],none⟩ (some (AaH,.leaf)),oT ⟨some 69,.app 3 40 61 68,none⟩ (some (AaH,.leaf)),ia 9
 69]) .skip))))))))))) (rn [ob 70 .add 38 (kI 1),im 38 70]))))))))))))))) (rn [ob 71 .add 22 (kI 1),im 22 71]))))))))) (sr [im 72 9,ia 8 72] .ret)))
def AbQ:AFn:=⟨ZS,Ab7.erase,[.tmp 8],4⟩
def AcE(P:Pg)(x:((List ((List UInt8)×(List UInt8)))×((List ((List UInt8)×(List UInt8)))×((List ((List UInt8)×Int))×Int))))(K:(List Rename)→Unit→Prop):Prop:=
 Av (D:=(List Rename)) (fun J1=>DD (D:=((List Rename)×Int)) ([],(0:Int)) (fun d3 J4=>(((decide (d3.2<(x.2.2.1.length:Int)))=true→Av (D:=(List Rename)) (fun J5=>(0≤d3.2∧d3.2<(x.2.2.1.length:Int))∧
 (d3.2.toNat<x.2.2.1.length)∧
 ((((List.getD x.2.2.1 d3.2.toNat ([],(0:Int))).2 !=(2:Int))=true→J5 d3.1)∧(((List.getD x.2.2.1 d3.2.toNat ([],(0:Int))).2 !=(2:Int))=false→Fn P zS7 AbC (x.1,(List.getD x.2.2.1 d3.2.toNat ([],(0:Int))).1) (fun(d7:((List UInt8)×Bool)) (e8:Unit)=>Av (D:=(List Rename)) (fun J9=>DD (D:=((List Rename)×Int)) (d3.1,(0:Int)) (fun d11 J12=>(((decide (d11.2<(x.2.2.1.length:Int)))=true→Av (D:=(List Rename)) (fun J13=>(0≤d11.2∧d11.2<(x.2.2.1.length:Int))∧
 (d11.2.toNat<x.2.2.1.length)∧
 ((((List.getD x.2.2.1 d11.2.toNat ([],(0:Int))).2 !=(1:Int))=true→J13 d11.1)∧(((List.getD x.2.2.1 d11.2.toNat ([],(0:Int))).2 !=(1:Int))=false→Fn P zS7 AbC (x.2.1,(List.getD x.2.2.1 d11.2.toNat ([],(0:Int))).1) (fun(d15:((List UInt8)×Bool)) (e16:Unit)=>Fn P zS4 Abg (d7.1,d15.1) (fun(d17:(Int×Int)) (e18:Unit)=>Av (D:=(List Rename)) (fun J19=>(((decide (d17.1≥x.2.2.2))=true→((d11.1.length+List.length ([((List.getD x.2.2.1 d3.2.toNat ([],(0:Int))).1,((List.getD x.2.2.1 d11.2.toNat ([],(0:Int))).1,d17.1))]:List Rename))*40≤140737488355328)∧
 J19 (d11.1++([((List.getD x.2.2.1 d3.2.toNat ([],(0:Int))).1,((List.getD x.2.2.1 d11.2.toNat ([],(0:Int))).1,d17.1))]:List Rename)))∧((decide (d17.1≥x.2.2.2))=false→J19 d11.1))) (fun d20=>J13 d20)))))) (fun d14=>J12 (d14,(i64.wrap (d11.2+(1:Int))))))∧((decide (d11.2<(x.2.2.1.length:Int)))=false→J9 d11.1)))) (fun d10=>J5 d10))))) (fun d6=>J4 (d6,(i64.wrap (d3.2+(1:Int))))))∧((decide (d3.2<(x.2.2.1.length:Int)))=false→J1 d3.1)))) (fun d2=>K d2 ())
theorem Adh{P}(h:Has P AbQ){x K}(hw:AcE P x K):Fn P ZS AbR x K:=
 Cx (c:=Ab7) h rfl rfl (by kernel_rfl) (Eq.mpr (show Cq P AbQ AbR Ab7 x K=_ by kernel_rfl) hw)
def Hn:Bq:=
 sr [o1 2 (.asg kF)] (sr [im 3 0,oc 4 "strings.HasSuffix" [3,.c (.string ⟨#[10]⟩)] BP,ia 2 4] .ret)
def E9:AFn:=⟨XQ,Hn.erase,[.tmp 2],1⟩
def JQ(P:Pg)(x:(List UInt8))(K:Bool→Unit→Prop):Prop:=
 Fn P "strings.HasSuffix" BP (x,([10]:List UInt8)) (fun(d1:Bool) (e2:Unit)=>K d1 ())
theorem Oi{P}(h:Has P E9){x K}(hw:JQ P x K):Fn P XQ Cf x K:=
 Cx (c:=Hn) h rfl rfl (by kernel_rfl) (Eq.mpr (show Cq P E9 Cf Hn x K=_ by kernel_rfl) hw)
def Hm:Bq:=
 sr [ia 2 (kI 0)] (sr [im 4 0,oc 5 "strings.Count" [4,.c (.string ⟨#[10]⟩)] CU,ia 3 5] (sq (sr [im 6 0,ob 7 .neq 6 (.c (.string ⟨#[]⟩)),im 8 7,gt 9 8 (.mv 0),oS ⟨some 10,.call XQ [9],some (8,true)⟩
 Cf,gt 11 8 (.un .not 10),op3 12 8 11 kF] (.frame [3,13,14] [] false (.join [.si 3] (cn 12 (rn [im 13 3,ob 14 .add 13 (kI 1),ia 3 14]) .skip)))) (sq (sr [im 15 0,o1 16 (.lenS 15),ob 17 .gtr 16 (kI 1048576),im 18 17,gf 19 18 (.mv
 3),gf 20 18 (.bin .gtr 19 (kI 4096)),op3 21 18 kT 20] (cn 21 (sr [ia 2 (kI 1)] .ret) .skip)) (sr [ia 2 (kI 0)] .ret))))
def E8:AFn:=⟨V1,Hm.erase,[.tmp 2],1⟩
def JP(P:Pg)(x:(List UInt8))(K:Int→Unit→Prop):Prop:=
 Fn P "strings.Count" CU (x,([10]:List UInt8)) (fun(d1:Int) (e2:Unit)=>Av (D:=Bool) (fun J3=>(((!(x==([]:List UInt8)))=true→Fn P XQ Cf x (fun(d4:Bool) _=>J3 d4))∧(((!(x==([]:List UInt8)))=false→J3 false)∧True))) (fun d5=>Av (D:=Int) (fun J6=>(((cond (!(x==([]:List UInt8))) (!d5) false)=true→J6 (i64.wrap (d1+(1:Int))))∧((cond (!(x==([]:List UInt8))) (!d5) false)=false→J6 d1))) (fun d7=>(((cond (decide ((x.length:Int)>(1048576:Int))) true (decide (d7>(4096:Int))))=true→K (1:Int) ())∧((cond (decide ((x.length:Int)>(1048576:Int))) true (decide (d7>(4096:Int))))=false→K (0:Int) ())))))
theorem Oh{P}(h:Has P E8){x K}(hw:JP P x K):Fn P V1 Ce x K:=
 Cx (c:=Hm) h rfl rfl (by kernel_rfl) (Eq.mpr (show Cq P E8 Ce Hm x K=_ by kernel_rfl) hw)
def Ho:Bq:=
 sr [o1 2 (.asg ni),ia 3 (kI 0)] (sq (sr [im 6 0,oc 7 V1 [6] Ce,ia 4 7] (sr [im 8 4,ob 9 .neq 8 (kI 0)] (cn 9 (sr [im 10 4,o1 2 (.asg ni),ia 3 10] .ret) .skip))) (sr [im 11 0,oc 12 "strings.SplitAfter" [11,.c
 (.string ⟨#[10]⟩)] Cd,ia 5 12] (sq (sr [im 13 5,im 14 5,ol 15 14,ob 16 .sub 15 (kI 1),ox 17 1 13 16,ld 18 17,ob 19 .eql 18 (.c (.string ⟨#[]⟩))] (fk [5] 20 5 (.join [.sl 5 false (.sl .str) tO] (cn 19 (rn [im 20 5,im 21
 5,ol 22 21,ob 23 .sub 22 (kI 1),o1 24 (.slK 1 20 none (some 23)),ia 5 24]) .skip)))) (sr [im 25 5,ia 2 25,ia 3 (kI 0)] .ret))))
def Fa:AFn:=⟨XR,Ho.erase,[.tmp 2,.tmp 3],1⟩
def JR(P:Pg)(x:(List UInt8))(K:((List (List UInt8))×Int)→Unit→Prop):Prop:=
 Fn P V1 Ce x (fun(d1:Int) (e2:Unit)=>(((d1 !=(0:Int))=true→K ([],d1) ())∧((d1 !=(0:Int))=false→Fn P "strings.SplitAfter" Cd (x,([10]:List UInt8)) (fun(d3:(List (List UInt8))) (e4:Unit)=>(0≤(i64.wrap ((d3.length:Int) -(1:Int)))∧(i64.wrap ((d3.length:Int) -(1:Int)))<(d3.length:Int))∧
 ((Int.toNat (i64.wrap ((d3.length:Int) -(1:Int))))<d3.length)∧
 Av (D:=(List (List UInt8))) (fun J5=>((((List.getD d3 (Int.toNat (i64.wrap ((d3.length:Int) -(1:Int)))) [])==([]:List UInt8))=true→(0≤(i64.wrap ((d3.length:Int) -(1:Int)))∧(i64.wrap ((d3.length:Int) -(1:Int)))≤(d3.length:Int))∧
 (0+(Int.toNat (i64.wrap ((d3.length:Int) -(1:Int))))≤d3.length)∧
 J5 (List.take (Int.toNat (i64.wrap ((d3.length:Int) -(1:Int)))) (List.drop 0 d3)))∧(((List.getD d3 (Int.toNat (i64.wrap ((d3.length:Int) -(1:Int)))) [])==([]:List UInt8))=false→J5 d3))) (fun d6=>K (d6,(0:Int)) ())))))
theorem Oj{P}(h:Has P Fa){x K}(hw:JR P x K):Fn P XR Bu x K:=
 Cx (c:=Ho) h rfl rfl (by kernel_rfl) (Eq.mpr (show Cq P Fa Bu Ho x K=_ by kernel_rfl) hw)
def Ach:Bq:=
 sr [o1 1 (.box 0),o1 2 (.asg kF)] (sr [fa 3 0 1,ld 4 3,oc 5 XS [4] AbA,ob 6 .neq 5 (kI 0),ia 2 6] .ret)
def AbT:AFn:=⟨zS9,Ach.erase,[.tmp 2],1⟩
def AcI(P:Pg)(x:((List UInt8)×(List UInt8)))(K:Bool→Unit→Prop):Prop:=
 Fn P XS AbA x.1 (fun(d1:Int) (e2:Unit)=>K (d1 !=(0:Int)) ())
theorem Adt{P}(h:Has P AbT){x K}(hw:AcI P x K):Fn P zS9 AbF x K:=
 Cx (c:=Ach) h rfl rfl (by kernel_rfl) (Eq.mpr (show Cq P AbT AbF Ach x K=_ by kernel_rfl) hw)
def Abe:Bq:=
 sr [ia 4 (kI 0)] (sq (sr [im 6 0,ol 7 6,o1 8 (.mv (kI 0))] (fj [4,5] 8 11 [4] (bl 0 [4,8] (sr [ob 9 .lss 8 7] (sq (cx 9 0) (sq (fj [4,5] 10 8 [4] (bk 1 (sr [im 10 8,ia 5 10] (sr [im 11 1,im 12 0,im 13 5,ox 14 2 12 13,o1 15 (.load true 2
 14),oS ⟨some 16,.callv 11 [15],none⟩ AbF] (cn 16 (sr [im 17 5,ia 4 17] .ret) .skip))))) (rn [ob 18 .add 8 (kI 1),im 8 18]))))))) (sr [ia 4 (kI (-1))] .ret))
def Aa7:AFn:=⟨zS5,Abe.erase,[.tmp 4],2⟩
def Abk(P:Pg)(x:((List ((List UInt8)×(List UInt8)))×Unit))(K:Int→Unit→Prop):Prop:=
 Av (D:=Int) (fun J1=>DD (D:=(Int×Int)) ((0:Int),(0:Int)) (fun d3 J4=>(((decide (d3.2<(x.1.length:Int)))=true→Av (D:=Int) (fun J5=>(0≤d3.2∧d3.2<(x.1.length:Int))∧
 (d3.2.toNat<x.1.length)∧
 Fn P zS9 AbF (List.getD x.1 d3.2.toNat ([],[])) (fun(d7:Bool) (e8:Unit)=>((d7=true→K d3.2 ())∧(d7=false→J5 d3.1)))) (fun d6=>J4 (d6,(i64.wrap (d3.2+(1:Int))))))∧((decide (d3.2<(x.1.length:Int)))=false→J1 d3.1)))) (fun d2=>K (-1:Int) ())
theorem Abt{P}(h:Has P Aa7){x K}(hw:Abk P x K):Fn P zS5 Aa3 x K:=
 Cx (c:=Abe) h rfl rfl (by kernel_rfl) (Eq.mpr (show Cq P Aa7 Aa3 Abe x K=_ by kernel_rfl) hw)
def Abb:Bq:=
 sr [o1 4 (.asg kF)] (sr [im 5 0,im 6 1,oc 7 zS5 [5,6] Aa3,ob 8 .geq 7 (kI 0),ia 4 8] .ret)
def Aa5:AFn:=⟨zS6,Abb.erase,[.tmp 4],2⟩
def Abh(P:Pg)(x:((List ((List UInt8)×(List UInt8)))×Unit))(K:Bool→Unit→Prop):Prop:=
 Fn P zS5 Aa3 (x.1,()) (fun(d1:Int) (e2:Unit)=>K (decide (d1≥(0:Int))) ())
theorem Abp{P}(h:Has P Aa5){x K}(hw:Abh P x K):Fn P zS6 Aa1 x K:=
 Cx (c:=Abb) h rfl rfl (by kernel_rfl) (Eq.mpr (show Cq P Aa5 Aa1 Abb x K=_ by kernel_rfl) hw)
def Aci:Bq:=
 sr [o1 1 (.box 0),o1 2 (.asg kF)] (sr [fa 3 1 1,ld 4 3,oc 5 V1 [4] Ce,ob 6 .neq 5 (kI 0),ia 2 6] .ret)
def AbU:AFn:=⟨Ua,Aci.erase,[.tmp 2],1⟩
def AcJ(P:Pg)(x:((List UInt8)×(List UInt8)))(K:Bool→Unit→Prop):Prop:=
 Fn P V1 Ce x.2 (fun(d1:Int) (e2:Unit)=>K (d1 !=(0:Int)) ())
theorem Adu{P}(h:Has P AbU){x K}(hw:AcJ P x K):Fn P Ua AbG x K:=
 Cx (c:=Aci) h rfl rfl (by kernel_rfl) (Eq.mpr (show Cq P AbU AbG Aci x K=_ by kernel_rfl) hw)
def Abf:Bq:=
 sr [ia 4 (kI 0)] (sq (sr [im 6 0,ol 7 6,o1 8 (.mv (kI 0))] (fj [4,5] 8 11 [4] (bl 0 [4,8] (sr [ob 9 .lss 8 7] (sq (cx 9 0) (sq (fj [4,5] 10 8 [4] (bk 1 (sr [im 10 8,ia 5 10] (sr [im 11 1,im 12 0,im 13 5,ox 14 2 12 13,o1 15 (.load true 2
 14),oS ⟨some 16,.callv 11 [15],none⟩ AbG] (cn 16 (sr [im 17 5,ia 4 17] .ret) .skip))))) (rn [ob 18 .add 8 (kI 1),im 8 18]))))))) (sr [ia 4 (kI (-1))] .ret))
def Aa8:AFn:=⟨zS5,Abf.erase,[.tmp 4],2⟩
def Abl(P:Pg)(x:((List ((List UInt8)×(List UInt8)))×Unit))(K:Int→Unit→Prop):Prop:=
 Av (D:=Int) (fun J1=>DD (D:=(Int×Int)) ((0:Int),(0:Int)) (fun d3 J4=>(((decide (d3.2<(x.1.length:Int)))=true→Av (D:=Int) (fun J5=>(0≤d3.2∧d3.2<(x.1.length:Int))∧
 (d3.2.toNat<x.1.length)∧
 Fn P Ua AbG (List.getD x.1 d3.2.toNat ([],[])) (fun(d7:Bool) (e8:Unit)=>((d7=true→K d3.2 ())∧(d7=false→J5 d3.1)))) (fun d6=>J4 (d6,(i64.wrap (d3.2+(1:Int))))))∧((decide (d3.2<(x.1.length:Int)))=false→J1 d3.1)))) (fun d2=>K (-1:Int) ())
theorem Abu{P}(h:Has P Aa8){x K}(hw:Abl P x K):Fn P zS5 Aa4 x K:=
 Cx (c:=Abf) h rfl rfl (by kernel_rfl) (Eq.mpr (show Cq P Aa8 Aa4 Abf x K=_ by kernel_rfl) hw)
def Abc:Bq:=
 sr [o1 4 (.asg kF)] (sr [im 5 0,im 6 1,oc 7 zS5 [5,6] Aa4,ob 8 .geq 7 (kI 0),ia 4 8] .ret)
def Aa6:AFn:=⟨zS6,Abc.erase,[.tmp 4],2⟩
def Abi(P:Pg)(x:((List ((List UInt8)×(List UInt8)))×Unit))(K:Bool→Unit→Prop):Prop:=
 Fn P zS5 Aa4 (x.1,()) (fun(d1:Int) (e2:Unit)=>K (decide (d1≥(0:Int))) ())
theorem Abq{P}(h:Has P Aa6){x K}(hw:Abi P x K):Fn P zS6 Aa2 x K:=
 Cx (c:=Abc) h rfl rfl (by kernel_rfl) (Eq.mpr (show Cq P Aa6 Aa2 Abc x K=_ by kernel_rfl) hw)
def AcD:Bq:=
 sr [ia 2 (kI 0)] (sq (fj [] 2 15 [2] (bk 0 (sr [im 4 0,ol 5 4,ob 6 .gtr 5 (kI 200),ia 3 6] (cn 3 (sr [ia 2 (kI 1)] .ret) (sr [im 8 0,oc 9 zS6 [8,.f zS9]
 Aa1,ia 7 9] (cn 7 (sr [ia 2 (kI 210)] .ret) (sr [im 11 0,oc 12 "mergelens/tree.ordered" [11] AbX,o1 13 (.un .not 12),ia 10 13] (cn 10 (sr [ia 2 (kI 211)] .ret) (sr [im 15 0,oc 16
 zS6 [15,.f Ua] Aa2,ia 14 16] (cn 14 (sr [ia 2 (kI 1)] .ret) .skip)))))))))) (sr [ia 2 (kI 0)] .ret))
def Aca:AFn:=⟨zS8,AcD.erase,[.tmp 2],1⟩
def Ac9(P:Pg)(x:(List ((List UInt8)×(List UInt8))))(K:Int→Unit→Prop):Prop:=
 Av (D:=Int) (fun J1=>(((decide ((x.length:Int)>(200:Int)))=true→K (1:Int) ())∧((decide ((x.length:Int)>(200:Int)))=false→Fn P zS6 Aa1 (x,()) (fun(d3:Bool) (e4:Unit)=>((d3=true→K (210:Int) ())∧(d3=false→Fn P "mergelens/tree.ordered" AbX x (fun(d5:Bool) (e6:Unit)=>(((!d5)=true→K (211:Int) ())∧((!d5)=false→Fn P zS6 Aa2 (x,()) (fun(d7:Bool) (e8:Unit)=>((d7=true→K (1:Int) ())∧(d7=false→J1 (0:Int))))))))))))) (fun d2=>K (0:Int) ())
theorem AdW{P}(h:Has P Aca){x K}(hw:Ac9 P x K):Fn P zS8 Abz x K:=
 Cx (c:=AcD) h rfl rfl (by kernel_rfl) (Eq.mpr (show Cq P Aca Abz AcD x K=_ by kernel_rfl) hw)
def AcT:Bq:=
 sr [ia 4 (kI 0)] (sq (sr [im 6 0,oc 7 zS8 [6] Abz,ia 5 7] (sr [im 8 5,ob 9 .neq 8 (kI 0)] (cn 9 (sr [im 10 5,ia 4 10] .ret) .skip))) (sr [im 11 1,oc 12 zS8 [11] Abz,ia 4 12] .ret))
def Acl:AFn:=⟨ "mergelens/tree.both",AcT.erase,[.tmp 4],2⟩
def Adl(P:Pg)(x:((List ((List UInt8)×(List UInt8)))×(List ((List UInt8)×(List UInt8)))))(K:Int→Unit→Prop):Prop:=
 Fn P zS8 Abz x.1 (fun(d1:Int) (e2:Unit)=>(((d1 !=(0:Int))=true→K d1 ())∧((d1 !=(0:Int))=false→Fn P zS8 Abz x.2 (fun(d3:Int) (e4:Unit)=>K d3 ()))))
theorem Aeq{P}(h:Has P Acl){x K}(hw:Adl P x K):Fn P "mergelens/tree.both" Ab5 x K:=
 Cx (c:=AcT) h rfl rfl (by kernel_rfl) (Eq.mpr (show Cq P Acl Ab5 AcT x K=_ by kernel_rfl) hw)
end Go.VS
