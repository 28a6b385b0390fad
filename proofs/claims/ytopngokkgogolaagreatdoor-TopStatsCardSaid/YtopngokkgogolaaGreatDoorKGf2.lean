/- Functions of the program: typed code, and what it says, lifted. -/
import Derived.Test.YtopngokkgogolaaGreatDoorKTxSig
import Derived.KernelRfl
set_option linter.unusedVariables false
set_option linter.unusedSimpArgs false
set_option maxRecDepth 8000
open List renaming getD → Qa0, length → Qa2, set → Qa3, replicate → Qa4
open Int renaming toNat → Qa1
namespace Go.VS
open IntKind
def Jt:AnF:=⟨Aow,92,[DX,GB],[(52,.f (rg [11,12,13,14] 30 40) [1014] false),dJ 52 [.sl 11 false (.sl OE) tO],dL [.sl 11 false (.sl OE) tO,.si 12,.si 30],(62,.f (rg [11,12,13,14] 32 37) [1014] false),dJ 62 [.sl 11 false (.sl OE) tO,.si 12],dF 95 [11,12] 57 12,dJ 95 [.sl 11 false (.sl OE) tO,.si 12],dT 106 (OE,.leaf),dT 107 (OE,.leaf)],[.tmp 8,.tmp 9],4⟩
def RB(P:Pg)(x:((List Change)×(Int×(Int×Int))))(K:((List Hunk)×Int)→Unit→Prop):Prop:=
 (((cond (decide (x.2.2.2<0)) true (decide (x.2.2.2>1048576)))=true→K ([],(3:Int)) ())∧((cond (decide (x.2.2.2<0)) true (decide (x.2.2.2>1048576)))=false→Fn P Amr DX (x.1,(x.2.1,x.2.2.1)) (fun(d1:Int) _=>(((d1 !=0)=true→K ([],d1) ())∧((d1 !=0)=false→Ac (D:=(List Hunk)) (fun J3=>AJ (D:=((List Hunk)×(Int×Int))) ([],((0:Int),(0:Int))) (fun d5 J6=>(((decide (d5.2.2<(x.1.length:Int)))=true→Ac (D:=((List Hunk)×Int)) (fun J7=>(0≤d5.2.2∧d5.2.2<(x.1.length:Int))∧
 (d5.2.2.toNat<x.1.length)∧
 ((((i64.wrap (d5.2.2+1))==(x.1.length:Int))=false→0≤(i64.wrap (d5.2.2+1))∧(i64.wrap (d5.2.2+1))<(x.1.length:Int)))∧
 ((((i64.wrap (d5.2.2+1))==(x.1.length:Int))=false→(Qa1 (i64.wrap (d5.2.2+1)))<x.1.length))∧
 Ac (D:=((List Hunk)×Int)) (fun J9=>(((cond ((i64.wrap (d5.2.2+1))==(x.1.length:Int)) true (decide ((i64.wrap ((i64.wrap ((Qa0 x.1 (Qa1 (i64.wrap (d5.2.2+1))) Ad).1 -(Qa0 x.1 d5.2.2.toNat Ad).1)) -(Qa0 x.1 d5.2.2.toNat Ad).2.1))>(i64.wrap ((2:Int)*x.2.2.2)))))=true→Fn P Aov GB (x.1,(d5.2.1,((i64.wrap (d5.2.2+1)),(x.2.1,x.2.2.2)))) (fun(d11:Hunk) _=>((d5.1.length+Qa2 ([d11]:List Hunk))*48≤140737488355328)∧
 J9 ((d5.1++([d11]:List Hunk)),(i64.wrap (d5.2.2+1)))))∧((cond ((i64.wrap (d5.2.2+1))==(x.1.length:Int)) true (decide ((i64.wrap ((i64.wrap ((Qa0 x.1 (Qa1 (i64.wrap (d5.2.2+1))) Ad).1 -(Qa0 x.1 d5.2.2.toNat Ad).1)) -(Qa0 x.1 d5.2.2.toNat Ad).2.1))>(i64.wrap ((2:Int)*x.2.2.2)))))=false→J9 (d5.1,d5.2.1)))) (fun d10=>J7 d10)) (fun d8=>J6 (d8.1,(d8.2,(i64.wrap (d5.2.2+1))))))∧((decide (d5.2.2<(x.1.length:Int)))=false→J3 d5.1)))) (fun d4=>K (d4,(0:Int)) ()))))))
theorem YV{P}(h:Hq P Jt){x K}(hw:RB P x K):Fn P Aow HG x K:=
 zF h hw
def IJ:AnF:=⟨AgN,110,[Kd],[],[.tmp 2],1⟩
def Qj(P:Pg)(x:Int)(K:Bt8→Unit→Prop):Prop:=
 (((cond (decide (x<0)) true (decide (x>2147483647)))=true→K ([]:List UInt8) ())∧((cond (decide (x<0)) true (decide (x>2147483647)))=false→Fn P "strconv.Itoa" Kd x (fun(d1:Bt8) _=>K d1 ())))
theorem Xb{P}(h:Hq P IJ){x K}(hw:Qj P x K):Fn P AgN Cm x K:=
 zF h hw
def ER:AnF:=⟨zS3,112,[Cm,Cm,Cm,Cm],[dF 32 [4] 22 10,dJ 32 [.sl 4 false .str .leaf]],[.tmp 4],2⟩
def Kh(P:Pg)(x:(Int×Int))(K:Bt8→Unit→Prop):Prop:=
 (((cond (cond (cond (decide (x.1<0)) true (decide (x.2<0))) true (decide (x.1>2147483647))) true (decide (x.2>(i64.wrap ((2147483647:Int) -x.1)))))=true→K ([]:List UInt8) ())∧((cond (cond (cond (decide (x.1<0)) true (decide (x.2<0))) true (decide (x.1>2147483647))) true (decide (x.2>(i64.wrap ((2147483647:Int) -x.1)))))=false→Ac (D:=Bt8) (fun J1=>(((x.2==0)=true→Fn P AgN Cm x.1 (fun(d3:Bt8) _=>(d3.length+Qa2 ([44,48]:List UInt8)≤9223372036854775807)∧
 K (d3++([44,48]:List UInt8)) ()))∧((x.2==0)=false→(((x.2==1)=true→Fn P AgN Cm (i64.wrap (x.1+1)) (fun(d5:Bt8) _=>K d5 ()))∧((x.2==1)=false→J1 ([]:List UInt8)))))) (fun d2=>Fn P AgN Cm (i64.wrap (x.1+1)) (fun(d7:Bt8) _=>(d7.length+Qa2 ([44]:List UInt8)≤9223372036854775807)∧
 Fn P AgN Cm x.2 (fun(d9:Bt8) _=>(Qa2 (d7++([44]:List UInt8))+d9.length≤9223372036854775807)∧
 K ((d7++([44]:List UInt8))++d9) ())))))
theorem P1{P}(h:Hq P ER){x K}(hw:Kh P x K):Fn P zS3 Bk x K:=
 zF h hw
def GV:AnF:=⟨Aox,234,[],[(16,.f (rg [4,5,7] 11 15) [1007] false),dI 16 [4,5],dK [4,5,11],(26,.f (rg [4,5,7] 13 12) [1007] false),dI 26 [4,5],(39,.f [4,18,19] [] false),dI 39 [4],(50,.f [5,23,24] [] false),dI 50 [5]],[.tmp 2,.tmp 3],1⟩
def NV(P:Pg)(x:A9)(K:(Int×Int)→Unit→Prop):Prop:=
 Ac (D:=(Int×Int)) (fun J1=>AJ (D:=(Int×(Int×Int))) ((0:Int),((0:Int),(0:Int))) (fun d3 J4=>(((decide (d3.2.2<(x.2.2.length:Int)))=true→Ac (D:=(Int×Int)) (fun J5=>(0≤d3.2.2∧d3.2.2<(x.2.2.length:Int))∧
 (d3.2.2.toNat<x.2.2.length)∧
 Ac (D:=Int) (fun J7=>((((Qa0 x.2.2 d3.2.2.toNat ((0:Int),[])).1 !=43)=true→J7 (i64.wrap (d3.1+1)))∧(((Qa0 x.2.2 d3.2.2.toNat ((0:Int),[])).1 !=43)=false→J7 d3.1))) (fun d8=>Ac (D:=Int) (fun J9=>((((Qa0 x.2.2 d3.2.2.toNat ((0:Int),[])).1 !=45)=true→J9 (i64.wrap (d3.2.1+1)))∧(((Qa0 x.2.2 d3.2.2.toNat ((0:Int),[])).1 !=45)=false→J9 d3.2.1))) (fun d10=>J5 (d8,d10)))) (fun d6=>J4 (d6.1,(d6.2,(i64.wrap (d3.2.2+1))))))∧((decide (d3.2.2<(x.2.2.length:Int)))=false→J1 (d3.1,d3.2.1))))) (fun d2=>K d2 ())
theorem T7{P}(h:Hq P GV){x K}(hw:NV P x K):Fn P Aox E9 x K:=
 zF h hw
def F9:AnF:=⟨Aoy,160,[E9,Bk,Bk,Bk,Bk],[dF 14 [2] 10 12,dJ 14 [.sl 2 false .str .leaf]],[.tmp 2],1⟩
def Mt(P:Pg)(x:A9)(K:Bt8→Unit→Prop):Prop:=
 Fn P Aox E9 x (fun(d1:(Int×Int)) _=>Ac (D:=Bt8) (fun J3=>(Fn P zS3 Bk (x.1,d1.1) (fun(d5:Bt8) _=>(Qa2 ([64,64,32,45]:List UInt8)+d5.length≤9223372036854775807)∧
 (Qa2 (([64,64,32,45]:List UInt8)++d5)+Qa2 ([32,43]:List UInt8)≤9223372036854775807)∧
 (Fn P zS3 Bk (x.2.1,d1.2) (fun(d7:Bt8) _=>(Qa2 ((([64,64,32,45]:List UInt8)++d5)++([32,43]:List UInt8))+d7.length≤9223372036854775807)∧
 (Qa2 (((([64,64,32,45]:List UInt8)++d5)++([32,43]:List UInt8))++d7)+Qa2 ([32,64,64,10]:List UInt8)≤9223372036854775807)∧
 (J3 ((((([64,64,32,45]:List UInt8)++d5)++([32,43]:List UInt8))++d7)++([32,64,64,10]:List UInt8)))∧True))∧True))∧(((Fn P zS3 Bk (x.1,d1.1) (fun(d9:Bt8) _=>(Qa2 ([64,64,32,45]:List UInt8)+d9.length≤9223372036854775807)∧
 (Qa2 (([64,64,32,45]:List UInt8)++d9)+Qa2 ([32,43]:List UInt8)≤9223372036854775807)∧
 (Fn P zS3 Bk (x.2.1,d1.2) (fun(d11:Bt8) _=>(Qa2 ((([64,64,32,45]:List UInt8)++d9)++([32,43]:List UInt8))+d11.length≤9223372036854775807)∧
 (Qa2 (((([64,64,32,45]:List UInt8)++d9)++([32,43]:List UInt8))++d11)+Qa2 ([32,64,64,10]:List UInt8)≤9223372036854775807)∧
 (J3 ((((([64,64,32,45]:List UInt8)++d9)++([32,43]:List UInt8))++d11)++([32,64,64,10]:List UInt8)))∧True))∧True))∧True)∧True)) (fun d4=>K d4 ()))
theorem R8{P}(h:Hq P F9){x K}(hw:Mt P x K):Fn P Aoy EE x K:=
 zF h hw
def HC:AnF:=⟨Aoz,94,[Fy,EE,Eo],[(21,.f (rg [3,5,7] 18 30) [1005,1007] false),dI 21 [3],dK [3,18],(31,.f (rg [3,5,7] 20 27) [1005,1007] false),dI 31 [3],(52,.f (rg [3,7] 30 17) [1007] false),dI 52 [3],dK [3,30],(62,.f (rg [3,7] 32 14) [1007] false),dI 62 [3],(84,.f [3,44,45] [] false),dI 84 [3]],[.tmp 2],1⟩
def OC(P:Pg)(x:Patch)(K:Int→Unit→Prop):Prop:=
 Fn P "mergelens/unified.written" Fy (x.1,(x.2.1,[])) (fun(d1:Bt8) _=>Ac (D:=Int) (fun J3=>AJ (D:=(Int×Int)) ((d1.length:Int),(0:Int)) (fun d5 J6=>(((decide (d5.2<(x.2.2.length:Int)))=true→Ac (D:=Int) (fun J7=>(0≤d5.2∧d5.2<(x.2.2.length:Int))∧
 (d5.2.toNat<x.2.2.length)∧
 Fn P Aoy EE (Qa0 x.2.2 d5.2.toNat Bp) (fun(d9:Bt8) _=>Ac (D:=Int) (fun J11=>AJ (D:=(Int×Int)) ((i64.wrap (d5.1+(d9.length:Int))),(0:Int)) (fun d13 J14=>(((decide (d13.2<((Qa2 (Qa0 x.2.2 d5.2.toNat Bp).2.2:Nat):Int)))=true→Ac (D:=Int) (fun J15=>(0≤d13.2∧d13.2<((Qa2 (Qa0 x.2.2 d5.2.toNat Bp).2.2:Nat):Int))∧
 (d13.2.toNat<Qa2 (Qa0 x.2.2 d5.2.toNat Bp).2.2)∧
 Fn P Amh Eo (Qa0 (Qa0 x.2.2 d5.2.toNat Bp).2.2 d13.2.toNat ((0:Int),[])).2 (fun(d17:Bool) _=>Ac (D:=Int) (fun J19=>(((!d17)=true→J19 (i64.wrap ((i64.wrap (d13.1+(i64.wrap ((1:Int)+((Qa2 (Qa0 (Qa0 x.2.2 d5.2.toNat Bp).2.2 d13.2.toNat ((0:Int),[])).2:Nat):Int)))))+29)))∧((!d17)=false→J19 (i64.wrap (d13.1+(i64.wrap ((1:Int)+((Qa2 (Qa0 (Qa0 x.2.2 d5.2.toNat Bp).2.2 d13.2.toNat ((0:Int),[])).2:Nat):Int)))))))) (fun d20=>J15 d20))) (fun d16=>J14 (d16,(i64.wrap (d13.2+1)))))∧((decide (d13.2<((Qa2 (Qa0 x.2.2 d5.2.toNat Bp).2.2:Nat):Int)))=false→J11 d13.1)))) (fun d12=>J7 d12))) (fun d8=>J6 (d8,(i64.wrap (d5.2+1)))))∧((decide (d5.2<(x.2.2.length:Int)))=false→J3 d5.1)))) (fun d4=>K d4 ()))
theorem Vt{P}(h:Hq P HC){x K}(hw:OC P x K):Fn P Aoz FO x K:=
 zF h hw
def HB:AnF:=⟨AoA,30,[El,El,BP,BP,DJ,B6,Jw,HG,FO],[(30,.t none ⟨[],[]⟩ true none false false),(53,.t none ⟨[],[]⟩ true none false false),dT 73 (.sl .str,tM),dF 77 [18,19] 55 10,dJ 77 [.sl 18 false (.sl AZ) tO],dF 101 [18] 66 11,dJ 101 [.sl 18 false (.sl AZ) tO],dF 102 [18] 66 11,dJ 102 [.sl 18 false (.sl AZ) tO],(162,.f (rg [23] 96 15) [1021,1023] true),dJ 162 [.bx 1021 OG (.pair .leaf (.pair .leaf (.node .own (.pair .leaf (.pair .leaf tM)))))],dL [.si 96,.bx 1021 OG (.pair .leaf (.pair .leaf (.node .own (.pair .leaf (.pair .leaf tM)))))],(172,.f (rg [23] 98 12) [1021,1023] true),dJ 172 [.bx 1021 OG (.pair .leaf (.pair .leaf (.node .own (.pair .leaf (.pair .leaf tM)))))],(179,.f (rg [] 100 10) [1021] true),dJ 179 [.bx 1021 OG (.pair .leaf (.pair .leaf (.node .own (.pair .leaf (.pair .leaf tM)))))],(186,.t none Dt true none false false),dT 187 (EV,.pair .leaf (.pair .leaf tM)),dT 188 (EV,.pair .leaf (.pair .leaf tM)),(191,.t none Dt true none false false),dT 193 (EV,.pair .leaf (.pair .leaf tM)),dT 194 (EV,.pair .leaf (.pair .leaf tM)),dT 197 (EV,.pair .leaf (.pair .leaf tM)),dT 199 (EV,.pair .leaf (.pair .leaf tM))],[.cell 12 true 3,.tmp 13],6⟩
def OB(P:Pg)(x:(Bt8×(Bt8×(Bt8×(Bt8×(Int×Bool))))))(K:(Patch×Int)→Unit→Prop):Prop:=
 Fn P Aou El x.1 (fun(d1:Bool) _=>Ac (D:=Bool) (fun J3=>(((!d1)=false→Fn P Aou El x.2.1 (fun(d4:Bool) _=>J3 d4))∧(((!d1)=true→J3 false)∧True))) (fun d5=>(((cond (!d1) true (!d5))=true→K ((([]:List UInt8),(([]:List UInt8),[])),(120:Int)) ())∧((cond (!d1) true (!d5))=false→Fn P zS6 BP x.2.2.1 (fun(d6:((List Bt8)×Int)) _=>(((d6.2 !=0)=true→K ((([]:List UInt8),(([]:List UInt8),[])),d6.2) ())∧((d6.2 !=0)=false→Fn P zS6 BP x.2.2.2.1 (fun(d8:((List Bt8)×Int)) _=>(((d8.2 !=0)=true→K ((([]:List UInt8),(([]:List UInt8),[])),d8.2) ())∧((d8.2 !=0)=false→Fn P Amj DJ ([d6.1,d8.1]:List (List Bt8)) (fun(d10:(List (List Int))) _=>Ac (D:=(List Change)) (fun J12=>(0≤(0:Int)∧(0:Int)<(d10.length:Int))∧
 ((Qa1 (0:Int))<d10.length)∧
 (0≤(1:Int)∧(1:Int)<(d10.length:Int))∧
 ((Qa1 (1:Int))<d10.length)∧
 (((Qa1 (0:Int))<d10.length)∧
 ((Qa1 (1:Int))<d10.length)∧
 Fn P Amk B6 ((Qa0 d10 (Qa1 (0:Int)) []),(Qa0 d10 (Qa1 (1:Int)) [])) (fun(d14:((List Change)×Int)) _=>((((J12 d14.1)∧True)∧True)∧((((J12 d14.1)∧True)∧True)∧True))∧(((((J12 d14.1)∧True)∧True)∧True)∧True)))∧True) (fun d13=>Ac (D:=(List Change)) (fun J16=>((x.2.2.2.2.2=true→Ac (D:=(List Change)) (fun J18=>(0≤(0:Int)∧(0:Int)<(d10.length:Int))∧
 ((Qa1 (0:Int))<d10.length)∧
 (0≤(1:Int)∧(1:Int)<(d10.length:Int))∧
 ((Qa1 (1:Int))<d10.length)∧
 (((Qa1 (0:Int))<d10.length)∧
 ((Qa1 (1:Int))<d10.length)∧
 Fn P "mergelens/slide.Down" Jw (d13,((Qa0 d10 (Qa1 (0:Int)) []),(Qa0 d10 (Qa1 (1:Int)) []))) (fun(d20:((List Change)×Int)) _=>(((J18 d20.1)∧True)∧(((J18 d20.1)∧True)∧True))∧((((J18 d20.1)∧True)∧True)∧True)))∧True) (fun d19=>J16 d19))∧(x.2.2.2.2.2=false→J16 d13))) (fun d17=>Fn P Aow HG (d17,((d6.1.length:Int),((d8.1.length:Int),x.2.2.2.2.1))) (fun(d22:((List Hunk)×Int)) _=>(((d22.2 !=0)=true→K ((([]:List UInt8),(([]:List UInt8),[])),d22.2) ())∧((d22.2 !=0)=false→Ac (D:=Patch) (fun J24=>AJ (D:=(Int×Patch)) ((0:Int),(x.1,(x.2.1,[]))) (fun d26 J27=>(((decide (d26.1<(d22.1.length:Int)))=true→Ac (D:=Patch) (fun J28=>(0≤d26.1∧d26.1<(d22.1.length:Int))∧
 (d26.1.toNat<d22.1.length)∧
 Ac (D:=Patch) (fun J30=>((Fn P AoB Dt ((Qa0 d22.1 d26.1.toNat Aey),(d17,(d6.1,d8.1))) (fun(d32:A9) _=>((((d26.2.2.2.length+Qa2 ([d32]:List A9))*40≤140737488355328)∧
 (J30 (d26.2.1,(d26.2.2.1,(d26.2.2.2++([d32]:List A9)))))∧True)∧True)∧True))∧True)∧((Fn P AoB Dt ((Qa0 d22.1 d26.1.toNat Aey),(d17,(d6.1,d8.1))) (fun(d34:A9) _=>(((((d26.2.2.2.length+Qa2 ([d34]:List A9))*40≤140737488355328)∧
 (J30 (d26.2.1,(d26.2.2.1,(d26.2.2.2++([d34]:List A9)))))∧True)∧True)∧True)∧(((((d26.2.2.2.length+Qa2 ([d34]:List A9))*40≤140737488355328)∧
 (J30 (d26.2.1,(d26.2.2.1,(d26.2.2.2++([d34]:List A9)))))∧True)∧True)∧True)))∧True)) (fun d31=>J28 d31)) (fun d29=>J27 ((i64.wrap (d26.1+1)),d29)))∧((decide (d26.1<(d22.1.length:Int)))=false→J24 d26.2)))) (fun d25=>Fn P Aoz FO d25 (fun(d36:Int) _=>(((decide (d36>16777216))=true→K ((([]:List UInt8),(([]:List UInt8),[])),(1:Int)) ())∧((decide (d36>16777216))=false→K (d25,(0:Int)) ()))))))))))))))))))))
theorem Vs{P}(h:Hq P HB){x K}(hw:OB P x K):Fn P AoA FN x K:=
 zF h hw
def GR:AnF:=⟨AoC,31,[],[(16,.f (rg [4,5,7,9] 13 23) [1007,1009] false),dI 16 [4,5],dK [4,5,13],(26,.f (rg [4,5,7,9] 15 20) [1007,1009] false),dI 26 [4,5],(39,.f (rg [4,5,9] 20 15) [1009] false),dI 39 [4,5],dK [4,5,20],(49,.f (rg [4,5,9] 22 12) [1009] false),dI 49 [4,5],dF 60 [4,5] 26 8,dI 60 [4,5],dF 65 [4,5] 28 6,dI 65 [4,5],(74,.f [5,32,33] [] false),dI 74 [5]],[.tmp 2,.tmp 3],1⟩
def NU(P:Pg)(x:Patch)(K:(Int×Int)→Unit→Prop):Prop:=
 Ac (D:=(Int×Int)) (fun J1=>AJ (D:=(Int×(Int×Int))) ((0:Int),((0:Int),(0:Int))) (fun d3 J4=>(((decide (d3.2.2<(x.2.2.length:Int)))=true→Ac (D:=(Int×Int)) (fun J5=>(0≤d3.2.2∧d3.2.2<(x.2.2.length:Int))∧
 (d3.2.2.toNat<x.2.2.length)∧
 Ac (D:=(Int×Int)) (fun J7=>AJ (D:=(Int×(Int×Int))) (d3.1,(d3.2.1,(0:Int))) (fun d9 J10=>(((decide (d9.2.2<((Qa2 (Qa0 x.2.2 d3.2.2.toNat Bp).2.2:Nat):Int)))=true→Ac (D:=(Int×Int)) (fun J11=>(0≤d9.2.2∧d9.2.2<((Qa2 (Qa0 x.2.2 d3.2.2.toNat Bp).2.2:Nat):Int))∧
 (d9.2.2.toNat<Qa2 (Qa0 x.2.2 d3.2.2.toNat Bp).2.2)∧
 Ac (D:=(Int×Int)) (fun J13=>Ac (D:=(Int×Int)) (fun J15=>((((Qa0 (Qa0 x.2.2 d3.2.2.toNat Bp).2.2 d9.2.2.toNat ((0:Int),[])).1==45)=true→J15 ((i64.wrap (d9.1+1)),d9.2.1))∧(((Qa0 (Qa0 x.2.2 d3.2.2.toNat Bp).2.2 d9.2.2.toNat ((0:Int),[])).1==45)=false→Ac (D:=Int) (fun J17=>((((Qa0 (Qa0 x.2.2 d3.2.2.toNat Bp).2.2 d9.2.2.toNat ((0:Int),[])).1==43)=true→J17 (i64.wrap (d9.2.1+1)))∧(((Qa0 (Qa0 x.2.2 d3.2.2.toNat Bp).2.2 d9.2.2.toNat ((0:Int),[])).1==43)=false→J17 d9.2.1))) (fun d18=>J15 (d9.1,d18))))) (fun d16=>J13 d16)) (fun d14=>J11 d14)) (fun d12=>J10 (d12.1,(d12.2,(i64.wrap (d9.2.2+1))))))∧((decide (d9.2.2<((Qa2 (Qa0 x.2.2 d3.2.2.toNat Bp).2.2:Nat):Int)))=false→J7 (d9.1,d9.2.1))))) (fun d8=>J5 d8)) (fun d6=>J4 (d6.1,(d6.2,(i64.wrap (d3.2.2+1))))))∧((decide (d3.2.2<(x.2.2.length:Int)))=false→J1 (d3.1,d3.2.1))))) (fun d2=>K d2 ())
theorem TZ{P}(h:Hq P GR){x K}(hw:NU P x K):Fn P AoC E8 x K:=
 zF h hw
def II:AnF:=⟨AoD,32,[],[dT 8 (.sl bI,tO),dF 16 [5,6,7] 14 96,dJ 16 [.sl 5 false (.sl (.sl bI)) (.node .own tO)],dL [.sl 5 false (.sl (.sl bI)) (.node .own tO),.si 6],dF 27 [5,7] 18 92,dJ 27 [.sl 5 false (.sl (.sl bI)) (.node .own tO)],dT 35 (bI,.leaf),dF 43 [5,7] 27 83,dJ 43 [.sl 5 false (.sl (.sl bI)) (.node .own tO)],dL [.sl 5 false (.sl (.sl bI)) (.node .own tO),.si 7],dF 54 [5] 31 79,dJ 54 [.sl 5 false (.sl (.sl bI)) (.node .own tO)],dF 55 [5] 31 79,dJ 55 [.sl 5 false (.sl (.sl bI)) (.node .own tO)],dF 63 [5,31,32,33,34,35,36,37,38,39,40,41,42,43,44,45,46,47,48,49,50,51,52,53,54] 60 50,dJ 63 [.sl 5 false (.sl (.sl bI)) (.node .own tO)],dF 83 [5,31,32,33,34,35,36,37,38,39,40,41,42,43,44,45,46,47,48,49,50,51,52,53,54] 75 35,dJ 83 [.sl 5 false (.sl (.sl bI)) (.node .own tO)],dF 97 [] 85 10,dJ 97 [.sl 85 false .bool .leaf],dF 108 [5,31,32,33,34,35,36,37,38,39,40,41,42,43,44,45,46,47,48,49,50,51,52,53,54] 95 15,dJ 108 [.sl 5 false (.sl (.sl bI)) (.node .own tO)],dF 109 [5] 95 15,dJ 109 [.sl 5 false (.sl (.sl bI)) (.node .own tO)],dF 126 [5] 31 24,dJ 126 [.sl 5 false (.sl (.sl bI)) (.node .own tO)]],[.tmp 4],2⟩
def Qi(P:Pg)(x:((List Int)×(List Int)))(K:(List (List Int))→Unit→Prop):Prop:=
 (0≤(i64.wrap ((x.1.length:Int)+1))∧(i64.wrap ((x.1.length:Int)+1))≤(i64.wrap ((x.1.length:Int)+1))∧((24:Nat):Int)*(i64.wrap ((x.1.length:Int)+1))≤281474976710656)∧
 Ac (D:=(List (List Int))) (fun J1=>AJ (D:=((List (List Int))×Int)) ((Qa4 (Qa1 (i64.wrap ((x.1.length:Int)+1))) []),(x.1.length:Int)) (fun d3 J4=>(((decide (d3.2≥0))=true→Ac (D:=(List (List Int))) (fun J5=>(0≤(i64.wrap ((x.2.length:Int)+1))∧(i64.wrap ((x.2.length:Int)+1))≤(i64.wrap ((x.2.length:Int)+1))∧((8:Nat):Int)*(i64.wrap ((x.2.length:Int)+1))≤281474976710656)∧
 (0≤d3.2∧d3.2<(d3.1.length:Int))∧
 (d3.2.toNat<d3.1.length)∧
 Ac (D:=(List (List Int))) (fun J7=>AJ (D:=((List (List Int))×Int)) ((Qa3 d3.1 d3.2.toNat (Qa4 (Qa1 (i64.wrap ((x.2.length:Int)+1))) (0:Int))),(x.2.length:Int)) (fun d9 J10=>(((decide (d9.2≥0))=true→Ac (D:=(List (List Int))) (fun J11=>Ac (D:=(List (List Int))) (fun J13=>Ac (D:=(List (List Int))) (fun J15=>(((d3.2==(x.1.length:Int))=true→(0≤d3.2∧d3.2<(d9.1.length:Int))∧
 (d3.2.toNat<d9.1.length)∧
 (d3.2.toNat<d9.1.length)∧
 (0≤d9.2∧d9.2<((Qa2 (Qa0 d9.1 d3.2.toNat []):Nat):Int))∧
 (d3.2.toNat<d9.1.length)∧
 (d9.2.toNat<Qa2 (Qa0 d9.1 d3.2.toNat []))∧
 J15 (Qa3 d9.1 d3.2.toNat (Qa3 (Qa0 d9.1 d3.2.toNat []) d9.2.toNat (i64.wrap ((x.2.length:Int) -d9.2)))))∧((d3.2==(x.1.length:Int))=false→Ac (D:=(List (List Int))) (fun J17=>(((d9.2==(x.2.length:Int))=true→(0≤d3.2∧d3.2<(d9.1.length:Int))∧
 (d3.2.toNat<d9.1.length)∧
 (d3.2.toNat<d9.1.length)∧
 (0≤d9.2∧d9.2<((Qa2 (Qa0 d9.1 d3.2.toNat []):Nat):Int))∧
 (d3.2.toNat<d9.1.length)∧
 (d9.2.toNat<Qa2 (Qa0 d9.1 d3.2.toNat []))∧
 J17 (Qa3 d9.1 d3.2.toNat (Qa3 (Qa0 d9.1 d3.2.toNat []) d9.2.toNat (i64.wrap ((x.1.length:Int) -d3.2)))))∧((d9.2==(x.2.length:Int))=false→Ac (D:=Bool) (fun J19=>(0≤d3.2∧d3.2<(x.1.length:Int))∧
 (d3.2.toNat<x.1.length)∧
 (0≤d9.2∧d9.2<(x.2.length:Int))∧
 (d9.2.toNat<x.2.length)∧
 (J19 ((Qa0 x.1 d3.2.toNat (0:Int))==(Qa0 x.2 d9.2.toNat (0:Int))))∧True) (fun d20=>Ac (D:=(List (List Int))) (fun J21=>((d20=true→Ac (D:=(List (List Int))) (fun J23=>(0≤d3.2∧d3.2<(d9.1.length:Int))∧
 (d3.2.toNat<d9.1.length)∧
 (0≤(i64.wrap (d3.2+1))∧(i64.wrap (d3.2+1))<(d9.1.length:Int))∧
 ((Qa1 (i64.wrap (d3.2+1)))<d9.1.length)∧
 ((Qa1 (i64.wrap (d3.2+1)))<d9.1.length)∧
 (0≤(i64.wrap (d9.2+1))∧(i64.wrap (d9.2+1))<((Qa2 (Qa0 d9.1 (Qa1 (i64.wrap (d3.2+1))) []):Nat):Int))∧
 ((Qa1 (i64.wrap (d3.2+1)))<d9.1.length)∧
 ((Qa1 (i64.wrap (d9.2+1)))<Qa2 (Qa0 d9.1 (Qa1 (i64.wrap (d3.2+1))) []))∧
 (d3.2.toNat<d9.1.length)∧
 (0≤d9.2∧d9.2<((Qa2 (Qa0 d9.1 d3.2.toNat []):Nat):Int))∧
 ((d3.2.toNat<d9.1.length)∧
 (d9.2.toNat<Qa2 (Qa0 d9.1 d3.2.toNat []))∧
 J23 (Qa3 d9.1 d3.2.toNat (Qa3 (Qa0 d9.1 d3.2.toNat []) d9.2.toNat (Qa0 (Qa0 d9.1 (Qa1 (i64.wrap (d3.2+1))) []) (Qa1 (i64.wrap (d9.2+1))) (0:Int)))))∧True) (fun d24=>J21 d24))∧(d20=false→Ac (D:=(List (List Int))) (fun J25=>(0≤d3.2∧d3.2<(d9.1.length:Int))∧
 (d3.2.toNat<d9.1.length)∧
 (0≤(i64.wrap (d3.2+1))∧(i64.wrap (d3.2+1))<(d9.1.length:Int))∧
 ((Qa1 (i64.wrap (d3.2+1)))<d9.1.length)∧
 ((Qa1 (i64.wrap (d3.2+1)))<d9.1.length)∧
 (0≤d9.2∧d9.2<((Qa2 (Qa0 d9.1 (Qa1 (i64.wrap (d3.2+1))) []):Nat):Int))∧
 ((Qa1 (i64.wrap (d3.2+1)))<d9.1.length)∧
 (d9.2.toNat<Qa2 (Qa0 d9.1 (Qa1 (i64.wrap (d3.2+1))) []))∧
 (0≤d3.2∧d3.2<(d9.1.length:Int))∧
 (d3.2.toNat<d9.1.length)∧
 (d3.2.toNat<d9.1.length)∧
 (0≤(i64.wrap (d9.2+1))∧(i64.wrap (d9.2+1))<((Qa2 (Qa0 d9.1 d3.2.toNat []):Nat):Int))∧
 (d3.2.toNat<d9.1.length)∧
 ((Qa1 (i64.wrap (d9.2+1)))<Qa2 (Qa0 d9.1 d3.2.toNat []))∧
 (d3.2.toNat<d9.1.length)∧
 (0≤d9.2∧d9.2<((Qa2 (Qa0 d9.1 d3.2.toNat []):Nat):Int))∧
 ((d3.2.toNat<d9.1.length)∧
 (d9.2.toNat<Qa2 (Qa0 d9.1 d3.2.toNat []))∧
 J25 (Qa3 d9.1 d3.2.toNat (Qa3 (Qa0 d9.1 d3.2.toNat []) d9.2.toNat (i64.wrap ((1:Int)+(if(Qa0 (Qa0 d9.1 d3.2.toNat []) (Qa1 (i64.wrap (d9.2+1))) (0:Int))<(Qa0 (Qa0 d9.1 (Qa1 (i64.wrap (d3.2+1))) []) d9.2.toNat (0:Int))then(Qa0 (Qa0 d9.1 d3.2.toNat []) (Qa1 (i64.wrap (d9.2+1))) (0:Int))else(Qa0 (Qa0 d9.1 (Qa1 (i64.wrap (d3.2+1))) []) d9.2.toNat (0:Int))))))))∧True) (fun d26=>J21 d26)))) (fun d22=>J17 d22))))) (fun d18=>J15 d18)))) (fun d16=>J13 d16)) (fun d14=>J11 d14)) (fun d12=>J10 (d12,(i64.wrap (d9.2 -1)))))∧((decide (d9.2≥0))=false→J7 d9.1)))) (fun d8=>J5 d8)) (fun d6=>J4 (d6,(i64.wrap (d3.2 -1)))))∧((decide (d3.2≥0))=false→J1 d3.1)))) (fun d2=>K d2 ())
theorem Xa{P}(h:Hq P II){x K}(hw:Qi P x K):Fn P AoD GC x K:=
 zF h hw
def Lq:AnF:=⟨AoE,33,[],[dT 6 (.str,.leaf),dT 8 (.str,.leaf),dT 10 (.str,.leaf),dF 19 [7,8,9] 15 21,dJ 19 [.sl 7 false (.sl bI) tO],dL [.sl 7 false (.sl bI) tO,.si 8],dF 32 [7,9] 21 15,dJ 32 [.sl 7 false (.sl bI) tO],dF 37 [9] 21 11,dI 37 [9],dK [9],(54,.f [9,30,31] [] false),dI 54 [9],dT 62 (bI,.leaf),dT 63 (bI,.leaf),(70,.z [7]),dF 70 [4,5] 36 8,dJ 70 [.sl 4 false (.sl bI) tM,.sl 5 false (.sl bI) tM]],[.tmp 4,.tmp 5],2⟩
def UG(P:Pg)(x:((List Bt8)×(List Bt8)))(K:((List Int)×(List Int))→Unit→Prop):Prop:=
 ((Qa2 ([]:List Bt8)+x.1.length)*16≤140737488355328)∧
 ((Qa2 (([]:List Bt8)++x.1)+x.2.length)*16≤140737488355328)∧
 Ac (D:=(List Int)) (fun J1=>AJ (D:=((List Int)×Int)) ([],(0:Int)) (fun d3 J4=>(((decide (d3.2<((Qa2 ((([]:List Bt8)++x.1)++x.2):Nat):Int)))=true→Ac (D:=(List Int)) (fun J5=>Ac (D:=Int) (fun J7=>AJ (D:=Int) (0:Int) (fun d9 J10=>(0≤d9∧d9<((Qa2 ((([]:List Bt8)++x.1)++x.2):Nat):Int))∧
 (d9.toNat<Qa2 ((([]:List Bt8)++x.1)++x.2))∧
 (0≤d3.2∧d3.2<((Qa2 ((([]:List Bt8)++x.1)++x.2):Nat):Int))∧
 (d3.2.toNat<Qa2 ((([]:List Bt8)++x.1)++x.2))∧
 (((!((Qa0 ((([]:List Bt8)++x.1)++x.2) d9.toNat [])==(Qa0 ((([]:List Bt8)++x.1)++x.2) d3.2.toNat [])))=true→Ac (D:=Int) (fun J11=>J11 (i64.wrap (d9+1))) (fun d12=>J10 d12))∧((!((Qa0 ((([]:List Bt8)++x.1)++x.2) d9.toNat [])==(Qa0 ((([]:List Bt8)++x.1)++x.2) d3.2.toNat [])))=false→J7 d9)))) (fun d8=>((d3.1.length+Qa2 ([d8]:List Int))*8≤140737488355328)∧
 J5 (d3.1++([d8]:List Int)))) (fun d6=>J4 (d6,(i64.wrap (d3.2+1)))))∧((decide (d3.2<((Qa2 ((([]:List Bt8)++x.1)++x.2):Nat):Int)))=false→J1 d3.1)))) (fun d2=>Ac (D:=((List Int)×(List Int))) (fun J13=>(0≤(x.1.length:Int)∧(x.1.length:Int)≤(d2.length:Int))∧
 (0≤(x.1.length:Int)∧(x.1.length:Int)≤(d2.length:Int))∧
 ((J13 ((List.take (Qa1 (x.1.length:Int)) d2),(List.drop (Qa1 (x.1.length:Int)) d2)))∧True)∧True) (fun d14=>K d14 ()))
theorem AaX{P}(h:Hq P Lq){x K}(hw:UG P x K):Fn P AoE I4 x K:=
 zF h hw
def Hx:AnF:=⟨AqD,6,[I2,EU,B8,GF,E6,FG,B8,FN,E8,Da,Da,I4,GC,EU],[(81,.f (rg [8,14,15,16,17,18,19,20,21,22] 65 90) [1018] false),dJ 81 [.sl 8 false .bool .leaf],dL [.sl 8 false .bool .leaf,.si 14],(94,.f (rg [8,15,16,17,18,19,20,21,22] 71 84) [1018] false),dJ 94 [.sl 8 false .bool .leaf]],[.tmp 8],4⟩
def Oy(P:Pg)(x:((List Int)×(Int×(Int×Bool))))(K:Bool→Unit→Prop):Prop:=
 Fn P Aoi I2 (x.1,((5:Int),(4:Int))) (fun(d1:(List Commit)) _=>((((d1.length:Int)==0)=true→Fn P AgM EU () (fun(d3:Bool) _=>K d3 ()))∧(((d1.length:Int)==0)=false→Fn P zS2 B8 (x.2.1,(d1.length:Int)) (fun(d5:Int) _=>Fn P Aot GF (d1,d5) (fun(d7:((List Stat)×Int)) _=>Fn P Aoq E6 (d1,d5) (fun(d9:((List (List (Bt8×Int)))×Int)) _=>(((cond (cond (d7.2 !=0) true (d9.2 !=0)) true ((d9.1.length:Int)==0))=false→0≤(0:Int)∧(0:Int)<(d9.1.length:Int)))∧
 (((cond (cond (d7.2 !=0) true (d9.2 !=0)) true ((d9.1.length:Int)==0))=false→(Qa1 (0:Int))<d9.1.length))∧
 ((Qa1 (0:Int))<d9.1.length)∧
 (((cond (cond (cond (d7.2 !=0) true (d9.2 !=0)) true ((d9.1.length:Int)==0)) true ((d7.1.length:Int) !=((Qa2 (Qa0 d9.1 (Qa1 (0:Int)) []):Nat):Int)))=true→K false ())∧((cond (cond (cond (d7.2 !=0) true (d9.2 !=0)) true ((d9.1.length:Int)==0)) true ((d7.1.length:Int) !=((Qa2 (Qa0 d9.1 (Qa1 (0:Int)) []):Nat):Int)))=false→Ac (D:=Bool) (fun J11=>AJ (D:=(Bool×Int)) (false,(0:Int)) (fun d13 J14=>(((decide (d13.2<(d7.1.length:Int)))=true→Ac (D:=Bool) (fun J15=>(0≤d13.2∧d13.2<(d7.1.length:Int))∧
 (d13.2.toNat<d7.1.length)∧
 Fn P Aor FG (d1,(d5,((0:Int),(Qa0 d7.1 d13.2.toNat LV).1))) (fun(d17:(Bt8×(Bt8×Int))) _=>Fn P zS2 B8 (x.2.2.1,(4:Int)) (fun(d19:Int) _=>Fn P AoA FN (([111]:List UInt8),(([110]:List UInt8),(d17.1,(d17.2.1,(d19,x.2.2.2))))) (fun(d21:(Patch×Int)) _=>Fn P AoC E8 d21.1 (fun(d23:(Int×Int)) _=>Fn P AjF Da d17.1 (fun(d25:(List Bt8)) _=>Fn P AjF Da d17.2.1 (fun(d27:(List Bt8)) _=>Fn P AoE I4 (d25,d27) (fun(d29:((List Int)×(List Int))) _=>Fn P AoD GC d29 (fun(d31:(List (List Int))) _=>(0≤(0:Int)∧(0:Int)<(d31.length:Int))∧
 ((Qa1 (0:Int))<d31.length)∧
 ((Qa1 (0:Int))<d31.length)∧
 (0≤(0:Int)∧(0:Int)<((Qa2 (Qa0 d31 (Qa1 (0:Int)) []):Nat):Int))∧
 ((Qa1 (0:Int))<d31.length)∧
 ((Qa1 (0:Int))<Qa2 (Qa0 d31 (Qa1 (0:Int)) []))∧
 (((cond (d17.2.2 !=0) true (d21.2 !=0))=false→0≤d13.2∧d13.2<(d7.1.length:Int)))∧
 (((cond (d17.2.2 !=0) true (d21.2 !=0))=false→d13.2.toNat<d7.1.length))∧
 (((cond (d17.2.2 !=0) true (d21.2 !=0))=false→0≤(0:Int)∧(0:Int)<(d9.1.length:Int)))∧
 (((cond (d17.2.2 !=0) true (d21.2 !=0))=false→(Qa1 (0:Int))<d9.1.length))∧
 ((Qa1 (0:Int))<d9.1.length)∧
 (((cond (d17.2.2 !=0) true (d21.2 !=0))=false→0≤d13.2∧d13.2<((Qa2 (Qa0 d9.1 (Qa1 (0:Int)) []):Nat):Int)))∧
 ((Qa1 (0:Int))<d9.1.length)∧
 (((cond (d17.2.2 !=0) true (d21.2 !=0))=false→d13.2.toNat<Qa2 (Qa0 d9.1 (Qa1 (0:Int)) [])))∧
 (((cond (cond (d17.2.2 !=0) true (d21.2 !=0)) true (!((Qa0 d7.1 d13.2.toNat LV).1==(Qa0 (Qa0 d9.1 (Qa1 (0:Int)) []) d13.2.toNat ([],(0:Int))).1)))=false→0≤d13.2∧d13.2<(d7.1.length:Int)))∧
 (((cond (cond (d17.2.2 !=0) true (d21.2 !=0)) true (!((Qa0 d7.1 d13.2.toNat LV).1==(Qa0 (Qa0 d9.1 (Qa1 (0:Int)) []) d13.2.toNat ([],(0:Int))).1)))=false→d13.2.toNat<d7.1.length))∧
 (((cond (cond (cond (d17.2.2 !=0) true (d21.2 !=0)) true (!((Qa0 d7.1 d13.2.toNat LV).1==(Qa0 (Qa0 d9.1 (Qa1 (0:Int)) []) d13.2.toNat ([],(0:Int))).1))) true (d23.1 !=(Qa0 d7.1 d13.2.toNat LV).2.2))=false→0≤d13.2∧d13.2<(d7.1.length:Int)))∧
 (((cond (cond (cond (d17.2.2 !=0) true (d21.2 !=0)) true (!((Qa0 d7.1 d13.2.toNat LV).1==(Qa0 (Qa0 d9.1 (Qa1 (0:Int)) []) d13.2.toNat ([],(0:Int))).1))) true (d23.1 !=(Qa0 d7.1 d13.2.toNat LV).2.2))=false→d13.2.toNat<d7.1.length))∧
 (((cond (cond (cond (cond (cond (d17.2.2 !=0) true (d21.2 !=0)) true (!((Qa0 d7.1 d13.2.toNat LV).1==(Qa0 (Qa0 d9.1 (Qa1 (0:Int)) []) d13.2.toNat ([],(0:Int))).1))) true (d23.1 !=(Qa0 d7.1 d13.2.toNat LV).2.2)) true (d23.2 !=(Qa0 d7.1 d13.2.toNat LV).2.1)) true ((i64.wrap (d23.1+d23.2)) !=(Qa0 (Qa0 d31 (Qa1 (0:Int)) []) (Qa1 (0:Int)) (0:Int))))=true→K false ())∧((cond (cond (cond (cond (cond (d17.2.2 !=0) true (d21.2 !=0)) true (!((Qa0 d7.1 d13.2.toNat LV).1==(Qa0 (Qa0 d9.1 (Qa1 (0:Int)) []) d13.2.toNat ([],(0:Int))).1))) true (d23.1 !=(Qa0 d7.1 d13.2.toNat LV).2.2)) true (d23.2 !=(Qa0 d7.1 d13.2.toNat LV).2.1)) true ((i64.wrap (d23.1+d23.2)) !=(Qa0 (Qa0 d31 (Qa1 (0:Int)) []) (Qa1 (0:Int)) (0:Int))))=false→J15 d13.1))))))))))) (fun d16=>J14 (d16,(i64.wrap (d13.2+1)))))∧((decide (d13.2<(d7.1.length:Int)))=false→J11 d13.1)))) (fun d12=>Fn P AgM EU () (fun(d33:Bool) _=>K d33 ()))))))))))
theorem Vp{P}(h:Hq P Hx){x K}(hw:Oy P x K):Fn P AqD D0 x K:=
 zF h hw
def CN:AnF:=⟨Ams,140,[],[(7,.f (rg [] 9 7) [1,2] true),dJ 7 [.bx 1 (.sl bI) tO,.bx 2 (.sl bI) tO],dT 17 (bI,.leaf),dT 18 (bI,.leaf)],[],3⟩
def Gn(P:Pg)(x:(Int×((List Int)×(List Int))))(K:Unit→((List Int)×(List Int))→Prop):Prop:=
 (0≤x.1∧x.1<(x.2.1.length:Int))∧
 (x.1.toNat<x.2.1.length)∧
 Ac (D:=((List Int)×(List Int))) (fun J1=>(((decide ((Qa0 x.2.1 x.1.toNat (0:Int))<0))=true→(0≤x.1∧x.1<(x.2.1.length:Int))∧
 (x.1.toNat<x.2.1.length)∧
 ((x.2.2.length+Qa2 ([x.1]:List Int))*8≤140737488355328)∧
 J1 ((Qa3 x.2.1 x.1.toNat (0:Int)),(x.2.2++([x.1]:List Int))))∧((decide ((Qa0 x.2.1 x.1.toNat (0:Int))<0))=false→J1 x.2))) (fun d2=>K () d2)
theorem Kv{P}(h:Hq P CN){x K}(hw:Gn P x K):Fn P Ams BH x K:=
 zF h hw
def Dp:AnF:=⟨AqE,71,[BH,BH],[dT 7 (bI,.leaf),(16,.f (rg [6] 19 7) [1005] true),dJ 16 [.bx 1005 (.sl bI) tO],dL [.si 19,.bx 1005 (.sl bI) tO],(26,.f (rg [6] 21 4) [1005] true),dJ 26 [.bx 1005 (.sl bI) tO],(52,.f (rg [10] 29 8) [1005,1007] true),dJ 52 [.bx 1005 (.sl bI) tO,.bx 1007 (.sl bI) tO],dL [.si 29,.bx 1005 (.sl bI) tO,.bx 1007 (.sl bI) tO],(62,.f (rg [10] 31 5) [1005,1007] true),dJ 62 [.bx 1005 (.sl bI) tO,.bx 1007 (.sl bI) tO],(76,.f (rg [11,13] 37 34) [1005,1007] true),dJ 76 [.bx 1005 (.sl bI) tO],dL [.bx 1005 (.sl bI) tO,.bx 1007 (.sl bI) tO],(87,.f (rg [11,13] 40 31) [1005,1007] true),dJ 87 [.bx 1005 (.sl bI) tO,.bx 1007 (.sl bI) tO],(114,.f (rg [13] 57 14) [1005,1007] true),dJ 114 [.bx 1005 (.sl bI) tO,.bx 1007 (.sl bI) tO],dL [.si 57,.bx 1005 (.sl bI) tO,.bx 1007 (.sl bI) tO],(124,.f (rg [13] 59 11) [1005,1007] true),dJ 124 [.bx 1005 (.sl bI) tO,.bx 1007 (.sl bI) tO]],[.tmp 4],2⟩
def Hd(P:Pg)(x:((List Commit)×(List Int)))(K:(List Int)→Unit→Prop):Prop:=
 (0≤(x.1.length:Int)∧(x.1.length:Int)≤(x.1.length:Int)∧((8:Nat):Int)*(x.1.length:Int)≤281474976710656)∧
 Ac (D:=(List Int)) (fun J1=>AJ (D:=(Int×(List Int))) ((0:Int),(Qa4 (Qa1 (x.1.length:Int)) (0:Int))) (fun d3 J4=>(((decide (d3.1<((Qa2 (Qa4 (Qa1 (x.1.length:Int)) (0:Int)):Nat):Int)))=true→Ac (D:=(List Int)) (fun J5=>(0≤d3.1∧d3.1<(d3.2.length:Int))∧
 (d3.1.toNat<d3.2.length)∧
 J5 (Qa3 d3.2 d3.1.toNat (-1:Int))) (fun d6=>J4 ((i64.wrap (d3.1+1)),d6)))∧((decide (d3.1<((Qa2 (Qa4 (Qa1 (x.1.length:Int)) (0:Int)):Nat):Int)))=false→J1 d3.2)))) (fun d2=>Ac (D:=((List Int)×(List Int))) (fun J7=>AJ (D:=(Int×((List Int)×(List Int)))) ((0:Int),(d2,[])) (fun d9 J10=>(((decide (d9.1<(x.2.length:Int)))=true→Ac (D:=((List Int)×(List Int))) (fun J11=>(0≤d9.1∧d9.1<(x.2.length:Int))∧
 (d9.1.toNat<x.2.length)∧
 Fn P Ams BH ((Qa0 x.2 d9.1.toNat (0:Int)),d9.2) (fun(d13:Unit) (e14:((List Int)×(List Int)))=>J11 e14)) (fun d12=>J10 ((i64.wrap (d9.1+1)),d12)))∧((decide (d9.1<(x.2.length:Int)))=false→J7 d9.2)))) (fun d8=>Ac (D:=(List Int)) (fun J15=>AJ (D:=((List Int)×(List Int))) d8 (fun d17 J18=>(((decide ((d17.2.length:Int)>0))=true→Ac (D:=((List Int)×(List Int))) (fun J19=>(0≤(i64.wrap ((d17.2.length:Int) -1))∧(i64.wrap ((d17.2.length:Int) -1))<(d17.2.length:Int))∧
 ((Qa1 (i64.wrap ((d17.2.length:Int) -1)))<d17.2.length)∧
 (0≤(i64.wrap ((d17.2.length:Int) -1))∧(i64.wrap ((d17.2.length:Int) -1))≤(d17.2.length:Int))∧
 (0+(Qa1 (i64.wrap ((d17.2.length:Int) -1)))≤d17.2.length)∧
 (0≤(Qa0 d17.2 (Qa1 (i64.wrap ((d17.2.length:Int) -1))) (0:Int))∧(Qa0 d17.2 (Qa1 (i64.wrap ((d17.2.length:Int) -1))) (0:Int))<(x.1.length:Int))∧
 ((Qa1 (Qa0 d17.2 (Qa1 (i64.wrap ((d17.2.length:Int) -1))) (0:Int)))<x.1.length)∧
 Ac (D:=((List Int)×(List Int))) (fun J21=>AJ (D:=(Int×((List Int)×(List Int)))) ((0:Int),(d17.1,(List.take (Qa1 (i64.wrap ((d17.2.length:Int) -1))) (List.drop 0 d17.2)))) (fun d23 J24=>(((decide (d23.1<((Qa2 (Qa0 x.1 (Qa1 (Qa0 d17.2 (Qa1 (i64.wrap ((d17.2.length:Int) -1))) (0:Int))) Am).1:Nat):Int)))=true→Ac (D:=((List Int)×(List Int))) (fun J25=>(0≤d23.1∧d23.1<((Qa2 (Qa0 x.1 (Qa1 (Qa0 d17.2 (Qa1 (i64.wrap ((d17.2.length:Int) -1))) (0:Int))) Am).1:Nat):Int))∧
 (d23.1.toNat<Qa2 (Qa0 x.1 (Qa1 (Qa0 d17.2 (Qa1 (i64.wrap ((d17.2.length:Int) -1))) (0:Int))) Am).1)∧
 Fn P Ams BH ((Qa0 (Qa0 x.1 (Qa1 (Qa0 d17.2 (Qa1 (i64.wrap ((d17.2.length:Int) -1))) (0:Int))) Am).1 d23.1.toNat (0:Int)),d23.2) (fun(d27:Unit) (e28:((List Int)×(List Int)))=>(0≤(Qa0 (Qa0 x.1 (Qa1 (Qa0 d17.2 (Qa1 (i64.wrap ((d17.2.length:Int) -1))) (0:Int))) Am).1 d23.1.toNat (0:Int))∧(Qa0 (Qa0 x.1 (Qa1 (Qa0 d17.2 (Qa1 (i64.wrap ((d17.2.length:Int) -1))) (0:Int))) Am).1 d23.1.toNat (0:Int))<(e28.1.length:Int))∧
 ((Qa1 (Qa0 (Qa0 x.1 (Qa1 (Qa0 d17.2 (Qa1 (i64.wrap ((d17.2.length:Int) -1))) (0:Int))) Am).1 d23.1.toNat (0:Int)))<e28.1.length)∧
 (0≤(Qa0 (Qa0 x.1 (Qa1 (Qa0 d17.2 (Qa1 (i64.wrap ((d17.2.length:Int) -1))) (0:Int))) Am).1 d23.1.toNat (0:Int))∧(Qa0 (Qa0 x.1 (Qa1 (Qa0 d17.2 (Qa1 (i64.wrap ((d17.2.length:Int) -1))) (0:Int))) Am).1 d23.1.toNat (0:Int))<(e28.1.length:Int))∧
 ((Qa1 (Qa0 (Qa0 x.1 (Qa1 (Qa0 d17.2 (Qa1 (i64.wrap ((d17.2.length:Int) -1))) (0:Int))) Am).1 d23.1.toNat (0:Int)))<e28.1.length)∧
 J25 ((Qa3 e28.1 (Qa1 (Qa0 (Qa0 x.1 (Qa1 (Qa0 d17.2 (Qa1 (i64.wrap ((d17.2.length:Int) -1))) (0:Int))) Am).1 d23.1.toNat (0:Int))) (i64.wrap ((Qa0 e28.1 (Qa1 (Qa0 (Qa0 x.1 (Qa1 (Qa0 d17.2 (Qa1 (i64.wrap ((d17.2.length:Int) -1))) (0:Int))) Am).1 d23.1.toNat (0:Int))) (0:Int))+1))),e28.2))) (fun d26=>J24 ((i64.wrap (d23.1+1)),d26)))∧((decide (d23.1<((Qa2 (Qa0 x.1 (Qa1 (Qa0 d17.2 (Qa1 (i64.wrap ((d17.2.length:Int) -1))) (0:Int))) Am).1:Nat):Int)))=false→J21 d23.2)))) (fun d22=>J19 d22)) (fun d20=>J18 d20))∧((decide ((d17.2.length:Int)>0))=false→J15 d17.1)))) (fun d16=>K d16 ())))
theorem L8{P}(h:Hq P Dp){x K}(hw:Hd P x K):Fn P AqE Dq x K:=
 zF h hw
def G3:AnF:=⟨ "(*mergelens/regex.parser).add",289,[],[(5,.f (rg [] 5 10) [0] true),dJ 5 [.bx 0 AH (.pair .leaf (.pair .leaf (.pair .leaf (.node .own (.pair .leaf (.pair .leaf (.pair .leaf (.pair .leaf tM))))))))],dT 12 (HO,.pair .leaf (.pair .leaf (.pair .leaf (.pair .leaf tM)))),dT 13 (HO,.pair .leaf (.pair .leaf (.pair .leaf (.pair .leaf tM)))),dT 17 (HO,.pair .leaf (.pair .leaf (.pair .leaf (.pair .leaf tM)))),dT 19 (HO,.pair .leaf (.pair .leaf (.pair .leaf (.pair .leaf tM))))],[.tmp 4],2⟩
def FB:AnF:=⟨ "(*mergelens/regex.parser).group",258,[CU,CU],[(8,.f (rg [6] 9 10) [0] true),dJ 8 [.si 6,.bx 0 AH (.pair .leaf (.pair .leaf (.pair .leaf (.node .own (.pair .leaf (.pair .leaf (.pair .leaf (.pair .leaf tM))))))))]],[.tmp 6],3⟩
def Gt:AnF:=⟨ "(*mergelens/regex.parser).more",287,[],[dF 25 [2,3] 14 9,dJ 25 [.sl 2 false (.int .u8) .leaf,.sl 3 false .bool .leaf]],[.tmp 2,.tmp 3],1⟩
def Fm:AnF:=⟨ "(*mergelens/regex.parser).anchor",319,[CU,DA,PZ],[(38,.f [30] [] false),dI 38 []],[.tmp 4],2⟩
def Gu:AnF:=⟨ "(*mergelens/regex.parser).step",320,[],[dF 7 [4] 6 22,dI 7 [],(57,.f [22,24,25,26] [] false),dJ 57 [.sl 22 false .bool .leaf],(63,.f [22,25,26] [] false),dJ 63 [.sl 22 false .bool .leaf],(69,.f [22,26] [] false),dJ 69 [.sl 22 false .bool .leaf],(74,.f [27] [] false),dI 74 []],[.tmp 4],2⟩
def G4:AnF:=⟨ "(*mergelens/regex.parser).has",257,[DA],[],[.tmp 4],2⟩
def Eg:AnF:=⟨ "(*mergelens/regex.parser).quantifier",321,[CV,CV,CV,CV,N4],[(6,.f (rg [] 2 22) [0] true),dJ 6 [.si 2,.si 3,.sl 4 false .bool .leaf,.bx 0 AH (.pair .leaf (.pair .leaf (.pair .leaf (.node .own (.pair .leaf (.pair .leaf (.pair .leaf (.pair .leaf tM))))))))]],[.tmp 2,.tmp 3,.tmp 4],1⟩
def G5:AnF:=⟨ "(*mergelens/regex.parser).set",349,[CU],[],[.tmp 4],2⟩
def Io:AnF:=⟨ "(mergelens/regex.set).with",350,[],[],[.cell 4 true 4],2⟩
def Gv:AnF:=⟨ "(*mergelens/regex.parser).take",351,[DA],[(17,.f [12] [] false),dI 17 []],[.tmp 2],1⟩
def Fo:AnF:=⟨ "(*mergelens/regex.parser).single",340,[Jo,Ml,Kc],[],[.tmp 2],1⟩
def FC:AnF:=⟨ "(*mergelens/regex.parser).piece",288,[Fs,Fs,Jn,Kb,Gk,CU],[(7,.f (rg [4] 11 8) [0] true),dJ 7 [.si 4,.bx 0 AH (.pair .leaf (.pair .leaf (.pair .leaf (.node .own (.pair .leaf (.pair .leaf (.pair .leaf (.pair .leaf tM))))))))],(71,.t (some (bI,.leaf)) ⟨[],[]⟩ true none false false)],[.tmp 4],2⟩
def DV:AnF:=⟨ "(*mergelens/regex.parser).alternative",256,[DA,FI,I3],[(6,.f (rg [] 2 28) [0] true),dL [.si 2,.sl 3 false (.sl bI) tO,.bx 0 AH (.pair .leaf (.pair .leaf (.pair .leaf (.node .own (.pair .leaf (.pair .leaf (.pair .leaf (.pair .leaf tM))))))))],(8,.f (rg [] 2 28) [0] true),dJ 8 [.si 2,.sl 3 false (.sl bI) tO,.bx 0 AH (.pair .leaf (.pair .leaf (.pair .leaf (.node .own (.pair .leaf (.pair .leaf (.pair .leaf (.pair .leaf tM))))))))],(33,.z [3]),dT 45 (bI,.leaf),dT 46 (bI,.leaf)],[.tmp 2],1⟩
def EP:AnF:=⟨Aru,191,[DW,CV,DW,FI],[dT 7 (bI,.leaf),(10,.f (rg [3] 7 7) [0] true),dJ 10 [.sl 3 false (.sl bI) tO,.bx 0 AH (.pair .leaf (.pair .leaf (.pair .leaf (.node .own (.pair .leaf (.pair .leaf (.pair .leaf (.pair .leaf tM))))))))],dL [.sl 3 false (.sl bI) tO,.bx 0 AH (.pair .leaf (.pair .leaf (.pair .leaf (.node .own (.pair .leaf (.pair .leaf (.pair .leaf (.pair .leaf tM))))))))],(20,.f (rg [3] 9 5) [0] true),dJ 20 [.sl 3 false (.sl bI) tO,.bx 0 AH (.pair .leaf (.pair .leaf (.pair .leaf (.node .own (.pair .leaf (.pair .leaf (.pair .leaf (.pair .leaf tM))))))))],dT 25 (bI,.leaf),dT 26 (bI,.leaf),(29,.z [3])],[.tmp 2],1⟩
def Lr:AnF:=⟨ "mergelens/tree.both",210,[CA,CA],[],[.tmp 4],2⟩
def UI(P:Pg)(x:((List (Bt8×Bt8))×(List (Bt8×Bt8))))(K:Int→Unit→Prop):Prop:=
 Fn P AeA CA x.1 (fun(d1:Int) _=>(((d1 !=0)=true→K d1 ())∧((d1 !=0)=false→Fn P AeA CA x.2 (fun(d3:Int) _=>K d3 ()))))
theorem AaZ{P}(h:Hq P Lr){x K}(hw:UI P x K):Fn P "mergelens/tree.both" LA x K:=
 zF h hw
def F4:AnF:=⟨Amt,311,[],[(0,.f (rg [] 5 13) [1,2,3] true),dJ 0 [.bx 1 bI .leaf,.bx 2 (.sl (.pair bI bI)) tO,.bx 3 bI .leaf],dL [.bx 1 bI .leaf,.bx 2 (.sl (.pair bI bI)) tO,.bx 3 bI .leaf],(12,.f (rg [] 10 8) [2,3] true),dJ 12 [.bx 2 (.sl (.pair bI bI)) tO,.bx 3 bI .leaf],dT 19 (.pair bI bI,.leaf),dT 20 (.pair bI bI,.leaf)],[],4⟩
def Mr(P:Pg)(x:(Int×(Int×((List (Int×Int))×Int))))(K:Unit→(Int×((List (Int×Int))×Int))→Prop):Prop:=
 Ac (D:=(Int×((List (Int×Int))×Int))) (fun J1=>AJ (D:=(Int×((List (Int×Int))×Int))) x.2 (fun d3 J4=>(((decide (d3.1<x.1))=true→Ac (D:=((List (Int×Int))×Int)) (fun J5=>((d3.2.1.length+Qa2 ([(d3.1,d3.2.2)]:List (Int×Int)))*16≤140737488355328)∧
 J5 ((d3.2.1++([(d3.1,d3.2.2)]:List (Int×Int))),(i64.wrap (d3.2.2+1)))) (fun d6=>J4 ((i64.wrap (d3.1+1)),d6)))∧((decide (d3.1<x.1))=false→J1 d3)))) (fun d2=>K () d2)
theorem R6{P}(h:Hq P F4){x K}(hw:Mr P x K):Fn P Amt CY x K:=
 zF h hw
def Hw:AnF:=⟨AoF,281,[CY,CY],[(22,.f (rg [10] 14 17) [1005,1006,1007,1010] true),dJ 22 [.bx 1005 (.sl (.pair bI bI)) tO,.bx 1006 bI .leaf,.bx 1007 bI .leaf],dL [.si 14,.bx 1005 (.sl (.pair bI bI)) tO,.bx 1006 bI .leaf,.bx 1007 bI .leaf],(32,.f (rg [10] 16 14) [1005,1006,1007,1010] true),dJ 32 [.bx 1005 (.sl (.pair bI bI)) tO,.bx 1006 bI .leaf,.bx 1007 bI .leaf],(45,.f (rg [] 22 8) [1006,1007] false),dJ 45 [.bx 1006 bI .leaf,.bx 1007 bI .leaf]],[.tmp 4],2⟩
def Ox(P:Pg)(x:((List Change)×Int))(K:(List (Int×Int))→Unit→Prop):Prop:=
 Ac (D:=((List (Int×Int))×(Int×Int))) (fun J1=>AJ (D:=(Int×((List (Int×Int))×(Int×Int)))) ((0:Int),([],((0:Int),(0:Int)))) (fun d3 J4=>(((decide (d3.1<(x.1.length:Int)))=true→Ac (D:=((List (Int×Int))×(Int×Int))) (fun J5=>(0≤d3.1∧d3.1<(x.1.length:Int))∧
 (d3.1.toNat<x.1.length)∧
 Fn P Amt CY ((Qa0 x.1 d3.1.toNat Ad).1,(d3.2.2.1,(d3.2.1,d3.2.2.2))) (fun(d7:Unit) (e8:(Int×((List (Int×Int))×Int)))=>Ac (D:=(Int×Int)) (fun J9=>((((J9 ((i64.wrap (e8.1+(Qa0 x.1 d3.1.toNat Ad).2.1)),(i64.wrap (e8.2.2+(Qa0 x.1 d3.1.toNat Ad).2.2.2))))∧True)∧True)∧(((J9 ((i64.wrap (e8.1+(Qa0 x.1 d3.1.toNat Ad).2.1)),(i64.wrap (e8.2.2+(Qa0 x.1 d3.1.toNat Ad).2.2.2))))∧True)∧True))∧(((((J9 ((i64.wrap (e8.1+(Qa0 x.1 d3.1.toNat Ad).2.1)),(i64.wrap (e8.2.2+(Qa0 x.1 d3.1.toNat Ad).2.2.2))))∧True)∧True)∧(((J9 ((i64.wrap (e8.1+(Qa0 x.1 d3.1.toNat Ad).2.1)),(i64.wrap (e8.2.2+(Qa0 x.1 d3.1.toNat Ad).2.2.2))))∧True)∧True))∧(((J9 ((i64.wrap (e8.1+(Qa0 x.1 d3.1.toNat Ad).2.1)),(i64.wrap (e8.2.2+(Qa0 x.1 d3.1.toNat Ad).2.2.2))))∧True)∧True))) (fun d10=>J5 (e8.2.1,d10)))) (fun d6=>J4 ((i64.wrap (d3.1+1)),d6)))∧((decide (d3.1<(x.1.length:Int)))=false→J1 d3.2)))) (fun d2=>Fn P Amt CY (x.2,(d2.2.1,(d2.1,d2.2.2))) (fun(d11:Unit) (e12:(Int×((List (Int×Int))×Int)))=>K e12.2.1 ()))
theorem Vo{P}(h:Hq P Hw){x K}(hw:Ox P x K):Fn P AoF FJ x K:=
 zF h hw
def IK:AnF:=⟨ "mergelens/script.Fits",230,[DX,FJ],[(28,.f (rg [6,8] 21 16) [1008] false),dJ 28 [.sl 6 false .bool .leaf],dL [.sl 6 false .bool .leaf,.si 21],(38,.f (rg [6,8] 23 13) [1008] false),dJ 38 [.sl 6 false .bool .leaf]],[.tmp 6],3⟩
def Qk(P:Pg)(x:Ve)(K:Bool→Unit→Prop):Prop:=
 Fn P Amr DX (x.1,((x.2.1.length:Int),(x.2.2.length:Int))) (fun(d1:Int) _=>(((d1 !=0)=true→K false ())∧((d1 !=0)=false→Fn P AoF FJ (x.1,(x.2.1.length:Int)) (fun(d3:(List (Int×Int))) _=>Ac (D:=Bool) (fun J5=>AJ (D:=(Bool×Int)) (false,(0:Int)) (fun d7 J8=>(((decide (d7.2<(d3.length:Int)))=true→Ac (D:=Bool) (fun J9=>(0≤d7.2∧d7.2<(d3.length:Int))∧
 (d7.2.toNat<d3.length)∧
 (0≤(Qa0 d3 d7.2.toNat ((0:Int),(0:Int))).1∧(Qa0 d3 d7.2.toNat ((0:Int),(0:Int))).1<(x.2.1.length:Int))∧
 ((Qa1 (Qa0 d3 d7.2.toNat ((0:Int),(0:Int))).1)<x.2.1.length)∧
 (0≤(Qa0 d3 d7.2.toNat ((0:Int),(0:Int))).2∧(Qa0 d3 d7.2.toNat ((0:Int),(0:Int))).2<(x.2.2.length:Int))∧
 ((Qa1 (Qa0 d3 d7.2.toNat ((0:Int),(0:Int))).2)<x.2.2.length)∧
 ((((Qa0 x.2.1 (Qa1 (Qa0 d3 d7.2.toNat ((0:Int),(0:Int))).1) (0:Int)) !=(Qa0 x.2.2 (Qa1 (Qa0 d3 d7.2.toNat ((0:Int),(0:Int))).2) (0:Int)))=true→K false ())∧(((Qa0 x.2.1 (Qa1 (Qa0 d3 d7.2.toNat ((0:Int),(0:Int))).1) (0:Int)) !=(Qa0 x.2.2 (Qa1 (Qa0 d3 d7.2.toNat ((0:Int),(0:Int))).2) (0:Int)))=false→J9 d7.1))) (fun d10=>J8 (d10,(i64.wrap (d7.2+1)))))∧((decide (d7.2<(d3.length:Int)))=false→J5 d7.1)))) (fun d6=>K true ())))))
theorem Xc{P}(h:Hq P IK){x K}(hw:Qk P x K):Fn P "mergelens/script.Fits" IQ x K:=
 zF h hw
end Go.VS
