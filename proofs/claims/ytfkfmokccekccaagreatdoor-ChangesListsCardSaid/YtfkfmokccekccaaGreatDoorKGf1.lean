/- Functions of the program: typed code, and what it says, lifted. -/
import Derived.Test.YtfkfmokccekccaaGreatDoorKTxSig
import Derived.KernelRfl
set_option linter.unusedVariables false
set_option linter.unusedSimpArgs false
set_option maxRecDepth 8000
namespace Go.VS
open IntKind
def LJ:Be:=
 (.seq (.region [o1 6 (.asg (.c (.slice none 0 0)))]) (.seq (.region [im 11 0,oS ⟨some 12,.call zS0 [11,(kI 0)],none⟩ Bf,im 13 1,o1 14 (.bin .add
 13 (kI 1)),oS ⟨some 15,.call zS1 [12,14],none⟩ BD,ia 1 15]) (.seq (.region [oT ⟨some 16,.buildSl 3 [(.slice none 0 0),(.int .i64 0),(.slice
 none 0 0)] 0 [],none⟩ (some (AB,(.pair tM (.pair .leaf tM)))),ia 7 16]) (.seq (.seq (.region [ia 8 (kI 0)]) (.frame (rg [7,8,9,10] 17 95) [1009] true (.join [.sl 7 false
 (.sl AB) (.node .own (.pair tM (.pair .leaf tM)))] (.block 0 (.loop [.sl 7 false (.sl AB) (.node .own (.pair tM (.pair .leaf tM))),.si 8] (.seq (.seq (.region [im 17 8,
 im 18 1,o1 19 (.bin .lss 17 18)]) (.cond 19 .skip (.exit 0))) (.seq (.frame (rg [7,9,10] 22 90) [1009] true (.join [.sl 7 false (.sl AB) (.node .own (.pair tM (.pair .leaf
 tM)))] (.block 1 (.seq (.region [im 22 0,im 23 8,o1 24 (.bin .add (kI 1000) 23),oS ⟨some 25,.call zS0 [22,24],none⟩ Bf,oS ⟨some 26,.call
 zS1 [25,(kI 5)],none⟩ BD,o1 27 (.build [(.slice none 0 0),(.int .i64 0),(.slice none 0 0)] [(1,1,26)]),o1 9 (.alloc [(.slice none 0 0),
 (.int .i64 0),(.slice none 0 0)]),o0 ⟨none,.store 3 9 27,none⟩]) (.seq (.seq (.region [ia 10 (kI 0)]) (.frame (rg [10] 28 26) [1009] true (.join [.bx 1009 AB (.pair tO
 (.pair .leaf tO))] (.block 2 (.loop [.si 10,.bx 1009 AB (.pair tO (.pair .leaf tO))] (.seq (.seq (.region [im 28 10,im 29 8,o1 30 (.bin .lss 28 29)]) (.cond 30 .skip (.exit
 2))) (.seq (.frame (rg [] 33 21) [1009] true (.join [.bx 1009 AB (.pair tO (.pair .leaf tO))] (.block 3 (.seq (.region [im 33 0,im 34 8,o1 35 (.bin .mul (kI 40) 34),o1 36
 (.bin .add (kI 1100) 35),im 37 10,o1 38 (.bin .add 36 37),oS ⟨some 39,.call zS0 [33,38],none⟩ Bf,o1 40 (.bin .rem 39 (kI 3)),o1 41 (.bin .eql
 40 (kI 0)),im 42 41,gt 43 42 (.fAddr 0 9),gt 44 42 (.load false 1 43),gt 45 42 (.lenK 44),gt 46 42 (.bin .lss 45 (kI 3)),o1 47 (.pick 42 46 kF)]) (.frame (rg [] 48 6) [1009]
 true (.join [.bx 1009 AB (.pair tO (.pair .leaf tO))] (.cond 47 (.region [fa 48 0 9,ld 49 48,im 50 10,oT ⟨some 51,.buildSl 1 [(.int .i64 0)] 1 [(0,50)],none⟩ (some (bI,
 .leaf)),oT ⟨some 52,.app 1 8 49 51,none⟩ (some (bI,.leaf)),fa 53 0 9,o0 ⟨none,.store 1 53 52,none⟩]) .skip))))))) (.region [im 31 10,o1 32 (.bin .add 31 (kI 1)),ia 10
 32])))))))) (.seq (.seq (.region [fa 54 0 9,ld 55 54,o1 56 (.lenK 55),o1 57 (.bin .eql 56 (kI 0)),im 58 57,gt 59 58 (.mv 8),gt 60 58 (.bin .gtr 59 (kI 0)),o1 61 (.pick 58 60
 kF),im 62 61,gt 63 62 (.mv 0),gt 64 62 (.mv 8),gt 65 62 (.bin .add (kI 1500) 64),oS ⟨some 66,.call zS0 [63,65],some (62,true)⟩ Bf,gt 67 62
 (.bin .rem 66 (kI 4)),gt 68 62 (.bin .gtr 67 (kI 0)),o1 69 (.pick 62 68 kF)]) (.frame (rg [] 70 4) [1009] true (.join [.bx 1009 AB (.pair tO (.pair .leaf tO))] (.cond 69
 (.region [im 70 8,o1 71 (.bin .sub 70 (kI 1)),oT ⟨some 72,.buildSl 1 [(.int .i64 0)] 1 [(0,71)],none⟩ (some (bI,.leaf)),fa 73 0 9,o0 ⟨none,.store 1 73 72,none⟩])
 .skip)))) (.seq (.region [im 74 0,im 75 8,o1 76 (.bin .mul (kI 200) 75),o1 77 (.bin .add (kI 2000) 76),im 78 2,oS ⟨some 79,.call Yc [74,77,78],
 none⟩ CW,fa 80 2 9,o0 ⟨none,.store 1 80 79,none⟩]) (.seq (.seq (.region [fa 81 0 9,ld 82 81,o1 83 (.lenK 82),o1 84 (.bin .gtr 83 (kI 0)),im 85 84,gt 86 85 (.mv
 0),gt 87 85 (.mv 8),gt 88 85 (.bin .add (kI 1600) 87),oS ⟨some 89,.call zS0 [86,88],some (85,true)⟩ Bf,gt 90 85 (.bin .rem 89 (kI 4)),gt 91
 85 (.bin .gtr 90 (kI 0)),o1 92 (.pick 85 91 kF)]) (.frame (rg [] 93 15) [1009] true (.join [.bx 1009 AB (.pair tO (.pair .leaf tO))] (.cond 92 (.region [im 93 7,fa 94 0 9,
 ld 95 94,o1 96 (.ixA 1 95 (kI 0)),ld 97 96,o1 98 (.ixA 3 93 97),fa 99 2 98,ld 100 99,im 101 0,im 102 8,o1 103 (.bin .mul (kI 200) 102),o1 104 (.bin .add (kI 2000) 103),im
 105 2,oS ⟨some 106,.call AdQ [100,101,104,105],none⟩ DT,fa 107 2 9,o0 ⟨none,.store 1 107 106,none⟩]) .skip)))) (.region [im 108 7,
 o1 109 (.load true 3 9),⟨⟨some 110,.buildSl 3 [(.slice none 0 0),(.int .i64 0),(.slice none 0 0)] 1 [(0,109)],none⟩,some (AB,(.pair tO (.pair .leaf tO))),⟨[],[]⟩,
 true,none,false,false⟩,oT ⟨some 111,.app 3 56 108 110,none⟩ (some (AB,(.pair tM (.pair .leaf tM)))),ia 7 111]))))))))) (.region [im 20 8,o1 21 (.bin .add 20 (kI 1)),
 ia 8 21])))))))) (.seq (.frz [7] (.region [im 112 7,im 113 0,oS ⟨some 114,.call AdR [112,113],none⟩ DS,ia 6 114])) .ret)))))
def Iw:AFn:=⟨AbQ,LJ.erase,[.tmp 6],3⟩
def PD(P:Pg)(x:((List Int)×(Int×Int)))(K:(List Commit)→Unit→Prop):Prop:=
 Fn P zS0 Bf (x.1,(0:Int)) (fun(d1:Int) (e2:Unit)=>Fn P zS1 BD (d1,(i64.wrap (x.2.1+(1:Int)))) (fun(d3:Int) (e4:Unit)=>Ad (D:=(List Commit)) (fun J5=>AJ (D:=((List Commit)×Int)) (([]:List Commit),(0:Int)) (fun d7 J8=>(((decide (d7.2<d3))=true→Ad (D:=(List Commit)) (fun J9=>Fn P zS0 Bf (x.1,(i64.wrap ((1000:Int)+d7.2))) (fun(d11:Int) (e12:Unit)=>Fn P zS1 BD (d11,(5:Int)) (fun(d13:Int) (e14:Unit)=>Ad (D:=Commit) (fun J15=>AJ (D:=(Int×Commit)) ((0:Int),([],(d13,[]))) (fun d17 J18=>(((decide (d17.1<d7.2))=true→Ad (D:=Commit) (fun J19=>Fn P zS0 Bf (x.1,(i64.wrap ((i64.wrap ((1100:Int)+(i64.wrap ((40:Int)*d7.2))))+d17.1))) (fun(d21:Int) (e22:Unit)=>((3:Int)≠0)∧
 Ad (D:=Commit) (fun J23=>(((cond ((Int.tmod d21 (3:Int))==(0:Int)) (decide ((d17.2.1.length:Int)<(3:Int))) false)=true→((d17.2.1.length+List.length ([d17.1]:List Int))*8≤140737488355328)∧
 J23 ((d17.2.1++([d17.1]:List Int)),d17.2.2))∧((cond ((Int.tmod d21 (3:Int))==(0:Int)) (decide ((d17.2.1.length:Int)<(3:Int))) false)=false→J23 d17.2))) (fun d24=>J19 d24))) (fun d20=>J18 ((i64.wrap (d17.1+(1:Int))),d20)))∧((decide (d17.1<d7.2))=false→J15 d17.2)))) (fun d16=>Ad (D:=Int) (fun J25=>(((cond ((d16.1.length:Int)==(0:Int)) (decide (d7.2>(0:Int))) false)=true→Fn P zS0 Bf (x.1,(i64.wrap ((1500:Int)+d7.2))) (fun(d26:Int) _=>J25 d26))∧(((cond ((d16.1.length:Int)==(0:Int)) (decide (d7.2>(0:Int))) false)=false→J25 (0:Int))∧True))) (fun d27=>(((cond ((d16.1.length:Int)==(0:Int)) (decide (d7.2>(0:Int))) false)=true→(4:Int)≠0))∧
 Ad (D:=Commit) (fun J28=>(((cond (cond ((d16.1.length:Int)==(0:Int)) (decide (d7.2>(0:Int))) false) (decide ((Int.tmod d27 (4:Int))>(0:Int))) false)=true→J28 (([(i64.wrap (d7.2 -(1:Int)))]:List Int),d16.2))∧((cond (cond ((d16.1.length:Int)==(0:Int)) (decide (d7.2>(0:Int))) false) (decide ((Int.tmod d27 (4:Int))>(0:Int))) false)=false→J28 d16))) (fun d29=>Fn P Yc CW (x.1,((i64.wrap ((2000:Int)+(i64.wrap ((200:Int)*d7.2)))),x.2.2)) (fun(d30:(List ((List UInt8)×(List UInt8)))) (e31:Unit)=>Ad (D:=Int) (fun J32=>(((decide ((d29.1.length:Int)>(0:Int)))=true→Fn P zS0 Bf (x.1,(i64.wrap ((1600:Int)+d7.2))) (fun(d33:Int) _=>J32 d33))∧(((decide ((d29.1.length:Int)>(0:Int)))=false→J32 (0:Int))∧True))) (fun d34=>(((decide ((d29.1.length:Int)>(0:Int)))=true→(4:Int)≠0))∧
 Ad (D:=Commit) (fun J35=>(((cond (decide ((d29.1.length:Int)>(0:Int))) (decide ((Int.tmod d34 (4:Int))>(0:Int))) false)=true→(0≤(0:Int)∧(0:Int)<(d29.1.length:Int))∧
 ((Int.toNat (0:Int))<d29.1.length)∧
 (0≤(List.getD d29.1 (Int.toNat (0:Int)) (0:Int))∧(List.getD d29.1 (Int.toNat (0:Int)) (0:Int))<(d7.1.length:Int))∧
 ((Int.toNat (List.getD d29.1 (Int.toNat (0:Int)) (0:Int)))<d7.1.length)∧
 Fn P AdQ DT ((List.getD d7.1 (Int.toNat (List.getD d29.1 (Int.toNat (0:Int)) (0:Int))) Ah).2.2,(x.1,((i64.wrap ((2000:Int)+(i64.wrap ((200:Int)*d7.2)))),x.2.2))) (fun(d37:(List ((List UInt8)×(List UInt8)))) (e38:Unit)=>J35 (d29.1,(d29.2.1,d37))))∧((cond (decide ((d29.1.length:Int)>(0:Int))) (decide ((Int.tmod d34 (4:Int))>(0:Int))) false)=false→J35 (d29.1,(d29.2.1,d30))))) (fun d36=>((d7.1.length+List.length ([d36]:List Commit))*56≤140737488355328)∧
 J9 (d7.1++([d36]:List Commit))))))))))) (fun d10=>J8 (d10,(i64.wrap (d7.2+(1:Int))))))∧((decide (d7.2<d3))=false→J5 d7.1)))) (fun d6=>Fn P AdR DS (d6,x.1) (fun(d39:(List Commit)) (e40:Unit)=>K d39 ()))))
theorem U6{P:Pg}(h:Has P Iw){x:DP DR.ps}{K:DP DR.rs→DP (ptrs DR.ps)→Prop}(hw:PD P x K):Fn P AbQ DR x K:=
 BG (c:=LJ) h rfl rfl (by kernel_rfl) (Eq.mpr (show BC P Iw DR LJ x K=_ by kernel_rfl) hw)
def F5:Be:=
 (.seq (.region [ia 2 (kI 0)]) (.seq (.seq (.region [im 5 0,o1 6 (.lenS 5),o1 7 (.bin .lss 6 (kI 1)),im 8 7,gf 9 8 (.mv 0),gf 10 8 (.lenS 9),gf 11 8 (.bin .gtr 10 (kI 200)),
 o1 12 (.pick 8 kT 11)]) (.cond 12 (.seq (.region [ia 2 (kI 210)]) .ret) .skip)) (.seq (.region [o1 3 (.asg (.c (.string ⟨#[]⟩)))]) (.seq (.seq (.region [ia 4 (kI 0)]) (.frame (rg
 [2,3,4] 13 43) [] false (.join [.si 2] (.block 0 (.loop [.si 2,.sl 3 false .str .leaf,.si 4] (.seq (.seq (.region [im 13 4,im 14 0,o1 15 (.lenS 14),o1 16 (.bin .leq 13 15)])
 (.cond 16 .skip (.exit 0))) (.seq (.frame (rg [2,3] 19 37) [] false (.join [.si 2,.sl 3 false .str .leaf] (.block 1 (.seq (.seq (.region [im 19 4,im 20 0,o1 21 (.lenS 20),o1
 22 (.bin .lss 19 21),im 23 22,gt 24 23 (.mv 0),gt 25 23 (.mv 4),gt 26 23 (.ixS 24 25),gt 27 23 (.bin .eql 26 (.c (.int .u8 0))),o1 28 (.pick 23 27 kF)]) (.cond 28 (.seq
 (.region [ia 2 (kI 210)]) .ret) .skip)) (.seq (.seq (.region [im 29 4,im 30 0,o1 31 (.lenS 30),o1 32 (.bin .lss 29 31),im 33 32,gt 34 33 (.mv 0),gt 35 33 (.mv 4),gt 36 33
 (.ixS 34 35),gt 37 33 (.bin .neq 36 (.c (.int .u8 47))),o1 38 (.pick 33 37 kF)]) (.cond 38 (.seq (.region [im 39 3,im 40 0,im 41 4,im 42 4,o1 43 (.bin .add 42 (kI 1)),o1 44
 (.slS 40 (some 41) (some 43)),o1 45 (.bin .add 39 44),ia 3 45]) (.exit 1)) .skip)) (.seq (.seq (.region [im 46 3,o1 47 (.bin .eql 46 (.c (.string ⟨#[]⟩))),im 48 47,gf 49 48
 (.mv 3),o0 ⟨some 50,.bin .eql 49 (.c (.string ⟨#[46]⟩)),some (48,false)⟩,o1 51 (.pick 48 kT 50),im 52 51,gf 53 52 (.mv 3),o0 ⟨some 54,.bin .eql 53 (.c (.string ⟨#[46,
 46]⟩)),some (52,false)⟩,o1 55 (.pick 52 kT 54)]) (.cond 55 (.seq (.region [ia 2 (kI 210)]) .ret) .skip)) (.region [o1 3 (.asg (.c (.string ⟨#[]⟩)))]))))))) (.region [im 17 4,o1
 18 (.bin .add 17 (kI 1)),ia 4 18])))))))) (.seq (.region [ia 2 (kI 0)]) .ret)))))
def EO:AFn:=⟨AbR,F5.erase,[.tmp 2],1⟩
def IE(P:Pg)(x:(List UInt8))(K:Int→Unit→Prop):Prop:=
 (((cond (decide ((x.length:Int)<(1:Int))) true (decide ((x.length:Int)>(200:Int))))=true→K (210:Int) ())∧((cond (decide ((x.length:Int)<(1:Int))) true (decide ((x.length:Int)>(200:Int))))=false→Ad (D:=Int) (fun J1=>AJ (D:=(Int×((List UInt8)×Int))) ((0:Int),(([]:List UInt8),(0:Int))) (fun d3 J4=>(((decide (d3.2.2≤(x.length:Int)))=true→Ad (D:=(Int×(List UInt8))) (fun J5=>(((decide (d3.2.2<(x.length:Int)))=true→0≤d3.2.2∧d3.2.2<(x.length:Int)))∧
 (((cond (decide (d3.2.2<(x.length:Int))) (((x.getD d3.2.2.toNat 0).toNat:Int)==(0:Int)) false)=true→K (210:Int) ())∧((cond (decide (d3.2.2<(x.length:Int))) (((x.getD d3.2.2.toNat 0).toNat:Int)==(0:Int)) false)=false→(((decide (d3.2.2<(x.length:Int)))=true→0≤d3.2.2∧d3.2.2<(x.length:Int)))∧
 (((cond (decide (d3.2.2<(x.length:Int))) (((x.getD d3.2.2.toNat 0).toNat:Int) !=(47:Int)) false)=true→(0≤d3.2.2∧d3.2.2≤(i64.wrap (d3.2.2+(1:Int)))∧(i64.wrap (d3.2.2+(1:Int)))≤(x.length:Int))∧
 (d3.2.1.length+List.length (List.drop d3.2.2.toNat (List.take (Int.toNat (i64.wrap (d3.2.2+(1:Int)))) x))≤9223372036854775807)∧
 J5 (d3.1,(d3.2.1++(List.drop d3.2.2.toNat (List.take (Int.toNat (i64.wrap (d3.2.2+(1:Int)))) x)))))∧((cond (decide (d3.2.2<(x.length:Int))) (((x.getD d3.2.2.toNat 0).toNat:Int) !=(47:Int)) false)=false→(((cond (cond (d3.2.1==([]:List UInt8)) true (d3.2.1==([46]:List UInt8))) true (d3.2.1==([46,46]:List UInt8)))=true→K (210:Int) ())∧((cond (cond (d3.2.1==([]:List UInt8)) true (d3.2.1==([46]:List UInt8))) true (d3.2.1==([46,46]:List UInt8)))=false→J5 (d3.1,([]:List UInt8))))))))) (fun d6=>J4 (d6.1,(d6.2,(i64.wrap (d3.2.2+(1:Int)))))))∧((decide (d3.2.2≤(x.length:Int)))=false→J1 d3.1)))) (fun d2=>K (0:Int) ())))
theorem M4{P:Pg}(h:Has P EO){x:DP B5.ps}{K:DP B5.rs→DP (ptrs B5.ps)→Prop}(hw:IE P x K):Fn P AbR B5 x K:=
 BG (c:=F5) h rfl rfl (by kernel_rfl) (Eq.mpr (show BC P EO B5 F5 x K=_ by kernel_rfl) hw)
def Jd:Be:=
 (.seq (.region [o1 4 (.asg kF)]) (.seq (.region [im 5 1,o1 6 (.lenS 5),im 7 0,o1 8 (.lenS 7),o1 9 (.bin .gtr 6 8),im 10 9,gt 11 10 (.mv 1),gt 12 10 (.mv 0),gt 13 10 (.lenS
 12),gt 14 10 (.slS 11 none (some 13)),gt 15 10 (.mv 0),gt 16 10 (.bin .eql 14 15),o1 17 (.pick 10 16 kF),im 18 17,gt 19 18 (.mv 1),gt 20 18 (.mv 0),gt 21 18 (.lenS 20),gt
 22 18 (.ixS 19 21),gt 23 18 (.bin .eql 22 (.c (.int .u8 47))),o1 24 (.pick 18 23 kF),ia 4 24]) .ret))
def GA:AFn:=⟨AdS,Jd.erase,[.tmp 4],2⟩
def Mw(P:Pg)(x:((List UInt8)×(List UInt8)))(K:Bool→Unit→Prop):Prop:=
 (((decide ((x.2.length:Int)>(x.1.length:Int)))=true→0≤(x.1.length:Int)∧(x.1.length:Int)≤(x.2.length:Int)))∧
 (((cond (decide ((x.2.length:Int)>(x.1.length:Int))) ((List.take (Int.toNat (x.1.length:Int)) x.2)==x.1) false)=true→0≤(x.1.length:Int)∧(x.1.length:Int)<(x.2.length:Int)))∧
 K (cond (cond (decide ((x.2.length:Int)>(x.1.length:Int))) ((List.take (Int.toNat (x.1.length:Int)) x.2)==x.1) false) (((UInt8.toNat (List.getD x.2 (Int.toNat (x.1.length:Int)) 0):Nat):Int)==(47:Int)) false) ()
theorem Rq{P:Pg}(h:Has P GA){x:DP Ds.ps}{K:DP Ds.rs→DP (ptrs Ds.ps)→Prop}(hw:Mw P x K):Fn P AdS Ds x K:=
 BG (c:=Jd) h rfl rfl (by kernel_rfl) (Eq.mpr (show BC P GA Ds Jd x K=_ by kernel_rfl) hw)
def Jb:Be:=
 (.seq (.region [ia 2 (kI 0)]) (.seq (.seq (.region [im 3 0,o1 4 (.lenS 3),o1 5 (.bin .gtr 4 (kI 1048576)),im 6 5,⟨⟨some 7,.mv 0,some (6,false)⟩,none,⟨[],[]⟩,false,some
 6,true,false⟩,⟨⟨some 8,.call ZI [7],some (6,false)⟩,none,Cx,false,none,true,false⟩,⟨⟨some 9,.lenK 8,some (6,false)⟩,none,
 ⟨[],[]⟩,false,none,true,false⟩,⟨⟨some 10,.bin .gtr 9 (kI 4096),some (6,false)⟩,none,⟨[],[]⟩,false,none,true,true⟩,o1 11 (.pick 6 kT 10)]) (.cond 11 (.seq (.region
 [ia 2 (kI 1)]) .ret) .skip)) (.seq (.region [ia 2 (kI 0)]) .ret)))
def Gy:AFn:=⟨AdT,Jb.erase,[.tmp 2],1⟩
def Mu(P:Pg)(x:(List UInt8))(K:Int→Unit→Prop):Prop:=
 (((decide ((x.length:Int)>(1048576:Int)))=true→(((cond true true false)=true→K (1:Int) ())∧((cond true true false)=false→K (0:Int) ())))∧((decide ((x.length:Int)>(1048576:Int)))=false→Fn P ZI Cx x (fun(d1:(List (List UInt8))) (e2:Unit)=>(((cond false true (decide ((d1.length:Int)>(4096:Int))))=true→K (1:Int) ())∧((cond false true (decide ((d1.length:Int)>(4096:Int))))=false→K (0:Int) ())))))
theorem Ro{P:Pg}(h:Has P Gy){x:DP Dr.ps}{K:DP Dr.rs→DP (ptrs Dr.ps)→Prop}(hw:Mu P x K):Fn P AdT Dr x K:=
 BG (c:=Jb) h rfl rfl (by kernel_rfl) (Eq.mpr (show BC P Gy Dr Jb x K=_ by kernel_rfl) hw)
def Je:Be:=
 (.seq (.region [ia 2 (kI 0)]) (.seq (.seq (.region [im 7 0,o1 8 (.lenK 7),o1 9 (.bin .gtr 8 (kI 200))]) (.cond 9 (.seq (.region [ia 2 (kI 1)]) .ret) .skip)) (.seq (.seq (.region
 [ia 3 (kI 0)]) (.frame (rg [2,3] 10 13) [] false (.join [.si 2] (.block 0 (.loop [.si 2,.si 3] (.seq (.seq (.region [im 10 3,im 11 0,o1 12 (.lenK 11),o1 13 (.bin .lss 10 12)])
 (.cond 13 .skip (.exit 0))) (.seq (.frame (rg [2] 16 7) [] false (.join [.si 2] (.block 1 (.seq (.region [im 16 0,im 17 3,o1 18 (.ixA 2 16 17),fa 19 0 18,ld 20 19,oS ⟨some 21,
 .call AbR [20],none⟩ B5,o1 22 (.bin .neq 21 (kI 0))]) (.cond 22 (.seq (.region [ia 2 (kI 210)]) .ret) .skip))))) (.region [im 14
 3,o1 15 (.bin .add 14 (kI 1)),ia 3 15])))))))) (.seq (.seq (.region [ia 4 (kI 0)]) (.frame (rg [2,4,5] 23 35) [] false (.join [.si 2] (.block 2 (.loop [.si 2,.si 4] (.seq
 (.seq (.region [im 23 4,im 24 0,o1 25 (.lenK 24),o1 26 (.bin .lss 23 25)]) (.cond 26 .skip (.exit 2))) (.seq (.frame (rg [2,5] 29 29) [] false (.join [.si 2] (.block 3 (.seq
 (.region [ia 5 (kI 0)]) (.frame (rg [2,5] 29 29) [] false (.join [.si 2] (.block 4 (.loop [.si 2,.si 5] (.seq (.seq (.region [im 29 5,im 30 4,o1 31 (.bin .lss 29 30)]) (.cond
 31 .skip (.exit 4))) (.seq (.frame (rg [2] 34 24) [] false (.join [.si 2] (.block 5 (.seq (.frame (rg [] 34 24) [] false (.join [.sl 57 false .bool .leaf] (.draw [(.first (im 34 0)
 (.first (im 35 5) (.first (o1 36 (.ixA 2 34 35)) (.first (fa 37 0 36) (.first (ld 38 37) (.first (im 39 0) (.first (im 40 4) (.first (o1 41 (.ixA 2 39 40)) (.first (fa 42 0 41)
 (.first (ld 43 42) (.first (o1 44 (.bin .geq 38 43)) (.first (im 45 44) (.first (gf 46 45 (.mv 0)) (.first (gf 47 45 (.mv 5)) (.first (gf 48 45 (.ixA 2 46 47)) (.first (gf 49 45
 (.fAddr 0 48)) (.first (gf 50 45 (.load false 1 49)) (.first (gf 51 45 (.mv 0)) (.first (gf 52 45 (.mv 4)) (.first (gf 53 45 (.ixA 2 51 52)) (.first (gf 54 45 (.fAddr 0 53))
 (.first (gf 55 45 (.load false 1 54)) (.alt (oS ⟨some 56,.call AdS [50,55],some (45,false)⟩ Ds) (.first (o1 57 (.pick 45 kT 56)) .done)
 .stop)))))))))))))))))))))))]))) (.cond 57 (.seq (.region [ia 2 (kI 211)]) .ret) .skip))))) (.region [im 32 5,o1 33 (.bin .add 32 (kI 1)),ia 5 33]))))))))))) (.region [im 27 4,
 o1 28 (.bin .add 27 (kI 1)),ia 4 28])))))))) (.seq (.seq (.region [ia 6 (kI 0)]) (.frame (rg [2,6] 58 13) [] false (.join [.si 2] (.block 6 (.loop [.si 2,.si 6] (.seq (.seq
 (.region [im 58 6,im 59 0,o1 60 (.lenK 59),o1 61 (.bin .lss 58 60)]) (.cond 61 .skip (.exit 6))) (.seq (.frame (rg [2] 64 7) [] false (.join [.si 2] (.block 7 (.seq (.region [im
 64 0,im 65 6,o1 66 (.ixA 2 64 65),fa 67 1 66,ld 68 67,oS ⟨some 69,.call AdT [68],none⟩ Dr,o1 70 (.bin .neq 69 (kI 0))]) (.cond 70
 (.seq (.region [ia 2 (kI 1)]) .ret) .skip))))) (.region [im 62 6,o1 63 (.bin .add 62 (kI 1)),ia 6 63])))))))) (.seq (.region [ia 2 (kI 0)]) .ret))))))
def Fg:AFn:=⟨ZJ,Je.erase,[.tmp 2],1⟩
def IV(P:Pg)(x:(List ((List UInt8)×(List UInt8))))(K:Int→Unit→Prop):Prop:=
 (((decide ((x.length:Int)>(200:Int)))=true→K (1:Int) ())∧((decide ((x.length:Int)>(200:Int)))=false→Ad (D:=Int) (fun J1=>AJ (D:=(Int×Int)) ((0:Int),(0:Int)) (fun d3 J4=>(((decide (d3.2<(x.length:Int)))=true→Ad (D:=Int) (fun J5=>(0≤d3.2∧d3.2<(x.length:Int))∧
 (d3.2.toNat<x.length)∧
 Fn P AbR B5 (List.getD x d3.2.toNat ([],[])).1 (fun(d7:Int) (e8:Unit)=>(((d7 !=(0:Int))=true→K (210:Int) ())∧((d7 !=(0:Int))=false→J5 d3.1)))) (fun d6=>J4 (d6,(i64.wrap (d3.2+(1:Int))))))∧((decide (d3.2<(x.length:Int)))=false→J1 d3.1)))) (fun d2=>Ad (D:=Int) (fun J9=>AJ (D:=(Int×Int)) (d2,(0:Int)) (fun d11 J12=>(((decide (d11.2<(x.length:Int)))=true→Ad (D:=Int) (fun J13=>Ad (D:=Int) (fun J15=>AJ (D:=(Int×Int)) (d11.1,(0:Int)) (fun d17 J18=>(((decide (d17.2<d11.2))=true→Ad (D:=Int) (fun J19=>Ad (D:=Bool) (fun J21=>(0≤d17.2∧d17.2<(x.length:Int))∧
 (d17.2.toNat<x.length)∧
 (0≤d11.2∧d11.2<(x.length:Int))∧
 (d11.2.toNat<x.length)∧
 (((!(Op.bytesLess (List.getD x d17.2.toNat ([],[])).1 (List.getD x d11.2.toNat ([],[])).1))=false→0≤d17.2∧d17.2<(x.length:Int)))∧
 (((!(Op.bytesLess (List.getD x d17.2.toNat ([],[])).1 (List.getD x d11.2.toNat ([],[])).1))=false→d17.2.toNat<x.length))∧
 (((!(Op.bytesLess (List.getD x d17.2.toNat ([],[])).1 (List.getD x d11.2.toNat ([],[])).1))=false→0≤d11.2∧d11.2<(x.length:Int)))∧
 (((!(Op.bytesLess (List.getD x d17.2.toNat ([],[])).1 (List.getD x d11.2.toNat ([],[])).1))=false→d11.2.toNat<x.length))∧
 (Ad (D:=Bool) (fun J23=>(((!(Op.bytesLess (List.getD x d17.2.toNat ([],[])).1 (List.getD x d11.2.toNat ([],[])).1))=false→Fn P AdS Ds ((List.getD x d17.2.toNat ([],[])).1,(List.getD x d11.2.toNat ([],[])).1) (fun(d24:Bool) _=>J23 d24))∧(((!(Op.bytesLess (List.getD x d17.2.toNat ([],[])).1 (List.getD x d11.2.toNat ([],[])).1))=true→J23 false)∧True))) (fun d25=>J21 (cond (!(Op.bytesLess (List.getD x d17.2.toNat ([],[])).1 (List.getD x d11.2.toNat ([],[])).1)) true d25)))∧True) (fun d22=>((d22=true→K (211:Int) ())∧(d22=false→J19 d17.1)))) (fun d20=>J18 (d20,(i64.wrap (d17.2+(1:Int))))))∧((decide (d17.2<d11.2))=false→J15 d17.1)))) (fun d16=>J13 d16)) (fun d14=>J12 (d14,(i64.wrap (d11.2+(1:Int))))))∧((decide (d11.2<(x.length:Int)))=false→J9 d11.1)))) (fun d10=>Ad (D:=Int) (fun J26=>AJ (D:=(Int×Int)) (d10,(0:Int)) (fun d28 J29=>(((decide (d28.2<(x.length:Int)))=true→Ad (D:=Int) (fun J30=>(0≤d28.2∧d28.2<(x.length:Int))∧
 (d28.2.toNat<x.length)∧
 Fn P AdT Dr (List.getD x d28.2.toNat ([],[])).2 (fun(d32:Int) (e33:Unit)=>(((d32 !=(0:Int))=true→K (1:Int) ())∧((d32 !=(0:Int))=false→J30 d28.1)))) (fun d31=>J29 (d31,(i64.wrap (d28.2+(1:Int))))))∧((decide (d28.2<(x.length:Int)))=false→J26 d28.1)))) (fun d27=>K (0:Int) ())))))
theorem Lg{P:Pg}(h:Has P Fg){x:DP Cy.ps}{K:DP Cy.rs→DP (ptrs Cy.ps)→Prop}(hw:IV P x K):Fn P ZJ Cy x K:=
 BG (c:=Je) h rfl rfl (by kernel_rfl) (Eq.mpr (show BC P Fg Cy Je x K=_ by kernel_rfl) hw)
def LK:Be:=
 (.seq (.region [o1 4 (.asg kF)]) (.seq (.seq (.region [ia 5 (kI 0)]) (.frame (rg [] 4 14) [] false (.join [.sl 4 false .bool .leaf] (.block 0 (.loop [.sl 4 false .bool .leaf,.si
 5] (.seq (.seq (.region [im 6 5,im 7 0,o1 8 (.lenK 7),o1 9 (.bin .lss 6 8)]) (.cond 9 .skip (.exit 0))) (.seq (.frame (rg [4] 12 6) [] false (.join [.sl 4 false .bool .leaf]
 (.block 1 (.seq (.region [im 12 0,im 13 5,o1 14 (.ixA 1 12 13),ld 15 14,im 16 1,o1 17 (.bin .eql 15 16)]) (.cond 17 (.seq (.region [o1 4 (.asg kT)]) .ret) .skip))))) (.region
 [im 10 5,o1 11 (.bin .add 10 (kI 1)),ia 5 11])))))))) (.seq (.region [o1 4 (.asg kF)]) .ret)))
def Iy:AFn:=⟨AdU,LK.erase,[.tmp 4],2⟩
def PE(P:Pg)(x:((List Int)×Int))(K:Bool→Unit→Prop):Prop:=
 Ad (D:=Bool) (fun J1=>AJ (D:=(Bool×Int)) (false,(0:Int)) (fun d3 J4=>(((decide (d3.2<(x.1.length:Int)))=true→Ad (D:=Bool) (fun J5=>(0≤d3.2∧d3.2<(x.1.length:Int))∧
 (d3.2.toNat<x.1.length)∧
 ((((List.getD x.1 d3.2.toNat (0:Int))==x.2)=true→K true ())∧(((List.getD x.1 d3.2.toNat (0:Int))==x.2)=false→J5 d3.1))) (fun d6=>J4 (d6,(i64.wrap (d3.2+(1:Int))))))∧((decide (d3.2<(x.1.length:Int)))=false→J1 d3.1)))) (fun d2=>K false ())
theorem U7{P:Pg}(h:Has P Iy){x:DP Eg.ps}{K:DP Eg.rs→DP (ptrs Eg.ps)→Prop}(hw:PE P x K):Fn P AdU Eg x K:=
 BG (c:=LK) h rfl rfl (by kernel_rfl) (Eq.mpr (show BC P Iy Eg LK x K=_ by kernel_rfl) hw)
def Jh:Be:=
 (.seq (.region [o1 4 (.asg (.c (.slice none 0 0)))]) (.seq (.region [im 10 0,o1 11 (.lenK 10),oT ⟨some 12,.mkSl 1 1 [(.bool false)] 11 11,none⟩ (some (.bool,.leaf)),ia 5 12])
 (.seq (.seq (.region [ia 6 (kI 0)]) (.frame (rg [5,6] 13 12) [] false (.join [.sl 5 false (.sl .bool) tO] (.block 0 (.loop [.sl 5 false (.sl .bool) tO,.si 6] (.seq (.seq (.region
 [im 13 6,im 14 1,o1 15 (.lenK 14),o1 16 (.bin .lss 13 15)]) (.cond 16 .skip (.exit 0))) (.seq (.frame (rg [5] 19 6) [] false (.join [.sl 5 false (.sl .bool) tO] (.block 1
 (.region [im 19 5,im 20 1,im 21 6,o1 22 (.ixA 1 20 21),ld 23 22,o1 24 (.ixA 1 19 23),o0 ⟨none,.store 1 24 kT,none⟩])))) (.region [im 17 6,o1 18 (.bin .add 17 (kI 1)),ia 6
 18])))))))) (.seq (.seq (.region [ia 7 (kI 0)]) (.frame (rg [5,7,8,9] 25 38) [] false (.join [.sl 5 false (.sl .bool) tO] (.block 2 (.loop [.sl 5 false (.sl .bool) tO,.si 7]
 (.seq (.seq (.region [im 25 7,im 26 0,o1 27 (.lenK 26),o1 28 (.bin .lss 25 27)]) (.cond 28 .skip (.exit 2))) (.seq (.frame (rg [5,8,9] 31 32) [] false (.join [.sl 5 false (.sl
 .bool) tO] (.block 3 (.seq (.region [ia 8 (kI 0)]) (.frame (rg [5,8,9] 31 32) [] false (.join [.sl 5 false (.sl .bool) tO] (.block 4 (.loop [.sl 5 false (.sl .bool) tO,.si 8]
 (.seq (.seq (.region [im 31 8,im 32 0,o1 33 (.lenK 32),o1 34 (.bin .lss 31 33)]) (.cond 34 .skip (.exit 4))) (.seq (.frame (rg [5,9] 37 26) [] false (.join [.sl 5 false (.sl
 .bool) tO] (.block 5 (.seq (.region [ia 9 (kI 0)]) (.frame (rg [5,9] 37 26) [] false (.join [.sl 5 false (.sl .bool) tO] (.block 6 (.loop [.sl 5 false (.sl .bool) tO,.si 9] (.seq
 (.seq (.region [im 37 9,im 38 0,im 39 8,o1 40 (.ixA 3 38 39),fa 41 0 40,ld 42 41,o1 43 (.lenK 42),o1 44 (.bin .lss 37 43),im 45 44,gt 46 45 (.mv 5),gt 47 45 (.mv 8),gt
 48 45 (.ixA 1 46 47),gt 49 45 (.load false 1 48),o1 50 (.pick 45 49 kF)]) (.cond 50 .skip (.exit 6))) (.seq (.frame (rg [5] 53 10) [] false (.join [.sl 5 false (.sl .bool) tO]
 (.block 7 (.region [im 53 5,im 54 0,im 55 8,o1 56 (.ixA 3 54 55),fa 57 0 56,ld 58 57,im 59 9,o1 60 (.ixA 1 58 59),ld 61 60,o1 62 (.ixA 1 53 61),o0 ⟨none,.store 1 62 kT,
 none⟩])))) (.region [im 51 9,o1 52 (.bin .add 51 (kI 1)),ia 9 52]))))))))))) (.region [im 35 8,o1 36 (.bin .add 35 (kI 1)),ia 8 36]))))))))))) (.region [im 29 7,o1 30 (.bin
 .add 29 (kI 1)),ia 7 30])))))))) (.seq (.region [im 63 5,ia 4 63]) .ret)))))
def GD:AFn:=⟨AdV,Jh.erase,[.tmp 4],2⟩
def Mz(P:Pg)(x:((List Commit)×(List Int)))(K:(List Bool)→Unit→Prop):Prop:=
 (0≤(x.1.length:Int)∧(x.1.length:Int)≤(x.1.length:Int)∧((1:Nat):Int)*(x.1.length:Int)≤281474976710656)∧
 Ad (D:=(List Bool)) (fun J1=>AJ (D:=((List Bool)×Int)) ((List.replicate (Int.toNat (x.1.length:Int)) false),(0:Int)) (fun d3 J4=>(((decide (d3.2<(x.2.length:Int)))=true→Ad (D:=(List Bool)) (fun J5=>(0≤d3.2∧d3.2<(x.2.length:Int))∧
 (d3.2.toNat<x.2.length)∧
 (0≤(List.getD x.2 d3.2.toNat (0:Int))∧(List.getD x.2 d3.2.toNat (0:Int))<(d3.1.length:Int))∧
 ((Int.toNat (List.getD x.2 d3.2.toNat (0:Int)))<d3.1.length)∧
 J5 (List.set d3.1 (Int.toNat (List.getD x.2 d3.2.toNat (0:Int))) true)) (fun d6=>J4 (d6,(i64.wrap (d3.2+(1:Int))))))∧((decide (d3.2<(x.2.length:Int)))=false→J1 d3.1)))) (fun d2=>Ad (D:=(List Bool)) (fun J7=>AJ (D:=((List Bool)×Int)) (d2,(0:Int)) (fun d9 J10=>(((decide (d9.2<(x.1.length:Int)))=true→Ad (D:=(List Bool)) (fun J11=>Ad (D:=(List Bool)) (fun J13=>AJ (D:=((List Bool)×Int)) (d9.1,(0:Int)) (fun d15 J16=>(((decide (d15.2<(x.1.length:Int)))=true→Ad (D:=(List Bool)) (fun J17=>Ad (D:=(List Bool)) (fun J19=>AJ (D:=((List Bool)×Int)) (d15.1,(0:Int)) (fun d21 J22=>(0≤d15.2∧d15.2<(x.1.length:Int))∧
 (d15.2.toNat<x.1.length)∧
 (((decide (d21.2<((List.length (List.getD x.1 d15.2.toNat Ah).1:Nat):Int)))=true→0≤d15.2∧d15.2<(d21.1.length:Int)))∧
 (((decide (d21.2<((List.length (List.getD x.1 d15.2.toNat Ah).1:Nat):Int)))=true→d15.2.toNat<d21.1.length))∧
 (((cond (decide (d21.2<((List.length (List.getD x.1 d15.2.toNat Ah).1:Nat):Int))) (List.getD d21.1 d15.2.toNat false) false)=true→Ad (D:=(List Bool)) (fun J23=>(0≤d15.2∧d15.2<(x.1.length:Int))∧
 (d15.2.toNat<x.1.length)∧
 (0≤d21.2∧d21.2<((List.length (List.getD x.1 d15.2.toNat Ah).1:Nat):Int))∧
 (d21.2.toNat<List.length (List.getD x.1 d15.2.toNat Ah).1)∧
 (0≤(List.getD (List.getD x.1 d15.2.toNat Ah).1 d21.2.toNat (0:Int))∧(List.getD (List.getD x.1 d15.2.toNat Ah).1 d21.2.toNat (0:Int))<(d21.1.length:Int))∧
 ((Int.toNat (List.getD (List.getD x.1 d15.2.toNat Ah).1 d21.2.toNat (0:Int)))<d21.1.length)∧
 J23 (List.set d21.1 (Int.toNat (List.getD (List.getD x.1 d15.2.toNat Ah).1 d21.2.toNat (0:Int))) true)) (fun d24=>J22 (d24,(i64.wrap (d21.2+(1:Int))))))∧((cond (decide (d21.2<((List.length (List.getD x.1 d15.2.toNat Ah).1:Nat):Int))) (List.getD d21.1 d15.2.toNat false) false)=false→J19 d21.1)))) (fun d20=>J17 d20)) (fun d18=>J16 (d18,(i64.wrap (d15.2+(1:Int))))))∧((decide (d15.2<(x.1.length:Int)))=false→J13 d15.1)))) (fun d14=>J11 d14)) (fun d12=>J10 (d12,(i64.wrap (d9.2+(1:Int))))))∧((decide (d9.2<(x.1.length:Int)))=false→J7 d9.1)))) (fun d8=>K d8 ()))
theorem Rt{P:Pg}(h:Has P GD){x:DP Dv.ps}{K:DP Dv.rs→DP (ptrs Dv.ps)→Prop}(hw:Mz P x K):Fn P AdV Dv x K:=
 BG (c:=Jh) h rfl rfl (by kernel_rfl) (Eq.mpr (show BC P GD Dv Jh x K=_ by kernel_rfl) hw)
def Jg:Be:=
 (.seq (.region [ia 2 (kI 0)]) (.seq (.seq (.region [im 11 0,o1 12 (.lenK 11),o1 13 (.bin .gtr 12 (kI 300))]) (.cond 13 (.seq (.region [ia 2 (kI 1)]) .ret) .skip)) (.seq (.seq
 (.region [ia 3 (kI 0)]) (.frame (rg [2,3] 14 13) [] false (.join [.si 2] (.block 0 (.loop [.si 2,.si 3] (.seq (.seq (.region [im 14 3,im 15 0,o1 16 (.lenK 15),o1 17 (.bin .lss
 14 16)]) (.cond 17 .skip (.exit 0))) (.seq (.frame (rg [2] 20 7) [] false (.join [.si 2] (.block 1 (.seq (.region [im 20 0,im 21 3,o1 22 (.ixA 3 20 21),fa 23 0 22,ld 24 23,o1
 25 (.lenK 24),o1 26 (.bin .gtr 25 (kI 32))]) (.cond 26 (.seq (.region [ia 2 (kI 1)]) .ret) .skip))))) (.region [im 18 3,o1 19 (.bin .add 18 (kI 1)),ia 3 19])))))))) (.seq (.seq
 (.region [ia 4 (kI 0)]) (.frame (rg [2,4,5,6] 27 43) [] false (.join [.si 2] (.block 2 (.loop [.si 2,.si 4] (.seq (.seq (.region [im 27 4,im 28 0,o1 29 (.lenK 28),o1 30
 (.bin .lss 27 29)]) (.cond 30 .skip (.exit 2))) (.seq (.frame (rg [2,5,6] 33 37) [] false (.join [.si 2] (.block 3 (.seq (.region [ia 5 (kI 0)]) (.frame (rg [2,5,6] 33 37) []
 false (.join [.si 2] (.block 4 (.loop [.si 2,.si 5] (.seq (.seq (.region [im 33 5,im 34 0,im 35 4,o1 36 (.ixA 3 34 35),fa 37 0 36,ld 38 37,o1 39 (.lenK 38),o1 40 (.bin .lss
 33 39)]) (.cond 40 .skip (.exit 4))) (.seq (.frame (rg [2,6] 43 27) [] false (.join [.si 2] (.block 5 (.seq (.region [im 43 0,im 44 4,o1 45 (.ixA 3 43 44),fa 46 0 45,ld 47 46,
 im 48 5,o1 49 (.ixA 1 47 48),ld 50 49,ia 6 50]) (.seq (.region [im 51 6,o1 52 (.bin .lss 51 (kI 0)),im 53 52,gf 54 53 (.mv 6),gf 55 53 (.mv 0),gf 56 53 (.lenK 55),gf 57 53
 (.bin .geq 54 56),o1 58 (.pick 53 kT 57),im 59 58,gf 60 59 (.mv 0),gf 61 59 (.mv 4),gf 62 59 (.ixA 3 60 61),gf 63 59 (.fAddr 0 62),gf 64 59 (.load false 1 63),gf 65 59 (.mv
 5),gf 66 59 (.slK 1 64 none (some 65)),gf 67 59 (.mv 6),oS ⟨some 68,.call AdU [66,67],some (59,false)⟩ Eg,o1 69 (.pick 59 kT 68)])
 (.cond 69 (.seq (.region [ia 2 (kI 230)]) .ret) .skip)))))) (.region [im 41 5,o1 42 (.bin .add 41 (kI 1)),ia 5 42]))))))))))) (.region [im 31 4,o1 32 (.bin .add 31 (kI 1)),ia 4
 32])))))))) (.seq (.seq (.region [ia 7 (kI 0)]) (.frame (rg [2,7] 70 25) [] false (.join [.si 2] (.block 6 (.loop [.si 2,.si 7] (.seq (.seq (.region [im 70 7,im 71 0,o1 72
 (.lenK 71),o1 73 (.bin .lss 70 72)]) (.cond 73 .skip (.exit 6))) (.seq (.frame (rg [2] 76 19) [] false (.join [.si 2] (.block 7 (.seq (.region [im 76 0,im 77 7,o1 78 (.ixA 3 76
 77),fa 79 0 78,ld 80 79,o1 81 (.lenK 80),o1 82 (.bin .gtr 81 (kI 0)),im 83 82,⟨⟨some 84,.mv 0,some (83,true)⟩,none,⟨[],[]⟩,false,some 83,true,false⟩,⟨⟨some 85,.mv
 0,some (83,true)⟩,none,⟨[],[]⟩,false,none,true,false⟩,⟨⟨some 86,.mv 7,some (83,true)⟩,none,⟨[],[]⟩,false,none,true,false⟩,⟨⟨some 87,.ixA 3 85 86,some (83,
 true)⟩,none,⟨[],[]⟩,false,none,true,false⟩,⟨⟨some 88,.fAddr 0 87,some (83,true)⟩,none,⟨[],[]⟩,false,none,true,false⟩,⟨⟨some 89,.load false 1 88,some (83,
 true)⟩,none,⟨[],[]⟩,false,none,true,false⟩,⟨⟨some 90,.call AdV [84,89],some (83,true)⟩,none,Dv,false,none,true,false⟩,
 ⟨⟨some 91,.mv 7,some (83,true)⟩,none,⟨[],[]⟩,false,none,true,false⟩,⟨⟨some 92,.ixA 1 90 91,some (83,true)⟩,none,⟨[],[]⟩,false,none,true,false⟩,⟨⟨some 93,
 .load false 1 92,some (83,true)⟩,none,⟨[],[]⟩,false,none,true,true⟩,o1 94 (.pick 83 93 kF)]) (.cond 94 (.seq (.region [ia 2 (kI 231)]) .ret) .skip))))) (.region [im 74 7,
 o1 75 (.bin .add 74 (kI 1)),ia 7 75])))))))) (.seq (.seq (.region [ia 8 (kI 0)]) (.frame (rg [2,8] 95 20) [] false (.join [.si 2] (.block 8 (.loop [.si 2,.si 8] (.seq (.seq
 (.region [im 95 8,im 96 0,o1 97 (.lenK 96),o1 98 (.bin .lss 95 97)]) (.cond 98 .skip (.exit 8))) (.seq (.frame (rg [2] 101 14) [] false (.join [.si 2] (.block 9 (.seq (.region
 [im 101 0,im 102 8,o1 103 (.ixA 3 101 102),fa 104 1 103,ld 105 104,o1 106 (.bin .lss 105 (kI 0)),im 107 106,gf 108 107 (.mv 0),gf 109 107 (.mv 8),gf 110 107 (.ixA 3 108
 109),gf 111 107 (.fAddr 1 110),gf 112 107 (.load false 1 111),gf 113 107 (.bin .gtr 112 (kI 2147483647)),o1 114 (.pick 107 kT 113)]) (.cond 114 (.seq (.region [ia 2 (kI 3)])
 .ret) .skip))))) (.region [im 99 8,o1 100 (.bin .add 99 (kI 1)),ia 8 100])))))))) (.seq (.seq (.region [ia 9 (kI 0)]) (.frame (rg [2,9,10] 115 15) [] false (.join [.si 2]
 (.block 10 (.loop [.si 2,.si 9] (.seq (.seq (.region [im 115 9,im 116 0,o1 117 (.lenK 116),o1 118 (.bin .lss 115 117)]) (.cond 118 .skip (.exit 10))) (.seq (.frame (rg [2,10]
 121 9) [] false (.join [.si 2] (.block 11 (.seq (.region [im 121 0,im 122 9,o1 123 (.ixA 3 121 122),fa 124 2 123,ld 125 124,oS ⟨some 126,.call
 ZJ [125],none⟩ Cy,ia 10 126]) (.seq (.region [im 127 10,o1 128 (.bin .neq 127 (kI 0))]) (.cond 128 (.seq (.region [im 129 10,ia 2 129])
 .ret) .skip)))))) (.region [im 119 9,o1 120 (.bin .add 119 (kI 1)),ia 9 120])))))))) (.seq (.region [ia 2 (kI 0)]) .ret))))))))
def GC:AFn:=⟨AdW,Jg.erase,[.tmp 2],1⟩
def My(P:Pg)(x:(List Commit))(K:Int→Unit→Prop):Prop:=
 (((decide ((x.length:Int)>(300:Int)))=true→K (1:Int) ())∧((decide ((x.length:Int)>(300:Int)))=false→Ad (D:=Int) (fun J1=>AJ (D:=(Int×Int)) ((0:Int),(0:Int)) (fun d3 J4=>(((decide (d3.2<(x.length:Int)))=true→Ad (D:=Int) (fun J5=>(0≤d3.2∧d3.2<(x.length:Int))∧
 (d3.2.toNat<x.length)∧
 (((decide (((List.length (List.getD x d3.2.toNat Ah).1:Nat):Int)>(32:Int)))=true→K (1:Int) ())∧((decide (((List.length (List.getD x d3.2.toNat Ah).1:Nat):Int)>(32:Int)))=false→J5 d3.1))) (fun d6=>J4 (d6,(i64.wrap (d3.2+(1:Int))))))∧((decide (d3.2<(x.length:Int)))=false→J1 d3.1)))) (fun d2=>Ad (D:=Int) (fun J7=>AJ (D:=(Int×Int)) (d2,(0:Int)) (fun d9 J10=>(((decide (d9.2<(x.length:Int)))=true→Ad (D:=Int) (fun J11=>Ad (D:=Int) (fun J13=>AJ (D:=(Int×Int)) (d9.1,(0:Int)) (fun d15 J16=>(0≤d9.2∧d9.2<(x.length:Int))∧
 (d9.2.toNat<x.length)∧
 (((decide (d15.2<((List.length (List.getD x d9.2.toNat Ah).1:Nat):Int)))=true→Ad (D:=Int) (fun J17=>(0≤d9.2∧d9.2<(x.length:Int))∧
 (d9.2.toNat<x.length)∧
 (0≤d15.2∧d15.2<((List.length (List.getD x d9.2.toNat Ah).1:Nat):Int))∧
 (d15.2.toNat<List.length (List.getD x d9.2.toNat Ah).1)∧
 (((cond (decide ((List.getD (List.getD x d9.2.toNat Ah).1 d15.2.toNat (0:Int))<(0:Int))) true (decide ((List.getD (List.getD x d9.2.toNat Ah).1 d15.2.toNat (0:Int))≥(x.length:Int))))=false→0≤d9.2∧d9.2<(x.length:Int)))∧
 (((cond (decide ((List.getD (List.getD x d9.2.toNat Ah).1 d15.2.toNat (0:Int))<(0:Int))) true (decide ((List.getD (List.getD x d9.2.toNat Ah).1 d15.2.toNat (0:Int))≥(x.length:Int))))=false→d9.2.toNat<x.length))∧
 (((cond (decide ((List.getD (List.getD x d9.2.toNat Ah).1 d15.2.toNat (0:Int))<(0:Int))) true (decide ((List.getD (List.getD x d9.2.toNat Ah).1 d15.2.toNat (0:Int))≥(x.length:Int))))=false→0≤d15.2∧d15.2≤((List.length (List.getD x d9.2.toNat Ah).1:Nat):Int)))∧
 Ad (D:=Bool) (fun J19=>(((cond (decide ((List.getD (List.getD x d9.2.toNat Ah).1 d15.2.toNat (0:Int))<(0:Int))) true (decide ((List.getD (List.getD x d9.2.toNat Ah).1 d15.2.toNat (0:Int))≥(x.length:Int))))=false→Fn P AdU Eg ((List.take d15.2.toNat (List.getD x d9.2.toNat Ah).1),(List.getD (List.getD x d9.2.toNat Ah).1 d15.2.toNat (0:Int))) (fun(d20:Bool) _=>J19 d20))∧(((cond (decide ((List.getD (List.getD x d9.2.toNat Ah).1 d15.2.toNat (0:Int))<(0:Int))) true (decide ((List.getD (List.getD x d9.2.toNat Ah).1 d15.2.toNat (0:Int))≥(x.length:Int))))=true→J19 false)∧True))) (fun d21=>(((cond (cond (decide ((List.getD (List.getD x d9.2.toNat Ah).1 d15.2.toNat (0:Int))<(0:Int))) true (decide ((List.getD (List.getD x d9.2.toNat Ah).1 d15.2.toNat (0:Int))≥(x.length:Int)))) true d21)=true→K (230:Int) ())∧((cond (cond (decide ((List.getD (List.getD x d9.2.toNat Ah).1 d15.2.toNat (0:Int))<(0:Int))) true (decide ((List.getD (List.getD x d9.2.toNat Ah).1 d15.2.toNat (0:Int))≥(x.length:Int)))) true d21)=false→J17 d15.1)))) (fun d18=>J16 (d18,(i64.wrap (d15.2+(1:Int))))))∧((decide (d15.2<((List.length (List.getD x d9.2.toNat Ah).1:Nat):Int)))=false→J13 d15.1)))) (fun d14=>J11 d14)) (fun d12=>J10 (d12,(i64.wrap (d9.2+(1:Int))))))∧((decide (d9.2<(x.length:Int)))=false→J7 d9.1)))) (fun d8=>Ad (D:=Int) (fun J22=>AJ (D:=(Int×Int)) (d8,(0:Int)) (fun d24 J25=>(((decide (d24.2<(x.length:Int)))=true→Ad (D:=Int) (fun J26=>(0≤d24.2∧d24.2<(x.length:Int))∧
 (d24.2.toNat<x.length)∧
 (((decide (((List.length (List.getD x d24.2.toNat Ah).1:Nat):Int)>(0:Int)))=true→(0≤d24.2∧d24.2<(x.length:Int))∧
 (d24.2.toNat<x.length)∧
 Fn P AdV Dv (x,(List.getD x d24.2.toNat Ah).1) (fun(d28:(List Bool)) (e29:Unit)=>(0≤d24.2∧d24.2<(d28.length:Int))∧
 (d24.2.toNat<d28.length)∧
 (((cond true (List.getD d28 d24.2.toNat false) false)=true→K (231:Int) ())∧((cond true (List.getD d28 d24.2.toNat false) false)=false→J26 d24.1))))∧((decide (((List.length (List.getD x d24.2.toNat Ah).1:Nat):Int)>(0:Int)))=false→(((cond false false false)=true→K (231:Int) ())∧((cond false false false)=false→J26 d24.1))))) (fun d27=>J25 (d27,(i64.wrap (d24.2+(1:Int))))))∧((decide (d24.2<(x.length:Int)))=false→J22 d24.1)))) (fun d23=>Ad (D:=Int) (fun J30=>AJ (D:=(Int×Int)) (d23,(0:Int)) (fun d32 J33=>(((decide (d32.2<(x.length:Int)))=true→Ad (D:=Int) (fun J34=>(0≤d32.2∧d32.2<(x.length:Int))∧
 (d32.2.toNat<x.length)∧
 (((decide ((List.getD x d32.2.toNat Ah).2.1<(0:Int)))=false→0≤d32.2∧d32.2<(x.length:Int)))∧
 (((decide ((List.getD x d32.2.toNat Ah).2.1<(0:Int)))=false→d32.2.toNat<x.length))∧
 (((cond (decide ((List.getD x d32.2.toNat Ah).2.1<(0:Int))) true (decide ((List.getD x d32.2.toNat Ah).2.1>(2147483647:Int))))=true→K (3:Int) ())∧((cond (decide ((List.getD x d32.2.toNat Ah).2.1<(0:Int))) true (decide ((List.getD x d32.2.toNat Ah).2.1>(2147483647:Int))))=false→J34 d32.1))) (fun d35=>J33 (d35,(i64.wrap (d32.2+(1:Int))))))∧((decide (d32.2<(x.length:Int)))=false→J30 d32.1)))) (fun d31=>Ad (D:=Int) (fun J36=>AJ (D:=(Int×Int)) (d31,(0:Int)) (fun d38 J39=>(((decide (d38.2<(x.length:Int)))=true→Ad (D:=Int) (fun J40=>(0≤d38.2∧d38.2<(x.length:Int))∧
 (d38.2.toNat<x.length)∧
 Fn P ZJ Cy (List.getD x d38.2.toNat Ah).2.2 (fun(d42:Int) (e43:Unit)=>(((d42 !=(0:Int))=true→K d42 ())∧((d42 !=(0:Int))=false→J40 d38.1)))) (fun d41=>J39 (d41,(i64.wrap (d38.2+(1:Int))))))∧((decide (d38.2<(x.length:Int)))=false→J36 d38.1)))) (fun d37=>K (0:Int) ())))))))
theorem Rs{P:Pg}(h:Has P GC){x:DP Du.ps}{K:DP Du.rs→DP (ptrs Du.ps)→Prop}(hw:My P x K):Fn P AdW Du x K:=
 BG (c:=Jg) h rfl rfl (by kernel_rfl) (Eq.mpr (show BC P GC Du Jg x K=_ by kernel_rfl) hw)
def Ji:Be:=
 (.seq (.region [ia 4 (kI 0)]) (.seq (.seq (.region [im 6 0,oS ⟨some 7,.call AdW [6],none⟩ Du,ia 5 7]) (.seq (.region [im 8 5,o1 9 (.bin
 .neq 8 (kI 0))]) (.cond 9 (.seq (.region [im 10 5,ia 4 10]) .ret) .skip))) (.seq (.seq (.region [im 11 1,o1 12 (.bin .lss 11 (kI 0)),im 13 12,gf 14 13 (.mv 1),gf 15 13 (.mv
 0),gf 16 13 (.lenK 15),gf 17 13 (.bin .geq 14 16),o1 18 (.pick 13 kT 17)]) (.cond 18 (.seq (.region [ia 4 (kI 5)]) .ret) .skip)) (.seq (.region [ia 4 (kI 0)]) .ret))))
def GF:AFn:=⟨ZK,Ji.erase,[.tmp 4],2⟩
def MA(P:Pg)(x:((List Commit)×Int))(K:Int→Unit→Prop):Prop:=
 Fn P AdW Du x.1 (fun(d1:Int) (e2:Unit)=>(((d1 !=(0:Int))=true→K d1 ())∧((d1 !=(0:Int))=false→(((cond (decide (x.2<(0:Int))) true (decide (x.2≥(x.1.length:Int))))=true→K (5:Int) ())∧((cond (decide (x.2<(0:Int))) true (decide (x.2≥(x.1.length:Int))))=false→K (0:Int) ())))))
theorem Ru{P:Pg}(h:Has P GF){x:DP Cz.ps}{K:DP Cz.rs→DP (ptrs Cz.ps)→Prop}(hw:MA P x K):Fn P ZK Cz x K:=
 BG (c:=Ji) h rfl rfl (by kernel_rfl) (Eq.mpr (show BC P GF Cz Ji x K=_ by kernel_rfl) hw)
def Jk:Be:=
 (.seq (.region [⟨⟨some 4,.asg (.c (.slice none 0 0)),none⟩,none,⟨[],[]⟩,true,none,false,false⟩]) (.seq (.seq (.region [im 7 0,im 8 1,o1 9 (.ixA 3 7 8),fa 10 0 9,ld 11
 10,o1 12 (.lenK 11),o1 13 (.bin .eql 12 (kI 0))]) (.cond 13 (.seq (.region [oT ⟨some 14,.buildSl 1 [(.slice none 0 0)] 1 [(0,(.c (.slice none 0 0)))],none⟩ (some ((.sl (.pair
 .str .str)),tM)),⟨⟨some 4,.asg 14,none⟩,none,⟨[],[]⟩,true,none,false,false⟩]) .ret) .skip)) (.seq (.region [o1 5 (.asg (.c (.slice none 0 0)))]) (.seq (.seq (.region [ia
 6 (kI 0)]) (.frame (rg [5,6] 15 25) [] false (.join [.sl 5 false (.sl (.sl (.pair .str .str))) (.node .own tM)] (.block 0 (.loop [.sl 5 false (.sl (.sl (.pair .str .str))) (.node
 .own tM),.si 6] (.seq (.seq (.region [im 15 6,im 16 0,im 17 1,o1 18 (.ixA 3 16 17),fa 19 0 18,ld 20 19,o1 21 (.lenK 20),o1 22 (.bin .lss 15 21)]) (.cond 22 .skip (.exit
 0))) (.seq (.frame (rg [5] 25 15) [] false (.join [.sl 5 false (.sl (.sl (.pair .str .str))) (.node .own tM)] (.block 1 (.region [im 25 5,im 26 0,im 27 0,im 28 1,o1 29 (.ixA 3
 27 28),fa 30 0 29,ld 31 30,im 32 6,o1 33 (.ixA 1 31 32),ld 34 33,o1 35 (.ixA 3 26 34),fa 36 2 35,ld 37 36,oT ⟨some 38,.buildSl 1 [(.slice none 0 0)] 1 [(0,37)],none⟩
 (some ((.sl (.pair .str .str)),tM)),oT ⟨some 39,.app 1 24 25 38,none⟩ (some ((.sl (.pair .str .str)),tM)),ia 5 39])))) (.region [im 23 6,o1 24 (.bin .add 23 (kI 1)),ia 6
 24])))))))) (.seq (.region [im 40 5,⟨⟨some 4,.asg 40,none⟩,none,⟨[],[]⟩,true,none,false,false⟩]) .ret)))))
def GH:AFn:=⟨ZL,Jk.erase,[.tmp 4],2⟩
def ME(P:Pg)(x:((List Commit)×Int))(K:(List (List ((List UInt8)×(List UInt8))))→Unit→Prop):Prop:=
 (0≤x.2∧x.2<(x.1.length:Int))∧
 (x.2.toNat<x.1.length)∧
 (((((List.length (List.getD x.1 x.2.toNat Ah).1:Nat):Int)==(0:Int))=true→K ([[]]:List (List ((List UInt8)×(List UInt8)))) ())∧((((List.length (List.getD x.1 x.2.toNat Ah).1:Nat):Int)==(0:Int))=false→Ad (D:=(List (List ((List UInt8)×(List UInt8))))) (fun J1=>AJ (D:=((List (List ((List UInt8)×(List UInt8))))×Int)) ([],(0:Int)) (fun d3 J4=>(0≤x.2∧x.2<(x.1.length:Int))∧
 (x.2.toNat<x.1.length)∧
 (((decide (d3.2<((List.length (List.getD x.1 x.2.toNat Ah).1:Nat):Int)))=true→Ad (D:=(List (List ((List UInt8)×(List UInt8))))) (fun J5=>(0≤x.2∧x.2<(x.1.length:Int))∧
 (x.2.toNat<x.1.length)∧
 (0≤d3.2∧d3.2<((List.length (List.getD x.1 x.2.toNat Ah).1:Nat):Int))∧
 (d3.2.toNat<List.length (List.getD x.1 x.2.toNat Ah).1)∧
 (0≤(List.getD (List.getD x.1 x.2.toNat Ah).1 d3.2.toNat (0:Int))∧(List.getD (List.getD x.1 x.2.toNat Ah).1 d3.2.toNat (0:Int))<(x.1.length:Int))∧
 ((Int.toNat (List.getD (List.getD x.1 x.2.toNat Ah).1 d3.2.toNat (0:Int)))<x.1.length)∧
 ((d3.1.length+List.length ([(List.getD x.1 (Int.toNat (List.getD (List.getD x.1 x.2.toNat Ah).1 d3.2.toNat (0:Int))) Ah).2.2]:List (List ((List UInt8)×(List UInt8)))))*24≤140737488355328)∧
 J5 (d3.1++([(List.getD x.1 (Int.toNat (List.getD (List.getD x.1 x.2.toNat Ah).1 d3.2.toNat (0:Int))) Ah).2.2]:List (List ((List UInt8)×(List UInt8)))))) (fun d6=>J4 (d6,(i64.wrap (d3.2+(1:Int))))))∧((decide (d3.2<((List.length (List.getD x.1 x.2.toNat Ah).1:Nat):Int)))=false→J1 d3.1)))) (fun d2=>K d2 ())))
theorem Rw{P:Pg}(h:Has P GH){x:DP CB.ps}{K:DP CB.rs→DP (ptrs CB.ps)→Prop}(hw:ME P x K):Fn P ZL CB x K:=
 BG (c:=Jk) h rfl rfl (by kernel_rfl) (Eq.mpr (show BC P GH CB Jk x K=_ by kernel_rfl) hw)
def Kp:Be:=
 (.seq (.region [o1 4 (.asg (.c (.string ⟨#[]⟩))),o1 5 (.asg kF)]) (.seq (.seq (.region [ia 6 (kI 0)]) (.frame (rg [] 4 21) [] false (.join [.sl 4 false .str .leaf,.sl 5 false
 .bool .leaf] (.block 0 (.loop [.sl 4 false .str .leaf,.sl 5 false .bool .leaf,.si 6] (.seq (.seq (.region [im 7 6,im 8 0,o1 9 (.lenK 8),o1 10 (.bin .lss 7 9)]) (.cond 10 .skip
 (.exit 0))) (.seq (.frame (rg [4,5] 13 12) [] false (.join [.sl 4 false .str .leaf,.sl 5 false .bool .leaf] (.block 1 (.seq (.region [im 13 0,im 14 6,o1 15 (.ixA 2 13 14),fa
 16 0 15,ld 17 16,im 18 1,o1 19 (.bin .eql 17 18)]) (.cond 19 (.seq (.region [im 20 0,im 21 6,o1 22 (.ixA 2 20 21),fa 23 1 22,ld 24 23,ia 4 24,o1 5 (.asg kT)]) .ret)
 .skip))))) (.region [im 11 6,o1 12 (.bin .add 11 (kI 1)),ia 6 12])))))))) (.seq (.region [o1 4 (.asg (.c (.string ⟨#[]⟩))),o1 5 (.asg kF)]) .ret)))
def Hi:AFn:=⟨zS2,Kp.erase,[.tmp 4,.tmp 5],2⟩
def NH(P:Pg)(x:((List ((List UInt8)×(List UInt8)))×(List UInt8)))(K:((List UInt8)×Bool)→Unit→Prop):Prop:=
 Ad (D:=((List UInt8)×Bool)) (fun J1=>AJ (D:=((List UInt8)×(Bool×Int))) (([]:List UInt8),(false,(0:Int))) (fun d3 J4=>(((decide (d3.2.2<(x.1.length:Int)))=true→Ad (D:=((List UInt8)×Bool)) (fun J5=>(0≤d3.2.2∧d3.2.2<(x.1.length:Int))∧
 (d3.2.2.toNat<x.1.length)∧
 ((((List.getD x.1 d3.2.2.toNat ([],[])).1==x.2)=true→(0≤d3.2.2∧d3.2.2<(x.1.length:Int))∧
 (d3.2.2.toNat<x.1.length)∧
 K ((List.getD x.1 d3.2.2.toNat ([],[])).2,true) ())∧(((List.getD x.1 d3.2.2.toNat ([],[])).1==x.2)=false→J5 (d3.1,d3.2.1)))) (fun d6=>J4 (d6.1,(d6.2,(i64.wrap (d3.2.2+(1:Int)))))))∧((decide (d3.2.2<(x.1.length:Int)))=false→J1 (d3.1,d3.2.1))))) (fun d2=>K (([]:List UInt8),false) ())
theorem S0{P:Pg}(h:Has P Hi){x:DP BU.ps}{K:DP BU.rs→DP (ptrs BU.ps)→Prop}(hw:NH P x K):Fn P zS2 BU x K:=
 BG (c:=Kp) h rfl rfl (by kernel_rfl) (Eq.mpr (show BC P Hi BU Kp x K=_ by kernel_rfl) hw)
def Jf:Be:=
 (.seq (.region [o1 4 (.asg (.c (.slice none 0 0)))]) (.seq (.region [o1 5 (.asg (.c (.slice none 0 0)))]) (.seq (.region [ia 6 (kI 0),ia 7 (kI 0)]) (.seq (.frame (rg [] 5 87) []
 false (.join [.sl 5 false (.sl .str) tO] (.block 0 (.loop [.sl 5 false (.sl .str) tO,.si 6,.si 7] (.seq (.seq (.region [im 8 6,im 9 0,o1 10 (.lenK 9),o1 11 (.bin .lss 8 10),
 im 12 11,gf 13 12 (.mv 7),gf 14 12 (.mv 1),gf 15 12 (.lenK 14),gf 16 12 (.bin .lss 13 15),o1 17 (.pick 12 kT 16)]) (.cond 17 .skip (.exit 0))) (.frame (rg [5,6,7] 18 74) []
 false (.join [.sl 5 false (.sl .str) tO,.si 6,.si 7] (.block 1 (.frame (rg [5,6,7] 18 74) [] false (.join [.sl 5 false (.sl .str) tO,.si 6,.si 7] (.block 2 (.seq (.frame (rg
 [] 30 24) [] false (.join [.sl 30 false .bool .leaf] (.draw [(.first (im 31 7) (.first (im 32 1) (.first (o1 33 (.lenK 32)) (.first (o1 34 (.bin .eql 31 33)) (.first (im 35 34)
 (.first (gf 36 35 (.mv 6)) (.first (gf 37 35 (.mv 0)) (.first (gf 38 35 (.lenK 37)) (.first (gf 39 35 (.bin .lss 36 38)) (.first (gf 40 35 (.mv 39)) (.first (gt 41 40 (.mv 0))
 (.first (gt 42 40 (.mv 6)) (.first (gt 43 40 (.ixA 2 41 42)) (.first (gt 44 40 (.fAddr 0 43)) (.first (gt 45 40 (.load false 1 44)) (.first (gt 46 40 (.mv 1)) (.first (gt 47 40
 (.mv 7)) (.first (gt 48 40 (.ixA 2 46 47)) (.first (gt 49 40 (.fAddr 0 48)) (.first (gt 50 40 (.load false 1 49)) (.first (gt 51 40 (.bin .lss 45 50)) (.first (gf 52 35 (.pick 40
 51 kF)) (.first (o1 53 (.pick 35 kT 52)) (.alt (ia 30 53) .done .stop))))))))))))))))))))))))]))) (.frame (rg [5,6,7,18,19,20,21,22,23,24,25,26,27,28,29] 54 38) []
 false (.join [.sl 5 false (.sl .str) tO,.si 6,.si 7] (.cond 30 (.seq (.region [im 54 5,im 55 0,im 56 6,o1 57 (.ixA 2 55 56),fa 58 0 57,ld 59 58,oT ⟨some 60,.buildSl 1
 [(.string ⟨#[]⟩)] 1 [(0,59)],none⟩ (some (.str,.leaf)),oT ⟨some 61,.app 1 16 54 60,none⟩ (some (.str,.leaf)),ia 5 61]) (.region [im 62 6,o1 63 (.bin .add 62 (kI 1)),ia 6
 63])) (.seq (.frame (rg [] 64 18) [] false (.join [.sl 64 false .bool .leaf] (.draw [(.first (im 65 6) (.first (im 66 0) (.first (o1 67 (.lenK 66)) (.first (o1 68 (.bin .eql 65
 67)) (.first (im 69 68) (.first (gf 70 69 (.mv 1)) (.first (gf 71 69 (.mv 7)) (.first (gf 72 69 (.ixA 2 70 71)) (.first (gf 73 69 (.fAddr 0 72)) (.first (gf 74 69 (.load false 1
 73)) (.first (gf 75 69 (.mv 0)) (.first (gf 76 69 (.mv 6)) (.first (gf 77 69 (.ixA 2 75 76)) (.first (gf 78 69 (.fAddr 0 77)) (.first (gf 79 69 (.load false 1 78)) (.first (gf 80
 69 (.bin .lss 74 79)) (.first (o1 81 (.pick 69 kT 80)) (.alt (ia 64 81) .done .stop))))))))))))))))))]))) (.frame (rg [5,6,7,18,19,20,21,22,23,24,25,26,27,28,29] 82
 10) [] false (.join [.sl 5 false (.sl .str) tO,.si 6,.si 7] (.cond 64 (.seq (.region [im 82 5,im 83 1,im 84 7,o1 85 (.ixA 2 83 84),fa 86 0 85,ld 87 86,oT ⟨some 88,.buildSl
 1 [(.string ⟨#[]⟩)] 1 [(0,87)],none⟩ (some (.str,.leaf)),oT ⟨some 89,.app 1 16 82 88,none⟩ (some (.str,.leaf)),ia 5 89]) (.region [im 90 7,o1 91 (.bin .add 90 (kI 1)),ia
 7 91])) (.seq (.region [im 18 5,im 19 0,im 20 6,o1 21 (.ixA 2 19 20),fa 22 0 21,ld 23 22,oT ⟨some 24,.buildSl 1 [(.string ⟨#[]⟩)] 1 [(0,23)],none⟩ (some (.str,.leaf)),oT
 ⟨some 25,.app 1 16 18 24,none⟩ (some (.str,.leaf)),ia 5 25]) (.region [im 26 6,o1 27 (.bin .add 26 (kI 1)),im 28 7,o1 29 (.bin .add 28 (kI 1)),ia 6 27,ia 7
 29]))))))))))))))))))))) (.seq (.region [im 92 5,ia 4 92]) .ret)))))
def GB:AFn:=⟨AdX,Jf.erase,[.tmp 4],2⟩
def Mx(P:Pg)(x:((List ((List UInt8)×(List UInt8)))×(List ((List UInt8)×(List UInt8)))))(K:(List (List UInt8))→Unit→Prop):Prop:=
 Ad (D:=(List (List UInt8))) (fun J1=>AJ (D:=((List (List UInt8))×(Int×Int))) ([],((0:Int),(0:Int))) (fun d3 J4=>(((cond (decide (d3.2.1<(x.1.length:Int))) true (decide (d3.2.2<(x.2.length:Int))))=true→Ad (D:=((List (List UInt8))×(Int×Int))) (fun J5=>Ad (D:=((List (List UInt8))×(Int×Int))) (fun J7=>Ad (D:=Bool) (fun J9=>(((decide (d3.2.1<(x.1.length:Int)))=true→((d3.2.2==(x.2.length:Int))=false→0≤d3.2.1∧d3.2.1<(x.1.length:Int))))∧
 (((decide (d3.2.1<(x.1.length:Int)))=true→((d3.2.2==(x.2.length:Int))=false→d3.2.1.toNat<x.1.length)))∧
 (((decide (d3.2.1<(x.1.length:Int)))=true→((d3.2.2==(x.2.length:Int))=false→0≤d3.2.2∧d3.2.2<(x.2.length:Int))))∧
 (((decide (d3.2.1<(x.1.length:Int)))=true→((d3.2.2==(x.2.length:Int))=false→d3.2.2.toNat<x.2.length)))∧
 (J9 (cond (d3.2.2==(x.2.length:Int)) true (cond (decide (d3.2.1<(x.1.length:Int))) (Op.bytesLess (List.getD x.1 d3.2.1.toNat ([],[])).1 (List.getD x.2 d3.2.2.toNat ([],[])).1) false)))∧True) (fun d10=>Ad (D:=((List (List UInt8))×(Int×Int))) (fun J11=>((d10=true→(0≤d3.2.1∧d3.2.1<(x.1.length:Int))∧
 (d3.2.1.toNat<x.1.length)∧
 ((d3.1.length+List.length ([(List.getD x.1 d3.2.1.toNat ([],[])).1]:List (List UInt8)))*16≤140737488355328)∧
 J11 ((d3.1++([(List.getD x.1 d3.2.1.toNat ([],[])).1]:List (List UInt8))),((i64.wrap (d3.2.1+(1:Int))),d3.2.2)))∧(d10=false→Ad (D:=Bool) (fun J13=>(((d3.2.1==(x.1.length:Int))=false→0≤d3.2.2∧d3.2.2<(x.2.length:Int)))∧
 (((d3.2.1==(x.1.length:Int))=false→d3.2.2.toNat<x.2.length))∧
 (((d3.2.1==(x.1.length:Int))=false→0≤d3.2.1∧d3.2.1<(x.1.length:Int)))∧
 (((d3.2.1==(x.1.length:Int))=false→d3.2.1.toNat<x.1.length))∧
 (J13 (cond (d3.2.1==(x.1.length:Int)) true (Op.bytesLess (List.getD x.2 d3.2.2.toNat ([],[])).1 (List.getD x.1 d3.2.1.toNat ([],[])).1)))∧True) (fun d14=>Ad (D:=((List (List UInt8))×(Int×Int))) (fun J15=>((d14=true→(0≤d3.2.2∧d3.2.2<(x.2.length:Int))∧
 (d3.2.2.toNat<x.2.length)∧
 ((d3.1.length+List.length ([(List.getD x.2 d3.2.2.toNat ([],[])).1]:List (List UInt8)))*16≤140737488355328)∧
 J15 ((d3.1++([(List.getD x.2 d3.2.2.toNat ([],[])).1]:List (List UInt8))),(d3.2.1,(i64.wrap (d3.2.2+(1:Int))))))∧(d14=false→(0≤d3.2.1∧d3.2.1<(x.1.length:Int))∧
 (d3.2.1.toNat<x.1.length)∧
 ((d3.1.length+List.length ([(List.getD x.1 d3.2.1.toNat ([],[])).1]:List (List UInt8)))*16≤140737488355328)∧
 J15 ((d3.1++([(List.getD x.1 d3.2.1.toNat ([],[])).1]:List (List UInt8))),((i64.wrap (d3.2.1+(1:Int))),(i64.wrap (d3.2.2+(1:Int)))))))) (fun d16=>J11 d16))))) (fun d12=>J7 d12))) (fun d8=>J5 d8)) (fun d6=>J4 d6))∧((cond (decide (d3.2.1<(x.1.length:Int))) true (decide (d3.2.2<(x.2.length:Int))))=false→J1 d3.1)))) (fun d2=>K d2 ())
theorem Rr{P:Pg}(h:Has P GB){x:DP Dt.ps}{K:DP Dt.rs→DP (ptrs Dt.ps)→Prop}(hw:Mx P x K):Fn P AdX Dt x K:=
 BG (c:=Jf) h rfl rfl (by kernel_rfl) (Eq.mpr (show BC P GB Dt Jf x K=_ by kernel_rfl) hw)
def Ie:Be:=
 (.seq (.region [o1 4 (.asg (.c (.slice none 0 0)))]) (.seq (.region [o1 5 (.asg (.c (.slice none 0 0)))]) (.seq (.region [im 12 0,im 13 1,oS ⟨some 14,.call
 AdX [12,13],none⟩ Dt,ia 6 14]) (.seq (.seq (.region [ia 7 (kI 0)]) (.frame (rg [5,7,8,9,10,11] 15 58) [] false (.join [.sl 5 false
 (.sl (.pair .str bI)) tO] (.block 0 (.loop [.sl 5 false (.sl (.pair .str bI)) tO,.si 7] (.seq (.seq (.region [im 15 7,im 16 6,o1 17 (.lenK 16),o1 18 (.bin .lss 15 17)]) (.cond
 18 .skip (.exit 0))) (.seq (.frame (rg [5,8,9,10,11] 21 52) [] false (.join [.sl 5 false (.sl (.pair .str bI)) tO] (.block 1 (.seq (.region [im 22 0,im 23 6,im 24 7,o1 25
 (.ixA 1 23 24),ld 26 25,oS ⟨some 27,.call zS2 [22,26],none⟩ BU,im 21 27,o1 28 (.ext 21 0),o1 29 (.ext 21 1),ia 8 28,ia 9 29]) (.seq
 (.region [im 31 1,im 32 6,im 33 7,o1 34 (.ixA 1 32 33),ld 35 34,oS ⟨some 36,.call zS2 [31,35],none⟩ BU,im 30 36,o1 37 (.ext 30 0),
 o1 38 (.ext 30 1),ia 10 37,ia 11 38]) (.frame (rg [5] 39 34) [] false (.join [.sl 5 false (.sl (.pair .str bI)) tO] (.block 2 (.seq (.region [im 40 9,o1 41 (.un .not 40),ia 39
 41]) (.frame (rg [5] 42 31) [] false (.join [.sl 5 false (.sl (.pair .str bI)) tO] (.cond 39 (.region [im 42 5,im 43 6,im 44 7,o1 45 (.ixA 1 43 44),ld 46 45,o1 47 (.build
 [(.string ⟨#[]⟩),(.int .i64 0)] [(0,1,46),(1,1,(kI 1))]),oT ⟨some 48,.buildSl 2 [(.string ⟨#[]⟩),(.int .i64 0)] 1 [(0,47)],none⟩ (some ((.pair .str bI),.leaf)),oT
 ⟨some 49,.app 2 24 42 48,none⟩ (some ((.pair .str bI),.leaf)),ia 5 49]) (.seq (.region [im 51 11,o1 52 (.un .not 51),ia 50 52]) (.frame (rg [5] 53 20) [] false (.join [.sl 5
 false (.sl (.pair .str bI)) tO] (.cond 50 (.region [im 53 5,im 54 6,im 55 7,o1 56 (.ixA 1 54 55),ld 57 56,o1 58 (.build [(.string ⟨#[]⟩),(.int .i64 0)] [(0,1,57),(1,1,
 (kI 2))]),oT ⟨some 59,.buildSl 2 [(.string ⟨#[]⟩),(.int .i64 0)] 1 [(0,58)],none⟩ (some ((.pair .str bI),.leaf)),oT ⟨some 60,.app 2 24 53 59,none⟩ (some ((.pair .str bI),
 .leaf)),ia 5 60]) (.seq (.region [im 62 8,im 63 10,o1 64 (.bin .neq 62 63),ia 61 64]) (.frame (rg [5] 65 8) [] false (.join [.sl 5 false (.sl (.pair .str bI)) tO] (.cond 61
 (.region [im 65 5,im 66 6,im 67 7,o1 68 (.ixA 1 66 67),ld 69 68,o1 70 (.build [(.string ⟨#[]⟩),(.int .i64 0)] [(0,1,69),(1,1,(kI 3))]),oT ⟨some 71,.buildSl 2 [(.string
 ⟨#[]⟩),(.int .i64 0)] 1 [(0,70)],none⟩ (some ((.pair .str bI),.leaf)),oT ⟨some 72,.app 2 24 65 71,none⟩ (some ((.pair .str bI),.leaf)),ia 5 72]) .skip))))))))))))))))))))
 (.region [im 19 7,o1 20 (.bin .add 19 (kI 1)),ia 7 20])))))))) (.seq (.region [im 73 5,ia 4 73]) .ret)))))
def FF:AFn:=⟨AdY,Ie.erase,[.tmp 4],2⟩
def K3(P:Pg)(x:((List ((List UInt8)×(List UInt8)))×(List ((List UInt8)×(List UInt8)))))(K:(List ((List UInt8)×Int))→Unit→Prop):Prop:=
 Fn P AdX Dt x (fun(d1:(List (List UInt8))) (e2:Unit)=>Ad (D:=(List ((List UInt8)×Int))) (fun J3=>AJ (D:=((List ((List UInt8)×Int))×Int)) ([],(0:Int)) (fun d5 J6=>(((decide (d5.2<(d1.length:Int)))=true→Ad (D:=(List ((List UInt8)×Int))) (fun J7=>(0≤d5.2∧d5.2<(d1.length:Int))∧
 (d5.2.toNat<d1.length)∧
 Fn P zS2 BU (x.1,(List.getD d1 d5.2.toNat [])) (fun(d9:((List UInt8)×Bool)) (e10:Unit)=>(0≤d5.2∧d5.2<(d1.length:Int))∧
 (d5.2.toNat<d1.length)∧
 Fn P zS2 BU (x.2,(List.getD d1 d5.2.toNat [])) (fun(d11:((List UInt8)×Bool)) (e12:Unit)=>Ad (D:=(List ((List UInt8)×Int))) (fun J13=>Ad (D:=(List ((List UInt8)×Int))) (fun J15=>(((!d9.2)=true→(0≤d5.2∧d5.2<(d1.length:Int))∧
 (d5.2.toNat<d1.length)∧
 ((d5.1.length+List.length ([((List.getD d1 d5.2.toNat []),(1:Int))]:List ((List UInt8)×Int)))*24≤140737488355328)∧
 J15 (d5.1++([((List.getD d1 d5.2.toNat []),(1:Int))]:List ((List UInt8)×Int))))∧((!d9.2)=false→Ad (D:=(List ((List UInt8)×Int))) (fun J17=>(((!d11.2)=true→(0≤d5.2∧d5.2<(d1.length:Int))∧
 (d5.2.toNat<d1.length)∧
 ((d5.1.length+List.length ([((List.getD d1 d5.2.toNat []),(2:Int))]:List ((List UInt8)×Int)))*24≤140737488355328)∧
 J17 (d5.1++([((List.getD d1 d5.2.toNat []),(2:Int))]:List ((List UInt8)×Int))))∧((!d11.2)=false→Ad (D:=(List ((List UInt8)×Int))) (fun J19=>(((!(d9.1==d11.1))=true→(0≤d5.2∧d5.2<(d1.length:Int))∧
 (d5.2.toNat<d1.length)∧
 ((d5.1.length+List.length ([((List.getD d1 d5.2.toNat []),(3:Int))]:List ((List UInt8)×Int)))*24≤140737488355328)∧
 J19 (d5.1++([((List.getD d1 d5.2.toNat []),(3:Int))]:List ((List UInt8)×Int))))∧((!(d9.1==d11.1))=false→J19 d5.1))) (fun d20=>J17 d20)))) (fun d18=>J15 d18)))) (fun d16=>J13 d16)) (fun d14=>J7 d14)))) (fun d8=>J6 (d8,(i64.wrap (d5.2+(1:Int))))))∧((decide (d5.2<(d1.length:Int)))=false→J3 d5.1)))) (fun d4=>K d4 ()))
theorem Qa{P:Pg}(h:Has P FF){x:DP CX.ps}{K:DP CX.rs→DP (ptrs CX.ps)→Prop}(hw:K3 P x K):Fn P AdY CX x K:=
 BG (c:=Ie) h rfl rfl (by kernel_rfl) (Eq.mpr (show BC P FF CX Ie x K=_ by kernel_rfl) hw)
def Jj:Be:=
 (.seq (.region [o1 4 (.asg (.c (.slice none 0 0))),ia 5 (kI 0)]) (.seq (.seq (.region [im 10 0,im 11 1,oS ⟨some 12,.call ZK [10,11],none⟩
 Cz,ia 6 12]) (.seq (.region [im 13 6,o1 14 (.bin .neq 13 (kI 0))]) (.cond 14 (.seq (.region [im 15 6,o1 4 (.asg (.c (.slice none 0 0))),ia 5 15]) .ret) .skip)))
 (.seq (.region [im 16 0,im 17 1,oS ⟨some 18,.call ZL [16,17],none⟩ CB,ia 7 18]) (.seq (.region [o1 8 (.asg (.c (.slice none 0 0)))])
 (.seq (.seq (.region [ia 9 (kI 0)]) (.frame (rg [8,9] 19 19) [] false (.join [.sl 8 false (.sl (.sl (.pair .str bI))) (.node .own tO)] (.block 0 (.loop [.sl 8 false (.sl (.sl
 (.pair .str bI))) (.node .own tO),.si 9] (.seq (.seq (.region [im 19 9,im 20 7,o1 21 (.lenK 20),o1 22 (.bin .lss 19 21)]) (.cond 22 .skip (.exit 0))) (.seq (.frame (rg [8] 25
 13) [] false (.join [.sl 8 false (.sl (.sl (.pair .str bI))) (.node .own tO)] (.block 1 (.frame (rg [8] 25 13) [] false (.join [.sl 8 false (.sl (.sl (.pair .str bI))) (.node .own
 tO)] (.draw [(.first (im 25 8) (.first (im 26 7) (.first (im 27 9) (.first (o1 28 (.ixA 1 26 27)) (.first (ld 29 28) (.first (im 30 0) (.first (im 31 1) (.first (o1 32 (.ixA 3 30
 31)) (.first (fa 33 2 32) (.first (ld 34 33) (.alt (oS ⟨some 35,.call AdY [29,34],none⟩ CX) (.alt (oT ⟨some 36,.buildSl 1 [(.slice
 none 0 0)] 1 [(0,35)],none⟩ (some ((.sl (.pair .str bI)),tO))) (.alt (oT ⟨some 37,.app 1 24 25 36,none⟩ (some ((.sl (.pair .str bI)),tO))) (.alt (ia 8 37) .done .stop) .stop)
 .stop) .stop)))))))))))])))))) (.region [im 23 9,o1 24 (.bin .add 23 (kI 1)),ia 9 24])))))))) (.seq (.region [im 38 8,ia 4 38,ia 5 (kI 0)]) .ret))))))
def GG:AFn:=⟨ZM,Jj.erase,[.tmp 4,.tmp 5],2⟩
def MD(P:Pg)(x:((List Commit)×Int))(K:((List (List ((List UInt8)×Int)))×Int)→Unit→Prop):Prop:=
 Fn P ZK Cz x (fun(d1:Int) (e2:Unit)=>(((d1 !=(0:Int))=true→K ([],d1) ())∧((d1 !=(0:Int))=false→Fn P ZL CB x (fun(d3:(List (List ((List UInt8)×(List UInt8))))) (e4:Unit)=>Ad (D:=(List (List ((List UInt8)×Int)))) (fun J5=>AJ (D:=((List (List ((List UInt8)×Int)))×Int)) ([],(0:Int)) (fun d7 J8=>(((decide (d7.2<(d3.length:Int)))=true→Ad (D:=(List (List ((List UInt8)×Int)))) (fun J9=>Ad (D:=(List (List ((List UInt8)×Int)))) (fun J11=>(0≤d7.2∧d7.2<(d3.length:Int))∧
 (d7.2.toNat<d3.length)∧
 (0≤x.2∧x.2<(x.1.length:Int))∧
 (x.2.toNat<x.1.length)∧
 (Fn P AdY CX ((List.getD d3 d7.2.toNat []),(List.getD x.1 x.2.toNat Ah).2.2) (fun(d13:(List ((List UInt8)×Int))) (e14:Unit)=>((((d7.1.length+List.length ([d13]:List (List ((List UInt8)×Int))))*24≤140737488355328)∧
 (J11 (d7.1++([d13]:List (List ((List UInt8)×Int)))))∧True)∧True)∧True))∧True) (fun d12=>J9 d12)) (fun d10=>J8 (d10,(i64.wrap (d7.2+(1:Int))))))∧((decide (d7.2<(d3.length:Int)))=false→J5 d7.1)))) (fun d6=>K (d6,(0:Int)) ())))))
theorem Rv{P:Pg}(h:Has P GG){x:DP CA.ps}{K:DP CA.rs→DP (ptrs CA.ps)→Prop}(hw:MD P x K):Fn P ZM CA x K:=
 BG (c:=Jj) h rfl rfl (by kernel_rfl) (Eq.mpr (show BC P GG CA Jj x K=_ by kernel_rfl) hw)
def Np:Be:=
 (.seq (.region [o1 4 (.asg kF)]) (.seq (.seq (.region [ia 5 (kI 0)]) (.frame (rg [] 4 15) [] false (.join [.sl 4 false .bool .leaf] (.block 0 (.loop [.sl 4 false .bool .leaf,.si
 5] (.seq (.seq (.region [im 6 5,im 7 0,o1 8 (.lenK 7),o1 9 (.bin .lss 6 8)]) (.cond 9 .skip (.exit 0))) (.seq (.frame (rg [4] 12 7) [] false (.join [.sl 4 false .bool .leaf]
 (.block 1 (.seq (.region [im 12 0,im 13 5,o1 14 (.ixA 2 12 13),fa 15 0 14,ld 16 15,im 17 1,o1 18 (.bin .eql 16 17)]) (.cond 18 (.seq (.region [o1 4 (.asg kT)]) .ret)
 .skip))))) (.region [im 10 5,o1 11 (.bin .add 10 (kI 1)),ia 5 11])))))))) (.seq (.region [o1 4 (.asg kF)]) .ret)))
def JP:AFn:=⟨AdZ,Np.erase,[.tmp 4],2⟩
def QV(P:Pg)(x:((List ((List UInt8)×Int))×(List UInt8)))(K:Bool→Unit→Prop):Prop:=
 Ad (D:=Bool) (fun J1=>AJ (D:=(Bool×Int)) (false,(0:Int)) (fun d3 J4=>(((decide (d3.2<(x.1.length:Int)))=true→Ad (D:=Bool) (fun J5=>(0≤d3.2∧d3.2<(x.1.length:Int))∧
 (d3.2.toNat<x.1.length)∧
 ((((List.getD x.1 d3.2.toNat ([],(0:Int))).1==x.2)=true→K true ())∧(((List.getD x.1 d3.2.toNat ([],(0:Int))).1==x.2)=false→J5 d3.1))) (fun d6=>J4 (d6,(i64.wrap (d3.2+(1:Int))))))∧((decide (d3.2<(x.1.length:Int)))=false→J1 d3.1)))) (fun d2=>K false ())
theorem WD{P:Pg}(h:Has P JP){x:DP EV.ps}{K:DP EV.rs→DP (ptrs EV.ps)→Prop}(hw:QV P x K):Fn P AdZ EV x K:=
 BG (c:=Np) h rfl rfl (by kernel_rfl) (Eq.mpr (show BC P JP EV Np x K=_ by kernel_rfl) hw)
def Fz:Be:=
 (.seq (.region [o1 4 (.asg (.c (.slice none 0 0))),ia 5 (kI 0)]) (.seq (.region [im 13 0,im 14 1,oS ⟨some 15,.call ZM [13,14],none⟩
 CA,im 12 15,o1 16 (.ext 12 0),o1 17 (.ext 12 1),ia 6 16,ia 7 17]) (.seq (.seq (.region [im 18 7,o1 19 (.bin .neq 18 (kI 0))]) (.cond 19 (.seq (.region [im 20 7,o1
 4 (.asg (.c (.slice none 0 0))),ia 5 20]) .ret) .skip)) (.seq (.region [o1 8 (.asg (.c (.slice none 0 0)))]) (.seq (.seq (.region [ia 9 (kI 0)]) (.frame (rg [8,9,10,11] 21 40)
 [] false (.join [.sl 8 false (.sl .str) tO] (.block 0 (.loop [.sl 8 false (.sl .str) tO,.si 9] (.seq (.seq (.region [im 21 9,im 22 6,o1 23 (.ixA 1 22 (kI 0)),ld 24 23,o1 25
 (.lenK 24),o1 26 (.bin .lss 21 25)]) (.cond 26 .skip (.exit 0))) (.seq (.frame (rg [8,10,11] 29 32) [] false (.join [.sl 8 false (.sl .str) tO] (.block 1 (.seq (.region [o1 10
 (.asg kT)]) (.seq (.seq (.region [ia 11 (kI 0)]) (.frame (rg [10,11] 29 21) [] false (.join [.sl 10 false .bool .leaf] (.block 2 (.loop [.sl 10 false .bool .leaf,.si 11] (.seq
 (.seq (.region [im 29 11,im 30 6,o1 31 (.lenK 30),o1 32 (.bin .lss 29 31)]) (.cond 32 .skip (.exit 2))) (.seq (.frame (rg [10] 35 15) [] false (.join [.sl 10 false .bool .leaf]
 (.block 3 (.frame (rg [10] 35 15) [] false (.join [.sl 10 false .bool .leaf] (.draw [(.first (im 35 10) (.first (im 36 35) (.first (gt 37 36 (.mv 6)) (.first (gt 38 36 (.mv 11))
 (.first (gt 39 36 (.ixA 1 37 38)) (.first (gt 40 36 (.load false 1 39)) (.first (gt 41 36 (.mv 6)) (.first (gt 42 36 (.ixA 1 41 (kI 0))) (.first (gt 43 36 (.load false 1 42))
 (.first (gt 44 36 (.mv 9)) (.first (gt 45 36 (.ixA 2 43 44)) (.first (gt 46 36 (.fAddr 0 45)) (.first (gt 47 36 (.load false 1 46)) (.alt (oS ⟨some 48,.call
 AdZ [40,47],some (36,true)⟩ EV) (.first (o1 49 (.pick 36 48 kF)) (.alt (ia 10 49) .done .stop)) .stop))))))))))))))])))))) (.region [im 33 11,
 o1 34 (.bin .add 33 (kI 1)),ia 11 34])))))))) (.seq (.region [im 50 10]) (.frame (rg [8] 51 10) [] false (.join [.sl 8 false (.sl .str) tO] (.cond 50 (.region [im 51 8,im 52 6,
 o1 53 (.ixA 1 52 (kI 0)),ld 54 53,im 55 9,o1 56 (.ixA 2 54 55),fa 57 0 56,ld 58 57,oT ⟨some 59,.buildSl 1 [(.string ⟨#[]⟩)] 1 [(0,58)],none⟩ (some (.str,.leaf)),oT ⟨some
 60,.app 1 16 51 59,none⟩ (some (.str,.leaf)),ia 8 60]) .skip))))))))) (.region [im 27 9,o1 28 (.bin .add 27 (kI 1)),ia 9 28])))))))) (.seq (.region [im 61 8,ia 4 61,ia 5
 (kI 0)]) .ret))))))
def Ej:AFn:=⟨Ad0,Fz.erase,[.tmp 4,.tmp 5],2⟩
def HK(P:Pg)(x:((List Commit)×Int))(K:((List (List UInt8))×Int)→Unit→Prop):Prop:=
 Fn P ZM CA x (fun(d1:((List (List ((List UInt8)×Int)))×Int)) (e2:Unit)=>(((d1.2 !=(0:Int))=true→K ([],d1.2) ())∧((d1.2 !=(0:Int))=false→Ad (D:=(List (List UInt8))) (fun J3=>AJ (D:=((List (List UInt8))×Int)) ([],(0:Int)) (fun d5 J6=>(0≤(0:Int)∧(0:Int)<(d1.1.length:Int))∧
 ((Int.toNat (0:Int))<d1.1.length)∧
 ((Int.toNat (0:Int))<d1.1.length)∧
 (((decide (d5.2<((List.length (List.getD d1.1 (Int.toNat (0:Int)) []):Nat):Int)))=true→Ad (D:=(List (List UInt8))) (fun J7=>Ad (D:=Bool) (fun J9=>AJ (D:=(Bool×Int)) (true,(0:Int)) (fun d11 J12=>(((decide (d11.2<(d1.1.length:Int)))=true→Ad (D:=Bool) (fun J13=>Ad (D:=Bool) (fun J15=>((d11.1=true→0≤d11.2∧d11.2<(d1.1.length:Int)))∧
 ((d11.1=true→d11.2.toNat<d1.1.length))∧
 ((d11.1=true→0≤(0:Int)∧(0:Int)<(d1.1.length:Int)))∧
 ((d11.1=true→(Int.toNat (0:Int))<d1.1.length))∧
 ((Int.toNat (0:Int))<d1.1.length)∧
 ((d11.1=true→0≤d5.2∧d5.2<((List.length (List.getD d1.1 (Int.toNat (0:Int)) []):Nat):Int)))∧
 ((Int.toNat (0:Int))<d1.1.length)∧
 ((d11.1=true→d5.2.toNat<List.length (List.getD d1.1 (Int.toNat (0:Int)) [])))∧
 (Ad (D:=Bool) (fun J17=>(((d11.2.toNat<d1.1.length)∧
 (d11.1=true→Fn P AdZ EV ((List.getD d1.1 d11.2.toNat []),(List.getD (List.getD d1.1 (Int.toNat (0:Int)) []) d5.2.toNat ([],(0:Int))).1) (fun(d18:Bool) _=>J17 d18)))∧((d11.1=false→J17 false)∧True))) (fun d19=>(J15 (cond d11.1 d19 false))∧True))∧True) (fun d16=>J13 d16)) (fun d14=>J12 (d14,(i64.wrap (d11.2+(1:Int))))))∧((decide (d11.2<(d1.1.length:Int)))=false→J9 d11.1)))) (fun d10=>Ad (D:=(List (List UInt8))) (fun J20=>((d10=true→(0≤(0:Int)∧(0:Int)<(d1.1.length:Int))∧
 ((Int.toNat (0:Int))<d1.1.length)∧
 ((Int.toNat (0:Int))<d1.1.length)∧
 (0≤d5.2∧d5.2<((List.length (List.getD d1.1 (Int.toNat (0:Int)) []):Nat):Int))∧
 ((Int.toNat (0:Int))<d1.1.length)∧
 (d5.2.toNat<List.length (List.getD d1.1 (Int.toNat (0:Int)) []))∧
 ((d5.1.length+List.length ([(List.getD (List.getD d1.1 (Int.toNat (0:Int)) []) d5.2.toNat ([],(0:Int))).1]:List (List UInt8)))*16≤140737488355328)∧
 J20 (d5.1++([(List.getD (List.getD d1.1 (Int.toNat (0:Int)) []) d5.2.toNat ([],(0:Int))).1]:List (List UInt8))))∧(d10=false→J20 d5.1))) (fun d21=>J7 d21))) (fun d8=>J6 (d8,(i64.wrap (d5.2+(1:Int))))))∧((decide (d5.2<((List.length (List.getD d1.1 (Int.toNat (0:Int)) []):Nat):Int)))=false→J3 d5.1)))) (fun d4=>K (d4,(0:Int)) ()))))
theorem Mm{P:Pg}(h:Has P Ej){x:DP Ca.ps}{K:DP Ca.rs→DP (ptrs Ca.ps)→Prop}(hw:HK P x K):Fn P Ad0 Ca x K:=
 BG (c:=Fz) h rfl rfl (by kernel_rfl) (Eq.mpr (show BC P Ej Ca Fz x K=_ by kernel_rfl) hw)
def Kq:Be:=
 (.seq (.region [o1 8 (.asg (.c (.string ⟨#[]⟩))),o1 9 (.asg (.c (.string ⟨#[]⟩))),ia 10 (kI 0)]) (.seq (.seq (.region [im 17 0,im 18 1,oS ⟨some 19,.call
 ZK [17,18],none⟩ Cz,ia 11 19]) (.seq (.region [im 20 11,o1 21 (.bin .neq 20 (kI 0))]) (.cond 21 (.seq (.region [im 22 11,o1 8 (.asg
 (.c (.string ⟨#[]⟩))),o1 9 (.asg (.c (.string ⟨#[]⟩))),ia 10 22]) .ret) .skip))) (.seq (.region [im 23 0,im 24 1,oS ⟨some 25,.call ZL [23,24],
 none⟩ CB,ia 12 25]) (.seq (.seq (.region [im 26 2,o1 27 (.bin .lss 26 (kI 0)),im 28 27,gf 29 28 (.mv 2),gf 30 28 (.mv 12),gf 31 28 (.lenK 30),gf 32 28 (.bin .geq
 29 31),o1 33 (.pick 28 kT 32)]) (.cond 33 (.seq (.region [o1 8 (.asg (.c (.string ⟨#[]⟩))),o1 9 (.asg (.c (.string ⟨#[]⟩))),ia 10 (kI 3)]) .ret) .skip)) (.seq (.region [im 35
 12,im 36 2,o1 37 (.ixA 1 35 36),ld 38 37,im 39 3,oS ⟨some 40,.call zS2 [38,39],none⟩ BU,im 34 40,o1 41 (.ext 34 0),o1 42 (.ext 34
 1),ia 13 41,ia 14 42]) (.seq (.region [im 44 0,im 45 1,o1 46 (.ixA 3 44 45),fa 47 2 46,ld 48 47,im 49 3,oS ⟨some 50,.call zS2 [48,49],none⟩
 BU,im 43 50,o1 51 (.ext 43 0),o1 52 (.ext 43 1),ia 15 51,ia 16 52]) (.seq (.region [im 53 13,im 54 15,ia 8 53,ia 9 54,ia 10 (kI 0)]) .ret)))))))
def Hj:AFn:=⟨Ad1,Kq.erase,[.tmp 8,.tmp 9,.tmp 10],4⟩
def NI(P:Pg)(x:((List Commit)×(Int×(Int×(List UInt8)))))(K:Rename→Unit→Prop):Prop:=
 Fn P ZK Cz (x.1,x.2.1) (fun(d1:Int) (e2:Unit)=>(((d1 !=(0:Int))=true→K (([]:List UInt8),(([]:List UInt8),d1)) ())∧((d1 !=(0:Int))=false→Fn P ZL CB (x.1,x.2.1) (fun(d3:(List (List ((List UInt8)×(List UInt8))))) (e4:Unit)=>(((cond (decide (x.2.2.1<(0:Int))) true (decide (x.2.2.1≥(d3.length:Int))))=true→K (([]:List UInt8),(([]:List UInt8),(3:Int))) ())∧((cond (decide (x.2.2.1<(0:Int))) true (decide (x.2.2.1≥(d3.length:Int))))=false→(0≤x.2.2.1∧x.2.2.1<(d3.length:Int))∧
 (x.2.2.1.toNat<d3.length)∧
 Fn P zS2 BU ((List.getD d3 x.2.2.1.toNat []),x.2.2.2) (fun(d5:((List UInt8)×Bool)) (e6:Unit)=>(0≤x.2.1∧x.2.1<(x.1.length:Int))∧
 (x.2.1.toNat<x.1.length)∧
 Fn P zS2 BU ((List.getD x.1 x.2.1.toNat Ah).2.2,x.2.2.2) (fun(d7:((List UInt8)×Bool)) (e8:Unit)=>K (d5.1,(d7.1,(0:Int))) ()))))))))
theorem S8{P:Pg}(h:Has P Hj){x:DP DU.ps}{K:DP DU.rs→DP (ptrs DU.ps)→Prop}(hw:NI P x K):Fn P Ad1 DU x K:=
 BG (c:=Kq) h rfl rfl (by kernel_rfl) (Eq.mpr (show BC P Hj DU Kq x K=_ by kernel_rfl) hw)
def I9:Be:=
 (.seq (.region [o1 4 (.asg kF)]) (.seq (.seq (.region [im 6 0,o1 7 (.lenK 6),im 8 1,o1 9 (.lenK 8),o1 10 (.bin .neq 7 9)]) (.cond 10 (.seq (.region [o1 4 (.asg kF)]) .ret)
 .skip)) (.seq (.seq (.region [ia 5 (kI 0)]) (.frame (rg [4,5] 11 15) [] false (.join [.sl 4 false .bool .leaf] (.block 0 (.loop [.sl 4 false .bool .leaf,.si 5] (.seq (.seq
 (.region [im 11 5,im 12 0,o1 13 (.lenK 12),o1 14 (.bin .lss 11 13)]) (.cond 14 .skip (.exit 0))) (.seq (.frame (rg [4] 17 9) [] false (.join [.sl 4 false .bool .leaf] (.block 1
 (.seq (.draw [(.first (im 17 0) (.first (im 18 5) (.first (o1 19 (.ixA 1 17 18)) (.first (ld 20 19) (.first (im 21 1) (.first (im 22 5) (.first (o1 23 (.ixA 1 21 22)) (.first (ld
 24 23) (.first (o1 25 (.bin .neq 20 24)) .done)))))))))]) (.cond 25 (.seq (.region [o1 4 (.asg kF)]) .ret) .skip))))) (.region [im 15 5,o1 16 (.bin .add 15 (kI 1)),ia 5
 16])))))))) (.seq (.region [o1 4 (.asg kT)]) .ret))))
def Gw:AFn:=⟨Ad2,I9.erase,[.tmp 4],2⟩
def Ms(P:Pg)(x:((List (List UInt8))×(List (List UInt8))))(K:Bool→Unit→Prop):Prop:=
 ((((x.1.length:Int) !=(x.2.length:Int))=true→K false ())∧(((x.1.length:Int) !=(x.2.length:Int))=false→Ad (D:=Bool) (fun J1=>AJ (D:=(Bool×Int)) (false,(0:Int)) (fun d3 J4=>(((decide (d3.2<(x.1.length:Int)))=true→Ad (D:=Bool) (fun J5=>(0≤d3.2∧d3.2<(x.1.length:Int))∧
 (d3.2.toNat<x.1.length)∧
 (0≤d3.2∧d3.2<(x.2.length:Int))∧
 (d3.2.toNat<x.2.length)∧
 (((!((List.getD x.1 d3.2.toNat [])==(List.getD x.2 d3.2.toNat [])))=true→K false ())∧((!((List.getD x.1 d3.2.toNat [])==(List.getD x.2 d3.2.toNat [])))=false→J5 d3.1))) (fun d6=>J4 (d6,(i64.wrap (d3.2+(1:Int))))))∧((decide (d3.2<(x.1.length:Int)))=false→J1 d3.1)))) (fun d2=>K true ())))
theorem Rm{P:Pg}(h:Has P Gw){x:DP Dq.ps}{K:DP Dq.rs→DP (ptrs Dq.ps)→Prop}(hw:Ms P x K):Fn P Ad2 Dq x K:=
 BG (c:=I9) h rfl rfl (by kernel_rfl) (Eq.mpr (show BC P Gw Dq I9 x K=_ by kernel_rfl) hw)
def E3:Be:=
 (.seq (.region [o1 10 (.asg kF)]) (.seq (.seq (.region [im 27 3,o1 28 (.lenS 27),o1 29 (.bin .gtr 28 (kI 60))]) (.cond 29 (.seq (.region [oS ⟨some 30,.call
 Ya [],none⟩ Ck,ia 10 30]) .ret) .skip)) (.seq (.region [im 31 0,oS ⟨some 32,.call AbQ [31,(kI 6),(kI 2)],
 none⟩ DR,ia 11 32]) (.seq (.seq (.region [im 33 4,im 34 33,gt 35 34 (.mv 11),gt 36 34 (.lenK 35),gt 37 34 (.bin .gtr 36 (kI 0)),o1 38 (.pick 34 37 kF)]) (.frame (rg
 [1,2,3] 39 12) [] false (.join [.si 1,.si 2,.sl 3 false .str .leaf] (.cond 38 (.seq (.region [im 39 1,im 40 11,o1 41 (.lenK 40),oS ⟨some 42,.call
 zS1 [39,41],none⟩ BD,im 43 2,oS ⟨some 44,.call zS1 [43,(kI 3)],none⟩ BD,ia 1 42,ia 2 44]) (.region [oT
 ⟨some 45,.buildSl 1 [(.string ⟨#[]⟩)] 4 [(0,(.c (.string ⟨#[97]⟩))),(1,(.c (.string ⟨#[98,47,120]⟩))),(2,(.c (.string ⟨#[98,47,121]⟩))),(3,(.c (.string ⟨#[99,32,
 100]⟩)))],none⟩ (some (.str,.leaf)),im 46 3,o1 47 (.lenS 46),oS ⟨some 48,.call zS1 [47,(kI 4)],none⟩ BD,o1 49 (.ixA 1 45 48),ld 50 49,ia
 3 50])) .skip)))) (.seq (.region [im 52 11,im 53 1,oS ⟨some 54,.call zS8 [52,53],none⟩ BZ,im 51 54,o1 55 (.ext 51 0),o1 56 (.ext 51 1),
 ia 12 55,ia 13 56]) (.seq (.region [im 58 11,im 59 1,oS ⟨some 60,.call ZM [58,59],none⟩ CA,im 57 60,o1 61 (.ext 57 0),o1 62 (.ext
 57 1),ia 14 61,ia 15 62]) (.seq (.region [im 64 11,im 65 1,oS ⟨some 66,.call Afo [64,65],none⟩ DO,im 63 66,o1 67 (.ext 63 0),
 o1 68 (.ext 63 1),ia 16 67,ia 17 68]) (.seq (.region [im 70 11,im 71 1,oS ⟨some 72,.call Ad0 [70,71],none⟩ Ca,im 69 72,o1
 73 (.ext 69 0),o1 74 (.ext 69 1),ia 18 73,ia 19 74]) (.seq (.region [im 76 11,im 77 1,im 78 2,im 79 3,oS ⟨some 80,.call X8 [76,77,78,79],none⟩
 B8,im 75 80,o1 81 (.ext 75 0),o1 82 (.ext 75 1),o1 83 (.ext 75 2),ia 20 81,ia 21 82,ia 22 83]) (.seq (.region [im 85 11,im 86 1,im 87 2,im 88 3,oS ⟨some 89,
 .call Ad1 [85,86,87,88],none⟩ DU,im 84 89,o1 90 (.ext 84 0),o1 91 (.ext 84 1),o1 92 (.ext 84 2),ia 23 90,ia 24 91,ia 25 92]) (.seq
 (.seq (.region [im 93 12,o1 94 (.lenK 93),im 95 14,o1 96 (.lenK 95),o1 97 (.bin .neq 94 96)]) (.cond 97 (.seq (.region [o1 10 (.asg kF)]) .ret) .skip)) (.seq (.seq (.region [ia
 26 (kI 0)]) (.frame (rg [10,26] 98 16) [] false (.join [.sl 10 false .bool .leaf] (.block 0 (.loop [.sl 10 false .bool .leaf,.si 26] (.seq (.seq (.region [im 98 26,im 99 12,o1
 100 (.lenK 99),o1 101 (.bin .lss 98 100)]) (.cond 101 .skip (.exit 0))) (.seq (.frame (rg [10] 104 10) [] false (.join [.sl 10 false .bool .leaf] (.block 1 (.seq (.frame (rg []
 104 10) [] false (.join [.sl 113 false .bool .leaf] (.draw [(.first (im 104 12) (.first (im 105 26) (.first (o1 106 (.ixA 1 104 105)) (.first (ld 107 106) (.first (im 108 14)
 (.first (im 109 26) (.first (o1 110 (.ixA 1 108 109)) (.first (ld 111 110) (.alt (oS ⟨some 112,.call X9 [107,111],none⟩ CD) (.first (o1
 113 (.un .not 112)) .done) .stop)))))))))]))) (.cond 113 (.seq (.region [o1 10 (.asg kF)]) .ret) .skip))))) (.region [im 102 26,o1 103 (.bin .add 102 (kI 1)),ia 26 103]))))))))
 (.seq (.region [im 114 13,im 115 15,o1 116 (.bin .eql 114 115),im 117 116,gt 118 117 (.mv 16),gt 119 117 (.mv 18),oS ⟨some 120,.call Ad2 [118,
 119],some (117,true)⟩ Dq,o1 121 (.pick 117 120 kF),im 122 121,gt 123 122 (.mv 17),gt 124 122 (.mv 19),gt 125 122 (.bin .eql 123 124),o1 126 (.pick 122 125 kF),
 im 127 126,gt 128 127 (.mv 20),gt 129 127 (.mv 23),gt 130 127 (.bin .eql 128 129),o1 131 (.pick 127 130 kF),im 132 131,gt 133 132 (.mv 21),gt 134 132 (.mv 24),gt 135 132
 (.bin .eql 133 134),o1 136 (.pick 132 135 kF),im 137 136,gt 138 137 (.mv 22),gt 139 137 (.mv 25),gt 140 137 (.bin .eql 138 139),o1 141 (.pick 137 140 kF),im 142 141,oS
 ⟨some 143,.call Ya [],some (142,true)⟩ Ck,o1 144 (.pick 142 143 kF),ia 10 144]) .ret)))))))))))))
def DN:AFn:=⟨AgB,E3.erase,[.tmp 10],5⟩
abbrev EK:List (List UInt8):=([([97]:List UInt8),([98,47,120]:List UInt8),([98,47,121]:List UInt8),([99,32,100]:List UInt8)]:List (List UInt8))
def GQ(P:Pg)(x:((List Int)×(Int×(Int×((List UInt8)×Bool)))))(K:Bool→Unit→Prop):Prop:=
 (((decide ((x.2.2.2.1.length:Int)>(60:Int)))=true→Fn P Ya Ck () (fun(d1:Bool) (e2:Unit)=>K d1 ()))∧((decide ((x.2.2.2.1.length:Int)>(60:Int)))=false→Fn P AbQ DR (x.1,((6:Int),(2:Int))) (fun(d3:(List Commit)) (e4:Unit)=>Ad (D:=(Int×(Int×(List UInt8)))) (fun J5=>(((cond x.2.2.2.2 (decide ((d3.length:Int)>(0:Int))) false)=true→Fn P zS1 BD (x.2.1,(d3.length:Int)) (fun(d7:Int) (e8:Unit)=>Fn P zS1 BD (x.2.2.1,(3:Int)) (fun(d9:Int) (e10:Unit)=>Fn P zS1 BD ((x.2.2.2.1.length:Int),(4:Int)) (fun(d11:Int) (e12:Unit)=>(0≤d11∧d11<((List.length EK:Nat):Int))∧
 (d11.toNat<List.length EK)∧
 J5 (d7,(d9,(List.getD EK d11.toNat [])))))))∧((cond x.2.2.2.2 (decide ((d3.length:Int)>(0:Int))) false)=false→J5 (x.2.1,(x.2.2.1,x.2.2.2.1))))) (fun d6=>Fn P zS8 BZ (d3,d6.1) (fun(d13:((List (List ((List UInt8)×Int)))×Int)) (e14:Unit)=>Fn P ZM CA (d3,d6.1) (fun(d15:((List (List ((List UInt8)×Int)))×Int)) (e16:Unit)=>Fn P Afo DO (d3,d6.1) (fun(d17:((List (List UInt8))×Int)) (e18:Unit)=>Fn P Ad0 Ca (d3,d6.1) (fun(d19:((List (List UInt8))×Int)) (e20:Unit)=>Fn P X8 B8 (d3,d6) (fun(d21:Rename) (e22:Unit)=>Fn P Ad1 DU (d3,d6) (fun(d23:Rename) (e24:Unit)=>((((d13.1.length:Int) !=(d15.1.length:Int))=true→K false ())∧(((d13.1.length:Int) !=(d15.1.length:Int))=false→Ad (D:=Bool) (fun J25=>AJ (D:=(Bool×Int)) (false,(0:Int)) (fun d27 J28=>(((decide (d27.2<(d13.1.length:Int)))=true→Ad (D:=Bool) (fun J29=>Ad (D:=Bool) (fun J31=>(0≤d27.2∧d27.2<(d13.1.length:Int))∧
 (d27.2.toNat<d13.1.length)∧
 (0≤d27.2∧d27.2<(d15.1.length:Int))∧
 (d27.2.toNat<d15.1.length)∧
 ((d27.2.toNat<d13.1.length)∧
 (d27.2.toNat<d15.1.length)∧
 Fn P X9 CD ((List.getD d13.1 d27.2.toNat []),(List.getD d15.1 d27.2.toNat [])) (fun(d33:Bool) (e34:Unit)=>J31 (!d33)))∧True) (fun d32=>((d32=true→K false ())∧(d32=false→J29 d27.1)))) (fun d30=>J28 (d30,(i64.wrap (d27.2+(1:Int))))))∧((decide (d27.2<(d13.1.length:Int)))=false→J25 d27.1)))) (fun d26=>Ad (D:=Bool) (fun J35=>(((d13.2==d15.2)=true→Fn P Ad2 Dq (d17.1,d19.1) (fun(d36:Bool) _=>J35 d36))∧(((d13.2==d15.2)=false→J35 false)∧True))) (fun d37=>Ad (D:=Bool) (fun J38=>(((cond (cond (cond (cond (cond (d13.2==d15.2) d37 false) (d17.2==d19.2) false) (d21.1==d23.1) false) (d21.2.1==d23.2.1) false) (d21.2.2==d23.2.2) false)=true→Fn P Ya Ck () (fun(d39:Bool) _=>J38 d39))∧(((cond (cond (cond (cond (cond (d13.2==d15.2) d37 false) (d17.2==d19.2) false) (d21.1==d23.1) false) (d21.2.1==d23.2.1) false) (d21.2.2==d23.2.2) false)=false→J38 false)∧True))) (fun d40=>K (cond (cond (cond (cond (cond (cond (d13.2==d15.2) d37 false) (d17.2==d19.2) false) (d21.1==d23.1) false) (d21.2.1==d23.2.1) false) (d21.2.2==d23.2.2) false) d40 false) ())))))))))))))))
theorem KV{P:Pg}(h:Has P DN){x:DP Bu.ps}{K:DP Bu.rs→DP (ptrs Bu.ps)→Prop}(hw:GQ P x K):Fn P AgB Bu x K:=
 BG (c:=E3) h rfl rfl (by kernel_rfl) (Eq.mpr (show BC P DN Bu E3 x K=_ by kernel_rfl) hw)
def LM:Be:=
 (.seq (.region [ia 4 (kI 0)]) (.seq (.seq (.region [im 6 0,oS ⟨some 7,.call zS3 [6],none⟩ B6,ia 5 7]) (.seq (.region [im 8 5,o1 9 (.bin .neq 8 (kI
 0))]) (.cond 9 (.seq (.region [im 10 5,ia 4 10]) .ret) .skip))) (.seq (.region [im 11 1,oS ⟨some 12,.call zS3 [11],none⟩ B6,ia 4 12]) .ret)))
def IA:AFn:=⟨ "mergelens/tree.both",LM.erase,[.tmp 4],2⟩
def PG(P:Pg)(x:((List ((List UInt8)×(List UInt8)))×(List ((List UInt8)×(List UInt8)))))(K:Int→Unit→Prop):Prop:=
 Fn P zS3 B6 x.1 (fun(d1:Int) (e2:Unit)=>(((d1 !=(0:Int))=true→K d1 ())∧((d1 !=(0:Int))=false→Fn P zS3 B6 x.2 (fun(d3:Int) (e4:Unit)=>K d3 ()))))
theorem U9{P:Pg}(h:Has P IA){x:DP EW.ps}{K:DP EW.rs→DP (ptrs EW.ps)→Prop}(hw:PG P x K):Fn P "mergelens/tree.both" EW x K:=
 BG (c:=LM) h rfl rfl (by kernel_rfl) (Eq.mpr (show BC P IA EW LM x K=_ by kernel_rfl) hw)
end Go.VS
