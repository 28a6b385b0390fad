/- Functions of the program: typed code, and what it says, lifted. -/
import Derived.Test.YtfkfmokccekccaaGreatDoorKTxSig
import Derived.KernelRfl
set_option linter.unusedVariables false
set_option linter.unusedSimpArgs false
set_option maxRecDepth 8000
namespace Go.VS
open IntKind
def K1:Ax:=
 sr [o1 4 (.asg ni)] (sr [o1 5 (.asg ni)] (sr [ia 6 (kI 0),ia 7 (kI 0)] (sq (fk [] 5 87 (.join [.sl 5 false (.sl .str) tO] (bk 0 (.loop [.sl 5 false (.sl .str) tO,.si 6,.si 7] (sq (sr [im 8 6,im 9 0,ol 10 9,ob 11 .lss 8 10,im 12 11,gf 13 12
 (.mv 7),gf 14 12 (.mv 1),gf 15 12 (.lenK 14),gf 16 12 (.bin .lss 13 15),op3 17 12 kT 16] (cx 17 0)) (fk [5,6,7] 18 74 (.join [.sl 5 false (.sl .str) tO,.si 6,.si 7] (bk 1 (fk [5,6,7] 18 74 (.join [.sl 5 false (.sl .str) tO,.si 6,.si 7] (bk
 2 (sq (fk [] 30 24 (.join [.sl 30 false .bool .leaf] (.draw [ti (im 31 7) (ti (im 32 1) (ti (ol 33 32) (ti (ob 34 .eql 31 33) (ti (im 35 34) (ti (gf 36 35 (.mv 6)) (ti (gf 37 35 (.mv 0)) (ti (gf 38 35 (.lenK 37)) (ti (gf 39 35 (.bin .lss
 36 38)) (ti (gf 40 35 (.mv 39)) (ti (gt 41 40 (.mv 0)) (ti (gt 42 40 (.mv 6)) (ti (gt 43 40 (.ixA 2 41 42)) (ti (gt 44 40 (.fAddr 0 43)) (ti (gt 45 40 (.load false 1 44)) (ti (gt 46 40 (.mv 1)) (ti (gt 47 40 (.mv 7)) (ti (gt 48 40 (.ixA 2
 46 47)) (ti (gt 49 40 (.fAddr 0 48)) (ti (gt 50 40 (.load false 1 49)) (ti (gt 51 40 (.bin .lss 45 50)) (ti (gf 52 35 (.pick 40 51 kF)) (ti (op3 53 35 kT 52) (.alt (ia 30 53) .done .stop)))))))))))))))))))))))]))) (fk
 [5,6,7,18,19,20,21,22,23,24,25,26,27,28,29] 54 38 (.join [.sl 5 false (.sl .str) tO,.si 6,.si 7] (cn 30 (sr [im 54 5,im 55 0,im 56 6,ox 57 2 55 56,fa 58 0 57,ld 59 58,oT ⟨some 60,.buildSl 1 [.string ⟨#[]⟩] 1 [(0,59)],none⟩ (some
 (.str,.leaf)),oT ⟨some 61,.app 1 16 54 60,none⟩ (some (.str,.leaf)),ia 5 61] (rn [im 62 6,ob 63 .add 62 (kI 1),ia 6 63])) (sq (fk [] 64 18 (.join [.sl 64 false .bool .leaf] (.draw [ti (im 65 6) (ti (im 66 0) (ti (ol 67 66) (ti (ob 68 .eql
 65 67) (ti (im 69 68) (ti (gf 70 69 (.mv 1)) (ti (gf 71 69 (.mv 7)) (ti (gf 72 69 (.ixA 2 70 71)) (ti (gf 73 69 (.fAddr 0 72)) (ti (gf 74 69 (.load false 1 73)) (ti (gf 75 69 (.mv 0)) (ti (gf 76 69 (.mv 6)) (ti (gf 77 69 (.ixA 2 75 76))
 (ti (gf 78 69 (.fAddr 0 77)) (ti (gf 79 69 (.load false 1 78)) (ti (gf 80 69 (.bin .lss 74 79)) (ti (op3 81 69 kT 80) (.alt (ia 64 81) .done .stop)))))))))))))))))]))) (fk [5,6,7,18,19,20,21,22,23,24,25,26,27,28,29] 82 10 (.join [.sl 5
 false (.sl .str) tO,.si 6,.si 7] (cn 64 (sr [im 82 5,im 83 1,im 84 7,ox 85 2 83 84,fa 86 0 85,ld 87 86,oT ⟨some 88,.buildSl 1 [.string ⟨#[]⟩] 1 [(0,87)],none⟩ (some (.str,.leaf)),oT ⟨some 89,.app 1 16 82 88,none⟩ (some (.str,.leaf)),ia 5
 89] (rn [im 90 7,ob 91 .add 90 (kI 1),ia 7 91])) (sr [im 18 5,im 19 0,im 20 6,ox 21 2 19 20,fa 22 0 21,ld 23 22,oT ⟨some 24,.buildSl 1 [.string ⟨#[]⟩] 1 [(0,23)],none⟩ (some (.str,.leaf)),oT ⟨some 25,.app 1 16 18 24,none⟩ (some
 (.str,.leaf)),ia 5 25] (rn [im 26 6,ob 27 .add 26 (kI 1),im 28 7,ob 29 .add 28 (kI 1),ia 6 27,ia 7 29]))))))))))))))))))))) (sr [im 92 5,ia 4 92] .ret))))
def Hl:AFn:=⟨Ajt,K1.erase,[.tmp 4],2⟩
def OP(P:Pg)(x:((List ((List UInt8)×(List UInt8)))×(List ((List UInt8)×(List UInt8)))))(K:(List (List UInt8))→Unit→Prop):Prop:=
 Ac (D:=(List (List UInt8))) (fun J1=>Au (D:=((List (List UInt8))×(Int×Int))) ([],((0:Int),(0:Int))) (fun d3 J4=>(((cond (decide (d3.2.1<(x.1.length:Int))) true (decide (d3.2.2<(x.2.length:Int))))=true→Ac (D:=((List (List UInt8))×(Int×Int))) (fun J5=>Ac (D:=((List (List UInt8))×(Int×Int))) (fun J7=>Ac (D:=Bool) (fun J9=>(((decide (d3.2.1<(x.1.length:Int)))=true→((d3.2.2==(x.2.length:Int))=false→0≤d3.2.1∧d3.2.1<(x.1.length:Int))))∧
 (((decide (d3.2.1<(x.1.length:Int)))=true→((d3.2.2==(x.2.length:Int))=false→d3.2.1.toNat<x.1.length)))∧
 (((decide (d3.2.1<(x.1.length:Int)))=true→((d3.2.2==(x.2.length:Int))=false→0≤d3.2.2∧d3.2.2<(x.2.length:Int))))∧
 (((decide (d3.2.1<(x.1.length:Int)))=true→((d3.2.2==(x.2.length:Int))=false→d3.2.2.toNat<x.2.length)))∧
 (J9 (cond (d3.2.2==(x.2.length:Int)) true (cond (decide (d3.2.1<(x.1.length:Int))) (Op.bytesLess (List.getD x.1 d3.2.1.toNat ([],[])).1 (List.getD x.2 d3.2.2.toNat ([],[])).1) false)))∧True) (fun d10=>Ac (D:=((List (List UInt8))×(Int×Int))) (fun J11=>((d10=true→(0≤d3.2.1∧d3.2.1<(x.1.length:Int))∧
 (d3.2.1.toNat<x.1.length)∧
 ((d3.1.length+List.length ([(List.getD x.1 d3.2.1.toNat ([],[])).1]:List (List UInt8)))*16≤140737488355328)∧
 J11 ((d3.1++([(List.getD x.1 d3.2.1.toNat ([],[])).1]:List (List UInt8))),((i64.wrap (d3.2.1+(1:Int))),d3.2.2)))∧(d10=false→Ac (D:=Bool) (fun J13=>(((d3.2.1==(x.1.length:Int))=false→0≤d3.2.2∧d3.2.2<(x.2.length:Int)))∧
 (((d3.2.1==(x.1.length:Int))=false→d3.2.2.toNat<x.2.length))∧
 (((d3.2.1==(x.1.length:Int))=false→0≤d3.2.1∧d3.2.1<(x.1.length:Int)))∧
 (((d3.2.1==(x.1.length:Int))=false→d3.2.1.toNat<x.1.length))∧
 (J13 (cond (d3.2.1==(x.1.length:Int)) true (Op.bytesLess (List.getD x.2 d3.2.2.toNat ([],[])).1 (List.getD x.1 d3.2.1.toNat ([],[])).1)))∧True) (fun d14=>Ac (D:=((List (List UInt8))×(Int×Int))) (fun J15=>((d14=true→(0≤d3.2.2∧d3.2.2<(x.2.length:Int))∧
 (d3.2.2.toNat<x.2.length)∧
 ((d3.1.length+List.length ([(List.getD x.2 d3.2.2.toNat ([],[])).1]:List (List UInt8)))*16≤140737488355328)∧
 J15 ((d3.1++([(List.getD x.2 d3.2.2.toNat ([],[])).1]:List (List UInt8))),(d3.2.1,(i64.wrap (d3.2.2+(1:Int))))))∧(d14=false→(0≤d3.2.1∧d3.2.1<(x.1.length:Int))∧
 (d3.2.1.toNat<x.1.length)∧
 ((d3.1.length+List.length ([(List.getD x.1 d3.2.1.toNat ([],[])).1]:List (List UInt8)))*16≤140737488355328)∧
 J15 ((d3.1++([(List.getD x.1 d3.2.1.toNat ([],[])).1]:List (List UInt8))),((i64.wrap (d3.2.1+(1:Int))),(i64.wrap (d3.2.2+(1:Int)))))))) (fun d16=>J11 d16))))) (fun d12=>J7 d12))) (fun d8=>J5 d8)) (fun d6=>J4 d6))∧((cond (decide (d3.2.1<(x.1.length:Int))) true (decide (d3.2.2<(x.2.length:Int))))=false→J1 d3.1)))) (fun d2=>K d2 ())
theorem UW{P}(h:Has P Hl){x K}(hw:OP P x K):Fn P Ajt Fl x K:=
 AZ (c:=K1) h rfl rfl (by kernel_rfl) (Eq.mpr (show AQ P Hl Fl K1 x K=_ by kernel_rfl) hw)
def Jt:Ax:=
 sr [o1 4 (.asg ni)] (sr [o1 5 (.asg ni)] (sr [im 12 0,im 13 1,oc 14 Ajt [12,13] Fl,ia 6 14] (sq (sr [ia 7 (kI 0)] (fk [5,7,8,9,10,11] 15 58 (.join [.sl 5 false (.sl (.pair .str bI)) tO] (bk 0 (.loop
 [.sl 5 false (.sl (.pair .str bI)) tO,.si 7] (sq (sr [im 15 7,im 16 6,ol 17 16,ob 18 .lss 15 17] (cx 18 0)) (sq (fk [5,8,9,10,11] 21 52 (.join [.sl 5 false (.sl (.pair .str bI)) tO] (bk 1 (sr [im 22 0,im 23 6,im 24 7,ox 25 1 23 24,ld 26
 25,oc 27 zS4 [22,26] Ce,im 21 27,oe 28 21 0,oe 29 21 1,ia 8 28,ia 9 29] (sr [im 31 1,im 32 6,im 33 7,ox 34 1 32 33,ld 35 34,oc 36 zS4 [31,35] Ce,im 30 36,oe 37 30
 0,oe 38 30 1,ia 10 37,ia 11 38] (fk [5] 39 34 (.join [.sl 5 false (.sl (.pair .str bI)) tO] (bk 2 (sr [im 40 9,o1 41 (.un .not 40),ia 39 41] (fk [5] 42 31 (.join [.sl 5 false (.sl (.pair .str bI)) tO] (cn 39 (rn [im 42 5,im 43 6,im 44 7,ox
 45 1 43 44,ld 46 45,o1 47 (.build [.string ⟨#[]⟩,.int .i64 0] [(0,1,46),(1,1,kI 1)]),oT ⟨some 48,.buildSl 2 [.string ⟨#[]⟩,.int .i64 0] 1 [(0,47)],none⟩ (some (.pair .str bI,.leaf)),oT ⟨some 49,.app 2 24 42 48,none⟩ (some (.pair .str
 bI,.leaf)),ia 5 49]) (sr [im 51 11,o1 52 (.un .not 51),ia 50 52] (fk [5] 53 20 (.join [.sl 5 false (.sl (.pair .str bI)) tO] (cn 50 (rn [im 53 5,im 54 6,im 55 7,ox 56 1 54 55,ld 57 56,o1 58 (.build [.string ⟨#[]⟩,.int .i64 0]
 [(0,1,57),(1,1,kI 2)]),oT ⟨some 59,.buildSl 2 [.string ⟨#[]⟩,.int .i64 0] 1 [(0,58)],none⟩ (some (.pair .str bI,.leaf)),oT ⟨some 60,.app 2 24 53 59,none⟩ (some (.pair .str bI,.leaf)),ia 5 60]) (sr [im 62 8,im 63 10,ob 64 .neq 62 63,ia 61
 64] (fk [5] 65 8 (.join [.sl 5 false (.sl (.pair .str bI)) tO] (cn 61 (rn [im 65 5,im 66 6,im 67 7,ox 68 1 66 67,ld 69 68,o1 70 (.build [.string ⟨#[]⟩,.int .i64 0] [(0,1,69),(1,1,kI 3)]),oT ⟨some 71,.buildSl 2 [.string ⟨#[]⟩,.int .i64 0] 1
 [(0,70)],none⟩ (some (.pair .str bI,.leaf)),oT ⟨some 72,.app 2 24 65 71,none⟩ (some (.pair .str bI,.leaf)),ia 5 72]) .skip)))))))))))))))))))) (rn [im 19 7,ob 20 .add 19 (kI 1),ia 7 20])))))))) (sr [im 73 5,ia 4 73] .ret))))
def F4:AFn:=⟨Aju,Jt.erase,[.tmp 4],2⟩
def M5(P:Pg)(x:((List ((List UInt8)×(List UInt8)))×(List ((List UInt8)×(List UInt8)))))(K:(List ((List UInt8)×Int))→Unit→Prop):Prop:=
 Fn P Ajt Fl x (fun(d1:(List (List UInt8))) (e2:Unit)=>Ac (D:=(List ((List UInt8)×Int))) (fun J3=>Au (D:=((List ((List UInt8)×Int))×Int)) ([],(0:Int)) (fun d5 J6=>(((decide (d5.2<(d1.length:Int)))=true→Ac (D:=(List ((List UInt8)×Int))) (fun J7=>(0≤d5.2∧d5.2<(d1.length:Int))∧
 (d5.2.toNat<d1.length)∧
 Fn P zS4 Ce (x.1,(List.getD d1 d5.2.toNat [])) (fun(d9:((List UInt8)×Bool)) (e10:Unit)=>(0≤d5.2∧d5.2<(d1.length:Int))∧
 (d5.2.toNat<d1.length)∧
 Fn P zS4 Ce (x.2,(List.getD d1 d5.2.toNat [])) (fun(d11:((List UInt8)×Bool)) (e12:Unit)=>Ac (D:=(List ((List UInt8)×Int))) (fun J13=>Ac (D:=(List ((List UInt8)×Int))) (fun J15=>(((!d9.2)=true→(0≤d5.2∧d5.2<(d1.length:Int))∧
 (d5.2.toNat<d1.length)∧
 ((d5.1.length+List.length ([((List.getD d1 d5.2.toNat []),(1:Int))]:List ((List UInt8)×Int)))*24≤140737488355328)∧
 J15 (d5.1++([((List.getD d1 d5.2.toNat []),(1:Int))]:List ((List UInt8)×Int))))∧((!d9.2)=false→Ac (D:=(List ((List UInt8)×Int))) (fun J17=>(((!d11.2)=true→(0≤d5.2∧d5.2<(d1.length:Int))∧
 (d5.2.toNat<d1.length)∧
 ((d5.1.length+List.length ([((List.getD d1 d5.2.toNat []),(2:Int))]:List ((List UInt8)×Int)))*24≤140737488355328)∧
 J17 (d5.1++([((List.getD d1 d5.2.toNat []),(2:Int))]:List ((List UInt8)×Int))))∧((!d11.2)=false→Ac (D:=(List ((List UInt8)×Int))) (fun J19=>(((!(d9.1==d11.1))=true→(0≤d5.2∧d5.2<(d1.length:Int))∧
 (d5.2.toNat<d1.length)∧
 ((d5.1.length+List.length ([((List.getD d1 d5.2.toNat []),(3:Int))]:List ((List UInt8)×Int)))*24≤140737488355328)∧
 J19 (d5.1++([((List.getD d1 d5.2.toNat []),(3:Int))]:List ((List UInt8)×Int))))∧((!(d9.1==d11.1))=false→J19 d5.1))) (fun d20=>J17 d20)))) (fun d18=>J15 d18)))) (fun d16=>J13 d16)) (fun d14=>J7 d14)))) (fun d8=>J6 (d8,(i64.wrap (d5.2+(1:Int))))))∧((decide (d5.2<(d1.length:Int)))=false→J3 d5.1)))) (fun d4=>K d4 ()))
theorem Th{P}(h:Has P F4){x K}(hw:M5 P x K):Fn P Aju EI x K:=
 AZ (c:=Jt) h rfl rfl (by kernel_rfl) (Eq.mpr (show AQ P F4 EI Jt x K=_ by kernel_rfl) hw)
def GD:Ax:=
 sr [ia 2 (kI 0)] (sq (sr [im 5 0,o1 6 (.lenS 5),ob 7 .lss 6 (kI 1),im 8 7,gf 9 8 (.mv 0),gf 10 8 (.lenS 9),gf 11 8 (.bin .gtr 10 (kI 200)),op3 12 8 kT 11] (cn 12 (sr [ia 2 (kI 210)] .ret) .skip)) (sr [o1 3 (.asg (.c (.string ⟨#[]⟩)))] (sq
 (sr [ia 4 (kI 0)] (fj [2,3,4] 13 43 [2] (bk 0 (.loop [.si 2,.sl 3 false .str .leaf,.si 4] (sq (sr [im 13 4,im 14 0,o1 15 (.lenS 14),ob 16 .leq 13 15] (cx 16 0)) (sq (fk [2,3] 19 37 (.join [.si 2,.sl 3 false .str .leaf] (bk 1 (sq (sr [im 19
 4,im 20 0,o1 21 (.lenS 20),ob 22 .lss 19 21,im 23 22,gt 24 23 (.mv 0),gt 25 23 (.mv 4),gt 26 23 (.ixS 24 25),gt 27 23 (.bin .eql 26 (.c (.int .u8 0))),op3 28 23 27 kF] (cn 28 (sr [ia 2 (kI 210)] .ret) .skip)) (sq (sr [im 29 4,im 30 0,o1 31
 (.lenS 30),ob 32 .lss 29 31,im 33 32,gt 34 33 (.mv 0),gt 35 33 (.mv 4),gt 36 33 (.ixS 34 35),gt 37 33 (.bin .neq 36 (.c (.int .u8 47))),op3 38 33 37 kF] (cn 38 (sr [im 39 3,im 40 0,im 41 4,im 42 4,ob 43 .add 42 (kI 1),o1 44 (.slS 40 (some
 41) (some 43)),ob 45 .add 39 44,ia 3 45] (.exit 1)) .skip)) (sq (sr [im 46 3,ob 47 .eql 46 (.c (.string ⟨#[]⟩)),im 48 47,gf 49 48 (.mv 3),o0 ⟨some 50,.bin .eql 49 (.c (.string ⟨#[46]⟩)),some (48,false)⟩,op3 51 48 kT 50,im 52 51,gf 53 52
 (.mv 3),o0 ⟨some 54,.bin .eql 53 (.c (.string ⟨#[46,46]⟩)),some (52,false)⟩,op3 55 52 kT 54] (cn 55 (sr [ia 2 (kI 210)] .ret) .skip)) (rn [o1 3 (.asg (.c (.string ⟨#[]⟩)))]))))))) (rn [im 17 4,ob 18 .add 17 (kI 1),ia 4 18]))))))) (sr [ia 2
 (kI 0)] .ret))))
def EB:AFn:=⟨AcH,GD.erase,[.tmp 2],1⟩
def JY(P:Pg)(x:(List UInt8))(K:Int→Unit→Prop):Prop:=
 (((cond (decide ((x.length:Int)<(1:Int))) true (decide ((x.length:Int)>(200:Int))))=true→K (210:Int) ())∧((cond (decide ((x.length:Int)<(1:Int))) true (decide ((x.length:Int)>(200:Int))))=false→Ac (D:=Int) (fun J1=>Au (D:=(Int×((List UInt8)×Int))) ((0:Int),(([]:List UInt8),(0:Int))) (fun d3 J4=>(((decide (d3.2.2≤(x.length:Int)))=true→Ac (D:=(Int×(List UInt8))) (fun J5=>(((decide (d3.2.2<(x.length:Int)))=true→0≤d3.2.2∧d3.2.2<(x.length:Int)))∧
 (((cond (decide (d3.2.2<(x.length:Int))) (((x.getD d3.2.2.toNat 0).toNat:Int)==(0:Int)) false)=true→K (210:Int) ())∧((cond (decide (d3.2.2<(x.length:Int))) (((x.getD d3.2.2.toNat 0).toNat:Int)==(0:Int)) false)=false→(((decide (d3.2.2<(x.length:Int)))=true→0≤d3.2.2∧d3.2.2<(x.length:Int)))∧
 (((cond (decide (d3.2.2<(x.length:Int))) (((x.getD d3.2.2.toNat 0).toNat:Int) !=(47:Int)) false)=true→(0≤d3.2.2∧d3.2.2≤(i64.wrap (d3.2.2+(1:Int)))∧(i64.wrap (d3.2.2+(1:Int)))≤(x.length:Int))∧
 (d3.2.1.length+List.length (List.drop d3.2.2.toNat (List.take (Int.toNat (i64.wrap (d3.2.2+(1:Int)))) x))≤9223372036854775807)∧
 J5 (d3.1,(d3.2.1++(List.drop d3.2.2.toNat (List.take (Int.toNat (i64.wrap (d3.2.2+(1:Int)))) x)))))∧((cond (decide (d3.2.2<(x.length:Int))) (((x.getD d3.2.2.toNat 0).toNat:Int) !=(47:Int)) false)=false→(((cond (cond (d3.2.1==([]:List UInt8)) true (d3.2.1==([46]:List UInt8))) true (d3.2.1==([46,46]:List UInt8)))=true→K (210:Int) ())∧((cond (cond (d3.2.1==([]:List UInt8)) true (d3.2.1==([46]:List UInt8))) true (d3.2.1==([46,46]:List UInt8)))=false→J5 (d3.1,([]:List UInt8))))))))) (fun d6=>J4 (d6.1,(d6.2,(i64.wrap (d3.2.2+(1:Int)))))))∧((decide (d3.2.2≤(x.length:Int)))=false→J1 d3.1)))) (fun d2=>K (0:Int) ())))
theorem Pv{P}(h:Has P EB){x K}(hw:JY P x K):Fn P AcH C3 x K:=
 AZ (c:=GD) h rfl rfl (by kernel_rfl) (Eq.mpr (show AQ P EB C3 GD x K=_ by kernel_rfl) hw)
def KV:Ax:=
 sr [o1 4 (.asg kF)] (sr [im 5 1,o1 6 (.lenS 5),im 7 0,o1 8 (.lenS 7),ob 9 .gtr 6 8,im 10 9,gt 11 10 (.mv 1),gt 12 10 (.mv 0),gt 13 10 (.lenS 12),gt 14 10 (.slS 11 none (some 13)),gt 15 10 (.mv 0),gt 16 10 (.bin .eql 14 15),op3 17 10 16
 kF,im 18 17,gt 19 18 (.mv 1),gt 20 18 (.mv 0),gt 21 18 (.lenS 20),gt 22 18 (.ixS 19 21),gt 23 18 (.bin .eql 22 (.c (.int .u8 47))),op3 24 18 23 kF,ia 4 24] .ret)
def Hk:AFn:=⟨AeE,KV.erase,[.tmp 4],2⟩
def OO(P:Pg)(x:((List UInt8)×(List UInt8)))(K:Bool→Unit→Prop):Prop:=
 (((decide ((x.2.length:Int)>(x.1.length:Int)))=true→0≤(x.1.length:Int)∧(x.1.length:Int)≤(x.2.length:Int)))∧
 (((cond (decide ((x.2.length:Int)>(x.1.length:Int))) ((List.take (Int.toNat (x.1.length:Int)) x.2)==x.1) false)=true→0≤(x.1.length:Int)∧(x.1.length:Int)<(x.2.length:Int)))∧
 K (cond (cond (decide ((x.2.length:Int)>(x.1.length:Int))) ((List.take (Int.toNat (x.1.length:Int)) x.2)==x.1) false) (((UInt8.toNat (List.getD x.2 (Int.toNat (x.1.length:Int)) 0):Nat):Int)==(47:Int)) false) ()
theorem UU{P}(h:Has P Hk){x K}(hw:OO P x K):Fn P AeE Fk x K:=
 AZ (c:=KV) h rfl rfl (by kernel_rfl) (Eq.mpr (show AQ P Hk Fk KV x K=_ by kernel_rfl) hw)
def KF:Ax:=
 sr [ia 2 (kI 0)] (sq (sr [im 3 0,o1 4 (.lenS 3),ob 5 .gtr 4 (kI 1048576),im 6 5,⟨⟨some 7,.mv 0,some (6,false)⟩,none,⟨[],[]⟩,false,some 6,true,false⟩,⟨⟨some 8,.call zS7 [7],some
 (6,false)⟩,none,CQ,false,none,true,false⟩,⟨⟨some 9,.lenK 8,some (6,false)⟩,none,⟨[],[]⟩,false,none,true,false⟩,⟨⟨some 10,.bin .gtr 9 (kI 4096),some (6,false)⟩,none,⟨[],[]⟩,false,none,true,true⟩,op3 11 6 kT 10] (cn 11 (sr [ia 2
 (kI 1)] .ret) .skip)) (sr [ia 2 (kI 0)] .ret))
def Hc:AFn:=⟨AcC,KF.erase,[.tmp 2],1⟩
def OG(P:Pg)(x:(List UInt8))(K:Int→Unit→Prop):Prop:=
 (((decide ((x.length:Int)>(1048576:Int)))=true→(((cond true true false)=true→K (1:Int) ())∧((cond true true false)=false→K (0:Int) ())))∧((decide ((x.length:Int)>(1048576:Int)))=false→Fn P zS7 CQ x (fun(d1:(List (List UInt8))) (e2:Unit)=>(((cond false true (decide ((d1.length:Int)>(4096:Int))))=true→K (1:Int) ())∧((cond false true (decide ((d1.length:Int)>(4096:Int))))=false→K (0:Int) ())))))
theorem UM{P}(h:Has P Hc){x K}(hw:OG P x K):Fn P AcC DO x K:=
 AZ (c:=KF) h rfl rfl (by kernel_rfl) (Eq.mpr (show AQ P Hc DO KF x K=_ by kernel_rfl) hw)
def K0:Ax:=
 sr [ia 2 (kI 0)] (sq (sr [im 7 0,ol 8 7,ob 9 .gtr 8 (kI 200)] (cn 9 (sr [ia 2 (kI 1)] .ret) .skip)) (sq (sr [ia 3 (kI 0)] (fj [2,3] 10 13 [2] (bl 0 [2,3] (sq (sr [im 10 3,im 11 0,ol 12 11,ob 13 .lss 10 12] (cx 13 0)) (sq (fj [2] 16 7 [2]
 (bk 1 (sr [im 16 0,im 17 3,ox 18 2 16 17,fa 19 0 18,ld 20 19,oc 21 AcH [20] C3,ob 22 .neq 21 (kI 0)] (cn 22 (sr [ia 2 (kI 210)] .ret) .skip)))) (rn [im 14 3,ob 15 .add 14 (kI 1),ia 3
 15])))))) (sq (sr [ia 4 (kI 0)] (fj [2,4,5] 23 35 [2] (bl 2 [2,4] (sq (sr [im 23 4,im 24 0,ol 25 24,ob 26 .lss 23 25] (cx 26 2)) (sq (fj [2,5] 29 29 [2] (bk 3 (sr [ia 5 (kI 0)] (fj [2,5] 29 29 [2] (bl 4 [2,5] (sq (sr [im 29 5,im 30 4,ob 31
 .lss 29 30] (cx 31 4)) (sq (fj [2] 34 24 [2] (bk 5 (sq (fk [] 34 24 (.join [.sl 57 false .bool .leaf] (.draw [ti (im 34 0) (ti (im 35 5) (ti (ox 36 2 34 35) (ti (fa 37 0 36) (ti (ld 38 37) (ti (im 39 0) (ti (im 40 4) (ti (ox 41 2 39 40)
 (ti (fa 42 0 41) (ti (ld 43 42) (ti (ob 44 .geq 38 43) (ti (im 45 44) (ti (gf 46 45 (.mv 0)) (ti (gf 47 45 (.mv 5)) (ti (gf 48 45 (.ixA 2 46 47)) (ti (gf 49 45 (.fAddr 0 48)) (ti (gf 50 45 (.load false 1 49)) (ti (gf 51 45 (.mv 0)) (ti (gf
 52 45 (.mv 4)) (ti (gf 53 45 (.ixA 2 51 52)) (ti (gf 54 45 (.fAddr 0 53)) (ti (gf 55 45 (.load false 1 54)) (.alt (oS ⟨some 56,.call AeE [50,55],some (45,false)⟩ Fk) (ti (op3 57 45 kT 56) .done)
 .stop))))))))))))))))))))))]))) (cn 57 (sr [ia 2 (kI 211)] .ret) .skip)))) (rn [im 32 5,ob 33 .add 32 (kI 1),ia 5 33])))))))) (rn [im 27 4,ob 28 .add 27 (kI 1),ia 4 28])))))) (sq (sr [ia 6 (kI 0)] (fj [2,6] 58 13 [2] (bl 6 [2,6] (sq (sr
 [im 58 6,im 59 0,ol 60 59,ob 61 .lss 58 60] (cx 61 6)) (sq (fj [2] 64 7 [2] (bk 7 (sr [im 64 0,im 65 6,ox 66 2 64 65,fa 67 1 66,ld 68 67,oc 69 AcC [68] DO,ob 70 .neq 69 (kI 0)] (cn 70 (sr [ia 2 (kI
 1)] .ret) .skip)))) (rn [im 62 6,ob 63 .add 62 (kI 1),ia 6 63])))))) (sr [ia 2 (kI 0)] .ret)))))
def Fc:AFn:=⟨zS8,K0.erase,[.tmp 2],1⟩
def Kl(P:Pg)(x:(List ((List UInt8)×(List UInt8))))(K:Int→Unit→Prop):Prop:=
 (((decide ((x.length:Int)>(200:Int)))=true→K (1:Int) ())∧((decide ((x.length:Int)>(200:Int)))=false→Ac (D:=Int) (fun J1=>Au (D:=(Int×Int)) ((0:Int),(0:Int)) (fun d3 J4=>(((decide (d3.2<(x.length:Int)))=true→Ac (D:=Int) (fun J5=>(0≤d3.2∧d3.2<(x.length:Int))∧
 (d3.2.toNat<x.length)∧
 Fn P AcH C3 (List.getD x d3.2.toNat ([],[])).1 (fun(d7:Int) (e8:Unit)=>(((d7 !=(0:Int))=true→K (210:Int) ())∧((d7 !=(0:Int))=false→J5 d3.1)))) (fun d6=>J4 (d6,(i64.wrap (d3.2+(1:Int))))))∧((decide (d3.2<(x.length:Int)))=false→J1 d3.1)))) (fun d2=>Ac (D:=Int) (fun J9=>Au (D:=(Int×Int)) (d2,(0:Int)) (fun d11 J12=>(((decide (d11.2<(x.length:Int)))=true→Ac (D:=Int) (fun J13=>Ac (D:=Int) (fun J15=>Au (D:=(Int×Int)) (d11.1,(0:Int)) (fun d17 J18=>(((decide (d17.2<d11.2))=true→Ac (D:=Int) (fun J19=>Ac (D:=Bool) (fun J21=>(0≤d17.2∧d17.2<(x.length:Int))∧
 (d17.2.toNat<x.length)∧
 (0≤d11.2∧d11.2<(x.length:Int))∧
 (d11.2.toNat<x.length)∧
 (((!(Op.bytesLess (List.getD x d17.2.toNat ([],[])).1 (List.getD x d11.2.toNat ([],[])).1))=false→0≤d17.2∧d17.2<(x.length:Int)))∧
 (((!(Op.bytesLess (List.getD x d17.2.toNat ([],[])).1 (List.getD x d11.2.toNat ([],[])).1))=false→d17.2.toNat<x.length))∧
 (((!(Op.bytesLess (List.getD x d17.2.toNat ([],[])).1 (List.getD x d11.2.toNat ([],[])).1))=false→0≤d11.2∧d11.2<(x.length:Int)))∧
 (((!(Op.bytesLess (List.getD x d17.2.toNat ([],[])).1 (List.getD x d11.2.toNat ([],[])).1))=false→d11.2.toNat<x.length))∧
 (Ac (D:=Bool) (fun J23=>(((!(Op.bytesLess (List.getD x d17.2.toNat ([],[])).1 (List.getD x d11.2.toNat ([],[])).1))=false→Fn P AeE Fk ((List.getD x d17.2.toNat ([],[])).1,(List.getD x d11.2.toNat ([],[])).1) (fun(d24:Bool) _=>J23 d24))∧(((!(Op.bytesLess (List.getD x d17.2.toNat ([],[])).1 (List.getD x d11.2.toNat ([],[])).1))=true→J23 false)∧True))) (fun d25=>J21 (cond (!(Op.bytesLess (List.getD x d17.2.toNat ([],[])).1 (List.getD x d11.2.toNat ([],[])).1)) true d25)))∧True) (fun d22=>((d22=true→K (211:Int) ())∧(d22=false→J19 d17.1)))) (fun d20=>J18 (d20,(i64.wrap (d17.2+(1:Int))))))∧((decide (d17.2<d11.2))=false→J15 d17.1)))) (fun d16=>J13 d16)) (fun d14=>J12 (d14,(i64.wrap (d11.2+(1:Int))))))∧((decide (d11.2<(x.length:Int)))=false→J9 d11.1)))) (fun d10=>Ac (D:=Int) (fun J26=>Au (D:=(Int×Int)) (d10,(0:Int)) (fun d28 J29=>(((decide (d28.2<(x.length:Int)))=true→Ac (D:=Int) (fun J30=>(0≤d28.2∧d28.2<(x.length:Int))∧
 (d28.2.toNat<x.length)∧
 Fn P AcC DO (List.getD x d28.2.toNat ([],[])).2 (fun(d32:Int) (e33:Unit)=>(((d32 !=(0:Int))=true→K (1:Int) ())∧((d32 !=(0:Int))=false→J30 d28.1)))) (fun d31=>J29 (d31,(i64.wrap (d28.2+(1:Int))))))∧((decide (d28.2<(x.length:Int)))=false→J26 d28.1)))) (fun d27=>K (0:Int) ())))))
theorem Nk{P}(h:Has P Fc){x K}(hw:Kl P x K):Fn P zS8 Cc x K:=
 AZ (c:=K0) h rfl rfl (by kernel_rfl) (Eq.mpr (show AQ P Fc Cc K0 x K=_ by kernel_rfl) hw)
def Mo:Ax:=
 sr [o1 4 (.asg ni),ia 5 (kI 0)] (sq (sr [im 8 0,oc 9 zS8 [8] Cc,ia 6 9] (sr [im 10 6,ob 11 .neq 10 (kI 0)] (cn 11 (sr [im 12 6,o1 4 (.asg ni),ia 5 12] .ret) .skip))) (sq (sr [im 13 1,oc 14
 zS8 [13] Cc,ia 7 14] (sr [im 15 7,ob 16 .neq 15 (kI 0)] (cn 16 (sr [im 17 7,o1 4 (.asg ni),ia 5 17] .ret) .skip))) (sr [im 18 0,im 19 1,oc 20 Aju [18,19]
 EI,ia 4 20,ia 5 (kI 0)] .ret)))
def Ib:AFn:=⟨AeF,Mo.erase,[.tmp 4,.tmp 5],2⟩
def Qf(P:Pg)(x:((List ((List UInt8)×(List UInt8)))×(List ((List UInt8)×(List UInt8)))))(K:((List ((List UInt8)×Int))×Int)→Unit→Prop):Prop:=
 Fn P zS8 Cc x.1 (fun(d1:Int) (e2:Unit)=>(((d1 !=(0:Int))=true→K ([],d1) ())∧((d1 !=(0:Int))=false→Fn P zS8 Cc x.2 (fun(d3:Int) (e4:Unit)=>(((d3 !=(0:Int))=true→K ([],d3) ())∧((d3 !=(0:Int))=false→Fn P Aju EI x (fun(d5:(List ((List UInt8)×Int))) (e6:Unit)=>K (d5,(0:Int)) ())))))))
theorem Wz{P}(h:Has P Ib){x K}(hw:Qf P x K):Fn P AeF Gi x K:=
 AZ (c:=Mo) h rfl rfl (by kernel_rfl) (Eq.mpr (show AQ P Ib Gi Mo x K=_ by kernel_rfl) hw)
def Ao3:Ax:=
 sr [o1 6 (.asg kF)] (sq (sr [ia 7 (kI 0)] (fk [] 6 24 (.join [.sl 6 false .bool .leaf] (bk 0 (.loop [.sl 6 false .bool .leaf,.si 7] (sq (sr [im 8 7,im 9 0,ol 10 9,ob 11 .lss 8 10] (cx 11 0)) (sq (fk [6] 14 16 (.join [.sl 6 false .bool
 .leaf] (bk 1 (sr [im 14 0,im 15 7,ox 16 3 14 15,fa 17 0 16,ld 18 17,im 19 1,ob 20 .eql 18 19,im 21 20,gf 22 21 (.mv 0),gf 23 21 (.mv 7),gf 24 21 (.ixA 3 22 23),gf 25 21 (.fAddr 1 24),gf 26 21 (.load false 1 25),gf 27 21 (.mv 2),gf 28 21
 (.bin .eql 26 27),op3 29 21 kT 28] (cn 29 (sr [o1 6 (.asg kT)] .ret) .skip))))) (rn [im 12 7,ob 13 .add 12 (kI 1),ia 7 13])))))))) (sr [o1 6 (.asg kF)] .ret))
def AoJ:AFn:=⟨AcI,Ao3.erase,[.tmp 6],3⟩
def Apm(P:Pg)(x:((List Rename)×((List UInt8)×(List UInt8))))(K:Bool→Unit→Prop):Prop:=
 Ac (D:=Bool) (fun J1=>Au (D:=(Bool×Int)) (false,(0:Int)) (fun d3 J4=>(((decide (d3.2<(x.1.length:Int)))=true→Ac (D:=Bool) (fun J5=>(0≤d3.2∧d3.2<(x.1.length:Int))∧
 (d3.2.toNat<x.1.length)∧
 ((((List.getD x.1 d3.2.toNat AnV).1==x.2.1)=false→0≤d3.2∧d3.2<(x.1.length:Int)))∧
 ((((List.getD x.1 d3.2.toNat AnV).1==x.2.1)=false→d3.2.toNat<x.1.length))∧
 (((cond ((List.getD x.1 d3.2.toNat AnV).1==x.2.1) true ((List.getD x.1 d3.2.toNat AnV).2.1==x.2.2))=true→K true ())∧((cond ((List.getD x.1 d3.2.toNat AnV).1==x.2.1) true ((List.getD x.1 d3.2.toNat AnV).2.1==x.2.2))=false→J5 d3.1))) (fun d6=>J4 (d6,(i64.wrap (d3.2+(1:Int))))))∧((decide (d3.2<(x.1.length:Int)))=false→J1 d3.1)))) (fun d2=>K false ())
theorem Ap9{P}(h:Has P AoJ){x K}(hw:Apm P x K):Fn P AcI Aos x K:=
 AZ (c:=Ao3) h rfl rfl (by kernel_rfl) (Eq.mpr (show AQ P AoJ Aos Ao3 x K=_ by kernel_rfl) hw)
def KJ:Ax:=
 sr [o1 2 (.asg ni),ia 3 (kI 0)] (sq (sr [im 4 0,oc 5 AcC [4] DO,ob 6 .neq 5 (kI 0)] (cn 6 (sr [o1 2 (.asg ni),ia 3 (kI 1)] .ret) .skip)) (sr [im 7 0,oc 8 zS7 [7]
 CQ,ia 2 8,ia 3 (kI 0)] .ret))
def He:AFn:=⟨AcD,KJ.erase,[.tmp 2,.tmp 3],1⟩
def OI(P:Pg)(x:(List UInt8))(K:((List (List UInt8))×Int)→Unit→Prop):Prop:=
 Fn P AcC DO x (fun(d1:Int) (e2:Unit)=>(((d1 !=(0:Int))=true→K ([],(1:Int)) ())∧((d1 !=(0:Int))=false→Fn P zS7 CQ x (fun(d3:(List (List UInt8))) (e4:Unit)=>K (d3,(0:Int)) ()))))
theorem UO{P}(h:Has P He){x K}(hw:OI P x K):Fn P AcD DQ x K:=
 AZ (c:=KJ) h rfl rfl (by kernel_rfl) (Eq.mpr (show AQ P He DQ KJ x K=_ by kernel_rfl) hw)
def Ao2:Ax:=
 sr [ia 4 (kI 0)] (sr [ia 5 (kI 0)] (sq (sr [ia 6 (kI 0)] (fj [] 5 16 [5] (bl 0 [5,6] (sq (sr [im 7 6,im 8 0,ol 9 8,ob 10 .lss 7 9] (cx 10 0)) (sq (fj [5] 13 8 [5] (bk 1 (sr [im 13 0,im 14 6,ox 15 1 13 14,ld 16 15,im 17 1,ob 18 .eql 16 17]
 (.frame [5,19,20] [] false (.join [.si 5] (cn 18 (rn [im 19 5,ob 20 .add 19 (kI 1),ia 5 20]) .skip)))))) (rn [im 11 6,ob 12 .add 11 (kI 1),ia 6 12])))))) (sr [im 21 5,ia 4 21] .ret)))
def AoI:AFn:=⟨zS3,Ao2.erase,[.tmp 4],2⟩
def Apl(P:Pg)(x:((List (List UInt8))×(List UInt8)))(K:Int→Unit→Prop):Prop:=
 Ac (D:=Int) (fun J1=>Au (D:=(Int×Int)) ((0:Int),(0:Int)) (fun d3 J4=>(((decide (d3.2<(x.1.length:Int)))=true→Ac (D:=Int) (fun J5=>(0≤d3.2∧d3.2<(x.1.length:Int))∧
 (d3.2.toNat<x.1.length)∧
 Ac (D:=Int) (fun J7=>((((List.getD x.1 d3.2.toNat [])==x.2)=true→J7 (i64.wrap (d3.1+(1:Int))))∧(((List.getD x.1 d3.2.toNat [])==x.2)=false→J7 d3.1))) (fun d8=>J5 d8)) (fun d6=>J4 (d6,(i64.wrap (d3.2+(1:Int))))))∧((decide (d3.2<(x.1.length:Int)))=false→J1 d3.1)))) (fun d2=>K d2 ())
theorem Ap8{P}(h:Has P AoI){x K}(hw:Apl P x K):Fn P zS3 Aob x K:=
 AZ (c:=Ao2) h rfl rfl (by kernel_rfl) (Eq.mpr (show AQ P AoI Aob Ao2 x K=_ by kernel_rfl) hw)
def AoP:Ax:=
 sr [ia 4 (kI 0),ia 5 (kI 0)] (sr [im 12 0,oc 13 AcD [12] DQ,im 11 13,oe 14 11 0,oe 15 11 1,ia 6 14,ia 7 15] (sq (sr [im 16 7,ob 17 .neq 16 (kI 0)] (cn 17 (sr [im 18 7,ia 4 (kI 0),ia 5 18] .ret)
 .skip)) (sr [im 20 1,oc 21 AcD [20] DQ,im 19 21,oe 22 19 0,oe 23 19 1,ia 8 22,ia 7 23] (sq (sr [im 24 7,ob 25 .neq 24 (kI 0)] (cn 25 (sr [im 26 7,ia 4 (kI 0),ia 5 26] .ret) .skip)) (sq (sr [im 27
 0,im 28 1,ob 29 .eql 27 28] (cn 29 (sr [ia 4 (kI 100),ia 5 (kI 0)] .ret) .skip)) (sr [ia 9 (kI 0)] (sq (sr [ia 10 (kI 0)] (fj [9,10] 30 36 [9] (bl 0 [9,10] (sq (sr [im 30 10,im 31 6,ol 32 31,ob 33 .lss 30 32] (cx 33 0)) (sq (fj [9] 36 30
 [9] (bk 1 (sq (fk [] 36 9 (.join [.sl 44 false .bool .leaf] (.draw [ti (im 36 6) (ti (im 37 10) (ti (o1 38 (.slK 1 36 none (some 37))) (ti (im 39 6) (ti (im 40 10) (ti (ox 41 1 39 40) (ti (ld 42 41) (.alt (oc 43
 zS3 [38,42] Aob) (ti (ob 44 .eql 43 (kI 0)) .done) .stop)))))))]))) (fj [9] 45 21 [9] (cn 44 (fj [9] 45 21 [9] (.draw [ti (im 45 9) (ti (im 46 6) (ti (im 47 6) (ti (im 48 10) (ti (ox 49 1 47 48) (ti (ld
 50 49) (ti (im 52 8) (ti (im 53 6) (ti (im 54 10) (ti (ox 55 1 53 54) (ti (im 59 6) (ti (im 60 10) (ti (ox 61 1 59 60) (.alt (oc 51 zS3 [46,50] Aob) (ti (ld 56 55) (.alt (oc 57
 zS3 [52,56] Aob) (ti (o1 58 (.mm false 51 57)) (ti (ld 62 61) (ti (o1 63 (.lenS 62)) (ti (ob 64 .mul 58 63) (ti (ob 65 .add 45 64) (.alt (ia 9 65) .done .stop)))))) (.alt (ld 62 61) (ti (o1 63 (.lenS
 62)) (.alt (oc 57 zS3 [52,56] Aob) (ti (o1 58 (.mm false 51 57)) (ti (ob 64 .mul 58 63) (ti (ob 65 .add 45 64) (.alt (ia 9 65) .done .stop)))) .stop)) .stop))) (.alt (ld 56 55) (.alt (oc 51
 zS3 [46,50] Aob) (.alt (oc 57 zS3 [52,56] Aob) (ti (o1 58 (.mm false 51 57)) (ti (ld 62 61) (ti (o1 63 (.lenS 62)) (ti (ob 64 .mul 58 63) (ti (ob 65 .add 45 64)
 (.alt (ia 9 65) .done .stop)))))) (.alt (ld 62 61) (ti (o1 63 (.lenS 62)) (.alt (oc 57 zS3 [52,56] Aob) (ti (o1 58 (.mm false 51 57)) (ti (ob 64 .mul 58 63) (ti (ob 65 .add 45 64) (.alt (ia 9 65) .done
 .stop)))) .stop)) .stop)) (.alt (ld 62 61) (ti (o1 63 (.lenS 62)) (.alt (oc 51 zS3 [46,50] Aob) (.alt (oc 57 zS3 [52,56] Aob) (ti (o1 58 (.mm false 51 57)) (ti (ob
 64 .mul 58 63) (ti (ob 65 .add 45 64) (.alt (ia 9 65) .done .stop)))) .stop) .stop)) .stop)) (.alt (ld 62 61) (ti (o1 63 (.lenS 62)) (.alt (oc 51 zS3 [46,50] Aob) (ti (ld 56 55) (.alt (oc 57
 zS3 [52,56] Aob) (ti (o1 58 (.mm false 51 57)) (ti (ob 64 .mul 58 63) (ti (ob 65 .add 45 64) (.alt (ia 9 65) .done .stop)))) .stop)) (.alt (ld 56 55) (.alt (oc 51 zS3 [46,50]
 Aob) (.alt (oc 57 zS3 [52,56] Aob) (ti (o1 58 (.mm false 51 57)) (ti (ob 64 .mul 58 63) (ti (ob 65 .add 45 64) (.alt (ia 9 65) .done .stop)))) .stop) .stop) .stop))) .stop)))))))))))))))]))
 .skip))))) (rn [im 34 10,ob 35 .add 34 (kI 1),ia 10 35])))))) (sr [im 66 9,ob 67 .mul (kI 100) 66,im 68 0,o1 69 (.lenS 68),im 70 1,o1 71 (.lenS 70),o1 72 (.mm true 69 71),ob 73 .quo 67 72,o1 74 (.mm false 73 (kI 99)),ia 4 74,ia 5 (kI 0)]
 .ret))))))))
def AoE:AFn:=⟨AcJ,AoP.erase,[.tmp 4,.tmp 5],2⟩
def Apf(P:Pg)(x:((List UInt8)×(List UInt8)))(K:(Int×Int)→Unit→Prop):Prop:=
 Fn P AcD DQ x.1 (fun(d1:((List (List UInt8))×Int)) (e2:Unit)=>(((d1.2 !=(0:Int))=true→K ((0:Int),d1.2) ())∧((d1.2 !=(0:Int))=false→Fn P AcD DQ x.2 (fun(d3:((List (List UInt8))×Int)) (e4:Unit)=>(((d3.2 !=(0:Int))=true→K ((0:Int),d3.2) ())∧((d3.2 !=(0:Int))=false→(((x.1==x.2)=true→K ((100:Int),(0:Int)) ())∧((x.1==x.2)=false→Ac (D:=Int) (fun J5=>Au (D:=(Int×Int)) ((0:Int),(0:Int)) (fun d7 J8=>(((decide (d7.2<(d1.1.length:Int)))=true→Ac (D:=Int) (fun J9=>Ac (D:=Bool) (fun J11=>(0≤d7.2∧d7.2≤(d1.1.length:Int))∧
 (0≤d7.2∧d7.2<(d1.1.length:Int))∧
 (d7.2.toNat<d1.1.length)∧
 ((0+d7.2.toNat≤d1.1.length)∧
 Fn P zS3 Aob ((List.take d7.2.toNat (List.drop 0 d1.1)),(List.getD d1.1 d7.2.toNat [])) (fun(d13:Int) (e14:Unit)=>J11 (d13==(0:Int))))∧True) (fun d12=>Ac (D:=Int) (fun J15=>((d12=true→Ac (D:=Int) (fun J17=>(0≤d7.2∧d7.2<(d1.1.length:Int))∧
 (d7.2.toNat<d1.1.length)∧
 (0≤d7.2∧d7.2<(d1.1.length:Int))∧
 (0≤d7.2∧d7.2<(d1.1.length:Int))∧
 (Fn P zS3 Aob (d1.1,(List.getD d1.1 d7.2.toNat [])) (fun(d19:Int) (e20:Unit)=>(d7.2.toNat<d1.1.length)∧
 (Fn P zS3 Aob (d3.1,(List.getD d1.1 d7.2.toNat [])) (fun(d21:Int) (e22:Unit)=>(d7.2.toNat<d1.1.length)∧
 (J17 (i64.wrap (d7.1+(i64.wrap ((if d21<d19 then d21 else d19)*((List.length (List.getD d1.1 d7.2.toNat []):Nat):Int))))))∧True))∧(((d7.2.toNat<d1.1.length)∧
 (Fn P zS3 Aob (d3.1,(List.getD d1.1 d7.2.toNat [])) (fun(d23:Int) (e24:Unit)=>(J17 (i64.wrap (d7.1+(i64.wrap ((if d23<d19 then d23 else d19)*((List.length (List.getD d1.1 d7.2.toNat []):Nat):Int))))))∧True))∧True)∧True)))∧(((d7.2.toNat<d1.1.length)∧
 (Fn P zS3 Aob (d1.1,(List.getD d1.1 d7.2.toNat [])) (fun(d25:Int) (e26:Unit)=>(Fn P zS3 Aob (d3.1,(List.getD d1.1 d7.2.toNat [])) (fun(d27:Int) (e28:Unit)=>(d7.2.toNat<d1.1.length)∧
 (J17 (i64.wrap (d7.1+(i64.wrap ((if d27<d25 then d27 else d25)*((List.length (List.getD d1.1 d7.2.toNat []):Nat):Int))))))∧True))∧(((d7.2.toNat<d1.1.length)∧
 (Fn P zS3 Aob (d3.1,(List.getD d1.1 d7.2.toNat [])) (fun(d29:Int) (e30:Unit)=>(J17 (i64.wrap (d7.1+(i64.wrap ((if d29<d25 then d29 else d25)*((List.length (List.getD d1.1 d7.2.toNat []):Nat):Int))))))∧True))∧True)∧True)))∧(((d7.2.toNat<d1.1.length)∧
 (Fn P zS3 Aob (d1.1,(List.getD d1.1 d7.2.toNat [])) (fun(d31:Int) (e32:Unit)=>(Fn P zS3 Aob (d3.1,(List.getD d1.1 d7.2.toNat [])) (fun(d33:Int) (e34:Unit)=>(J17 (i64.wrap (d7.1+(i64.wrap ((if d33<d31 then d33 else d31)*((List.length (List.getD d1.1 d7.2.toNat []):Nat):Int))))))∧True))∧True))∧True)∧True))∧(((d7.2.toNat<d1.1.length)∧
 (Fn P zS3 Aob (d1.1,(List.getD d1.1 d7.2.toNat [])) (fun(d35:Int) (e36:Unit)=>(d7.2.toNat<d1.1.length)∧
 (Fn P zS3 Aob (d3.1,(List.getD d1.1 d7.2.toNat [])) (fun(d37:Int) (e38:Unit)=>(J17 (i64.wrap (d7.1+(i64.wrap ((if d37<d35 then d37 else d35)*((List.length (List.getD d1.1 d7.2.toNat []):Nat):Int))))))∧True))∧True))∧(((d7.2.toNat<d1.1.length)∧
 (Fn P zS3 Aob (d1.1,(List.getD d1.1 d7.2.toNat [])) (fun(d39:Int) (e40:Unit)=>(Fn P zS3 Aob (d3.1,(List.getD d1.1 d7.2.toNat [])) (fun(d41:Int) (e42:Unit)=>(J17 (i64.wrap (d7.1+(i64.wrap ((if d41<d39 then d41 else d39)*((List.length (List.getD d1.1 d7.2.toNat []):Nat):Int))))))∧True))∧True))∧True)∧True))∧True))) (fun d18=>J15 d18))∧(d12=false→J15 d7.1))) (fun d16=>J9 d16))) (fun d10=>J8 (d10,(i64.wrap (d7.2+(1:Int))))))∧((decide (d7.2<(d1.1.length:Int)))=false→J5 d7.1)))) (fun d6=>((if(x.2.length:Int)>(x.1.length:Int)then(x.2.length:Int)else(x.1.length:Int))≠0)∧
 K ((if(99:Int)<(i64.wrap (Int.tdiv (i64.wrap ((100:Int)*d6)) (if(x.2.length:Int)>(x.1.length:Int)then(x.2.length:Int)else(x.1.length:Int))))then(99:Int)else(i64.wrap (Int.tdiv (i64.wrap ((100:Int)*d6)) (if(x.2.length:Int)>(x.1.length:Int)then(x.2.length:Int)else(x.1.length:Int))))),(0:Int)) ())))))))))
theorem ApX{P}(h:Has P AoE){x K}(hw:Apf P x K):Fn P AcJ Aop x K:=
 AZ (c:=AoP) h rfl rfl (by kernel_rfl) (Eq.mpr (show AQ P AoE Aop AoP x K=_ by kernel_rfl) hw)
def AoF:Ax:=
 sr [o1 6 (.asg ni),ia 7 (kI 0)] (sr [im 22 0,im 23 1,oc 24 AeF [22,23] Gi,im 21 24,oe 25 21 0,oe 26 21 1,ia 8 25,ia 9 26] (sq (sr [im 27 9,ob 28 .neq 27 (kI 0)] (cn 28 (sr [im 29 9,o1 6 (.asg ni),ia 7
 29] .ret) .skip)) (sq (sr [im 30 2,ob 31 .lss 30 (kI 1),im 32 31,gf 33 32 (.mv 2),gf 34 32 (.bin .gtr 33 (kI 100)),op3 35 32 kT 34] (cn 35 (sr [o1 6 (.asg ni),ia 7 (kI 3)] .ret) .skip)) (sr [o1 10 (.asg ni)] (sq (.frame (rg
 [10,11,12,13,14,15,16,17,18,19,20] 36 120) [1011] false (.join [.sl 10 false (.sl AnU) tO] (bk 0 (.loop [.sl 10 false (.sl AnU) tO] (.frame (rg [10,11,12,13,14,15,16,17,18,19,20] 36 120) [1011] false (.join [.sl 10 false (.sl
 AnU) tO] (bk 1 (sr [o1 36 (.build [.string ⟨#[]⟩,.string ⟨#[]⟩,.int .i64 0] []),o1 11 (.alloc [.string ⟨#[]⟩,.string ⟨#[]⟩,.int .i64 0]),o0 ⟨none,.store 3 11 36,none⟩] (sq (sr [ia 12 (kI 0)] (.frame (rg [12,13,14,15,16,17,18,19] 37 87)
 [1011] false (.join [.bx 1011 AnU .leaf] (bk 2 (.loop [.si 12,.bx 1011 AnU .leaf] (sq (sr [im 37 12,im 38 8,ol 39 38,ob 40 .lss 37 39] (cx 40 2)) (sq (.frame (rg [13,14,15,16,17,18,19] 43 81) [1011] false (.join [.bx 1011 AnU
 .leaf] (bk 3 (sr [ia 13 (kI 0)] (.frame (rg [13,14,15,16,17,18,19] 43 81) [1011] false (.join [.bx 1011 AnU .leaf] (bk 4 (.loop [.si 13,.bx 1011 AnU .leaf] (sq (sr [im 43 13,im 44 8,ol 45 44,ob 46 .lss 43 45] (cx 46 4)) (sq (.frame
 (rg [14,15,16,17,18,19] 49 75) [1011] false (.join [.bx 1011 AnU .leaf] (bk 5 (sq (sq (fk [] 49 28 (.join [.sl 76 false .bool .leaf] (.draw [ti (im 49 8) (ti (im 50 12) (ti (ox 51 2 49 50) (ti (fa 52 1 51) (ti (ld 53 52) (ti (ob 54
 .neq 53 (kI 2)) (ti (im 55 54) (ti (gf 56 55 (.mv 8)) (ti (gf 57 55 (.mv 13)) (ti (gf 58 55 (.ixA 2 56 57)) (ti (gf 59 55 (.fAddr 1 58)) (ti (gf 60 55 (.load false 1 59)) (ti (gf 61 55 (.bin .neq 60 (kI 1))) (ti (op3 62 55 kT 61) (ti (im
 63 62) (ti (gf 64 63 (.mv 10)) (ti (gf 65 63 (.mv 8)) (ti (gf 66 63 (.mv 12)) (ti (gf 67 63 (.ixA 2 65 66)) (ti (gf 68 63 (.fAddr 0 67)) (ti (gf 69 63 (.load false 1 68)) (ti (gf 70 63 (.mv 8)) (ti (gf 71 63 (.mv 13)) (ti (gf 72 63 (.ixA 2
 70 71)) (ti (gf 73 63 (.fAddr 0 72)) (ti (gf 74 63 (.load false 1 73)) (.alt (oS ⟨some 75,.call AcI [64,69,74],some (63,false)⟩ Aos) (ti (op3 76 63 kT 75) .done) .stop))))))))))))))))))))))))))]))) (cn
 76 (.exit 5) .skip)) (sr [im 78 0,im 79 8,im 80 12,ox 81 2 79 80,fa 82 0 81,ld 83 82,oc 84 zS4 [78,83] Ce,im 77 84,oe 85 77 0,oe 86 77 1,ia 14 85,ia 15 86] (sr [im 88 1,im 89 8,im 90 13,ox 91 2 89
 90,fa 92 0 91,ld 93 92,oc 94 zS4 [88,93] Ce,im 87 94,oe 95 87 0,oe 96 87 1,ia 16 95,ia 17 96] (sr [im 98 14,im 99 16,oc 100 AcJ [98,99] Aop,im 97 100,oe 101 97
 0,oe 102 97 1,ia 18 101,ia 19 102] (sr [im 103 18,im 104 2,ob 105 .geq 103 104,im 106 105,gt 107 106 (.mv 18),gt 108 106 (.fAddr 2 11),gt 109 106 (.load false 1 108),gt 110 106 (.bin .gtr 107 109),op3 111 106 110 kF] (.frame (rg [] 112 12)
 [1011] false (.join [.bx 1011 AnU .leaf] (cn 111 (.frame (rg [] 112 12) [1011] false (.join [.bx 1011 AnU .leaf] (.draw [ti (im 112 8) (ti (im 113 12) (ti (ox 114 2 112 113) (ti (fa 115 0 114) (ti (ld 116 115) (ti (im 117 8) (ti
 (im 118 13) (ti (ox 119 2 117 118) (ti (fa 120 0 119) (ti (ld 121 120) (ti (im 122 18) (ti (o1 123 (.build [.string ⟨#[]⟩,.string ⟨#[]⟩,.int .i64 0] [(0,1,116),(1,1,121),(2,1,122)])) (.alt (o0 ⟨none,.store 3 11 123,none⟩) .done
 .stop))))))))))))]))) .skip))))))))))) (rn [im 47 13,ob 48 .add 47 (kI 1),ia 13 48]))))))))))) (rn [im 41 12,ob 42 .add 41 (kI 1),ia 12 42])))))))) (sq (sr [fa 124 2 11,ld 125 124,ob 126 .eql 125 (kI 0)] (cn 126 (.exit 0) .skip)) (sr [im
 127 10,ol 128 127,ia 20 128] (sq (fj [20] 129 15 [20] (bl 6 [20] (sq (sq (.draw [ti (im 129 20) (ti (ob 130 .gtr 129 (kI 0)) (ti (im 131 130) (ti (gt 132 131 (.mv 10)) (ti (gt 133 131 (.mv 20)) (ti (gt 134 131 (.bin .sub 133 (kI 1))) (ti
 (gt 135 131 (.ixA 3 132 134)) (ti (gt 136 131 (.fAddr 1 135)) (ti (gt 137 131 (.load false 1 136)) (ti (gt 138 131 (.fAddr 1 11)) (ti (gt 139 131 (.load false 1 138)) (ti (gt 140 131 (.bin .gtr 137 139)) (ti (op3 141 131 140 kF)
 .done))))))))))))]) (cx 141 6)) (.frame [20,142,143] [] false (.join [.si 20] (bk 7 (rn [im 142 20,ob 143 .sub 142 (kI 1),ia 20 143]))))))) (fk [10] 144 12 (.join [.sl 10 false (.sl AnU) tO] (.draw [ti (im 145 10) (ti (im 146 20) (ti
 (o1 147 (.slK 3 145 none (some 146))) (ti (im 152 10) (ti (im 153 20) (ti (o1 154 (.slK 3 152 (some 153) none)) (.alt (oT ⟨some 144,.buildSl 3 [.string ⟨#[]⟩,.string ⟨#[]⟩,.int .i64 0] 0 [],none⟩ (some (AnU,.leaf))) (.alt (oT ⟨some
 148,.app 3 40 144 147,none⟩ (some (AnU,.leaf))) (ti (o1 149 (.load true 3 11)) (.alt (oT ⟨some 150,.buildSl 3 [.string ⟨#[]⟩,.string ⟨#[]⟩,.int .i64 0] 1 [(0,149)],none⟩ (some (AnU,.leaf))) (.alt (oT ⟨some 151,.app 3 40 148
 150,none⟩ (some (AnU,.leaf))) (.alt (oT ⟨some 155,.app 3 40 151 154,none⟩ (some (AnU,.leaf))) (.alt (ia 10 155) .done .stop) .stop) .stop) .stop)) (.alt (o1 149 (.load true 3 11)) (.alt (oT ⟨some 148,.app 3 40 144 147,none⟩ (some
 (AnU,.leaf))) (.alt (oT ⟨some 150,.buildSl 3 [.string ⟨#[]⟩,.string ⟨#[]⟩,.int .i64 0] 1 [(0,149)],none⟩ (some (AnU,.leaf))) (.alt (oT ⟨some 151,.app 3 40 148 150,none⟩ (some (AnU,.leaf))) (.alt (oT ⟨some 155,.app 3 40 151
 154,none⟩ (some (AnU,.leaf))) (.alt (ia 10 155) .done .stop) .stop) .stop) .stop) (.alt (oT ⟨some 150,.buildSl 3 [.string ⟨#[]⟩,.string ⟨#[]⟩,.int .i64 0] 1 [(0,149)],none⟩ (some (AnU,.leaf))) (.alt (oT ⟨some 148,.app 3 40 144
 147,none⟩ (some (AnU,.leaf))) (.alt (oT ⟨some 151,.app 3 40 148 150,none⟩ (some (AnU,.leaf))) (.alt (oT ⟨some 155,.app 3 40 151 154,none⟩ (some (AnU,.leaf))) (.alt (ia 10 155) .done .stop) .stop) .stop) .stop) .stop)) .stop))
 (.alt (o1 149 (.load true 3 11)) (.alt (oT ⟨some 144,.buildSl 3 [.string ⟨#[]⟩,.string ⟨#[]⟩,.int .i64 0] 0 [],none⟩ (some (AnU,.leaf))) (.alt (oT ⟨some 148,.app 3 40 144 147,none⟩ (some (AnU,.leaf))) (.alt (oT ⟨some 150,.buildSl 3
 [.string ⟨#[]⟩,.string ⟨#[]⟩,.int .i64 0] 1 [(0,149)],none⟩ (some (AnU,.leaf))) (.alt (oT ⟨some 151,.app 3 40 148 150,none⟩ (some (AnU,.leaf))) (.alt (oT ⟨some 155,.app 3 40 151 154,none⟩ (some (AnU,.leaf))) (.alt (ia 10 155)
 .done .stop) .stop) .stop) .stop) (.alt (oT ⟨some 150,.buildSl 3 [.string ⟨#[]⟩,.string ⟨#[]⟩,.int .i64 0] 1 [(0,149)],none⟩ (some (AnU,.leaf))) (.alt (oT ⟨some 148,.app 3 40 144 147,none⟩ (some (AnU,.leaf))) (.alt (oT ⟨some
 151,.app 3 40 148 150,none⟩ (some (AnU,.leaf))) (.alt (oT ⟨some 155,.app 3 40 151 154,none⟩ (some (AnU,.leaf))) (.alt (ia 10 155) .done .stop) .stop) .stop) .stop) .stop)) (.alt (oT ⟨some 150,.buildSl 3 [.string ⟨#[]⟩,.string
 ⟨#[]⟩,.int .i64 0] 1 [(0,149)],none⟩ (some (AnU,.leaf))) (.alt (oT ⟨some 144,.buildSl 3 [.string ⟨#[]⟩,.string ⟨#[]⟩,.int .i64 0] 0 [],none⟩ (some (AnU,.leaf))) (.alt (oT ⟨some 148,.app 3 40 144 147,none⟩ (some (AnU,.leaf)))
 (.alt (oT ⟨some 151,.app 3 40 148 150,none⟩ (some (AnU,.leaf))) (.alt (oT ⟨some 155,.app 3 40 151 154,none⟩ (some (AnU,.leaf))) (.alt (ia 10 155) .done .stop) .stop) .stop) .stop) .stop) .stop)) .stop)))))))]))))))))))))))) (sr [im
 156 10,ia 6 156,ia 7 (kI 0)] .ret))))))
def Aox:AFn:=⟨AcE,AoF.erase,[.tmp 6,.tmp 7],3⟩
def Ao5(P:Pg)(x:((List ((List UInt8)×(List UInt8)))×((List ((List UInt8)×(List UInt8)))×Int)))(K:((List Rename)×Int)→Unit→Prop):Prop:=
 Fn P AeF Gi (x.1,x.2.1) (fun(d1:((List ((List UInt8)×Int))×Int)) (e2:Unit)=>(((d1.2 !=(0:Int))=true→K ([],d1.2) ())∧((d1.2 !=(0:Int))=false→(((cond (decide (x.2.2<(1:Int))) true (decide (x.2.2>(100:Int))))=true→K ([],(3:Int)) ())∧((cond (decide (x.2.2<(1:Int))) true (decide (x.2.2>(100:Int))))=false→Ac (D:=(List Rename)) (fun J3=>Au (D:=(List Rename)) [] (fun d5 J6=>Ac (D:=(List Rename)) (fun J7=>Ac (D:=Rename) (fun J9=>Au (D:=(Int×Rename)) ((0:Int),(([]:List UInt8),(([]:List UInt8),(0:Int)))) (fun d11 J12=>(((decide (d11.1<(d1.1.length:Int)))=true→Ac (D:=Rename) (fun J13=>Ac (D:=Rename) (fun J15=>Au (D:=(Int×Rename)) ((0:Int),d11.2) (fun d17 J18=>(((decide (d17.1<(d1.1.length:Int)))=true→Ac (D:=Rename) (fun J19=>Ac (D:=Bool) (fun J21=>(0≤d11.1∧d11.1<(d1.1.length:Int))∧
 (d11.1.toNat<d1.1.length)∧
 ((((List.getD d1.1 d11.1.toNat ([],(0:Int))).2 !=(2:Int))=false→0≤d17.1∧d17.1<(d1.1.length:Int)))∧
 ((((List.getD d1.1 d11.1.toNat ([],(0:Int))).2 !=(2:Int))=false→d17.1.toNat<d1.1.length))∧
 (((cond ((List.getD d1.1 d11.1.toNat ([],(0:Int))).2 !=(2:Int)) true ((List.getD d1.1 d17.1.toNat ([],(0:Int))).2 !=(1:Int)))=false→0≤d11.1∧d11.1<(d1.1.length:Int)))∧
 (((cond ((List.getD d1.1 d11.1.toNat ([],(0:Int))).2 !=(2:Int)) true ((List.getD d1.1 d17.1.toNat ([],(0:Int))).2 !=(1:Int)))=false→d11.1.toNat<d1.1.length))∧
 (((cond ((List.getD d1.1 d11.1.toNat ([],(0:Int))).2 !=(2:Int)) true ((List.getD d1.1 d17.1.toNat ([],(0:Int))).2 !=(1:Int)))=false→0≤d17.1∧d17.1<(d1.1.length:Int)))∧
 (((cond ((List.getD d1.1 d11.1.toNat ([],(0:Int))).2 !=(2:Int)) true ((List.getD d1.1 d17.1.toNat ([],(0:Int))).2 !=(1:Int)))=false→d17.1.toNat<d1.1.length))∧
 (Ac (D:=Bool) (fun J23=>(((cond ((List.getD d1.1 d11.1.toNat ([],(0:Int))).2 !=(2:Int)) true ((List.getD d1.1 d17.1.toNat ([],(0:Int))).2 !=(1:Int)))=false→Fn P AcI Aos (d5,((List.getD d1.1 d11.1.toNat ([],(0:Int))).1,(List.getD d1.1 d17.1.toNat ([],(0:Int))).1)) (fun(d24:Bool) _=>J23 d24))∧(((cond ((List.getD d1.1 d11.1.toNat ([],(0:Int))).2 !=(2:Int)) true ((List.getD d1.1 d17.1.toNat ([],(0:Int))).2 !=(1:Int)))=true→J23 false)∧True))) (fun d25=>J21 (cond (cond ((List.getD d1.1 d11.1.toNat ([],(0:Int))).2 !=(2:Int)) true ((List.getD d1.1 d17.1.toNat ([],(0:Int))).2 !=(1:Int))) true d25)))∧True) (fun d22=>((d22=true→J19 d17.2)∧(d22=false→(0≤d11.1∧d11.1<(d1.1.length:Int))∧
 (d11.1.toNat<d1.1.length)∧
 Fn P zS4 Ce (x.1,(List.getD d1.1 d11.1.toNat ([],(0:Int))).1) (fun(d26:((List UInt8)×Bool)) (e27:Unit)=>(0≤d17.1∧d17.1<(d1.1.length:Int))∧
 (d17.1.toNat<d1.1.length)∧
 Fn P zS4 Ce (x.2.1,(List.getD d1.1 d17.1.toNat ([],(0:Int))).1) (fun(d28:((List UInt8)×Bool)) (e29:Unit)=>Fn P AcJ Aop (d26.1,d28.1) (fun(d30:(Int×Int)) (e31:Unit)=>Ac (D:=Rename) (fun J32=>(((cond (decide (d30.1≥x.2.2)) (decide (d30.1>d17.2.2.2)) false)=true→Ac (D:=Rename) (fun J34=>(0≤d11.1∧d11.1<(d1.1.length:Int))∧
 (d11.1.toNat<d1.1.length)∧
 (0≤d17.1∧d17.1<(d1.1.length:Int))∧
 (d17.1.toNat<d1.1.length)∧
 (J34 ((List.getD d1.1 d11.1.toNat ([],(0:Int))).1,((List.getD d1.1 d17.1.toNat ([],(0:Int))).1,d30.1)))∧True) (fun d35=>J32 d35))∧((cond (decide (d30.1≥x.2.2)) (decide (d30.1>d17.2.2.2)) false)=false→J32 d17.2))) (fun d33=>J19 d33)))))))) (fun d20=>J18 ((i64.wrap (d17.1+(1:Int))),d20)))∧((decide (d17.1<(d1.1.length:Int)))=false→J15 d17.2)))) (fun d16=>J13 d16)) (fun d14=>J12 ((i64.wrap (d11.1+(1:Int))),d14)))∧((decide (d11.1<(d1.1.length:Int)))=false→J9 d11.2)))) (fun d10=>(((d10.2.2==(0:Int))=true→J3 d5)∧((d10.2.2==(0:Int))=false→Ac (D:=Int) (fun J36=>Au (D:=Int) (d5.length:Int) (fun d38 J39=>(((decide (d38>(0:Int)))=true→0≤(i64.wrap (d38 -(1:Int)))∧(i64.wrap (d38 -(1:Int)))<(d5.length:Int)))∧
 (((decide (d38>(0:Int)))=true→(Int.toNat (i64.wrap (d38 -(1:Int))))<d5.length))∧
 (((cond (decide (d38>(0:Int))) (!((Op.bytesLess (List.getD d5 (Int.toNat (i64.wrap (d38 -(1:Int)))) AnV).2.1 d10.2.1)||((List.getD d5 (Int.toNat (i64.wrap (d38 -(1:Int)))) AnV).2.1==d10.2.1))) false)=true→Ac (D:=Int) (fun J40=>J40 (i64.wrap (d38 -(1:Int)))) (fun d41=>J39 d41))∧((cond (decide (d38>(0:Int))) (!((Op.bytesLess (List.getD d5 (Int.toNat (i64.wrap (d38 -(1:Int)))) AnV).2.1 d10.2.1)||((List.getD d5 (Int.toNat (i64.wrap (d38 -(1:Int)))) AnV).2.1==d10.2.1))) false)=false→J36 d38)))) (fun d37=>Ac (D:=(List Rename)) (fun J42=>(0≤d37∧d37≤(d5.length:Int))∧
 (0≤d37∧d37≤(d5.length:Int))∧
 (((0+d37.toNat≤d5.length)∧
 ((List.length ([]:List Rename)+List.length (List.take d37.toNat (List.drop 0 d5)))*40≤140737488355328)∧
 ((((List.length (([]:List Rename)++(List.take d37.toNat (List.drop 0 d5)))+List.length ([d10]:List Rename))*40≤140737488355328)∧
 ((d37.toNat+(d5.length -Int.toNat d37)≤d5.length)∧
 ((List.length ((([]:List Rename)++(List.take d37.toNat (List.drop 0 d5)))++([d10]:List Rename))+List.length (List.take (d5.length -Int.toNat d37) (List.drop d37.toNat d5)))*40≤140737488355328)∧
 (J42 (((([]:List Rename)++(List.take d37.toNat (List.drop 0 d5)))++([d10]:List Rename))++(List.take (d5.length -Int.toNat d37) (List.drop d37.toNat d5))))∧True)∧True)∧True)∧True)∧((((0+d37.toNat≤d5.length)∧
 ((List.length ([]:List Rename)+List.length (List.take d37.toNat (List.drop 0 d5)))*40≤140737488355328)∧
 ((((List.length (([]:List Rename)++(List.take d37.toNat (List.drop 0 d5)))+List.length ([d10]:List Rename))*40≤140737488355328)∧
 ((d37.toNat+(d5.length -Int.toNat d37)≤d5.length)∧
 ((List.length ((([]:List Rename)++(List.take d37.toNat (List.drop 0 d5)))++([d10]:List Rename))+List.length (List.take (d5.length -Int.toNat d37) (List.drop d37.toNat d5)))*40≤140737488355328)∧
 (J42 (((([]:List Rename)++(List.take d37.toNat (List.drop 0 d5)))++([d10]:List Rename))++(List.take (d5.length -Int.toNat d37) (List.drop d37.toNat d5))))∧True)∧True)∧True)∧True)∧((((0+d37.toNat≤d5.length)∧
 ((List.length ([]:List Rename)+List.length (List.take d37.toNat (List.drop 0 d5)))*40≤140737488355328)∧
 (((List.length (([]:List Rename)++(List.take d37.toNat (List.drop 0 d5)))+List.length ([d10]:List Rename))*40≤140737488355328)∧
 ((d37.toNat+(d5.length -Int.toNat d37)≤d5.length)∧
 ((List.length ((([]:List Rename)++(List.take d37.toNat (List.drop 0 d5)))++([d10]:List Rename))+List.length (List.take (d5.length -Int.toNat d37) (List.drop d37.toNat d5)))*40≤140737488355328)∧
 (J42 (((([]:List Rename)++(List.take d37.toNat (List.drop 0 d5)))++([d10]:List Rename))++(List.take (d5.length -Int.toNat d37) (List.drop d37.toNat d5))))∧True)∧True)∧True)∧True)∧True))∧True))∧(((((0+d37.toNat≤d5.length)∧
 ((List.length ([]:List Rename)+List.length (List.take d37.toNat (List.drop 0 d5)))*40≤140737488355328)∧
 ((((List.length (([]:List Rename)++(List.take d37.toNat (List.drop 0 d5)))+List.length ([d10]:List Rename))*40≤140737488355328)∧
 ((d37.toNat+(d5.length -Int.toNat d37)≤d5.length)∧
 ((List.length ((([]:List Rename)++(List.take d37.toNat (List.drop 0 d5)))++([d10]:List Rename))+List.length (List.take (d5.length -Int.toNat d37) (List.drop d37.toNat d5)))*40≤140737488355328)∧
 (J42 (((([]:List Rename)++(List.take d37.toNat (List.drop 0 d5)))++([d10]:List Rename))++(List.take (d5.length -Int.toNat d37) (List.drop d37.toNat d5))))∧True)∧True)∧True)∧True)∧((((0+d37.toNat≤d5.length)∧
 ((List.length ([]:List Rename)+List.length (List.take d37.toNat (List.drop 0 d5)))*40≤140737488355328)∧
 (((List.length (([]:List Rename)++(List.take d37.toNat (List.drop 0 d5)))+List.length ([d10]:List Rename))*40≤140737488355328)∧
 ((d37.toNat+(d5.length -Int.toNat d37)≤d5.length)∧
 ((List.length ((([]:List Rename)++(List.take d37.toNat (List.drop 0 d5)))++([d10]:List Rename))+List.length (List.take (d5.length -Int.toNat d37) (List.drop d37.toNat d5)))*40≤140737488355328)∧
 (J42 (((([]:List Rename)++(List.take d37.toNat (List.drop 0 d5)))++([d10]:List Rename))++(List.take (d5.length -Int.toNat d37) (List.drop d37.toNat d5))))∧True)∧True)∧True)∧True)∧True))∧(((((0+d37.toNat≤d5.length)∧
 ((List.length ([]:List Rename)+List.length (List.take d37.toNat (List.drop 0 d5)))*40≤140737488355328)∧
 (((List.length (([]:List Rename)++(List.take d37.toNat (List.drop 0 d5)))+List.length ([d10]:List Rename))*40≤140737488355328)∧
 ((d37.toNat+(d5.length -Int.toNat d37)≤d5.length)∧
 ((List.length ((([]:List Rename)++(List.take d37.toNat (List.drop 0 d5)))++([d10]:List Rename))+List.length (List.take (d5.length -Int.toNat d37) (List.drop d37.toNat d5)))*40≤140737488355328)∧
 (J42 (((([]:List Rename)++(List.take d37.toNat (List.drop 0 d5)))++([d10]:List Rename))++(List.take (d5.length -Int.toNat d37) (List.drop d37.toNat d5))))∧True)∧True)∧True)∧True)∧True)∧True))∧True)) (fun d43=>J7 d43)))))) (fun d8=>J6 d8))) (fun d4=>K (d4,(0:Int)) ()))))))
theorem Apz{P}(h:Has P Aox){x K}(hw:Ao5 P x K):Fn P AcE Aog x K:=
 AZ (c:=AoF) h rfl rfl (by kernel_rfl) (Eq.mpr (show AQ P Aox Aog AoF x K=_ by kernel_rfl) hw)
def Ao1:Ax:=
 sr [o1 4 (.asg kF)] (sq (sr [im 6 0,ol 7 6,im 8 1,ol 9 8,ob 10 .neq 7 9] (cn 10 (sr [o1 4 (.asg kF)] .ret) .skip)) (sq (sr [ia 5 (kI 0)] (fk [4,5] 11 15 (.join [.sl 4 false .bool .leaf] (bk 0 (.loop [.sl 4 false .bool .leaf,.si 5] (sq (sr
 [im 11 5,im 12 0,ol 13 12,ob 14 .lss 11 13] (cx 14 0)) (sq (fk [4] 17 9 (.join [.sl 4 false .bool .leaf] (bk 1 (sq (.draw [ti (im 17 0) (ti (im 18 5) (ti (ox 19 3 17 18) (ti (o1 20 (.load true 3 19)) (ti (im 21 1) (ti (im 22 5) (ti (ox 23
 3 21 22) (ti (o1 24 (.load true 3 23)) (ti (o1 25 (.eqA true [.str,.str,.int] 20 24)) .done))))))))]) (cn 25 (sr [o1 4 (.asg kF)] .ret) .skip))))) (rn [im 15 5,ob 16 .add 15 (kI 1),ia 5 16])))))))) (sr [o1 4 (.asg kT)] .ret)))
def AoH:AFn:=⟨AcF,Ao1.erase,[.tmp 4],2⟩
def Apk(P:Pg)(x:((List Rename)×(List Rename)))(K:Bool→Unit→Prop):Prop:=
 ((((x.1.length:Int) !=(x.2.length:Int))=true→K false ())∧(((x.1.length:Int) !=(x.2.length:Int))=false→Ac (D:=Bool) (fun J1=>Au (D:=(Bool×Int)) (false,(0:Int)) (fun d3 J4=>(((decide (d3.2<(x.1.length:Int)))=true→Ac (D:=Bool) (fun J5=>(0≤d3.2∧d3.2<(x.1.length:Int))∧
 (d3.2.toNat<x.1.length)∧
 (0≤d3.2∧d3.2<(x.2.length:Int))∧
 (d3.2.toNat<x.2.length)∧
 (((!(((List.getD x.1 d3.2.toNat AnV).1==(List.getD x.2 d3.2.toNat AnV).1)&&(((List.getD x.1 d3.2.toNat AnV).2.1==(List.getD x.2 d3.2.toNat AnV).2.1)&&(((List.getD x.1 d3.2.toNat AnV).2.2==(List.getD x.2 d3.2.toNat AnV).2.2)&&true))))=true→K false ())∧((!(((List.getD x.1 d3.2.toNat AnV).1==(List.getD x.2 d3.2.toNat AnV).1)&&(((List.getD x.1 d3.2.toNat AnV).2.1==(List.getD x.2 d3.2.toNat AnV).2.1)&&(((List.getD x.1 d3.2.toNat AnV).2.2==(List.getD x.2 d3.2.toNat AnV).2.2)&&true))))=false→J5 d3.1))) (fun d6=>J4 (d6,(i64.wrap (d3.2+(1:Int))))))∧((decide (d3.2<(x.1.length:Int)))=false→J1 d3.1)))) (fun d2=>K true ())))
theorem Ap7{P}(h:Has P AoH){x K}(hw:Apk P x K):Fn P AcF Aom x K:=
 AZ (c:=Ao1) h rfl rfl (by kernel_rfl) (Eq.mpr (show AQ P AoH Aom Ao1 x K=_ by kernel_rfl) hw)
def AoN:Ax:=
 sr [o1 0 (.asg kF)] (sr [oc 6 zS9 [.c (.string ⟨#[97,10,98,10]⟩),.c (.string ⟨#[98,10,97,10]⟩)] Aof,im 5 6,oe 7 5 0,oe 8 5 1,ia 1 7,ia 2 8] (sr [oc 10 zS9 [.c (.string ⟨#[120]⟩),.c
 (.string ⟨#[120]⟩)] Aof,im 9 10,oe 11 9 0,oe 12 9 1,ia 3 11,ia 4 12] (sr [im 13 2,ob 14 .eql 13 (kI 0),im 15 14,gt 16 15 (.mv 4),gt 17 15 (.bin .eql 16 (kI 0)),op3 18 15 17 kF,im 19 18,gt 20 19 (.mv 1),gt 21 19 (.bin .eql 20
 (kI 99)),op3 22 19 21 kF,im 23 22,gt 24 23 (.mv 3),gt 25 23 (.bin .eql 24 (kI 100)),op3 26 23 25 kF,ia 0 26] .ret)))
def AoC:AFn:=⟨AcK,AoN.erase,[.tmp 0],0⟩
def Apd(P:Pg)(x:Unit)(K:Bool→Unit→Prop):Prop:=
 Fn P zS9 Aof (([97,10,98,10]:List UInt8),([98,10,97,10]:List UInt8)) (fun(d1:(Int×Int)) (e2:Unit)=>Fn P zS9 Aof (([120]:List UInt8),([120]:List UInt8)) (fun(d3:(Int×Int)) (e4:Unit)=>K (cond (cond (cond (d1.2==(0:Int)) (d3.2==(0:Int)) false) (d1.1==(99:Int)) false) (d3.1==(100:Int)) false) ()))
theorem ApV{P}(h:Has P AoC){x K}(hw:Apd P x K):Fn P AcK Aoo x K:=
 AZ (c:=AoN) h rfl rfl (by kernel_rfl) (Eq.mpr (show AQ P AoC Aoo AoN x K=_ by kernel_rfl) hw)
def Aon:Ax:=
 sr [o1 4 (.asg kF)] (sr [im 16 0,oc 17 AcM [16] Aou,im 15 17,oe 18 15 0,oe 19 15 1,ia 5 18,ia 6 19] (sr [im 21 5,im 22 6,im 23 1,oc 24 AeG [21,22,23] Aoj,im 20
 24,oe 25 20 0,oe 26 20 1,ia 7 25,ia 8 26] (sr [im 28 5,im 29 6,im 30 1,oc 31 AcE [28,29,30] Aog,im 27 31,oe 32 27 0,oe 33 27 1,ia 9 32,ia 10 33] (sr [im 35 5,im 36 6,im 37 1,oc 38
 zS1 [37,kI 100] Cb,ob 39 .add (kI 1) 38,oc 40 AeG [35,36,39] Aoj,im 34 40,oe 41 34 0,oe 42 34 1,ia 11 41,ia 12 42] (sr [im 44 5,im 45 6,im 46 1,oc 47
 zS1 [46,kI 100] Cb,ob 48 .add (kI 1) 47,oc 49 AcE [44,45,48] Aog,im 43 49,oe 50 43 0,oe 51 43 1,ia 13 50,ia 14 51] (sr [im 52 7,im 53 9,oc 54
 AcF [52,53] Aom,im 55 54,gt 56 55 (.mv 8),gt 57 55 (.mv 10),gt 58 55 (.bin .eql 56 57),op3 59 55 58 kF,im 60 59,gt 61 60 (.mv 11),gt 62 60 (.mv 13),oS ⟨some 63,.call AcF
 [61,62],some (60,true)⟩ Aom,op3 64 60 63 kF,im 65 64,gt 66 65 (.mv 12),gt 67 65 (.mv 14),gt 68 65 (.bin .eql 66 67),op3 69 65 68 kF,im 70 69,oS ⟨some 71,.call AcK [],some (70,true)⟩ Aoo,op3
 72 70 71 kF,ia 4 72] .ret))))))
def Aoh:AFn:=⟨Alz,Aon.erase,[.tmp 4],2⟩
def AoB(P:Pg)(x:((List Int)×Int))(K:Bool→Unit→Prop):Prop:=
 Fn P AcM Aou x.1 (fun(d1:((List ((List UInt8)×(List UInt8)))×(List ((List UInt8)×(List UInt8))))) (e2:Unit)=>Fn P AeG Aoj (d1.1,(d1.2,x.2)) (fun(d3:((List Rename)×Int)) (e4:Unit)=>Fn P AcE Aog (d1.1,(d1.2,x.2)) (fun(d5:((List Rename)×Int)) (e6:Unit)=>Fn P zS1 Cb (x.2,(100:Int)) (fun(d7:Int) (e8:Unit)=>Fn P AeG Aoj (d1.1,(d1.2,(i64.wrap ((1:Int)+d7)))) (fun(d9:((List Rename)×Int)) (e10:Unit)=>Fn P zS1 Cb (x.2,(100:Int)) (fun(d11:Int) (e12:Unit)=>Fn P AcE Aog (d1.1,(d1.2,(i64.wrap ((1:Int)+d11)))) (fun(d13:((List Rename)×Int)) (e14:Unit)=>Fn P AcF Aom (d3.1,d5.1) (fun(d15:Bool) (e16:Unit)=>Ac (D:=Bool) (fun J17=>(((cond d15 (d3.2==d5.2) false)=true→Fn P AcF Aom (d9.1,d13.1) (fun(d18:Bool) _=>J17 d18))∧(((cond d15 (d3.2==d5.2) false)=false→J17 false)∧True))) (fun d19=>Ac (D:=Bool) (fun J20=>(((cond (cond (cond d15 (d3.2==d5.2) false) d19 false) (d9.2==d13.2) false)=true→Fn P AcK Aoo () (fun(d21:Bool) _=>J20 d21))∧(((cond (cond (cond d15 (d3.2==d5.2) false) d19 false) (d9.2==d13.2) false)=false→J20 false)∧True))) (fun d22=>K (cond (cond (cond (cond d15 (d3.2==d5.2) false) d19 false) (d9.2==d13.2) false) d22 false) ()))))))))))
theorem AoT{P}(h:Has P Aoh){x K}(hw:AoB P x K):Fn P Alz Aoe x K:=
 AZ (c:=Aon) h rfl rfl (by kernel_rfl) (Eq.mpr (show AQ P Aoh Aoe Aon x K=_ by kernel_rfl) hw)
def NS:Ax:=
 sr [o1 4 (.asg (.c (.string ⟨#[]⟩))),o1 5 (.asg kF)] (sq (sr [im 8 0,ol 9 8,o1 10 (.mv (kI 0))] (.frame (rg [4,5,7] 10 11) [1007] false (.join [.sl 4 false .str .leaf,.sl 5 false .bool .leaf] (bk 0 (.loop [.sl 4 false .str .leaf,.sl 5 false
 .bool .leaf,.si 10] (sr [ob 11 .lss 10 9] (sq (cx 11 0) (sq (.frame (rg [4,5,7] 12 8) [1007] false (.join [.sl 4 false .str .leaf,.sl 5 false .bool .leaf] (bk 1 (sr [ox 12 2 8 10,o1 13 (.load true 2 12),o1 7 (.alloc [.string ⟨#[]⟩,.string
 ⟨#[]⟩]),o0 ⟨none,.store 2 7 13,none⟩] (sr [fa 14 0 7,ld 15 14,im 16 1,ob 17 .eql 15 16] (cn 17 (sr [fa 18 1 7,ld 19 18,ia 4 19,o1 5 (.asg kT)] .ret) .skip)))))) (rn [ob 20 .add 10 (kI 1),im 10 20]))))))))) (sr [o1 4 (.asg (.c (.string
 ⟨#[]⟩))),o1 5 (.asg kF)] .ret))
def JS:AFn:=⟨XB,NS.erase,[.tmp 4,.tmp 5],2⟩
def SB(P:Pg)(x:((List ((List UInt8)×(List UInt8)))×(List UInt8)))(K:((List UInt8)×Bool)→Unit→Prop):Prop:=
 Ac (D:=((List UInt8)×Bool)) (fun J1=>Au (D:=((List UInt8)×(Bool×Int))) (([]:List UInt8),(false,(0:Int))) (fun d3 J4=>(((decide (d3.2.2<(x.1.length:Int)))=true→Ac (D:=((List UInt8)×Bool)) (fun J5=>(0≤d3.2.2∧d3.2.2<(x.1.length:Int))∧
 (d3.2.2.toNat<x.1.length)∧
 ((((List.getD x.1 d3.2.2.toNat ([],[])).1==x.2)=true→K ((List.getD x.1 d3.2.2.toNat ([],[])).2,true) ())∧(((List.getD x.1 d3.2.2.toNat ([],[])).1==x.2)=false→J5 (d3.1,d3.2.1)))) (fun d6=>J4 (d6.1,(d6.2,(i64.wrap (d3.2.2+(1:Int)))))))∧((decide (d3.2.2<(x.1.length:Int)))=false→J1 (d3.1,d3.2.1))))) (fun d2=>K (([]:List UInt8),false) ())
theorem Y9{P}(h:Has P JS){x K}(hw:SB P x K):Fn P XB D1 x K:=
 AZ (c:=NS) h rfl rfl (by kernel_rfl) (Eq.mpr (show AQ P JS D1 NS x K=_ by kernel_rfl) hw)
def AoG:Ax:=
 sr [o1 8 (.asg ni)] (sr [o1 9 (.asg ni)] (sq (sr [im 20 2,ol 21 20,o1 22 (.mv (kI 0))] (.frame (rg [9,11,12,13,15,16,17,18,19] 22 50) [1011,1015] false (.join [.sl 9 false (.sl AnU) tO] (bk 0 (.loop [.sl 9 false (.sl AnU) tO,.si 22]
 (sr [ob 23 .lss 22 21] (sq (cx 23 0) (sq (.frame (rg [9,11,12,13,15,16,17,18,19] 24 47) [1011,1015] false (.join [.sl 9 false (.sl AnU) tO] (bk 1 (sr [ox 24 2 20 22,o1 25 (.load true 2 24),o1 11 (.alloc [.string ⟨#[]⟩,.int .i64 0]),o0
 ⟨none,.store 2 11 25,none⟩] (sq (sr [fa 26 1 11,ld 27 26,ob 28 .neq 27 (kI 2)] (cn 28 (.exit 1) .skip)) (sr [im 30 0,fa 31 0 11,ld 32 31,oc 33 XB [30,32] D1,im 29 33,oe 34 29 0,oe 35 29 1,ia 12 34,ia 13 35] (sr
 [im 36 2,ol 37 36,o1 38 (.mv (kI 0))] (.frame (rg [9,15,16,17,18,19] 38 33) [1015] false (.join [.sl 9 false (.sl AnU) tO] (bk 2 (.loop [.sl 9 false (.sl AnU) tO,.si 38] (sr [ob 39 .lss 38 37] (sq (cx 39 2) (sq (.frame (rg
 [9,15,16,17,18,19] 40 30) [1015] false (.join [.sl 9 false (.sl AnU) tO] (bk 3 (sr [ox 40 2 36 38,o1 41 (.load true 2 40),o1 15 (.alloc [.string ⟨#[]⟩,.int .i64 0]),o0 ⟨none,.store 2 15 41,none⟩] (sq (sr [fa 42 1 15,ld 43 42,ob 44 .neq
 43 (kI 1)] (cn 44 (.exit 3) .skip)) (sr [im 46 1,fa 47 0 15,ld 48 47,oc 49 XB [46,48] D1,im 45 49,oe 50 45 0,oe 51 45 1,ia 16 50,ia 17 51] (sr [im 53 12,im 54 16,oc 55 zS9 [53,54]
 Aof,im 52 55,oe 56 52 0,oe 57 52 1,ia 18 56,ia 19 57] (sr [im 58 18,im 59 3,ob 60 .geq 58 59] (fk [9] 61 9 (.join [.sl 9 false (.sl AnU) tO] (cn 60 (rn [im 61 9,fa 62 0 11,ld 63 62,fa 64 0 15,ld 65 64,im 66 18,o1 67 (.build
 [.string ⟨#[]⟩,.string ⟨#[]⟩,.int .i64 0] [(0,1,63),(1,1,65),(2,1,66)]),oT ⟨some 68,.buildSl 3 [.string ⟨#[]⟩,.string ⟨#[]⟩,.int .i64 0] 1 [(0,67)],none⟩ (some (AnU,.leaf)),oT ⟨some 69,.app 3 40 61 68,none⟩ (some (AnU,.leaf)),ia 9
 69]) .skip))))))))))) (rn [ob 70 .add 38 (kI 1),im 38 70]))))))))))))))) (rn [ob 71 .add 22 (kI 1),im 22 71]))))))))) (sr [im 72 9,ia 8 72] .ret)))
def Aoy:AFn:=⟨Ahh,AoG.erase,[.tmp 8],4⟩
def Ao6(P:Pg)(x:((List ((List UInt8)×(List UInt8)))×((List ((List UInt8)×(List UInt8)))×((List ((List UInt8)×Int))×Int))))(K:(List Rename)→Unit→Prop):Prop:=
 Ac (D:=(List Rename)) (fun J1=>Au (D:=((List Rename)×Int)) ([],(0:Int)) (fun d3 J4=>(((decide (d3.2<(x.2.2.1.length:Int)))=true→Ac (D:=(List Rename)) (fun J5=>(0≤d3.2∧d3.2<(x.2.2.1.length:Int))∧
 (d3.2.toNat<x.2.2.1.length)∧
 ((((List.getD x.2.2.1 d3.2.toNat ([],(0:Int))).2 !=(2:Int))=true→J5 d3.1)∧(((List.getD x.2.2.1 d3.2.toNat ([],(0:Int))).2 !=(2:Int))=false→Fn P XB D1 (x.1,(List.getD x.2.2.1 d3.2.toNat ([],(0:Int))).1) (fun(d7:((List UInt8)×Bool)) (e8:Unit)=>Ac (D:=(List Rename)) (fun J9=>Au (D:=((List Rename)×Int)) (d3.1,(0:Int)) (fun d11 J12=>(((decide (d11.2<(x.2.2.1.length:Int)))=true→Ac (D:=(List Rename)) (fun J13=>(0≤d11.2∧d11.2<(x.2.2.1.length:Int))∧
 (d11.2.toNat<x.2.2.1.length)∧
 ((((List.getD x.2.2.1 d11.2.toNat ([],(0:Int))).2 !=(1:Int))=true→J13 d11.1)∧(((List.getD x.2.2.1 d11.2.toNat ([],(0:Int))).2 !=(1:Int))=false→Fn P XB D1 (x.2.1,(List.getD x.2.2.1 d11.2.toNat ([],(0:Int))).1) (fun(d15:((List UInt8)×Bool)) (e16:Unit)=>Fn P zS9 Aof (d7.1,d15.1) (fun(d17:(Int×Int)) (e18:Unit)=>Ac (D:=(List Rename)) (fun J19=>(((decide (d17.1≥x.2.2.2))=true→((d11.1.length+List.length ([((List.getD x.2.2.1 d3.2.toNat ([],(0:Int))).1,((List.getD x.2.2.1 d11.2.toNat ([],(0:Int))).1,d17.1))]:List Rename))*40≤140737488355328)∧
 J19 (d11.1++([((List.getD x.2.2.1 d3.2.toNat ([],(0:Int))).1,((List.getD x.2.2.1 d11.2.toNat ([],(0:Int))).1,d17.1))]:List Rename)))∧((decide (d17.1≥x.2.2.2))=false→J19 d11.1))) (fun d20=>J13 d20)))))) (fun d14=>J12 (d14,(i64.wrap (d11.2+(1:Int))))))∧((decide (d11.2<(x.2.2.1.length:Int)))=false→J9 d11.1)))) (fun d10=>J5 d10))))) (fun d6=>J4 (d6,(i64.wrap (d3.2+(1:Int))))))∧((decide (d3.2<(x.2.2.1.length:Int)))=false→J1 d3.1)))) (fun d2=>K d2 ())
theorem ApA{P}(h:Has P Aoy){x K}(hw:Ao6 P x K):Fn P Ahh Aoz x K:=
 AZ (c:=AoG) h rfl rfl (by kernel_rfl) (Eq.mpr (show AQ P Aoy Aoz AoG x K=_ by kernel_rfl) hw)
def Jw:Ax:=
 sr [o1 1 (.box 0),o1 2 (.asg kF)] (sr [fa 3 0 1,ld 4 3,oc 5 AeI [4] DU,ob 6 .neq 5 (kI 0),ia 2 6] .ret)
def F8:AFn:=⟨XD,Jw.erase,[.tmp 2],1⟩
def M8(P:Pg)(x:((List UInt8)×(List UInt8)))(K:Bool→Unit→Prop):Prop:=
 Fn P AeI DU x.1 (fun(d1:Int) (e2:Unit)=>K (d1 !=(0:Int)) ())
theorem Tk{P}(h:Has P F8){x K}(hw:M8 P x K):Fn P XD EK x K:=
 AZ (c:=Jw) h rfl rfl (by kernel_rfl) (Eq.mpr (show AQ P F8 EK Jw x K=_ by kernel_rfl) hw)
def Bu:Ax:=
 sr [ia 4 (kI 0)] (sq (sr [im 6 0,ol 7 6,o1 8 (.mv (kI 0))] (fj [4,5] 8 11 [4] (bl 0 [4,8] (sr [ob 9 .lss 8 7] (sq (cx 9 0) (sq (fj [4,5] 10 8 [4] (bk 1 (sr [im 10 8,ia 5 10] (sr [im 11 1,im 12 0,im 13 5,ox 14 2 12 13,o1 15 (.load true 2
 14),oS ⟨some 16,.callv 11 [15],none⟩ EK] (cn 16 (sr [im 17 5,ia 4 17] .ret) .skip))))) (rn [ob 18 .add 8 (kI 1),im 8 18]))))))) (sr [ia 4 (kI (-1))] .ret))
def A0:AFn:=⟨zS5,Bu.erase,[.tmp 4],2⟩
def BX(P:Pg)(x:((List ((List UInt8)×(List UInt8)))×Unit))(K:Int→Unit→Prop):Prop:=
 Ac (D:=Int) (fun J1=>Au (D:=(Int×Int)) ((0:Int),(0:Int)) (fun d3 J4=>(((decide (d3.2<(x.1.length:Int)))=true→Ac (D:=Int) (fun J5=>(0≤d3.2∧d3.2<(x.1.length:Int))∧
 (d3.2.toNat<x.1.length)∧
 Fn P XD EK (List.getD x.1 d3.2.toNat ([],[])) (fun(d7:Bool) (e8:Unit)=>((d7=true→K d3.2 ())∧(d7=false→J5 d3.1)))) (fun d6=>J4 (d6,(i64.wrap (d3.2+(1:Int))))))∧((decide (d3.2<(x.1.length:Int)))=false→J1 d3.1)))) (fun d2=>K (-1:Int) ())
theorem Dl{P}(h:Has P A0){x K}(hw:BX P x K):Fn P zS5 AJ x K:=
 AZ (c:=Bu) h rfl rfl (by kernel_rfl) (Eq.mpr (show AQ P A0 AJ Bu x K=_ by kernel_rfl) hw)
def Bh:Ax:=
 sr [o1 4 (.asg kF)] (sr [im 5 0,im 6 1,oc 7 zS5 [5,6] AJ,ob 8 .geq 7 (kI 0),ia 4 8] .ret)
def AW:AFn:=⟨zS6,Bh.erase,[.tmp 4],2⟩
def BN(P:Pg)(x:((List ((List UInt8)×(List UInt8)))×Unit))(K:Bool→Unit→Prop):Prop:=
 Fn P zS5 AJ (x.1,()) (fun(d1:Int) (e2:Unit)=>K (decide (d1≥(0:Int))) ())
theorem C4{P}(h:Has P AW){x K}(hw:BN P x K):Fn P zS6 AF x K:=
 AZ (c:=Bh) h rfl rfl (by kernel_rfl) (Eq.mpr (show AQ P AW AF Bh x K=_ by kernel_rfl) hw)
def Mu:Ax:=
 sr [o1 2 (.asg kF)] (sr [im 3 0,oc 4 "strings.HasSuffix" [3,.c (.string ⟨#[10]⟩)] C7,ia 2 4] .ret)
def Ij:AFn:=⟨AeH,Mu.erase,[.tmp 2],1⟩
def Ql(P:Pg)(x:(List UInt8))(K:Bool→Unit→Prop):Prop:=
 Fn P "strings.HasSuffix" C7 (x,([10]:List UInt8)) (fun(d1:Bool) (e2:Unit)=>K d1 ())
theorem WH{P}(h:Has P Ij){x K}(hw:Ql P x K):Fn P AeH Gj x K:=
 AZ (c:=Mu) h rfl rfl (by kernel_rfl) (Eq.mpr (show AQ P Ij Gj Mu x K=_ by kernel_rfl) hw)
def Mt:Ax:=
 sr [ia 2 (kI 0)] (sr [im 4 0,oc 5 "strings.Count" [4,.c (.string ⟨#[10]⟩)] Ek,ia 3 5] (sq (sr [im 6 0,ob 7 .neq 6 (.c (.string ⟨#[]⟩)),im 8 7,gt 9 8 (.mv 0),oS ⟨some 10,.call AeH [9],some (8,true)⟩
 Gj,gt 11 8 (.un .not 10),op3 12 8 11 kF] (.frame [3,13,14] [] false (.join [.si 3] (cn 12 (rn [im 13 3,ob 14 .add 13 (kI 1),ia 3 14]) .skip)))) (sq (sr [im 15 0,o1 16 (.lenS 15),ob 17 .gtr 16 (kI 1048576),im 18 17,gf 19 18 (.mv
 3),gf 20 18 (.bin .gtr 19 (kI 4096)),op3 21 18 kT 20] (cn 21 (sr [ia 2 (kI 1)] .ret) .skip)) (sr [ia 2 (kI 0)] .ret))))
def Ii:AFn:=⟨AcG,Mt.erase,[.tmp 2],1⟩
def Qk(P:Pg)(x:(List UInt8))(K:Int→Unit→Prop):Prop:=
 Fn P "strings.Count" Ek (x,([10]:List UInt8)) (fun(d1:Int) (e2:Unit)=>Ac (D:=Bool) (fun J3=>(((!(x==([]:List UInt8)))=true→Fn P AeH Gj x (fun(d4:Bool) _=>J3 d4))∧(((!(x==([]:List UInt8)))=false→J3 false)∧True))) (fun d5=>Ac (D:=Int) (fun J6=>(((cond (!(x==([]:List UInt8))) (!d5) false)=true→J6 (i64.wrap (d1+(1:Int))))∧((cond (!(x==([]:List UInt8))) (!d5) false)=false→J6 d1))) (fun d7=>(((cond (decide ((x.length:Int)>(1048576:Int))) true (decide (d7>(4096:Int))))=true→K (1:Int) ())∧((cond (decide ((x.length:Int)>(1048576:Int))) true (decide (d7>(4096:Int))))=false→K (0:Int) ())))))
theorem WG{P}(h:Has P Ii){x K}(hw:Qk P x K):Fn P AcG Ea x K:=
 AZ (c:=Mt) h rfl rfl (by kernel_rfl) (Eq.mpr (show AQ P Ii Ea Mt x K=_ by kernel_rfl) hw)
def Jy:Ax:=
 sr [o1 1 (.box 0),o1 2 (.asg kF)] (sr [fa 3 1 1,ld 4 3,oc 5 AcG [4] Ea,ob 6 .neq 5 (kI 0),ia 2 6] .ret)
def F9:AFn:=⟨Aac,Jy.erase,[.tmp 2],1⟩
def M9(P:Pg)(x:((List UInt8)×(List UInt8)))(K:Bool→Unit→Prop):Prop:=
 Fn P AcG Ea x.2 (fun(d1:Int) (e2:Unit)=>K (d1 !=(0:Int)) ())
theorem Tl{P}(h:Has P F9){x K}(hw:M9 P x K):Fn P Aac EL x K:=
 AZ (c:=Jy) h rfl rfl (by kernel_rfl) (Eq.mpr (show AQ P F9 EL Jy x K=_ by kernel_rfl) hw)
def Bw:Ax:=
 sr [ia 4 (kI 0)] (sq (sr [im 6 0,ol 7 6,o1 8 (.mv (kI 0))] (fj [4,5] 8 11 [4] (bl 0 [4,8] (sr [ob 9 .lss 8 7] (sq (cx 9 0) (sq (fj [4,5] 10 8 [4] (bk 1 (sr [im 10 8,ia 5 10] (sr [im 11 1,im 12 0,im 13 5,ox 14 2 12 13,o1 15 (.load true 2
 14),oS ⟨some 16,.callv 11 [15],none⟩ EL] (cn 16 (sr [im 17 5,ia 4 17] .ret) .skip))))) (rn [ob 18 .add 8 (kI 1),im 8 18]))))))) (sr [ia 4 (kI (-1))] .ret))
def A1:AFn:=⟨zS5,Bw.erase,[.tmp 4],2⟩
def BZ(P:Pg)(x:((List ((List UInt8)×(List UInt8)))×Unit))(K:Int→Unit→Prop):Prop:=
 Ac (D:=Int) (fun J1=>Au (D:=(Int×Int)) ((0:Int),(0:Int)) (fun d3 J4=>(((decide (d3.2<(x.1.length:Int)))=true→Ac (D:=Int) (fun J5=>(0≤d3.2∧d3.2<(x.1.length:Int))∧
 (d3.2.toNat<x.1.length)∧
 Fn P Aac EL (List.getD x.1 d3.2.toNat ([],[])) (fun(d7:Bool) (e8:Unit)=>((d7=true→K d3.2 ())∧(d7=false→J5 d3.1)))) (fun d6=>J4 (d6,(i64.wrap (d3.2+(1:Int))))))∧((decide (d3.2<(x.1.length:Int)))=false→J1 d3.1)))) (fun d2=>K (-1:Int) ())
theorem Dm{P}(h:Has P A1){x K}(hw:BZ P x K):Fn P zS5 AK x K:=
 AZ (c:=Bw) h rfl rfl (by kernel_rfl) (Eq.mpr (show AQ P A1 AK Bw x K=_ by kernel_rfl) hw)
def Bj:Ax:=
 sr [o1 4 (.asg kF)] (sr [im 5 0,im 6 1,oc 7 zS5 [5,6] AK,ob 8 .geq 7 (kI 0),ia 4 8] .ret)
def AX:AFn:=⟨zS6,Bj.erase,[.tmp 4],2⟩
def BO(P:Pg)(x:((List ((List UInt8)×(List UInt8)))×Unit))(K:Bool→Unit→Prop):Prop:=
 Fn P zS5 AK (x.1,()) (fun(d1:Int) (e2:Unit)=>K (decide (d1≥(0:Int))) ())
theorem C5{P}(h:Has P AX){x K}(hw:BO P x K):Fn P zS6 AG x K:=
 AZ (c:=Bj) h rfl rfl (by kernel_rfl) (Eq.mpr (show AQ P AX AG Bj x K=_ by kernel_rfl) hw)
def Mw:Ax:=
 sr [ia 2 (kI 0)] (sq (fj [] 2 15 [2] (bk 0 (sr [im 4 0,ol 5 4,ob 6 .gtr 5 (kI 200),ia 3 6] (cn 3 (sr [ia 2 (kI 1)] .ret) (sr [im 8 0,oc 9 zS6 [8,.f XD]
 AF,ia 7 9] (cn 7 (sr [ia 2 (kI 210)] .ret) (sr [im 11 0,oc 12 "mergelens/tree.ordered" [11] Gk,o1 13 (.un .not 12),ia 10 13] (cn 10 (sr [ia 2 (kI 211)] .ret) (sr [im 15 0,oc 16
 zS6 [15,.f Aac] AG,ia 14 16] (cn 14 (sr [ia 2 (kI 1)] .ret) .skip)))))))))) (sr [ia 2 (kI 0)] .ret))
def F7:AFn:=⟨XC,Mw.erase,[.tmp 2],1⟩
def LY(P:Pg)(x:(List ((List UInt8)×(List UInt8))))(K:Int→Unit→Prop):Prop:=
 Ac (D:=Int) (fun J1=>(((decide ((x.length:Int)>(200:Int)))=true→K (1:Int) ())∧((decide ((x.length:Int)>(200:Int)))=false→Fn P zS6 AF (x,()) (fun(d3:Bool) (e4:Unit)=>((d3=true→K (210:Int) ())∧(d3=false→Fn P "mergelens/tree.ordered" Gk x (fun(d5:Bool) (e6:Unit)=>(((!d5)=true→K (211:Int) ())∧((!d5)=false→Fn P zS6 AG (x,()) (fun(d7:Bool) (e8:Unit)=>((d7=true→K (1:Int) ())∧(d7=false→J1 (0:Int))))))))))))) (fun d2=>K (0:Int) ())
theorem O2{P}(h:Has P F7){x K}(hw:LY P x K):Fn P XC Cu x K:=
 AZ (c:=Mw) h rfl rfl (by kernel_rfl) (Eq.mpr (show AQ P F7 Cu Mw x K=_ by kernel_rfl) hw)
def NT:Ax:=
 sr [ia 4 (kI 0)] (sq (sr [im 6 0,oc 7 XC [6] Cu,ia 5 7] (sr [im 8 5,ob 9 .neq 8 (kI 0)] (cn 9 (sr [im 10 5,ia 4 10] .ret) .skip))) (sr [im 11 1,oc 12 XC [11] Cu,ia 4 12] .ret))
def JT:AFn:=⟨ "mergelens/tree.both",NT.erase,[.tmp 4],2⟩
def SC(P:Pg)(x:((List ((List UInt8)×(List UInt8)))×(List ((List UInt8)×(List UInt8)))))(K:Int→Unit→Prop):Prop:=
 Fn P XC Cu x.1 (fun(d1:Int) (e2:Unit)=>(((d1 !=(0:Int))=true→K d1 ())∧((d1 !=(0:Int))=false→Fn P XC Cu x.2 (fun(d3:Int) (e4:Unit)=>K d3 ()))))
theorem Za{P}(h:Has P JT){x K}(hw:SC P x K):Fn P "mergelens/tree.both" JV x K:=
 AZ (c:=NT) h rfl rfl (by kernel_rfl) (Eq.mpr (show AQ P JT JV NT x K=_ by kernel_rfl) hw)
def Mv:Ax:=
 sr [o1 2 (.asg ni),ia 3 (kI 0)] (sq (sr [im 6 0,oc 7 AcG [6] Ea,ia 4 7] (sr [im 8 4,ob 9 .neq 8 (kI 0)] (cn 9 (sr [im 10 4,o1 2 (.asg ni),ia 3 10] .ret) .skip))) (sr [im 11 0,oc 12 "strings.SplitAfter" [11,.c
 (.string ⟨#[10]⟩)] DF,ia 5 12] (sq (sr [im 13 5,im 14 5,ol 15 14,ob 16 .sub 15 (kI 1),ox 17 1 13 16,ld 18 17,ob 19 .eql 18 (.c (.string ⟨#[]⟩))] (fk [5] 20 5 (.join [.sl 5 false (.sl .str) tO] (cn 19 (rn [im 20 5,im 21
 5,ol 22 21,ob 23 .sub 22 (kI 1),o1 24 (.slK 1 20 none (some 23)),ia 5 24]) .skip)))) (sr [im 25 5,ia 2 25,ia 3 (kI 0)] .ret))))
def Ik:AFn:=⟨Aly,Mv.erase,[.tmp 2,.tmp 3],1⟩
def Qm(P:Pg)(x:(List UInt8))(K:((List (List UInt8))×Int)→Unit→Prop):Prop:=
 Fn P AcG Ea x (fun(d1:Int) (e2:Unit)=>(((d1 !=(0:Int))=true→K ([],d1) ())∧((d1 !=(0:Int))=false→Fn P "strings.SplitAfter" DF (x,([10]:List UInt8)) (fun(d3:(List (List UInt8))) (e4:Unit)=>(0≤(i64.wrap ((d3.length:Int) -(1:Int)))∧(i64.wrap ((d3.length:Int) -(1:Int)))<(d3.length:Int))∧
 ((Int.toNat (i64.wrap ((d3.length:Int) -(1:Int))))<d3.length)∧
 Ac (D:=(List (List UInt8))) (fun J5=>((((List.getD d3 (Int.toNat (i64.wrap ((d3.length:Int) -(1:Int)))) [])==([]:List UInt8))=true→(0≤(i64.wrap ((d3.length:Int) -(1:Int)))∧(i64.wrap ((d3.length:Int) -(1:Int)))≤(d3.length:Int))∧
 (0+(Int.toNat (i64.wrap ((d3.length:Int) -(1:Int))))≤d3.length)∧
 J5 (List.take (Int.toNat (i64.wrap ((d3.length:Int) -(1:Int)))) (List.drop 0 d3)))∧(((List.getD d3 (Int.toNat (i64.wrap ((d3.length:Int) -(1:Int)))) [])==([]:List UInt8))=false→J5 d3))) (fun d6=>K (d6,(0:Int)) ())))))
theorem WI{P}(h:Has P Ik){x K}(hw:Qm P x K):Fn P Aly DG x K:=
 AZ (c:=Mv) h rfl rfl (by kernel_rfl) (Eq.mpr (show AQ P Ik DG Mv x K=_ by kernel_rfl) hw)
end Go.VS
