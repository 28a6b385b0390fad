/- Functions of the program: typed code, and what it says, lifted. -/
import Derived.Test.YtfkfmokccekccaaGreatDoorKTxSig
import Derived.KernelRfl
set_option linter.unusedVariables false
set_option linter.unusedSimpArgs false
set_option maxRecDepth 8000
open List renaming getD → Qa0, length → Qa1
open Int renaming toNat → Qa2
namespace Go.VS
open IntKind
def K3:Ax:=
 sr [o1 4 (.asg ni)] (sr [im 10 0,ol 11 10,oT ⟨some 12,.mkSl 1 1 [.bool false] 11 11,none⟩ (some (.bool,.leaf)),ia 5 12] (sq (sr [ia 6 (kI 0)] (fk [5,6] 13 12 (.join [.sl 5 false (.sl .bool) tO] (bk 0 (.loop [.sl 5 false (.sl .bool) tO,.si
 6] (sq (sr [im 13 6,im 14 1,ol 15 14,ob 16 .lss 13 15] (cx 16 0)) (sq (fk [5] 19 6 (.join [.sl 5 false (.sl .bool) tO] (bk 1 (rn [im 19 5,im 20 1,im 21 6,ox 22 1 20 21,ld 23 22,ox 24 1 19 23,o0 ⟨none,.store 1 24 kT,none⟩])))) (rn [im 17
 6,ob 18 .add 17 (kI 1),ia 6 18])))))))) (sq (sr [ia 7 (kI 0)] (fk [5,7,8,9] 25 38 (.join [.sl 5 false (.sl .bool) tO] (bk 2 (.loop [.sl 5 false (.sl .bool) tO,.si 7] (sq (sr [im 25 7,im 26 0,ol 27 26,ob 28 .lss 25 27] (cx 28 2)) (sq (fk
 [5,8,9] 31 32 (.join [.sl 5 false (.sl .bool) tO] (bk 3 (sr [ia 8 (kI 0)] (fk [5,8,9] 31 32 (.join [.sl 5 false (.sl .bool) tO] (bk 4 (.loop [.sl 5 false (.sl .bool) tO,.si 8] (sq (sr [im 31 8,im 32 0,ol 33 32,ob 34 .lss 31 33] (cx 34 4))
 (sq (fk [5,9] 37 26 (.join [.sl 5 false (.sl .bool) tO] (bk 5 (sr [ia 9 (kI 0)] (fk [5,9] 37 26 (.join [.sl 5 false (.sl .bool) tO] (bk 6 (.loop [.sl 5 false (.sl .bool) tO,.si 9] (sq (sr [im 37 9,im 38 0,im 39 8,ox 40 3 38 39,fa 41 0
 40,ld 42 41,ol 43 42,ob 44 .lss 37 43,im 45 44,gt 46 45 (.mv 5),gt 47 45 (.mv 8),gt 48 45 (.ixA 1 46 47),gt 49 45 (.load false 1 48),op3 50 45 49 kF] (cx 50 6)) (sq (fk [5] 53 10 (.join [.sl 5 false (.sl .bool) tO] (bk 7 (rn [im 53 5,im 54
 0,im 55 8,ox 56 3 54 55,fa 57 0 56,ld 58 57,im 59 9,ox 60 1 58 59,ld 61 60,ox 62 1 53 61,o0 ⟨none,.store 1 62 kT,none⟩])))) (rn [im 51 9,ob 52 .add 51 (kI 1),ia 9 52]))))))))))) (rn [im 35 8,ob 36 .add 35 (kI 1),ia 8 36]))))))))))) (rn [im
 29 7,ob 30 .add 29 (kI 1),ia 7 30])))))))) (sr [im 63 5,ia 4 63] .ret))))
def Hn:AFn:=⟨AjX,K3.erase,[.tmp 4],2⟩
def OR(P:Pg)(x:((List Commit)×(List Int)))(K:(List Bool)→Unit→Prop):Prop:=
 (0≤(x.1.length:Int)∧(x.1.length:Int)≤(x.1.length:Int)∧((1:Nat):Int)*(x.1.length:Int)≤281474976710656)∧
 Ac (D:=(List Bool)) (fun J1=>Au (D:=((List Bool)×Int)) ((List.replicate (Qa2 (x.1.length:Int)) false),(0:Int)) (fun d3 J4=>(((decide (d3.2<(x.2.length:Int)))=true→Ac (D:=(List Bool)) (fun J5=>(0≤d3.2∧d3.2<(x.2.length:Int))∧
 (d3.2.toNat<x.2.length)∧
 (0≤(Qa0 x.2 d3.2.toNat (0:Int))∧(Qa0 x.2 d3.2.toNat (0:Int))<(d3.1.length:Int))∧
 ((Qa2 (Qa0 x.2 d3.2.toNat (0:Int)))<d3.1.length)∧
 J5 (List.set d3.1 (Qa2 (Qa0 x.2 d3.2.toNat (0:Int))) true)) (fun d6=>J4 (d6,(i64.wrap (d3.2+1)))))∧((decide (d3.2<(x.2.length:Int)))=false→J1 d3.1)))) (fun d2=>Ac (D:=(List Bool)) (fun J7=>Au (D:=((List Bool)×Int)) (d2,(0:Int)) (fun d9 J10=>(((decide (d9.2<(x.1.length:Int)))=true→Ac (D:=(List Bool)) (fun J11=>Ac (D:=(List Bool)) (fun J13=>Au (D:=((List Bool)×Int)) (d9.1,(0:Int)) (fun d15 J16=>(((decide (d15.2<(x.1.length:Int)))=true→Ac (D:=(List Bool)) (fun J17=>Ac (D:=(List Bool)) (fun J19=>Au (D:=((List Bool)×Int)) (d15.1,(0:Int)) (fun d21 J22=>(0≤d15.2∧d15.2<(x.1.length:Int))∧
 (d15.2.toNat<x.1.length)∧
 (((decide (d21.2<((Qa1 (Qa0 x.1 d15.2.toNat Ag).1:Nat):Int)))=true→0≤d15.2∧d15.2<(d21.1.length:Int)))∧
 (((decide (d21.2<((Qa1 (Qa0 x.1 d15.2.toNat Ag).1:Nat):Int)))=true→d15.2.toNat<d21.1.length))∧
 (((cond (decide (d21.2<((Qa1 (Qa0 x.1 d15.2.toNat Ag).1:Nat):Int))) (Qa0 d21.1 d15.2.toNat false) false)=true→Ac (D:=(List Bool)) (fun J23=>(0≤d15.2∧d15.2<(x.1.length:Int))∧
 (d15.2.toNat<x.1.length)∧
 (0≤d21.2∧d21.2<((Qa1 (Qa0 x.1 d15.2.toNat Ag).1:Nat):Int))∧
 (d21.2.toNat<Qa1 (Qa0 x.1 d15.2.toNat Ag).1)∧
 (0≤(Qa0 (Qa0 x.1 d15.2.toNat Ag).1 d21.2.toNat (0:Int))∧(Qa0 (Qa0 x.1 d15.2.toNat Ag).1 d21.2.toNat (0:Int))<(d21.1.length:Int))∧
 ((Qa2 (Qa0 (Qa0 x.1 d15.2.toNat Ag).1 d21.2.toNat (0:Int)))<d21.1.length)∧
 J23 (List.set d21.1 (Qa2 (Qa0 (Qa0 x.1 d15.2.toNat Ag).1 d21.2.toNat (0:Int))) true)) (fun d24=>J22 (d24,(i64.wrap (d21.2+1)))))∧((cond (decide (d21.2<((Qa1 (Qa0 x.1 d15.2.toNat Ag).1:Nat):Int))) (Qa0 d21.1 d15.2.toNat false) false)=false→J19 d21.1)))) (fun d20=>J17 d20)) (fun d18=>J16 (d18,(i64.wrap (d15.2+1)))))∧((decide (d15.2<(x.1.length:Int)))=false→J13 d15.1)))) (fun d14=>J11 d14)) (fun d12=>J10 (d12,(i64.wrap (d9.2+1)))))∧((decide (d9.2<(x.1.length:Int)))=false→J7 d9.1)))) (fun d8=>K d8 ()))
theorem UY{P}(h:Has P Hn){x K}(hw:OR P x K):Fn P AjX Fo x K:=
 ZF K3 h hw
def K2:Ax:=
 sr [ia 2 (kI 0)] (sq (sr [im 11 0,ol 12 11,ob 13 .gtr 12 (kI 300)] (cn 13 (sr [ia 2 (kI 1)] .ret) .skip)) (sq (sr [ia 3 (kI 0)] (fj [2,3] 14 13 [2] (bl 0 [2,3] (sq (sr [im 14 3,im 15 0,ol 16 15,ob 17 .lss 14 16] (cx 17 0)) (sq (fj [2] 20 7
 [2] (bk 1 (sr [im 20 0,im 21 3,ox 22 3 20 21,fa 23 0 22,ld 24 23,ol 25 24,ob 26 .gtr 25 (kI 32)] (cn 26 (sr [ia 2 (kI 1)] .ret) .skip)))) (rn [im 18 3,ob 19 .add 18 (kI 1),ia 3 19])))))) (sq (sr [ia 4 (kI 0)] (fj [2,4,5,6] 27 43 [2] (bl 2
 [2,4] (sq (sr [im 27 4,im 28 0,ol 29 28,ob 30 .lss 27 29] (cx 30 2)) (sq (fj [2,5,6] 33 37 [2] (bk 3 (sr [ia 5 (kI 0)] (fj [2,5,6] 33 37 [2] (bl 4 [2,5] (sq (sr [im 33 5,im 34 0,im 35 4,ox 36 3 34 35,fa 37 0 36,ld 38 37,ol 39 38,ob 40 .lss
 33 39] (cx 40 4)) (sq (fj [2,6] 43 27 [2] (bk 5 (sr [im 43 0,im 44 4,ox 45 3 43 44,fa 46 0 45,ld 47 46,im 48 5,ox 49 1 47 48,ld 50 49,ia 6 50] (sr [im 51 6,ob 52 .lss 51 (kI 0),im 53 52,gf 54 53 (.mv 6),gf 55 53 (.mv 0),gf 56 53 (.lenK
 55),gf 57 53 (.bin .geq 54 56),op3 58 53 kT 57,im 59 58,gf 60 59 (.mv 0),gf 61 59 (.mv 4),gf 62 59 (.ixA 3 60 61),gf 63 59 (.fAddr 0 62),gf 64 59 (.load false 1 63),gf 65 59 (.mv 5),gf 66 59 (.slK 1 64 none (some 65)),gf 67 59 (.mv 6),oS
 ⟨some 68,.call AjW [66,67],some (59,false)⟩ HL,op3 69 59 kT 68] (cn 69 (sr [ia 2 (kI 230)] .ret) .skip))))) (rn [im 41 5,ob 42 .add 41 (kI 1),ia 5 42])))))))) (rn [im 31 4,ob 32 .add 31 (kI 1),ia 4
 32])))))) (sq (sr [ia 7 (kI 0)] (fj [2,7] 70 25 [2] (bl 6 [2,7] (sq (sr [im 70 7,im 71 0,ol 72 71,ob 73 .lss 70 72] (cx 73 6)) (sq (fj [2] 76 19 [2] (bk 7 (sr [im 76 0,im 77 7,ox 78 3 76 77,fa 79 0 78,ld 80 79,ol 81 80,ob 82 .gtr 81 (kI
 0),im 83 82,⟨⟨some 84,.mv 0,some (83,true)⟩,none,⟨[],[]⟩,false,some 83,true,false⟩,⟨⟨some 85,.mv 0,some (83,true)⟩,none,⟨[],[]⟩,false,none,true,false⟩,⟨⟨some 86,.mv 7,some (83,true)⟩,none,⟨[],[]⟩,false,none,true,false⟩,⟨⟨some 87,.ixA 3 85
 86,some (83,true)⟩,none,⟨[],[]⟩,false,none,true,false⟩,⟨⟨some 88,.fAddr 0 87,some (83,true)⟩,none,⟨[],[]⟩,false,none,true,false⟩,⟨⟨some 89,.load false 1 88,some (83,true)⟩,none,⟨[],[]⟩,false,none,true,false⟩,⟨⟨some 90,.call
 AjX [84,89],some (83,true)⟩,none,Fo,false,none,true,false⟩,⟨⟨some 91,.mv 7,some (83,true)⟩,none,⟨[],[]⟩,false,none,true,false⟩,⟨⟨some 92,.ixA 1 90 91,some
 (83,true)⟩,none,⟨[],[]⟩,false,none,true,false⟩,⟨⟨some 93,.load false 1 92,some (83,true)⟩,none,⟨[],[]⟩,false,none,true,true⟩,op3 94 83 93 kF] (cn 94 (sr [ia 2 (kI 231)] .ret) .skip)))) (rn [im 74 7,ob 75 .add 74 (kI 1),ia 7 75])))))) (sq
 (sr [ia 8 (kI 0)] (fj [2,8] 95 20 [2] (bl 8 [2,8] (sq (sr [im 95 8,im 96 0,ol 97 96,ob 98 .lss 95 97] (cx 98 8)) (sq (fj [2] 101 14 [2] (bk 9 (sr [im 101 0,im 102 8,ox 103 3 101 102,fa 104 1 103,ld 105 104,ob 106 .lss 105 (kI 0),im 107
 106,gf 108 107 (.mv 0),gf 109 107 (.mv 8),gf 110 107 (.ixA 3 108 109),gf 111 107 (.fAddr 1 110),gf 112 107 (.load false 1 111),gf 113 107 (.bin .gtr 112 (kI 2147483647)),op3 114 107 kT 113] (cn 114 (sr [ia 2 (kI 3)] .ret) .skip)))) (rn [im
 99 8,ob 100 .add 99 (kI 1),ia 8 100])))))) (sq (sr [ia 9 (kI 0)] (fj [2,9,10] 115 15 [2] (bl 10 [2,9] (sq (sr [im 115 9,im 116 0,ol 117 116,ob 118 .lss 115 117] (cx 118 10)) (sq (fj [2,10] 121 9 [2] (bk 11 (sr [im 121 0,im 122 9,ox 123 3
 121 122,fa 124 2 123,ld 125 124,oc 126 zS5 [125] Cc,ia 10 126] (sr [im 127 10,ob 128 .neq 127 (kI 0)] (cn 128 (sr [im 129 10,ia 2 129] .ret) .skip))))) (rn [im 119 9,ob 120 .add 119 (kI 1),ia 9
 120])))))) (sr [ia 2 (kI 0)] .ret)))))))
def Hm:AFn:=⟨AjY,K2.erase,[.tmp 2],1⟩
def OQ(P:Pg)(x:(List Commit))(K:Int→Unit→Prop):Prop:=
 (((decide ((x.length:Int)>300))=true→K (1:Int) ())∧((decide ((x.length:Int)>300))=false→Ac (D:=Int) (fun J1=>Au (D:=(Int×Int)) ((0:Int),(0:Int)) (fun d3 J4=>(((decide (d3.2<(x.length:Int)))=true→Ac (D:=Int) (fun J5=>(0≤d3.2∧d3.2<(x.length:Int))∧
 (d3.2.toNat<x.length)∧
 (((decide (((Qa1 (Qa0 x d3.2.toNat Ag).1:Nat):Int)>32))=true→K (1:Int) ())∧((decide (((Qa1 (Qa0 x d3.2.toNat Ag).1:Nat):Int)>32))=false→J5 d3.1))) (fun d6=>J4 (d6,(i64.wrap (d3.2+1)))))∧((decide (d3.2<(x.length:Int)))=false→J1 d3.1)))) (fun d2=>Ac (D:=Int) (fun J7=>Au (D:=(Int×Int)) (d2,(0:Int)) (fun d9 J10=>(((decide (d9.2<(x.length:Int)))=true→Ac (D:=Int) (fun J11=>Ac (D:=Int) (fun J13=>Au (D:=(Int×Int)) (d9.1,(0:Int)) (fun d15 J16=>(0≤d9.2∧d9.2<(x.length:Int))∧
 (d9.2.toNat<x.length)∧
 (((decide (d15.2<((Qa1 (Qa0 x d9.2.toNat Ag).1:Nat):Int)))=true→Ac (D:=Int) (fun J17=>(0≤d9.2∧d9.2<(x.length:Int))∧
 (d9.2.toNat<x.length)∧
 (0≤d15.2∧d15.2<((Qa1 (Qa0 x d9.2.toNat Ag).1:Nat):Int))∧
 (d15.2.toNat<Qa1 (Qa0 x d9.2.toNat Ag).1)∧
 (((cond (decide ((Qa0 (Qa0 x d9.2.toNat Ag).1 d15.2.toNat (0:Int))<0)) true (decide ((Qa0 (Qa0 x d9.2.toNat Ag).1 d15.2.toNat (0:Int))≥(x.length:Int))))=false→0≤d9.2∧d9.2<(x.length:Int)))∧
 (((cond (decide ((Qa0 (Qa0 x d9.2.toNat Ag).1 d15.2.toNat (0:Int))<0)) true (decide ((Qa0 (Qa0 x d9.2.toNat Ag).1 d15.2.toNat (0:Int))≥(x.length:Int))))=false→d9.2.toNat<x.length))∧
 (((cond (decide ((Qa0 (Qa0 x d9.2.toNat Ag).1 d15.2.toNat (0:Int))<0)) true (decide ((Qa0 (Qa0 x d9.2.toNat Ag).1 d15.2.toNat (0:Int))≥(x.length:Int))))=false→0≤d15.2∧d15.2≤((Qa1 (Qa0 x d9.2.toNat Ag).1:Nat):Int)))∧
 Ac (D:=Bool) (fun J19=>(((cond (decide ((Qa0 (Qa0 x d9.2.toNat Ag).1 d15.2.toNat (0:Int))<0)) true (decide ((Qa0 (Qa0 x d9.2.toNat Ag).1 d15.2.toNat (0:Int))≥(x.length:Int))))=false→Fn P AjW HL ((List.take d15.2.toNat (Qa0 x d9.2.toNat Ag).1),(Qa0 (Qa0 x d9.2.toNat Ag).1 d15.2.toNat (0:Int))) (fun(d20:Bool) _=>J19 d20))∧(((cond (decide ((Qa0 (Qa0 x d9.2.toNat Ag).1 d15.2.toNat (0:Int))<0)) true (decide ((Qa0 (Qa0 x d9.2.toNat Ag).1 d15.2.toNat (0:Int))≥(x.length:Int))))=true→J19 false)∧True))) (fun d21=>(((cond (cond (decide ((Qa0 (Qa0 x d9.2.toNat Ag).1 d15.2.toNat (0:Int))<0)) true (decide ((Qa0 (Qa0 x d9.2.toNat Ag).1 d15.2.toNat (0:Int))≥(x.length:Int)))) true d21)=true→K (230:Int) ())∧((cond (cond (decide ((Qa0 (Qa0 x d9.2.toNat Ag).1 d15.2.toNat (0:Int))<0)) true (decide ((Qa0 (Qa0 x d9.2.toNat Ag).1 d15.2.toNat (0:Int))≥(x.length:Int)))) true d21)=false→J17 d15.1)))) (fun d18=>J16 (d18,(i64.wrap (d15.2+1)))))∧((decide (d15.2<((Qa1 (Qa0 x d9.2.toNat Ag).1:Nat):Int)))=false→J13 d15.1)))) (fun d14=>J11 d14)) (fun d12=>J10 (d12,(i64.wrap (d9.2+1)))))∧((decide (d9.2<(x.length:Int)))=false→J7 d9.1)))) (fun d8=>Ac (D:=Int) (fun J22=>Au (D:=(Int×Int)) (d8,(0:Int)) (fun d24 J25=>(((decide (d24.2<(x.length:Int)))=true→Ac (D:=Int) (fun J26=>(0≤d24.2∧d24.2<(x.length:Int))∧
 (d24.2.toNat<x.length)∧
 (((decide (((Qa1 (Qa0 x d24.2.toNat Ag).1:Nat):Int)>0))=true→(0≤d24.2∧d24.2<(x.length:Int))∧
 (d24.2.toNat<x.length)∧
 Fn P AjX Fo (x,(Qa0 x d24.2.toNat Ag).1) (fun(d28:(List Bool)) _=>(0≤d24.2∧d24.2<(d28.length:Int))∧
 (d24.2.toNat<d28.length)∧
 (((cond true (Qa0 d28 d24.2.toNat false) false)=true→K (231:Int) ())∧((cond true (Qa0 d28 d24.2.toNat false) false)=false→J26 d24.1))))∧((decide (((Qa1 (Qa0 x d24.2.toNat Ag).1:Nat):Int)>0))=false→(((cond false false false)=true→K (231:Int) ())∧((cond false false false)=false→J26 d24.1))))) (fun d27=>J25 (d27,(i64.wrap (d24.2+1)))))∧((decide (d24.2<(x.length:Int)))=false→J22 d24.1)))) (fun d23=>Ac (D:=Int) (fun J30=>Au (D:=(Int×Int)) (d23,(0:Int)) (fun d32 J33=>(((decide (d32.2<(x.length:Int)))=true→Ac (D:=Int) (fun J34=>(0≤d32.2∧d32.2<(x.length:Int))∧
 (d32.2.toNat<x.length)∧
 (((decide ((Qa0 x d32.2.toNat Ag).2.1<0))=false→0≤d32.2∧d32.2<(x.length:Int)))∧
 (((decide ((Qa0 x d32.2.toNat Ag).2.1<0))=false→d32.2.toNat<x.length))∧
 (((cond (decide ((Qa0 x d32.2.toNat Ag).2.1<0)) true (decide ((Qa0 x d32.2.toNat Ag).2.1>2147483647)))=true→K (3:Int) ())∧((cond (decide ((Qa0 x d32.2.toNat Ag).2.1<0)) true (decide ((Qa0 x d32.2.toNat Ag).2.1>2147483647)))=false→J34 d32.1))) (fun d35=>J33 (d35,(i64.wrap (d32.2+1)))))∧((decide (d32.2<(x.length:Int)))=false→J30 d32.1)))) (fun d31=>Ac (D:=Int) (fun J36=>Au (D:=(Int×Int)) (d31,(0:Int)) (fun d38 J39=>(((decide (d38.2<(x.length:Int)))=true→Ac (D:=Int) (fun J40=>(0≤d38.2∧d38.2<(x.length:Int))∧
 (d38.2.toNat<x.length)∧
 Fn P zS5 Cc (Qa0 x d38.2.toNat Ag).2.2 (fun(d42:Int) _=>(((d42 !=0)=true→K d42 ())∧((d42 !=0)=false→J40 d38.1)))) (fun d41=>J39 (d41,(i64.wrap (d38.2+1)))))∧((decide (d38.2<(x.length:Int)))=false→J36 d38.1)))) (fun d37=>K (0:Int) ())))))))
theorem UX{P}(h:Has P Hm){x K}(hw:OQ P x K):Fn P AjY Fm x K:=
 ZF K2 h hw
def K4:Ax:=
 sr [ia 4 (kI 0)] (sq (sr [im 6 0,oc 7 AjY [6] Fm,ia 5 7] (sr [im 8 5,ob 9 .neq 8 (kI 0)] (cn 9 (sr [im 10 5,ia 4 10] .ret) .skip))) (sq (sr [im 11 1,ob 12 .lss 11 (kI 0),im 13 12,gf 14 13 (.mv 1),gf
 15 13 (.mv 0),gf 16 13 (.lenK 15),gf 17 13 (.bin .geq 14 16),op3 18 13 kT 17] (cn 18 (sr [ia 4 (kI 5)] .ret) .skip)) (sr [ia 4 (kI 0)] .ret)))
def Ho:AFn:=⟨AjZ,K4.erase,[.tmp 4],2⟩
def OS(P:Pg)(x:((List Commit)×Int))(K:Int→Unit→Prop):Prop:=
 Fn P AjY Fm x.1 (fun(d1:Int) _=>(((d1 !=0)=true→K d1 ())∧((d1 !=0)=false→(((cond (decide (x.2<0)) true (decide (x.2≥(x.1.length:Int))))=true→K (5:Int) ())∧((cond (decide (x.2<0)) true (decide (x.2≥(x.1.length:Int))))=false→K (0:Int) ())))))
theorem UZ{P}(h:Has P Ho){x K}(hw:OS P x K):Fn P AjZ Fp x K:=
 ZF K4 h hw
def K5:Ax:=
 sr [⟨⟨some 4,.asg ni,none⟩,none,⟨[],[]⟩,true,none,false,false⟩] (sq (sr [im 7 0,im 8 1,ox 9 3 7 8,fa 10 0 9,ld 11 10,ol 12 11,ob 13 .eql 12 (kI 0)] (cn 13 (sr [oT ⟨some 14,.buildSl 1 [.slice none 0 0] 1 [(0,ni)],none⟩ (some (.sl (.pair .str
 .str),tM)),⟨⟨some 4,.asg 14,none⟩,none,⟨[],[]⟩,true,none,false,false⟩] .ret) .skip)) (sr [o1 5 (.asg ni)] (sq (sr [ia 6 (kI 0)] (fk [5,6] 15 25 (.join [.sl 5 false (.sl (.sl (.pair .str .str))) (.node .own tM)] (bk 0 (.loop [.sl 5 false
 (.sl (.sl (.pair .str .str))) (.node .own tM),.si 6] (sq (sr [im 15 6,im 16 0,im 17 1,ox 18 3 16 17,fa 19 0 18,ld 20 19,ol 21 20,ob 22 .lss 15 21] (cx 22 0)) (sq (fk [5] 25 15 (.join [.sl 5 false (.sl (.sl (.pair .str .str))) (.node .own
 tM)] (bk 1 (rn [im 25 5,im 26 0,im 27 0,im 28 1,ox 29 3 27 28,fa 30 0 29,ld 31 30,im 32 6,ox 33 1 31 32,ld 34 33,ox 35 3 26 34,fa 36 2 35,ld 37 36,oT ⟨some 38,.buildSl 1 [.slice none 0 0] 1 [(0,37)],none⟩ (some (.sl (.pair .str
 .str),tM)),oT ⟨some 39,.app 1 24 25 38,none⟩ (some (.sl (.pair .str .str),tM)),ia 5 39])))) (rn [im 23 6,ob 24 .add 23 (kI 1),ia 6 24])))))))) (sr [im 40 5,⟨⟨some 4,.asg 40,none⟩,none,⟨[],[]⟩,true,none,false,false⟩] .ret))))
def Hp:AFn:=⟨AcL,K5.erase,[.tmp 4],2⟩
def OT(P:Pg)(x:((List Commit)×Int))(K:(List (List (Bt8×Bt8)))→Unit→Prop):Prop:=
 (0≤x.2∧x.2<(x.1.length:Int))∧
 (x.2.toNat<x.1.length)∧
 (((((Qa1 (Qa0 x.1 x.2.toNat Ag).1:Nat):Int)==0)=true→K ([[]]:List (List (Bt8×Bt8))) ())∧((((Qa1 (Qa0 x.1 x.2.toNat Ag).1:Nat):Int)==0)=false→Ac (D:=(List (List (Bt8×Bt8)))) (fun J1=>Au (D:=((List (List (Bt8×Bt8)))×Int)) ([],(0:Int)) (fun d3 J4=>(0≤x.2∧x.2<(x.1.length:Int))∧
 (x.2.toNat<x.1.length)∧
 (((decide (d3.2<((Qa1 (Qa0 x.1 x.2.toNat Ag).1:Nat):Int)))=true→Ac (D:=(List (List (Bt8×Bt8)))) (fun J5=>(0≤x.2∧x.2<(x.1.length:Int))∧
 (x.2.toNat<x.1.length)∧
 (0≤d3.2∧d3.2<((Qa1 (Qa0 x.1 x.2.toNat Ag).1:Nat):Int))∧
 (d3.2.toNat<Qa1 (Qa0 x.1 x.2.toNat Ag).1)∧
 (0≤(Qa0 (Qa0 x.1 x.2.toNat Ag).1 d3.2.toNat (0:Int))∧(Qa0 (Qa0 x.1 x.2.toNat Ag).1 d3.2.toNat (0:Int))<(x.1.length:Int))∧
 ((Qa2 (Qa0 (Qa0 x.1 x.2.toNat Ag).1 d3.2.toNat (0:Int)))<x.1.length)∧
 ((d3.1.length+Qa1 ([(Qa0 x.1 (Qa2 (Qa0 (Qa0 x.1 x.2.toNat Ag).1 d3.2.toNat (0:Int))) Ag).2.2]:List (List (Bt8×Bt8))))*24≤140737488355328)∧
 J5 (d3.1++([(Qa0 x.1 (Qa2 (Qa0 (Qa0 x.1 x.2.toNat Ag).1 d3.2.toNat (0:Int))) Ag).2.2]:List (List (Bt8×Bt8))))) (fun d6=>J4 (d6,(i64.wrap (d3.2+1)))))∧((decide (d3.2<((Qa1 (Qa0 x.1 x.2.toNat Ag).1:Nat):Int)))=false→J1 d3.1)))) (fun d2=>K d2 ())))
theorem U0{P}(h:Has P Hp){x K}(hw:OT P x K):Fn P AcL Dh x K:=
 ZF K5 h hw
def Ju:Ax:=
 sr [o1 4 (.asg ni),ia 5 (kI 0)] (sq (sr [im 7 0,im 8 1,oc 9 AjZ [7,8] Fp,ia 6 9] (sr [im 10 6,ob 11 .neq 10 (kI 0)] (cn 11 (sr [im 12 6,o1 4 (.asg ni),ia 5 12] .ret) .skip))) (sq (fk [4,5] 13 13
 (.join [.sl 4 false (.sl Dy) tO,.si 5] (.draw [ti (im 13 0) (ti (im 14 1) (ti (im 18 0) (ti (im 19 1) (ti (ox 20 3 18 19) (ti (fa 21 2 20) (.alt (oc 15 AcL [13,14] Dh) (ti (ox 16 1 15 (kI 0)) (ti
 (ld 17 16) (ti (ld 22 21) (.alt (oc 23 zS8 [17,22] Cr) (.alt (oe 24 23 0) (.alt (oe 25 23 1) (.alt (ia 4 24) (.alt (ia 5 25) .done .stop) .stop) .stop) (.alt (oe 25 23 1) (.alt (oe 24 23 0) (.alt (ia
 4 24) (.alt (ia 5 25) .done .stop) .stop) .stop) .stop)) .stop)))) (.alt (ld 22 21) (.alt (oc 15 AcL [13,14] Dh) (ti (ox 16 1 15 (kI 0)) (ti (ld 17 16) (.alt (oc 23 zS8
 [17,22] Cr) (.alt (oe 24 23 0) (.alt (oe 25 23 1) (.alt (ia 4 24) (.alt (ia 5 25) .done .stop) .stop) .stop) (.alt (oe 25 23 1) (.alt (oe 24 23 0) (.alt (ia 4 24) (.alt (ia 5 25) .done .stop) .stop) .stop) .stop)) .stop)))
 .stop) .stop)))))))]))) .ret))
def F5:AFn:=⟨Aj0,Ju.erase,[.tmp 4,.tmp 5],2⟩
def M6(P:Pg)(x:((List Commit)×Int))(K:((List Stat)×Int)→Unit→Prop):Prop:=
 Fn P AjZ Fp x (fun(d1:Int) _=>(((d1 !=0)=true→K ([],d1) ())∧((d1 !=0)=false→Ac (D:=((List Stat)×Int)) (fun J3=>(0≤x.2∧x.2<(x.1.length:Int))∧
 (Fn P AcL Dh x (fun(d5:(List (List (Bt8×Bt8)))) _=>(0≤(0:Int)∧(0:Int)<(d5.length:Int))∧
 ((Qa2 (0:Int))<d5.length)∧
 (x.2.toNat<x.1.length)∧
 (Fn P zS8 Cr ((Qa0 d5 (Qa2 (0:Int)) []),(Qa0 x.1 x.2.toNat Ag).2.2) (fun(d7:((List Stat)×Int)) _=>((((J3 d7)∧True)∧True)∧True)∧(((((J3 d7)∧True)∧True)∧True)∧True)))∧True))∧(((x.2.toNat<x.1.length)∧
 (Fn P AcL Dh x (fun(d9:(List (List (Bt8×Bt8)))) _=>(0≤(0:Int)∧(0:Int)<(d9.length:Int))∧
 ((Qa2 (0:Int))<d9.length)∧
 (Fn P zS8 Cr ((Qa0 d9 (Qa2 (0:Int)) []),(Qa0 x.1 x.2.toNat Ag).2.2) (fun(d11:((List Stat)×Int)) _=>((((J3 d11)∧True)∧True)∧True)∧(((((J3 d11)∧True)∧True)∧True)∧True)))∧True))∧True)∧True)) (fun d4=>K d4 ()))))
theorem Ti{P}(h:Has P F5){x K}(hw:M6 P x K):Fn P Aj0 EJ x K:=
 ZF Ju h hw
def NP:Ax:=
 sr [o1 4 (.asg kF)] (sq (sr [im 6 0,ol 7 6,im 8 1,ol 9 8,ob 10 .neq 7 9] (cn 10 (sr [o1 4 (.asg kF)] .ret) .skip)) (sq (sr [ia 5 (kI 0)] (fk [4,5] 11 15 (.join [.sl 4 false .bool .leaf] (bk 0 (.loop [.sl 4 false .bool .leaf,.si 5] (sq (sr
 [im 11 5,im 12 0,ol 13 12,ob 14 .lss 11 13] (cx 14 0)) (sq (fk [4] 17 9 (.join [.sl 4 false .bool .leaf] (bk 1 (sq (.draw [ti (im 17 0) (ti (im 18 5) (ti (ox 19 3 17 18) (ti (o1 20 (.load true 3 19)) (ti (im 21 1) (ti (im 22 5) (ti (ox 23
 3 21 22) (ti (o1 24 (.load true 3 23)) (ti (o1 25 (.eqA true [.str,.int,.int] 20 24)) .done))))))))]) (cn 25 (sr [o1 4 (.asg kF)] .ret) .skip))))) (rn [im 15 5,ob 16 .add 15 (kI 1),ia 5 16])))))))) (sr [o1 4 (.asg kT)] .ret)))
def JP:AFn:=⟨AcM,NP.erase,[.tmp 4],2⟩
def Sy(P:Pg)(x:((List Stat)×(List Stat)))(K:Bool→Unit→Prop):Prop:=
 ((((x.1.length:Int) !=(x.2.length:Int))=true→K false ())∧(((x.1.length:Int) !=(x.2.length:Int))=false→Ac (D:=Bool) (fun J1=>Au (D:=(Bool×Int)) (false,(0:Int)) (fun d3 J4=>(((decide (d3.2<(x.1.length:Int)))=true→Ac (D:=Bool) (fun J5=>(0≤d3.2∧d3.2<(x.1.length:Int))∧
 (d3.2.toNat<x.1.length)∧
 (0≤d3.2∧d3.2<(x.2.length:Int))∧
 (d3.2.toNat<x.2.length)∧
 (((!(((Qa0 x.1 d3.2.toNat DN).1==(Qa0 x.2 d3.2.toNat DN).1)&&(((Qa0 x.1 d3.2.toNat DN).2.1==(Qa0 x.2 d3.2.toNat DN).2.1)&&(((Qa0 x.1 d3.2.toNat DN).2.2==(Qa0 x.2 d3.2.toNat DN).2.2)&&true))))=true→K false ())∧((!(((Qa0 x.1 d3.2.toNat DN).1==(Qa0 x.2 d3.2.toNat DN).1)&&(((Qa0 x.1 d3.2.toNat DN).2.1==(Qa0 x.2 d3.2.toNat DN).2.1)&&(((Qa0 x.1 d3.2.toNat DN).2.2==(Qa0 x.2 d3.2.toNat DN).2.2)&&true))))=false→J5 d3.1))) (fun d6=>J4 (d6,(i64.wrap (d3.2+1)))))∧((decide (d3.2<(x.1.length:Int)))=false→J1 d3.1)))) (fun d2=>K true ())))
theorem Y6{P}(h:Has P JP){x K}(hw:Sy P x K):Fn P AcM D0 x K:=
 ZF NP h hw
def FQ:Ax:=
 sr [o1 10 (.asg kF)] (sq (sr [im 26 1,o1 27 (.lenS 26),ob 28 .gtr 27 (kI 40),im 29 28,gf 30 29 (.mv 2),gf 31 29 (.lenS 30),gf 32 29 (.bin .gtr 31 (kI 40)),op3 33 29 kT 32] (cn 33 (sr [oc 34 AcD []
 Df,ia 10 34] .ret) .skip)) (sr [im 35 0,oc 36 Ajy [35,kI 5,kI 3] HJ,ia 11 36] (sq (sr [im 37 4,im 38 37,gt 39 38 (.mv 11),gt 40 38 (.lenK 39),gt 41 38 (.bin .gtr 40 (kI 0)),op3 42 38 41 kF]
 (fj [3] 43 4 [3] (cn 42 (rn [im 43 3,im 44 11,ol 45 44,oc 46 zS1 [43,45] Cb,ia 3 46]) .skip))) (sr [im 48 1,im 49 2,oc 50 AcF [48,49] DE,im 47 50,oe 51 47 0,oe 52 47 1,oe 53 47
 2,ia 12 51,ia 13 52,ia 14 53] (sr [im 55 1,im 56 2,oc 57 AcI [55,56] Di,im 54 57,oe 58 54 0,oe 59 54 1,oe 60 54 2,ia 15 58,ia 16 59,ia 17 60] (sr [im 62 0,oc 63 zS2 [62,kI
 0,kI 3] BM,im 64 0,oc 65 zS2 [64,kI 300,kI 3] BM,oc 66 zS7 [63,65] CR,im 61 66,oe 67 61 0,oe 68 61 1,ia 18 67,ia 19 68] (sr [im 70 0,oc 71
 zS2 [70,kI 0,kI 3] BM,im 72 0,oc 73 zS2 [72,kI 300,kI 3] BM,oc 74 zS8 [71,73] Cr,im 69 74,oe 75 69 0,oe 76 69 1,ia 20 75,ia 21
 76] (sr [im 78 11,im 79 3,oc 80 AjV [78,79] Fs,im 77 80,oe 81 77 0,oe 82 77 1,ia 22 81,ia 23 82] (sr [im 84 11,im 85 3,oc 86 Aj0 [84,85] EJ,im 83 86,oe 87 83 0,oe 88
 83 1,ia 24 87,ia 25 88] (sr [im 89 12,im 90 15,ob 91 .eql 89 90,im 92 91,gt 93 92 (.mv 13),gt 94 92 (.mv 16),gt 95 92 (.bin .eql 93 94),op3 96 92 95 kF,im 97 96,gt 98 97 (.mv 14),gt 99 97 (.mv 17),gt 100 97 (.bin .eql 98 99),op3 101 97 100
 kF,im 102 101,gt 103 102 (.mv 18),gt 104 102 (.mv 20),oS ⟨some 105,.call AcM [103,104],some (102,true)⟩ D0,op3 106 102 105 kF,im 107 106,gt 108 107 (.mv 19),gt 109 107 (.mv 21),gt 110 107 (.bin .eql 108
 109),op3 111 107 110 kF,im 112 111,gt 113 112 (.mv 22),gt 114 112 (.mv 24),oS ⟨some 115,.call AcM [113,114],some (112,true)⟩ D0,op3 116 112 115 kF,im 117 116,gt 118 117 (.mv 23),gt 119 117 (.mv 25),gt
 120 117 (.bin .eql 118 119),op3 121 117 120 kF,im 122 121,oS ⟨some 123,.call AcD [],some (122,true)⟩ Df,op3 124 122 123 kF,ia 10 124] .ret))))))))))
def D4:AFn:=⟨Am3,FQ.erase,[.tmp 10],5⟩
def IZ(P:Pg)(x:((List Int)×(Bt8×(Bt8×(Int×Bool)))))(K:Bool→Unit→Prop):Prop:=
 (((cond (decide ((x.2.1.length:Int)>40)) true (decide ((x.2.2.1.length:Int)>40)))=true→Fn P AcD Df () (fun(d1:Bool) _=>K d1 ()))∧((cond (decide ((x.2.1.length:Int)>40)) true (decide ((x.2.2.1.length:Int)>40)))=false→Fn P Ajy HJ (x.1,((5:Int),(3:Int))) (fun(d3:(List Commit)) _=>Ac (D:=Int) (fun J5=>(((cond x.2.2.2.2 (decide ((d3.length:Int)>0)) false)=true→Fn P zS1 Cb (x.2.2.2.1,(d3.length:Int)) (fun(d7:Int) _=>J5 d7))∧((cond x.2.2.2.2 (decide ((d3.length:Int)>0)) false)=false→J5 x.2.2.2.1))) (fun d6=>Fn P AcF DE (x.2.1,x.2.2.1) (fun(d9:(Int×(Int×Int))) _=>Fn P AcI Di (x.2.1,x.2.2.1) (fun(d11:(Int×(Int×Int))) _=>Fn P zS2 BM (x.1,((0:Int),(3:Int))) (fun(d13:(List (Bt8×Bt8))) _=>Fn P zS2 BM (x.1,((300:Int),(3:Int))) (fun(d15:(List (Bt8×Bt8))) _=>Fn P zS7 CR (d13,d15) (fun(d17:((List Stat)×Int)) _=>Fn P zS2 BM (x.1,((0:Int),(3:Int))) (fun(d19:(List (Bt8×Bt8))) _=>Fn P zS2 BM (x.1,((300:Int),(3:Int))) (fun(d21:(List (Bt8×Bt8))) _=>Fn P zS8 Cr (d19,d21) (fun(d23:((List Stat)×Int)) _=>Fn P AjV Fs (d3,d6) (fun(d25:((List Stat)×Int)) _=>Fn P Aj0 EJ (d3,d6) (fun(d27:((List Stat)×Int)) _=>Ac (D:=Bool) (fun J29=>(((cond (cond (d9.1==d11.1) (d9.2.1==d11.2.1) false) (d9.2.2==d11.2.2) false)=true→Fn P AcM D0 (d17.1,d23.1) (fun(d30:Bool) _=>J29 d30))∧(((cond (cond (d9.1==d11.1) (d9.2.1==d11.2.1) false) (d9.2.2==d11.2.2) false)=false→J29 false)∧True))) (fun d31=>Ac (D:=Bool) (fun J32=>(((cond (cond (cond (cond (d9.1==d11.1) (d9.2.1==d11.2.1) false) (d9.2.2==d11.2.2) false) d31 false) (d17.2==d23.2) false)=true→Fn P AcM D0 (d25.1,d27.1) (fun(d33:Bool) _=>J32 d33))∧(((cond (cond (cond (cond (d9.1==d11.1) (d9.2.1==d11.2.1) false) (d9.2.2==d11.2.2) false) d31 false) (d17.2==d23.2) false)=false→J32 false)∧True))) (fun d34=>Ac (D:=Bool) (fun J35=>(((cond (cond (cond (cond (cond (cond (d9.1==d11.1) (d9.2.1==d11.2.1) false) (d9.2.2==d11.2.2) false) d31 false) (d17.2==d23.2) false) d34 false) (d25.2==d27.2) false)=true→Fn P AcD Df () (fun(d36:Bool) _=>J35 d36))∧(((cond (cond (cond (cond (cond (cond (d9.1==d11.1) (d9.2.1==d11.2.1) false) (d9.2.2==d11.2.2) false) d31 false) (d17.2==d23.2) false) d34 false) (d25.2==d27.2) false)=false→J35 false)∧True))) (fun d37=>K (cond (cond (cond (cond (cond (cond (cond (d9.1==d11.1) (d9.2.1==d11.2.1) false) (d9.2.2==d11.2.2) false) d31 false) (d17.2==d23.2) false) d34 false) (d25.2==d27.2) false) d37 false) ())))))))))))))))))
theorem Ow{P}(h:Has P D4){x K}(hw:IZ P x K):Fn P Am3 Ck x K:=
 ZF FQ h hw
def NT:Ax:=
 sr [ia 4 (kI 0)] (sq (sr [im 6 0,oc 7 zS6 [6] Cu,ia 5 7] (sr [im 8 5,ob 9 .neq 8 (kI 0)] (cn 9 (sr [im 10 5,ia 4 10] .ret) .skip))) (sr [im 11 1,oc 12 zS6 [11] Cu,ia 4 12] .ret))
def JT:AFn:=⟨ "mergelens/tree.both",NT.erase,[.tmp 4],2⟩
def SC(P:Pg)(x:((List (Bt8×Bt8))×(List (Bt8×Bt8))))(K:Int→Unit→Prop):Prop:=
 Fn P zS6 Cu x.1 (fun(d1:Int) _=>(((d1 !=0)=true→K d1 ())∧((d1 !=0)=false→Fn P zS6 Cu x.2 (fun(d3:Int) _=>K d3 ()))))
theorem Za{P}(h:Has P JT){x K}(hw:SC P x K):Fn P "mergelens/tree.both" JV x K:=
 ZF NT h hw
def Lc:Ax:=
 sr [ia 2 (kI 0),ia 3 (kI 0),ia 4 (kI 0),o1 5 (.asg kF)] (sq (sr [im 8 0,ol 9 8,o1 10 (.mv (kI 0))] (.frame (rg [2,3,4,5,7] 10 35) [1007] false (.join [.si 2,.si 3,.si 4,.sl 5 false .bool .leaf] (bk 0 (.loop [.si 2,.si 3,.si 4,.sl 5 false
 .bool .leaf,.si 10] (sr [ob 11 .lss 10 9] (sq (cx 11 0) (sq (.frame (rg [2,3,4,5,7] 12 32) [1007] false (.join [.si 2,.si 3,.si 4,.sl 5 false .bool .leaf] (bk 1 (sr [ox 12 3 8 10,o1 13 (.load true 3 12),o1 7 (.alloc [.string ⟨#[]⟩,.int
 .i64 0,.int .i64 0]),o0 ⟨none,.store 3 7 13,none⟩] (sq (sr [fa 14 1 7,ld 15 14,oc 16 zS3 [15] Bx,o1 17 (.un .not 16),im 18 17,gf 19 18 (.fAddr 2 7),gf 20 18 (.load false 1 19),oS ⟨some 21,.call
 zS3 [20],some (18,false)⟩ Bx,gf 22 18 (.un .not 21),op3 23 18 kT 22] (cn 23 (sr [ia 2 (kI 0),ia 3 (kI 0),ia 4 (kI 0),o1 5 (.asg kF)] .ret) .skip)) (sr [im 24 2,fa 25 1 7,ld 26 25,ob 27 .add 24 26,ia 2 27] (sr
 [im 28 3,fa 29 2 7,ld 30 29,ob 31 .add 28 30,ia 3 31] (sq (sr [im 32 2,im 33 3,ob 34 .add 32 33,oc 35 zS3 [34] Bx,o1 36 (.un .not 35)] (cn 36 (sr [ia 2 (kI 0),ia 3 (kI 0),ia 4 (kI 0),o1 5 (.asg kF)] .ret)
 .skip)) (rn [im 37 4,fa 38 1 7,ld 39 38,fa 40 2 7,ld 41 40,ob 42 .add 39 41,o1 43 (.mm true 37 42),ia 4 43]))))))))) (rn [ob 44 .add 10 (kI 1),im 10 44]))))))))) (sr [im 45 2,im 46 3,im 47 4,ia 2 45,ia 3 46,ia 4 47,o1 5 (.asg kT)] .ret))
def Hw:AFn:=⟨ "mergelens/stat.totals",Lc.erase,[.tmp 2,.tmp 3,.tmp 4,.tmp 5],1⟩
def O0(P:Pg)(x:(List Stat))(K:(Int×(Int×(Int×Bool)))→Unit→Prop):Prop:=
 Ac (D:=(Int×(Int×(Int×Bool)))) (fun J1=>Au (D:=(Int×(Int×(Int×(Bool×Int))))) ((0:Int),((0:Int),((0:Int),(false,(0:Int))))) (fun d3 J4=>(((decide (d3.2.2.2.2<(x.length:Int)))=true→Ac (D:=(Int×(Int×(Int×Bool)))) (fun J5=>(0≤d3.2.2.2.2∧d3.2.2.2.2<(x.length:Int))∧
 (d3.2.2.2.2.toNat<x.length)∧
 Fn P zS3 Bx (Qa0 x d3.2.2.2.2.toNat DN).2.1 (fun(d7:Bool) _=>Ac (D:=Bool) (fun J9=>(((!d7)=false→Fn P zS3 Bx (Qa0 x d3.2.2.2.2.toNat DN).2.2 (fun(d10:Bool) _=>J9 d10))∧(((!d7)=true→J9 false)∧True))) (fun d11=>(((cond (!d7) true (!d11))=true→K ((0:Int),((0:Int),((0:Int),false))) ())∧((cond (!d7) true (!d11))=false→Fn P zS3 Bx (i64.wrap ((i64.wrap (d3.1+(Qa0 x d3.2.2.2.2.toNat DN).2.1))+(i64.wrap (d3.2.1+(Qa0 x d3.2.2.2.2.toNat DN).2.2)))) (fun(d12:Bool) _=>(((!d12)=true→K ((0:Int),((0:Int),((0:Int),false))) ())∧((!d12)=false→J5 ((i64.wrap (d3.1+(Qa0 x d3.2.2.2.2.toNat DN).2.1)),((i64.wrap (d3.2.1+(Qa0 x d3.2.2.2.2.toNat DN).2.2)),((if(i64.wrap ((Qa0 x d3.2.2.2.2.toNat DN).2.1+(Qa0 x d3.2.2.2.2.toNat DN).2.2))>d3.2.2.1 then(i64.wrap ((Qa0 x d3.2.2.2.2.toNat DN).2.1+(Qa0 x d3.2.2.2.2.toNat DN).2.2))else d3.2.2.1),d3.2.2.2.1))))))))))) (fun d6=>J4 (d6.1,(d6.2.1,(d6.2.2.1,(d6.2.2.2,(i64.wrap (d3.2.2.2.2+1))))))))∧((decide (d3.2.2.2.2<(x.length:Int)))=false→J1 (d3.1,(d3.2.1,(d3.2.2.1,d3.2.2.2.1))))))) (fun d2=>K (d2.1,(d2.2.1,(d2.2.2.1,true))) ())
theorem U7{P}(h:Has P Hw){x K}(hw:O0 P x K):Fn P "mergelens/stat.totals" HA x K:=
 ZF Lc h hw
def K8:Ax:=
 sr [o1 2 (.asg (.c (.string ⟨#[]⟩)))] (sq (sr [im 3 0,ob 4 .lss 3 (kI 0),im 5 4,gf 6 5 (.mv 0),gf 7 5 (.bin .gtr 6 (kI 2147483647)),op3 8 5 kT 7] (cn 8 (sr [o1 2 (.asg (.c (.string ⟨#[]⟩)))] .ret) .skip)) (sr [im 9 0,oc 10 "strconv.Itoa"
 [9] IP,ia 2 10] .ret))
def Hs:AFn:=⟨ "mergelens/scan.Format",K8.erase,[.tmp 2],1⟩
def OW(P:Pg)(x:Int)(K:Bt8→Unit→Prop):Prop:=
 (((cond (decide (x<0)) true (decide (x>2147483647)))=true→K ([]:List UInt8) ())∧((cond (decide (x<0)) true (decide (x>2147483647)))=false→Fn P "strconv.Itoa" IP x (fun(d1:Bt8) _=>K d1 ())))
theorem U3{P}(h:Has P Hs){x K}(hw:OW P x K):Fn P "mergelens/scan.Format" Hy x K:=
 ZF K8 h hw
end Go.VS
