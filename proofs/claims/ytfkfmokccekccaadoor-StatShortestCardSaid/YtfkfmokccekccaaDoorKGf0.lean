/- Functions of the program: typed code, and what it says, lifted. -/
import Derived.Test.YtfkfmokccekccaaDoorKTxSig
import Derived.KernelRfl
set_option linter.unusedVariables false
set_option linter.unusedSimpArgs false
set_option maxRecDepth 8000
namespace Go.VS
open IntKind
def Gy:Bq:=
 (.seq (.region [o1 2 (.asg kF)]) (.seq (.region [im 3 0,o1 4 (.bin .geq 3 (kI 0)),im 5 4,gt 6 5 (.mv 0),gt 7 5 (.bin .leq 6 (kI 2147483647)),o1 8 (.pick 5 7 kF),ia 2 8])
 .ret))
def EH:AFn:=⟨zS0,Gy.erase,[.tmp 2],1⟩
def I1(P:Pg)(x:Int)(K:Bool→Unit→Prop):Prop:=
 K (cond (decide (x≥(0:Int))) (decide (x≤(2147483647:Int))) false) ()
theorem Nb{P:Pg}(h:Has P EH){x:DP AH.ps}{K:DP AH.rs→DP (ptrs AH.ps)→Prop}(hw:I1 P x K):Fn P zS0 AH x K:=
 Cx (c:=Gy) h rfl rfl (by kernel_rfl) (Eq.mpr (show Cq P EH AH Gy x K=_ by kernel_rfl) hw)
def Hl:Bq:=
 (.seq (.region [ia 4 (kI 0)]) (.seq (.seq (.region [im 5 0,o1 6 (.bin .eql 5 (kI 0))]) (.cond 6 (.seq (.region [ia 4 (kI 0)]) .ret) .skip)) (.seq (.region [im 7 0,ld 8 1,o1 9
 (.bin .sub 8 (kI 1)),o1 10 (.bin .mul 7 9),ld 11 2,o1 12 (.bin .quo 10 11),o1 13 (.bin .add (kI 1) 12),ia 4 13]) .ret)))
def E7:AFn:=⟨V0,Hl.erase,[.tmp 4],3⟩
def JO(P:Pg)(x:(Int×(Int×Int)))(K:Int→(Int×Int)→Prop):Prop:=
 (((x.1==(0:Int))=true→K (0:Int) x.2)∧((x.1==(0:Int))=false→(x.2.2≠0)∧
 K (i64.wrap ((1:Int)+(i64.wrap (Int.tdiv (i64.wrap (x.1*(i64.wrap (x.2.1 -(1:Int))))) x.2.2)))) x.2))
theorem Og{P:Pg}(h:Has P E7){x:DP BJ.ps}{K:DP BJ.rs→DP (ptrs BJ.ps)→Prop}(hw:JO P x K):Fn P V0 BJ x K:=
 Cx (c:=Hl) h rfl rfl (by kernel_rfl) (Eq.mpr (show Cq P E7 BJ Hl x K=_ by kernel_rfl) hw)
def JE:Bq:=
 (.seq (.region [o1 6 (.box 2),o1 7 (.box 3),ia 8 (kI 0),ia 9 (kI 0)]) (.seq (.seq (.region [ld 13 6,ld 14 7,o1 15 (.bin .leq 13 14)]) (.cond 15 (.seq (.region [im 16 0,im 17
 1,ia 8 16,ia 9 17]) .ret) .skip)) (.seq (.region [o1 18 (.mkf (V0,false) [7,6]),ia 10 18]) (.seq (.region [im 19 10,im 20 0,im 21 1,o1 22 (.bin .add 20
 21),oS ⟨some 23,.callv 19 [22],none⟩ BJ,ia 11 23]) (.seq (.seq (.region [im 24 0,o1 25 (.bin .gtr 24 (kI 0)),im 26 25,gt 27 26 (.mv 1),gt 28 26 (.bin .gtr 27 (kI
 0)),o1 29 (.pick 26 28 kF)]) (.frame [11,30,31] [] false (.join [.si 11] (.cond 29 (.region [im 30 11,o1 31 (.mm true 30 (kI 2)),ia 11 31]) .skip)))) (.seq (.region [im 32 10,
 im 33 0,im 34 1,o1 35 (.mm false 33 34),oS ⟨some 36,.callv 32 [35],none⟩ BJ,ia 12 36]) (.seq (.seq (.region [im 37 0,im 38 1,o1 39 (.bin .leq 37 38)]) (.cond 39
 (.seq (.region [im 40 12,im 41 11,im 42 12,o1 43 (.bin .sub 41 42),ia 8 40,ia 9 43]) .ret) .skip)) (.seq (.region [im 44 11,im 45 12,o1 46 (.bin .sub 44 45),im 47 12,ia 8
 46,ia 9 47]) .ret))))))))
def G4:AFn:=⟨XL,JE.erase,[.tmp 8,.tmp 9],4⟩
def MO(P:Pg)(x:Change)(K:(Int×Int)→Unit→Prop):Prop:=
 (((decide (x.2.2.1≤x.2.2.2))=true→K (x.1,x.2.1) ())∧((decide (x.2.2.1≤x.2.2.2))=false→Fn P V0 BJ ((i64.wrap (x.1+x.2.1)),(x.2.2.2,x.2.2.1)) (fun(d1:Int) (e2:(Int×Int))=>Av (D:=Int) (fun J3=>(((cond (decide (x.1>(0:Int))) (decide (x.2.1>(0:Int))) false)=true→J3 (if(2:Int)>d1 then(2:Int)else d1))∧((cond (decide (x.1>(0:Int))) (decide (x.2.1>(0:Int))) false)=false→J3 d1))) (fun d4=>Fn P V0 BJ ((if x.2.1<x.1 then x.2.1 else x.1),e2) (fun(d5:Int) (e6:(Int×Int))=>(((decide (x.1≤x.2.1))=true→K (d5,(i64.wrap (d4 -d5))) ())∧((decide (x.1≤x.2.1))=false→K ((i64.wrap (d4 -d5)),d5) ())))))))
theorem Rb{P:Pg}(h:Has P G4){x:DP CI.ps}{K:DP CI.rs→DP (ptrs CI.ps)→Prop}(hw:MO P x K):Fn P XL CI x K:=
 Cx (c:=JE) h rfl rfl (by kernel_rfl) (Eq.mpr (show Cq P G4 CI JE x K=_ by kernel_rfl) hw)
def JD:Bq:=
 (.seq (.region [ia 8 (kI 0),ia 9 (kI 0),ia 10 (kI 0)]) (.seq (.seq (.region [im 13 3,o1 14 (.bin .lss 13 (kI 2)),im 15 14,gf 16 15 (.mv 3),gf 17 15 (.bin .gtr 16 (kI 1000)),
 o1 18 (.pick 15 kT 17),im 19 18,gf 20 19 (.mv 0),oS ⟨some 21,.call zS0 [20],some (19,false)⟩ AH,gf 22 19 (.un .not 21),o1 23 (.pick 19 kT
 22),im 24 23,gf 25 24 (.mv 1),oS ⟨some 26,.call zS0 [25],some (24,false)⟩ AH,gf 27 24 (.un .not 26),o1 28 (.pick 24 kT 27),im 29 28,gf 30
 29 (.mv 2),oS ⟨some 31,.call zS0 [30],some (29,false)⟩ AH,gf 32 29 (.un .not 31),o1 33 (.pick 29 kT 32),im 34 33,gf 35 34 (.mv 2),gf 36 34
 (.mv 0),gf 37 34 (.mv 1),gf 38 34 (.bin .add 36 37),gf 39 34 (.bin .lss 35 38),o1 40 (.pick 34 kT 39)]) (.cond 40 (.seq (.region [ia 8 (kI 0),ia 9 (kI 0),ia 10 (kI 3)]) .ret)
 .skip)) (.seq (.region [im 42 0,im 43 1,im 44 2,im 45 3,oS ⟨some 46,.call XL [42,43,44,45],none⟩ CI,im 41 46,o1 47 (.ext 41 0),o1 48 (.ext 41
 1),ia 11 47,ia 12 48]) (.seq (.region [im 49 11,im 50 12,ia 8 49,ia 9 50,ia 10 (kI 0)]) .ret))))
def G3:AFn:=⟨V1,JD.erase,[.tmp 8,.tmp 9,.tmp 10],4⟩
def MN(P:Pg)(x:Change)(K:(Int×(Int×Int))→Unit→Prop):Prop:=
 Av (D:=Bool) (fun J1=>(((cond (decide (x.2.2.2<(2:Int))) true (decide (x.2.2.2>(1000:Int))))=false→Fn P zS0 AH x.1 (fun(d2:Bool) _=>J1 d2))∧(((cond (decide (x.2.2.2<(2:Int))) true (decide (x.2.2.2>(1000:Int))))=true→J1 false)∧True))) (fun d3=>Av (D:=Bool) (fun J4=>(((cond (cond (decide (x.2.2.2<(2:Int))) true (decide (x.2.2.2>(1000:Int)))) true (!d3))=false→Fn P zS0 AH x.2.1 (fun(d5:Bool) _=>J4 d5))∧(((cond (cond (decide (x.2.2.2<(2:Int))) true (decide (x.2.2.2>(1000:Int)))) true (!d3))=true→J4 false)∧True))) (fun d6=>Av (D:=Bool) (fun J7=>(((cond (cond (cond (decide (x.2.2.2<(2:Int))) true (decide (x.2.2.2>(1000:Int)))) true (!d3)) true (!d6))=false→Fn P zS0 AH x.2.2.1 (fun(d8:Bool) _=>J7 d8))∧(((cond (cond (cond (decide (x.2.2.2<(2:Int))) true (decide (x.2.2.2>(1000:Int)))) true (!d3)) true (!d6))=true→J7 false)∧True))) (fun d9=>(((cond (cond (cond (cond (cond (decide (x.2.2.2<(2:Int))) true (decide (x.2.2.2>(1000:Int)))) true (!d3)) true (!d6)) true (!d9)) true (decide (x.2.2.1<(i64.wrap (x.1+x.2.1)))))=true→K ((0:Int),((0:Int),(3:Int))) ())∧((cond (cond (cond (cond (cond (decide (x.2.2.2<(2:Int))) true (decide (x.2.2.2>(1000:Int)))) true (!d3)) true (!d6)) true (!d9)) true (decide (x.2.2.1<(i64.wrap (x.1+x.2.1)))))=false→Fn P XL CI x (fun(d10:(Int×Int)) (e11:Unit)=>K (d10.1,(d10.2,(0:Int))) ()))))))
theorem Ra{P:Pg}(h:Has P G3){x:DP CH.ps}{K:DP CH.rs→DP (ptrs CH.ps)→Prop}(hw:MN P x K):Fn P V1 CH x K:=
 Cx (c:=JD) h rfl rfl (by kernel_rfl) (Eq.mpr (show Cq P G3 CH JD x K=_ by kernel_rfl) hw)
def Gu:Bq:=
 (.seq (.region [o1 0 (.asg kF)]) (.seq (.region [oS ⟨some 7,.call V1 [(kI 60),(kI 40),(kI 100),(kI 10)],none⟩ CH,im 6 7,o1 8 (.ext 6 0),o1 9 (.ext
 6 1),o1 10 (.ext 6 2),ia 1 8,ia 2 9,ia 3 10]) (.seq (.region [o1 12 (.build [(.string ⟨#[]⟩),(.int .i64 0),(.int .i64 0)] [(0,1,(.c (.string ⟨#[120]⟩))),(1,1,(kI 1)),
 (2,1,(kI 2))]),oT ⟨some 13,.buildSl 3 [(.string ⟨#[]⟩),(.int .i64 0),(.int .i64 0)] 1 [(0,12)],none⟩ (some (Hw,.leaf)),oS ⟨some 14,.call "mergelens/stat.Format" [13,
 (kI 10)],none⟩ EJ,im 11 14,o1 15 (.ext 11 0),o1 16 (.ext 11 1),ia 4 15,ia 5 16]) (.seq (.region [im 17 3,o1 18 (.bin .eql 17 (kI 0)),im 19 18,gt 20 19 (.mv 5),
 gt 21 19 (.bin .eql 20 (kI 0)),o1 22 (.pick 19 21 kF),im 23 22,gt 24 23 (.mv 1),gt 25 23 (.bin .eql 24 (kI 6)),o1 26 (.pick 23 25 kF),im 27 26,gt 28 27 (.mv 2),gt 29 27
 (.bin .eql 28 (kI 4)),o1 30 (.pick 27 29 kF),im 31 30,gt 32 31 (.mv 4),o0 ⟨some 33,.bin .eql 32 (.c (.string ⟨#[32,120,32,124,32,51,32,43,45,45,10,32,49,32,102,
 105,108,101,115,44,32,49,32,97,100,100,101,100,44,32,50,32,114,101,109,111,118,101,100,10]⟩)),some (31,true)⟩,o1 34 (.pick 31 33 kF),ia 0 34]) .ret))))
def ED:AFn:=⟨zS5,Gu.erase,[.tmp 0],0⟩
def IW(P:Pg)(x:Unit)(K:Bool→Unit→Prop):Prop:=
 Fn P V1 CH ((60:Int),((40:Int),((100:Int),(10:Int)))) (fun(d1:(Int×(Int×Int))) (e2:Unit)=>Fn P "mergelens/stat.Format" EJ (([(([120]:List UInt8),((1:Int),(2:Int)))]:List Stat),(10:Int)) (fun(d3:((List UInt8)×Int)) (e4:Unit)=>K (cond (cond (cond (cond (d1.2.2==(0:Int)) (d3.2==(0:Int)) false) (d1.1==(6:Int)) false) (d1.2.1==(4:Int)) false) (d3.1==([32,120,32,124,32,51,32,43,45,45,10,32,49,32,102,105,108,101,115,44,32,49,32,97,100,100,101,100,44,32,50,32,114,101,109,111,118,101,100,10]:List UInt8)) false) ()))
theorem M7{P:Pg}(h:Has P ED){x:DP Be.ps}{K:DP Be.rs→DP (ptrs Be.ps)→Prop}(hw:IW P x K):Fn P zS5 Be x K:=
 Cx (c:=Gu) h rfl rfl (by kernel_rfl) (Eq.mpr (show Cq P ED Be Gu x K=_ by kernel_rfl) hw)
def LL:Bq:=
 (.seq (.region [ia 4 (kI 0)]) (.seq (.region [im 5 0,o1 6 (.conv (.toInt .u64) 5),im 7 1,o1 8 (.conv (.toInt .u64) 7),o1 9 (.bin .rem 6 8),o1 10 (.conv (.toInt .i64) 9),ia 4
 10]) .ret))
def Il:AFn:=⟨zS3,LL.erase,[.tmp 4],2⟩
def OE(P:Pg)(x:(Int×Int))(K:Int→Unit→Prop):Prop:=
 ((u64.wrap x.2)≠0)∧
 K (i64.wrap (Int.tmod (u64.wrap x.1) (u64.wrap x.2))) ()
theorem Ta{P:Pg}(h:Has P Il){x:DP B2.ps}{K:DP B2.rs→DP (ptrs B2.ps)→Prop}(hw:OE P x K):Fn P zS3 B2 x K:=
 Cx (c:=LL) h rfl rfl (by kernel_rfl) (Eq.mpr (show Cq P Il B2 LL x K=_ by kernel_rfl) hw)
def N1:Bq:=
 (.seq (.region [ia 4 (kI 0)]) (.seq (.region [im 6 1,o1 7 (.bin .add 6 (kI 1)),o1 8 (.conv (.toInt .u64) 7),o1 9 (.bin .mul 8 (.c (.int .u64 11400714819323198485))),ia 5 9])
 (.seq (.seq (.region [im 10 0,o1 11 (.lenK 10),o1 12 (.bin .gtr 11 (kI 0))]) (.frame (rg [5] 13 10) [] false (.join [.sl 5 false (.int .u64) .leaf] (.cond 12 (.region [im 13 5,
 im 14 0,im 15 1,im 16 0,o1 17 (.lenK 16),o1 18 (.bin .rem 15 17),o1 19 (.ixA 1 14 18),ld 20 19,o1 21 (.conv (.toInt .u64) 20),o1 22 (.bin .xor 13 21),ia 5 22]) .skip))))
 (.seq (.region [im 23 5,im 24 5,o1 25 (.bin .shr 24 (.c (.int .u64 31))),o1 26 (.bin .xor 23 25),o1 27 (.bin .mul 26 (.c (.int .u64 13787848793156543929))),ia 5 27]) (.seq
 (.region [im 28 5,im 29 5,o1 30 (.bin .shr 29 (.c (.int .u64 29))),o1 31 (.bin .xor 28 30),o1 32 (.bin .shr 31 (.c (.int .u64 1))),o1 33 (.conv (.toInt .i64) 32),ia 4 33])
 .ret)))))
def JL:AFn:=⟨zS2,N1.erase,[.tmp 4],2⟩
def QI(P:Pg)(x:((List Int)×Int))(K:Int→Unit→Prop):Prop:=
 Av (D:=Int) (fun J1=>(((decide ((x.1.length:Int)>(0:Int)))=true→((x.1.length:Int)≠0)∧
 (0≤(Int.tmod x.2 (x.1.length:Int))∧(Int.tmod x.2 (x.1.length:Int))<(x.1.length:Int))∧
 ((Int.toNat (Int.tmod x.2 (x.1.length:Int)))<x.1.length)∧
 J1 (u64.wrap ((BitVec.toNat (BitVec.ofInt u64.bits (u64.wrap ((u64.wrap (i64.wrap (x.2+(1:Int))))*(11400714819323198485:Int)))^^^BitVec.ofInt u64.bits (u64.wrap (List.getD x.1 (Int.toNat (Int.tmod x.2 (x.1.length:Int))) (0:Int)))):Nat):Int)))∧((decide ((x.1.length:Int)>(0:Int)))=false→J1 (u64.wrap ((u64.wrap (i64.wrap (x.2+(1:Int))))*(11400714819323198485:Int)))))) (fun d2=>(0≤(31:Int))∧
 (0≤(29:Int))∧
 (0≤(1:Int))∧
 K (i64.wrap (Int.fdiv (u64.wrap ((BitVec.toNat (BitVec.ofInt u64.bits (u64.wrap ((u64.wrap ((BitVec.toNat (BitVec.ofInt u64.bits d2^^^BitVec.ofInt u64.bits (Int.fdiv d2 (2^(min (Int.toNat (31:Int)) u64.bits)))):Nat):Int))*(13787848793156543929:Int)))^^^BitVec.ofInt u64.bits (Int.fdiv (u64.wrap ((u64.wrap ((BitVec.toNat (BitVec.ofInt u64.bits d2^^^BitVec.ofInt u64.bits (Int.fdiv d2 (2^(min (Int.toNat (31:Int)) u64.bits)))):Nat):Int))*(13787848793156543929:Int))) (2^(min (Int.toNat (29:Int)) u64.bits)))):Nat):Int)) (2^(min (Int.toNat (1:Int)) u64.bits)))) ())
theorem Vf{P:Pg}(h:Has P JL){x:DP BK.ps}{K:DP BK.rs→DP (ptrs BK.ps)→Prop}(hw:QI P x K):Fn P zS2 BK x K:=
 Cx (c:=N1) h rfl rfl (by kernel_rfl) (Eq.mpr (show Cq P JL BK N1 x K=_ by kernel_rfl) hw)
def JB:Bq:=
 (.seq (.region [o1 2 (.asg (.c (.string ⟨#[]⟩)))]) (.seq (.region [oT ⟨some 3,.buildSl 1 [(.string ⟨#[]⟩)] 10 [(0,(.c (.string ⟨#[97]⟩))),(1,(.c (.string ⟨#[98]⟩))),(2,(.c
 (.string ⟨#[99]⟩))),(3,(.c (.string ⟨#[97,98]⟩))),(4,(.c (.string ⟨#[98,97]⟩))),(5,(.c (.string ⟨#[]⟩))),(6,(.c (.string ⟨#[97,97]⟩))),(7,(.c (.string ⟨#[98,32,
 97]⟩))),(8,(.c (.string ⟨#[120,43,121]⟩))),(9,(.c (.string ⟨#[92]⟩)))],none⟩ (some (.str,.leaf)),im 4 0,oS ⟨some 5,.call zS3 [4,(kI 10)],none⟩
 B2,o1 6 (.ixA 1 3 5),ld 7 6,ia 2 7]) .ret))
def G1:AFn:=⟨zS9,JB.erase,[.tmp 2],1⟩
abbrev H7:List (List UInt8):=([([97]:List UInt8),([98]:List UInt8),([99]:List UInt8),([97,98]:List UInt8),([98,97]:List UInt8),([]:List UInt8),([97,97]:List UInt8),([98,32,97]:List UInt8),([120,43,121]:List UInt8),([92]:List UInt8)]:List (List UInt8))
def ML(P:Pg)(x:Int)(K:(List UInt8)→Unit→Prop):Prop:=
 Fn P zS3 B2 (x,(10:Int)) (fun(d1:Int) (e2:Unit)=>(0≤d1∧d1<((List.length H7:Nat):Int))∧
 (d1.toNat<List.length H7)∧
 K (List.getD H7 d1.toNat []) ())
theorem Q8{P:Pg}(h:Has P G1){x:DP Ck.ps}{K:DP Ck.rs→DP (ptrs Ck.ps)→Prop}(hw:ML P x K):Fn P zS9 Ck x K:=
 Cx (c:=JB) h rfl rfl (by kernel_rfl) (Eq.mpr (show Cq P G1 Ck JB x K=_ by kernel_rfl) hw)
def JA:Bq:=
 (.seq (.region [o1 8 (.asg (.c (.string ⟨#[]⟩)))]) (.seq (.region [im 11 0,im 12 1,oS ⟨some 13,.call zS2 [11,12],none⟩ BK,im 14 2,o1 15 (.bin
 .add 14 (kI 1)),oS ⟨some 16,.call zS3 [13,15],none⟩ B2,ia 2 16]) (.seq (.region [o1 9 (.asg (.c (.string ⟨#[]⟩)))]) (.seq (.seq (.region [ia 10
 (kI 0)]) (.frame (rg [9,10] 17 17) [] false (.join [.sl 9 false .str .leaf] (.block 0 (.loop [.sl 9 false .str .leaf,.si 10] (.seq (.seq (.region [im 17 10,im 18 2,o1 19 (.bin
 .lss 17 18)]) (.cond 19 .skip (.exit 0))) (.seq (.frame (rg [9] 22 12) [] false (.join [.sl 9 false .str .leaf] (.block 1 (.region [im 22 9,im 23 0,im 24 1,o1 25 (.bin .add 24
 (kI 1)),im 26 10,o1 27 (.bin .add 25 26),oS ⟨some 28,.call zS2 [23,27],none⟩ BK,im 29 3,oS ⟨some 30,.call zS3 [28,
 29],none⟩ B2,oS ⟨some 31,.call zS9 [30],none⟩ Ck,o1 32 (.bin .add 22 31),o1 33 (.bin .add 32 (.c (.string ⟨#[10]⟩))),ia 9 33]))))
 (.region [im 20 10,o1 21 (.bin .add 20 (kI 1)),ia 10 21])))))))) (.seq (.seq (.region [im 34 0,im 35 1,o1 36 (.bin .add 35 (kI 90)),oS ⟨some 37,.call
 zS2 [34,36],none⟩ BK,o1 38 (.bin .rem 37 (kI 4)),o1 39 (.bin .eql 38 (kI 0)),im 40 39,gt 41 40 (.mv 9),gt 42 40 (.Jp 41),gt 43 40 (.bin .gtr
 42 (kI 1)),o1 44 (.pick 40 43 kF),im 45 44,gt 46 45 (.mv 9),gt 47 45 (.mv 9),gt 48 45 (.Jp 47),gt 49 45 (.bin .sub 48 (kI 2)),gt 50 45 (.ixS 46 49),gt 51 45 (.bin .neq 50
 (.c (.int .u8 10))),o1 52 (.pick 45 51 kF)]) (.frame (rg [9] 53 5) [] false (.join [.sl 9 false .str .leaf] (.cond 52 (.region [im 53 9,im 54 9,o1 55 (.Jp 54),o1 56 (.bin
 .sub 55 (kI 1)),o1 57 (.slS 53 none (some 56)),ia 9 57]) .skip)))) (.seq (.region [im 58 9,ia 8 58]) .ret))))))
def G0:AFn:=⟨XM,JA.erase,[.tmp 8],4⟩
def MK(P:Pg)(x:((List Int)×(Int×(Int×Int))))(K:(List UInt8)→Unit→Prop):Prop:=
 Fn P zS2 BK (x.1,x.2.1) (fun(d1:Int) (e2:Unit)=>Fn P zS3 B2 (d1,(i64.wrap (x.2.2.1+(1:Int)))) (fun(d3:Int) (e4:Unit)=>Av (D:=(List UInt8)) (fun J5=>DD (D:=((List UInt8)×Int)) (([]:List UInt8),(0:Int)) (fun d7 J8=>(((decide (d7.2<d3))=true→Av (D:=(List UInt8)) (fun J9=>Fn P zS2 BK (x.1,(i64.wrap ((i64.wrap (x.2.1+(1:Int)))+d7.2))) (fun(d11:Int) (e12:Unit)=>Fn P zS3 B2 (d11,x.2.2.2) (fun(d13:Int) (e14:Unit)=>Fn P zS9 Ck d13 (fun(d15:(List UInt8)) (e16:Unit)=>(d7.1.length+d15.length≤9223372036854775807)∧
 (List.length (d7.1++d15)+List.length ([10]:List UInt8)≤9223372036854775807)∧
 J9 ((d7.1++d15)++([10]:List UInt8)))))) (fun d10=>J8 (d10,(i64.wrap (d7.2+(1:Int))))))∧((decide (d7.2<d3))=false→J5 d7.1)))) (fun d6=>Fn P zS2 BK (x.1,(i64.wrap (x.2.1+(90:Int)))) (fun(d17:Int) (e18:Unit)=>((4:Int)≠0)∧
 (((cond ((Int.tmod d17 (4:Int))==(0:Int)) (decide ((d6.length:Int)>(1:Int))) false)=true→0≤(i64.wrap ((d6.length:Int) -(2:Int)))∧(i64.wrap ((d6.length:Int) -(2:Int)))<(d6.length:Int)))∧
 Av (D:=(List UInt8)) (fun J19=>(((cond (cond ((Int.tmod d17 (4:Int))==(0:Int)) (decide ((d6.length:Int)>(1:Int))) false) (((UInt8.toNat (List.getD d6 (Int.toNat (i64.wrap ((d6.length:Int) -(2:Int)))) 0):Nat):Int) !=(10:Int)) false)=true→(0≤(i64.wrap ((d6.length:Int) -(1:Int)))∧(i64.wrap ((d6.length:Int) -(1:Int)))≤(d6.length:Int))∧
 J19 (List.take (Int.toNat (i64.wrap ((d6.length:Int) -(1:Int)))) d6))∧((cond (cond ((Int.tmod d17 (4:Int))==(0:Int)) (decide ((d6.length:Int)>(1:Int))) false) (((UInt8.toNat (List.getD d6 (Int.toNat (i64.wrap ((d6.length:Int) -(2:Int)))) 0):Nat):Int) !=(10:Int)) false)=false→J19 d6))) (fun d20=>K d20 ())))))
theorem Q7{P:Pg}(h:Has P G0){x:DP Dh.ps}{K:DP Dh.rs→DP (ptrs Dh.ps)→Prop}(hw:MK P x K):Fn P XM Dh x K:=
 Cx (c:=JA) h rfl rfl (by kernel_rfl) (Eq.mpr (show Cq P G0 Dh JA x K=_ by kernel_rfl) hw)
def Gv:Bq:=
 (.seq (.region [o1 2 (.asg (.c (.slice none 0 0)))]) (.seq (.region [o1 3 (.asg (.c (.slice none 0 0)))]) (.seq (.region [ia 4 (kI 0)]) (.seq (.seq (.region [ia 5 (kI 0)]) (.frame
 (rg [] 3 30) [] false (.join [.sl 3 false (.sl .str) tO] (.block 0 (.loop [.sl 3 false (.sl .str) tO,.si 4,.si 5] (.seq (.seq (.region [im 6 5,im 7 0,o1 8 (.Jp 7),o1 9 (.bin
 .lss 6 8)]) (.cond 9 .skip (.exit 0))) (.seq (.frame (rg [3,4] 12 21) [] false (.join [.sl 3 false (.sl .str) tO,.si 4] (.block 1 (.seq (.region [im 12 0,im 13 5,o1 14 (.ixS 12
 13),o1 15 (.bin .eql 14 (.c (.int .u8 10))),im 16 15,gf 17 16 (.mv 5),gf 18 16 (.bin .add 17 (kI 1)),gf 19 16 (.mv 0),gf 20 16 (.Jp 19),gf 21 16 (.bin .eql 18 20),o1 22
 (.pick 16 kT 21)]) (.frame (rg [3,4] 23 10) [] false (.join [.sl 3 false (.sl .str) tO,.si 4] (.cond 22 (.seq (.region [im 23 3,im 24 0,im 25 4,im 26 5,o1 27 (.bin .add 26
 (kI 1)),o1 28 (.slS 24 (some 25) (some 27)),oT ⟨some 29,.buildSl 1 [(.string ⟨#[]⟩)] 1 [(0,28)],none⟩ (some (.str,.leaf)),oT ⟨some 30,.app 1 16 23 29,none⟩ (some (.str,
 .leaf)),ia 3 30]) (.region [im 31 5,o1 32 (.bin .add 31 (kI 1)),ia 4 32])) .skip))))))) (.region [im 10 5,o1 11 (.bin .add 10 (kI 1)),ia 5 11])))))))) (.seq (.region [im 33 3,
 ia 2 33]) .ret)))))
def EE:AFn:=⟨zS1,Gv.erase,[.tmp 2],1⟩
def IX(P:Pg)(x:(List UInt8))(K:(List (List UInt8))→Unit→Prop):Prop:=
 Av (D:=(List (List UInt8))) (fun J1=>DD (D:=((List (List UInt8))×(Int×Int))) ([],((0:Int),(0:Int))) (fun d3 J4=>(((decide (d3.2.2<(x.length:Int)))=true→Av (D:=((List (List UInt8))×Int)) (fun J5=>(0≤d3.2.2∧d3.2.2<(x.length:Int))∧
 Av (D:=((List (List UInt8))×Int)) (fun J7=>(((cond (((x.getD d3.2.2.toNat 0).toNat:Int)==(10:Int)) true ((i64.wrap (d3.2.2+(1:Int)))==(x.length:Int)))=true→(0≤d3.2.1∧d3.2.1≤(i64.wrap (d3.2.2+(1:Int)))∧(i64.wrap (d3.2.2+(1:Int)))≤(x.length:Int))∧
 ((d3.1.length+List.length ([(List.drop d3.2.1.toNat (List.take (Int.toNat (i64.wrap (d3.2.2+(1:Int)))) x))]:List (List UInt8)))*16≤140737488355328)∧
 J7 ((d3.1++([(List.drop d3.2.1.toNat (List.take (Int.toNat (i64.wrap (d3.2.2+(1:Int)))) x))]:List (List UInt8))),(i64.wrap (d3.2.2+(1:Int)))))∧((cond (((x.getD d3.2.2.toNat 0).toNat:Int)==(10:Int)) true ((i64.wrap (d3.2.2+(1:Int)))==(x.length:Int)))=false→J7 (d3.1,d3.2.1)))) (fun d8=>J5 d8)) (fun d6=>J4 (d6.1,(d6.2,(i64.wrap (d3.2.2+(1:Int)))))))∧((decide (d3.2.2<(x.length:Int)))=false→J1 d3.1)))) (fun d2=>K d2 ())
theorem M8{P:Pg}(h:Has P EE){x:DP AJ.ps}{K:DP AJ.rs→DP (ptrs AJ.ps)→Prop}(hw:IX P x K):Fn P zS1 AJ x K:=
 Cx (c:=Gv) h rfl rfl (by kernel_rfl) (Eq.mpr (show Cq P EE AJ Gv x K=_ by kernel_rfl) hw)
def JC:Bq:=
 (.seq (.region [o1 6 (.asg (.c (.string ⟨#[]⟩)))]) (.seq (.region [im 10 0,oS ⟨some 11,.call zS1 [10],none⟩ AJ,ia 7 11]) (.seq (.region
 [o1 8 (.asg (.c (.string ⟨#[]⟩)))]) (.seq (.seq (.region [ia 9 (kI 0)]) (.frame (rg [8,9] 12 32) [] false (.join [.sl 8 false .str .leaf] (.block 0 (.loop [.sl 8 false .str .leaf,
 .si 9] (.seq (.seq (.region [im 12 9,im 13 7,o1 14 (.lenK 13),o1 15 (.bin .lss 12 14)]) (.cond 15 .skip (.exit 0))) (.seq (.frame (rg [8] 18 26) [] false (.join [.sl 8 false
 .str .leaf] (.block 1 (.seq (.seq (.region [im 18 1,im 19 2,im 20 9,o1 21 (.bin .add 19 20),oS ⟨some 22,.call zS2 [18,21],none⟩ BK,o1 23 (.bin
 .rem 22 (kI 6))]) (.frame (rg [8] 24 14) [] false (.join [.sl 8 false .str .leaf] (.block 2 (.seq (.region [o1 25 (.bin .eql 23 (kI 0)),ia 24 25]) (.cond 24 (.exit 1) (.seq
 (.region [o1 27 (.bin .eql 23 (kI 1)),ia 26 27]) (.frame (rg [8] 28 10) [] false (.join [.sl 8 false .str .leaf] (.cond 26 (.region [im 28 8,im 29 1,im 30 2,o1 31 (.bin .add 30
 (kI 40)),im 32 9,o1 33 (.bin .add 31 32),oS ⟨some 34,.call zS2 [29,33],none⟩ BK,oS ⟨some 35,.call zS9 [34],none⟩
 Ck,o1 36 (.bin .add 28 35),o1 37 (.bin .add 36 (.c (.string ⟨#[10]⟩))),ia 8 37]) .skip)))))))))) (.region [im 38 8,im 39 7,im 40 9,o1 41 (.ixA 1 39 40),ld 42 41,o1
 43 (.bin .add 38 42),ia 8 43]))))) (.region [im 16 9,o1 17 (.bin .add 16 (kI 1)),ia 9 17])))))))) (.seq (.region [im 44 8,ia 6 44]) .ret)))))
def G2:AFn:=⟨XN,JC.erase,[.tmp 6],3⟩
def MM(P:Pg)(x:((List UInt8)×((List Int)×Int)))(K:(List UInt8)→Unit→Prop):Prop:=
 Fn P zS1 AJ x.1 (fun(d1:(List (List UInt8))) (e2:Unit)=>Av (D:=(List UInt8)) (fun J3=>DD (D:=((List UInt8)×Int)) (([]:List UInt8),(0:Int)) (fun d5 J6=>(((decide (d5.2<(d1.length:Int)))=true→Av (D:=(List UInt8)) (fun J7=>Fn P zS2 BK (x.2.1,(i64.wrap (x.2.2+d5.2))) (fun(d9:Int) (e10:Unit)=>((6:Int)≠0)∧
 Av (D:=(List UInt8)) (fun J11=>((((Int.tmod d9 (6:Int))==(0:Int))=true→J7 d5.1)∧(((Int.tmod d9 (6:Int))==(0:Int))=false→Av (D:=(List UInt8)) (fun J13=>((((Int.tmod d9 (6:Int))==(1:Int))=true→Fn P zS2 BK (x.2.1,(i64.wrap ((i64.wrap (x.2.2+(40:Int)))+d5.2))) (fun(d15:Int) (e16:Unit)=>Fn P zS9 Ck d15 (fun(d17:(List UInt8)) (e18:Unit)=>(d5.1.length+d17.length≤9223372036854775807)∧
 (List.length (d5.1++d17)+List.length ([10]:List UInt8)≤9223372036854775807)∧
 J13 ((d5.1++d17)++([10]:List UInt8)))))∧(((Int.tmod d9 (6:Int))==(1:Int))=false→J13 d5.1))) (fun d14=>J11 d14)))) (fun d12=>(0≤d5.2∧d5.2<(d1.length:Int))∧
 (d5.2.toNat<d1.length)∧
 (d12.length+List.length (List.getD d1 d5.2.toNat [])≤9223372036854775807)∧
 J7 (d12++(List.getD d1 d5.2.toNat []))))) (fun d8=>J6 (d8,(i64.wrap (d5.2+(1:Int))))))∧((decide (d5.2<(d1.length:Int)))=false→J3 d5.1)))) (fun d4=>K d4 ()))
theorem Q9{P:Pg}(h:Has P G2){x:DP Di.ps}{K:DP Di.rs→DP (ptrs Di.ps)→Prop}(hw:MM P x K):Fn P XN Di x K:=
 Cx (c:=JC) h rfl rfl (by kernel_rfl) (Eq.mpr (show Cq P G2 Di JC x K=_ by kernel_rfl) hw)
def Hn:Bq:=
 (.seq (.region [o1 2 (.asg kF)]) (.seq (.region [im 3 0,oS ⟨some 4,.call "strings.HasSuffix" [3,(.c (.string ⟨#[10]⟩))],none⟩ BP,ia 2 4]) .ret))
def E9:AFn:=⟨XO,Hn.erase,[.tmp 2],1⟩
def JQ(P:Pg)(x:(List UInt8))(K:Bool→Unit→Prop):Prop:=
 Fn P "strings.HasSuffix" BP (x,([10]:List UInt8)) (fun(d1:Bool) (e2:Unit)=>K d1 ())
theorem Oi{P:Pg}(h:Has P E9){x:DP Cf.ps}{K:DP Cf.rs→DP (ptrs Cf.ps)→Prop}(hw:JQ P x K):Fn P XO Cf x K:=
 Cx (c:=Hn) h rfl rfl (by kernel_rfl) (Eq.mpr (show Cq P E9 Cf Hn x K=_ by kernel_rfl) hw)
def Hm:Bq:=
 (.seq (.region [ia 2 (kI 0)]) (.seq (.region [im 4 0,oS ⟨some 5,.call "strings.Count" [4,(.c (.string ⟨#[10]⟩))],none⟩ CU,ia 3 5]) (.seq (.seq (.region [im 6 0,
 o1 7 (.bin .neq 6 (.c (.string ⟨#[]⟩))),im 8 7,gt 9 8 (.mv 0),oS ⟨some 10,.call XO [9],some (8,true)⟩ Cf,gt 11 8 (.un .not 10),o1 12 (.pick 8
 11 kF)]) (.frame [3,13,14] [] false (.join [.si 3] (.cond 12 (.region [im 13 3,o1 14 (.bin .add 13 (kI 1)),ia 3 14]) .skip)))) (.seq (.seq (.region [im 15 0,o1 16 (.Jp 15),
 o1 17 (.bin .gtr 16 (kI 1048576)),im 18 17,gf 19 18 (.mv 3),gf 20 18 (.bin .gtr 19 (kI 4096)),o1 21 (.pick 18 kT 20)]) (.cond 21 (.seq (.region [ia 2 (kI 1)]) .ret) .skip))
 (.seq (.region [ia 2 (kI 0)]) .ret)))))
def E8:AFn:=⟨XP,Hm.erase,[.tmp 2],1⟩
def JP(P:Pg)(x:(List UInt8))(K:Int→Unit→Prop):Prop:=
 Fn P "strings.Count" CU (x,([10]:List UInt8)) (fun(d1:Int) (e2:Unit)=>Av (D:=Bool) (fun J3=>(((!(x==([]:List UInt8)))=true→Fn P XO Cf x (fun(d4:Bool) _=>J3 d4))∧(((!(x==([]:List UInt8)))=false→J3 false)∧True))) (fun d5=>Av (D:=Int) (fun J6=>(((cond (!(x==([]:List UInt8))) (!d5) false)=true→J6 (i64.wrap (d1+(1:Int))))∧((cond (!(x==([]:List UInt8))) (!d5) false)=false→J6 d1))) (fun d7=>(((cond (decide ((x.length:Int)>(1048576:Int))) true (decide (d7>(4096:Int))))=true→K (1:Int) ())∧((cond (decide ((x.length:Int)>(1048576:Int))) true (decide (d7>(4096:Int))))=false→K (0:Int) ())))))
theorem Oh{P:Pg}(h:Has P E8){x:DP Ce.ps}{K:DP Ce.rs→DP (ptrs Ce.ps)→Prop}(hw:JP P x K):Fn P XP Ce x K:=
 Cx (c:=Hm) h rfl rfl (by kernel_rfl) (Eq.mpr (show Cq P E8 Ce Hm x K=_ by kernel_rfl) hw)
def Ho:Bq:=
 (.seq (.region [o1 2 (.asg (.c (.slice none 0 0))),ia 3 (kI 0)]) (.seq (.seq (.region [im 6 0,oS ⟨some 7,.call XP [6],none⟩ Ce,ia 4 7]) (.seq
 (.region [im 8 4,o1 9 (.bin .neq 8 (kI 0))]) (.cond 9 (.seq (.region [im 10 4,o1 2 (.asg (.c (.slice none 0 0))),ia 3 10]) .ret) .skip))) (.seq (.region [im 11 0,oS ⟨some 12,
 .call "strings.SplitAfter" [11,(.c (.string ⟨#[10]⟩))],none⟩ Cd,ia 5 12]) (.seq (.seq (.region [im 13 5,im 14 5,o1 15 (.lenK 14),o1 16 (.bin .sub 15 (kI
 1)),o1 17 (.ixA 1 13 16),ld 18 17,o1 19 (.bin .eql 18 (.c (.string ⟨#[]⟩)))]) (.frame (rg [5] 20 5) [] false (.join [.sl 5 false (.sl .str) tO] (.cond 19 (.region [im 20 5,im
 21 5,o1 22 (.lenK 21),o1 23 (.bin .sub 22 (kI 1)),o1 24 (.slK 1 20 none (some 23)),ia 5 24]) .skip)))) (.seq (.region [im 25 5,ia 2 25,ia 3 (kI 0)]) .ret)))))
def Fa:AFn:=⟨zS6,Ho.erase,[.tmp 2,.tmp 3],1⟩
def JR(P:Pg)(x:(List UInt8))(K:((List (List UInt8))×Int)→Unit→Prop):Prop:=
 Fn P XP Ce x (fun(d1:Int) (e2:Unit)=>(((d1 !=(0:Int))=true→K ([],d1) ())∧((d1 !=(0:Int))=false→Fn P "strings.SplitAfter" Cd (x,([10]:List UInt8)) (fun(d3:(List (List UInt8))) (e4:Unit)=>(0≤(i64.wrap ((d3.length:Int) -(1:Int)))∧(i64.wrap ((d3.length:Int) -(1:Int)))<(d3.length:Int))∧
 ((Int.toNat (i64.wrap ((d3.length:Int) -(1:Int))))<d3.length)∧
 Av (D:=(List (List UInt8))) (fun J5=>((((List.getD d3 (Int.toNat (i64.wrap ((d3.length:Int) -(1:Int)))) [])==([]:List UInt8))=true→(0≤(i64.wrap ((d3.length:Int) -(1:Int)))∧(i64.wrap ((d3.length:Int) -(1:Int)))≤(d3.length:Int))∧
 (0+(Int.toNat (i64.wrap ((d3.length:Int) -(1:Int))))≤d3.length)∧
 J5 (List.take (Int.toNat (i64.wrap ((d3.length:Int) -(1:Int)))) (List.drop 0 d3)))∧(((List.getD d3 (Int.toNat (i64.wrap ((d3.length:Int) -(1:Int)))) [])==([]:List UInt8))=false→J5 d3))) (fun d6=>K (d6,(0:Int)) ())))))
theorem Oj{P:Pg}(h:Has P Fa){x:DP Bu.ps}{K:DP Bu.rs→DP (ptrs Bu.ps)→Prop}(hw:JR P x K):Fn P zS6 Bu x K:=
 Cx (c:=Ho) h rfl rfl (by kernel_rfl) (Eq.mpr (show Cq P Fa Bu Ho x K=_ by kernel_rfl) hw)
def Hj:Bq:=
 (.seq (.region [o1 2 (.asg (.c (.slice none 0 0)))]) (.seq (.region [im 6 0,oS ⟨some 7,.call ZS [6],none⟩ DN,im 5 7,o1 8 (.ext 5 0),o1 9
 (.ext 5 1),ia 3 8,ia 4 9]) (.seq (.region [im 10 3,ia 2 10]) .ret)))
def E5:AFn:=⟨XQ,Hj.erase,[.tmp 2],1⟩
def JM(P:Pg)(x:(List (List (List UInt8))))(K:(List (List Int))→Unit→Prop):Prop:=
 Fn P ZS DN x (fun(d1:((List (List Int))×(List (List UInt8)))) (e2:Unit)=>K d1.1 ())
theorem Od{P:Pg}(h:Has P E5){x:DP Cc.ps}{K:DP Cc.rs→DP (ptrs Cc.ps)→Prop}(hw:JM P x K):Fn P XQ Cc x K:=
 Cx (c:=Hj) h rfl rfl (by kernel_rfl) (Eq.mpr (show Cq P E5 Cc Hj x K=_ by kernel_rfl) hw)
def DX:Bq:=
 (.seq (.region [o1 4 (.asg kF)]) (.seq (.region [im 5 0,o1 6 (.lenK 5),o1 7 (.bin .leq 6 (kI 4096)),im 8 7,gt 9 8 (.mv 1),gt 10 8 (.lenK 9),gt 11 8 (.bin .leq 10 (kI 4096)),
 o1 12 (.pick 8 11 kF),ia 4 12]) .ret))
def CF:AFn:=⟨YR,DX.erase,[.tmp 4],2⟩
def FB(P:Pg)(x:((List Int)×(List Int)))(K:Bool→Unit→Prop):Prop:=
 K (cond (decide ((x.1.length:Int)≤(4096:Int))) (decide ((x.2.length:Int)≤(4096:Int))) false) ()
theorem IQ{P:Pg}(h:Has P CF){x:DP Bj.ps}{K:DP Bj.rs→DP (ptrs Bj.ps)→Prop}(hw:FB P x K):Fn P YR Bj x K:=
 Cx (c:=DX) h rfl rfl (by kernel_rfl) (Eq.mpr (show Cq P CF Bj DX x K=_ by kernel_rfl) hw)
def E3:Bq:=
 (.seq (.region [o1 2 (.asg kF)]) (.seq (.region [im 3 0,o1 4 (.bin .geq 3 (kI 0)),im 5 4,gt 6 5 (.mv 0),gt 7 5 (.bin .leq 6 (kI 4096)),o1 8 (.pick 5 7 kF),ia 2 8]) .ret))
def DM:AFn:=⟨zS4,E3.erase,[.tmp 2],1⟩
def Hv(P:Pg)(x:Int)(K:Bool→Unit→Prop):Prop:=
 K (cond (decide (x≥(0:Int))) (decide (x≤(4096:Int))) false) ()
theorem Lv{P:Pg}(h:Has P DM){x:DP AP.ps}{K:DP AP.rs→DP (ptrs AP.ps)→Prop}(hw:Hv P x K):Fn P zS4 AP x K:=
 Cx (c:=E3) h rfl rfl (by kernel_rfl) (Eq.mpr (show Cq P DM AP E3 x K=_ by kernel_rfl) hw)
def DW:Bq:=
 (.seq (.region [o1 6 (.asg (.c (.slice none 0 0))),ia 7 (kI 0)]) (.seq (.seq (.region [im 11 1,oS ⟨some 12,.call zS4 [11],none⟩ AP,o1 13
 (.un .not 12),im 14 13,gf 15 14 (.mv 2),oS ⟨some 16,.call zS4 [15],some (14,false)⟩ AP,gf 17 14 (.un .not 16),o1 18 (.pick 14 kT 17)])
 (.cond 18 (.seq (.region [o1 6 (.asg (.c (.slice none 0 0))),ia 7 (kI 80)]) .ret) .skip)) (.seq (.region [o1 19 (.build [(.int .i64 0),(.int .i64 0)] [(0,1,(kI (-1))),(1,1,
 (kI (-1)))]),o1 8 (.alloc [(.int .i64 0),(.int .i64 0)]),o0 ⟨none,.store 2 8 19,none⟩]) (.seq (.seq (.region [im 20 0,o1 21 (.lenK 20),o1 22 (.mv (kI 0))]) (.frame (rg [6,
 7,10] 22 30) [1008,1010] false (.join [.sl 6 false (.sl Du) tO,.si 7] (.block 0 (.loop [.sl 6 false (.sl Du) tO,.si 7,.si 22,.bx 1008 (.pair bI bI) .leaf] (.seq
 (.region [o1 23 (.bin .lss 22 21)]) (.seq (.cond 23 .skip (.exit 0)) (.seq (.frame (rg [6,7,10] 24 27) [1008,1010] false (.join [.sl 6 false (.sl Du) tO,.si 7,.bx 1008
 (.pair bI bI) .leaf] (.block 1 (.seq (.region [o1 24 (.ixA 2 20 22),o1 25 (.load true 2 24),o1 10 (.alloc [(.int .i64 0),(.int .i64 0)]),o0 ⟨none,.store 2 10 25,none⟩]) (.seq
 (.seq (.region [fa 26 0 10,ld 27 26,fa 28 0 8,ld 29 28,o1 30 (.bin .leq 27 29),im 31 30,gf 32 31 (.fAddr 0 10),gf 33 31 (.load false 1 32),gf 34 31 (.mv 1),gf 35 31 (.bin
 .geq 33 34),o1 36 (.pick 31 kT 35),im 37 36,gf 38 37 (.fAddr 1 10),gf 39 37 (.load false 1 38),gf 40 37 (.fAddr 1 8),gf 41 37 (.load false 1 40),gf 42 37 (.bin .leq 39 41),
 o1 43 (.pick 37 kT 42),im 44 43,gf 45 44 (.fAddr 1 10),gf 46 44 (.load false 1 45),gf 47 44 (.mv 2),gf 48 44 (.bin .geq 46 47),o1 49 (.pick 44 kT 48)]) (.cond 49 (.seq
 (.region [o1 6 (.asg (.c (.slice none 0 0))),ia 7 (kI 3)]) .ret) .skip)) (.region [o1 50 (.load true 2 10),o0 ⟨none,.store 2 8 50,none⟩])))))) (.region [o1 51 (.bin .add 22 (kI
 1)),im 22 51]))))))))) (.seq (.region [im 52 0,im 53 1,im 54 2,oS ⟨some 55,.call ZT [52,53,54],none⟩ CG,ia 6 55,ia 7 (kI 0)])
 .ret)))))
def CE:AFn:=⟨XR,DW.erase,[.tmp 6,.tmp 7],3⟩
def FA(P:Pg)(x:((List (Int×Int))×(Int×Int)))(K:((List Change)×Int)→Unit→Prop):Prop:=
 Fn P zS4 AP x.2.1 (fun(d1:Bool) (e2:Unit)=>Av (D:=Bool) (fun J3=>(((!d1)=false→Fn P zS4 AP x.2.2 (fun(d4:Bool) _=>J3 d4))∧(((!d1)=true→J3 false)∧True))) (fun d5=>(((cond (!d1) true (!d5))=true→K ([],(80:Int)) ())∧((cond (!d1) true (!d5))=false→Av (D:=((List Change)×Int)) (fun J6=>DD (D:=((List Change)×Change)) ([],((0:Int),((0:Int),((-1:Int),(-1:Int))))) (fun d8 J9=>(((decide (d8.2.2.1<(x.1.length:Int)))=true→Av (D:=((List Change)×(Int×(Int×Int)))) (fun J10=>(0≤d8.2.2.1∧d8.2.2.1<(x.1.length:Int))∧
 (d8.2.2.1.toNat<x.1.length)∧
 (((cond (cond (cond (decide ((List.getD x.1 d8.2.2.1.toNat ((0:Int),(0:Int))).1≤d8.2.2.2.1)) true (decide ((List.getD x.1 d8.2.2.1.toNat ((0:Int),(0:Int))).1≥x.2.1))) true (decide ((List.getD x.1 d8.2.2.1.toNat ((0:Int),(0:Int))).2≤d8.2.2.2.2))) true (decide ((List.getD x.1 d8.2.2.1.toNat ((0:Int),(0:Int))).2≥x.2.2)))=true→K ([],(3:Int)) ())∧((cond (cond (cond (decide ((List.getD x.1 d8.2.2.1.toNat ((0:Int),(0:Int))).1≤d8.2.2.2.1)) true (decide ((List.getD x.1 d8.2.2.1.toNat ((0:Int),(0:Int))).1≥x.2.1))) true (decide ((List.getD x.1 d8.2.2.1.toNat ((0:Int),(0:Int))).2≤d8.2.2.2.2))) true (decide ((List.getD x.1 d8.2.2.1.toNat ((0:Int),(0:Int))).2≥x.2.2)))=false→J10 (d8.1,(d8.2.1,(List.getD x.1 d8.2.2.1.toNat ((0:Int),(0:Int)))))))) (fun d11=>J9 (d11.1,(d11.2.1,((i64.wrap (d8.2.2.1+(1:Int))),d11.2.2)))))∧((decide (d8.2.2.1<(x.1.length:Int)))=false→J6 (d8.1,d8.2.1))))) (fun d7=>Fn P ZT CG x (fun(d12:(List Change)) (e13:Unit)=>K (d12,(0:Int)) ()))))))
theorem IP{P:Pg}(h:Has P CE){x:DP A3.ps}{K:DP A3.rs→DP (ptrs A3.ps)→Prop}(hw:FA P x K):Fn P XR A3 x K:=
 Cx (c:=DW) h rfl rfl (by kernel_rfl) (Eq.mpr (show Cq P CE A3 DW x K=_ by kernel_rfl) hw)
def Ej:Bq:=
 (.seq (.region [o1 4 (.asg (.c (.slice none 0 0))),ia 5 (kI 0)]) (.seq (.seq (.region [im 6 0,im 7 1,oS ⟨some 8,.call YR [6,7],none⟩
 Bj,o1 9 (.un .not 8)]) (.cond 9 (.seq (.region [o1 4 (.asg (.c (.slice none 0 0))),ia 5 (kI 1)]) .ret) .skip)) (.seq (.region [im 10 0,im 11 1,oS ⟨some 12,
 .call ZU [10,11],none⟩ DO,im 13 0,o1 14 (.lenK 13),im 15 1,o1 16 (.lenK 15),oS ⟨some 17,.call XR [12,14,16],
 none⟩ A3,o1 18 (.ext 17 0),o1 19 (.ext 17 1),ia 4 18,ia 5 19]) .ret)))
def Db:AFn:=⟨XS,Ej.erase,[.tmp 4,.tmp 5],2⟩
def Gb(P:Pg)(x:((List Int)×(List Int)))(K:((List Change)×Int)→Unit→Prop):Prop:=
 Fn P YR Bj x (fun(d1:Bool) (e2:Unit)=>(((!d1)=true→K ([],(1:Int)) ())∧((!d1)=false→Fn P ZU DO x (fun(d3:(List (Int×Int))) (e4:Unit)=>Fn P XR A3 (d3,((x.1.length:Int),(x.2.length:Int))) (fun(d5:((List Change)×Int)) (e6:Unit)=>K d5 ())))))
theorem Jj{P:Pg}(h:Has P Db){x:DP Ba.ps}{K:DP Ba.rs→DP (ptrs Ba.ps)→Prop}(hw:Gb P x K):Fn P XS Ba x K:=
 Cx (c:=Ej) h rfl rfl (by kernel_rfl) (Eq.mpr (show Cq P Db Ba Ej x K=_ by kernel_rfl) hw)
def EA:Bq:=
 (.seq (.region [o1 4 (.asg (.c (.slice none 0 0))),ia 5 (kI 0)]) (.seq (.region [im 11 0,oS ⟨some 12,.call zS6 [11],none⟩ Bu,im 10 12,o1 13 (.ext
 10 0),o1 14 (.ext 10 1),ia 6 13,ia 7 14]) (.seq (.seq (.region [im 15 7,o1 16 (.bin .neq 15 (kI 0))]) (.cond 16 (.seq (.region [im 17 7,o1 4 (.asg (.c (.slice none 0 0))),ia
 5 17]) .ret) .skip)) (.seq (.region [im 19 1,oS ⟨some 20,.call zS6 [19],none⟩ Bu,im 18 20,o1 21 (.ext 18 0),o1 22 (.ext 18 1),ia 8 21,ia 7 22])
 (.seq (.seq (.region [im 23 7,o1 24 (.bin .neq 23 (kI 0))]) (.cond 24 (.seq (.region [im 25 7,o1 4 (.asg (.c (.slice none 0 0))),ia 5 25]) .ret) .skip)) (.seq (.region [im 26 6,
 im 27 8,oT ⟨some 28,.buildSl 1 [(.slice none 0 0)] 2 [(0,26),(1,27)],none⟩ (some ((.sl .str),tO)),oS ⟨some 29,.call XQ [28],none⟩ Cc,ia 9
 29]) (.seq (.frame (rg [4,5] 30 9) [] false (.join [.sl 4 false (.sl Du) tO,.si 5] (.draw [(.first (im 30 9) (.first (o1 31 (.ixA 1 30 (kI 0))) (.first (ld 32 31) (.first
 (im 33 9) (.first (o1 34 (.ixA 1 33 (kI 1))) (.first (ld 35 34) (.alt (oS ⟨some 36,.call XS [32,35],none⟩ Ba) (.alt (o1 37 (.ext 36 0))
 (.alt (o1 38 (.ext 36 1)) (.alt (ia 4 37) (.alt (ia 5 38) .done .stop) .stop) .stop) (.alt (o1 38 (.ext 36 1)) (.alt (o1 37 (.ext 36 0)) (.alt (ia 4 37) (.alt (ia 5 38) .done
 .stop) .stop) .stop) .stop)) .stop)))))))]))) .ret)))))))
def Dt:AFn:=⟨zS7,EA.erase,[.tmp 4,.tmp 5],2⟩
def GH(P:Pg)(x:((List UInt8)×(List UInt8)))(K:((List Change)×Int)→Unit→Prop):Prop:=
 Fn P zS6 Bu x.1 (fun(d1:((List (List UInt8))×Int)) (e2:Unit)=>(((d1.2 !=(0:Int))=true→K ([],d1.2) ())∧((d1.2 !=(0:Int))=false→Fn P zS6 Bu x.2 (fun(d3:((List (List UInt8))×Int)) (e4:Unit)=>(((d3.2 !=(0:Int))=true→K ([],d3.2) ())∧((d3.2 !=(0:Int))=false→Fn P XQ Cc ([d1.1,d3.1]:List (List (List UInt8))) (fun(d5:(List (List Int))) (e6:Unit)=>Av (D:=((List Change)×Int)) (fun J7=>(0≤(0:Int)∧(0:Int)<(d5.length:Int))∧
 ((Int.toNat (0:Int))<d5.length)∧
 (0≤(1:Int)∧(1:Int)<(d5.length:Int))∧
 ((Int.toNat (1:Int))<d5.length)∧
 (((Int.toNat (0:Int))<d5.length)∧
 ((Int.toNat (1:Int))<d5.length)∧
 Fn P XS Ba ((List.getD d5 (Int.toNat (0:Int)) []),(List.getD d5 (Int.toNat (1:Int)) [])) (fun(d9:((List Change)×Int)) (e10:Unit)=>((((J7 d9)∧True)∧True)∧True)∧(((((J7 d9)∧True)∧True)∧True)∧True)))∧True) (fun d8=>K d8 ()))))))))
theorem Kh{P:Pg}(h:Has P Dt){x:DP AQ.ps}{K:DP AQ.rs→DP (ptrs AQ.ps)→Prop}(hw:GH P x K):Fn P zS7 AQ x K:=
 Cx (c:=EA) h rfl rfl (by kernel_rfl) (Eq.mpr (show Cq P Dt AQ EA x K=_ by kernel_rfl) hw)
def Ez:Bq:=
 (.seq (.region [ia 2 (kI 0)]) (.seq (.seq (.region [im 3 0,oS ⟨some 4,.call zS4 [3],none⟩ AP,o1 5 (.un .not 4)]) (.cond 5 (.seq (.region [ia
 2 (kI 0)]) .ret) .skip)) (.seq (.region [im 6 0,ia 2 6]) .ret)))
def Ds:AFn:=⟨Ua,Ez.erase,[.tmp 2],1⟩
def GG(P:Pg)(x:Int)(K:Int→Unit→Prop):Prop:=
 Fn P zS4 AP x (fun(d1:Bool) (e2:Unit)=>(((!d1)=true→K (0:Int) ())∧((!d1)=false→K x ())))
theorem Kg{P:Pg}(h:Has P Ds){x:DP AZ.ps}{K:DP AZ.rs→DP (ptrs AZ.ps)→Prop}(hw:GG P x K):Fn P Ua AZ x K:=
 Cx (c:=Ez) h rfl rfl (by kernel_rfl) (Eq.mpr (show Cq P Ds AZ Ez x K=_ by kernel_rfl) hw)
def Gx:Bq:=
 (.seq (.region [ia 2 (kI 0),ia 3 (kI 0)]) (.seq (.region [ia 4 (kI 0),ia 5 (kI 0)]) (.seq (.seq (.region [im 8 0,o1 9 (.lenK 8),o1 10 (.mv (kI 0))]) (.frame (rg [4,5,7] 10
 15) [1007] false (.join [.si 4,.si 5] (.block 0 (.loop [.si 4,.si 5,.si 10] (.seq (.region [o1 11 (.bin .lss 10 9)]) (.seq (.cond 11 .skip (.exit 0)) (.seq (.frame (rg [4,5,7]
 12 12) [1007] false (.join [.si 4,.si 5] (.block 1 (.seq (.region [o1 12 (.ixA 4 8 10),o1 13 (.load true 4 12),o1 7 (.alloc [(.int .i64 0),(.int .i64 0),(.int .i64 0),(.int
 .i64 0)]),o0 ⟨none,.store 4 7 13,none⟩]) (.seq (.region [im 14 4,fa 15 1 7,ld 16 15,oS ⟨some 17,.call Ua [16],none⟩ AZ,o1 18 (.bin
 .add 14 17),ia 4 18]) (.region [im 19 5,fa 20 3 7,ld 21 20,oS ⟨some 22,.call Ua [21],none⟩ AZ,o1 23 (.bin .add 19 22),ia 5 23]))))))
 (.region [o1 24 (.bin .add 10 (kI 1)),im 10 24]))))))))) (.seq (.region [im 25 4,im 26 5,ia 2 25,ia 3 26]) .ret))))
def EG:AFn:=⟨XT,Gx.erase,[.tmp 2,.tmp 3],1⟩
def IZ(P:Pg)(x:(List Change))(K:(Int×Int)→Unit→Prop):Prop:=
 Av (D:=(Int×Int)) (fun J1=>DD (D:=(Int×(Int×Int))) ((0:Int),((0:Int),(0:Int))) (fun d3 J4=>(((decide (d3.2.2<(x.length:Int)))=true→Av (D:=(Int×Int)) (fun J5=>(0≤d3.2.2∧d3.2.2<(x.length:Int))∧
 (d3.2.2.toNat<x.length)∧
 Fn P Ua AZ (List.getD x d3.2.2.toNat Gk).2.1 (fun(d7:Int) (e8:Unit)=>Fn P Ua AZ (List.getD x d3.2.2.toNat Gk).2.2.2 (fun(d9:Int) (e10:Unit)=>J5 ((i64.wrap (d3.1+d7)),(i64.wrap (d3.2.1+d9)))))) (fun d6=>J4 (d6.1,(d6.2,(i64.wrap (d3.2.2+(1:Int)))))))∧((decide (d3.2.2<(x.length:Int)))=false→J1 (d3.1,d3.2.1))))) (fun d2=>K d2 ())
theorem Na{P:Pg}(h:Has P EG){x:DP BX.ps}{K:DP BX.rs→DP (ptrs BX.ps)→Prop}(hw:IZ P x K):Fn P XT BX x K:=
 Cx (c:=Gx) h rfl rfl (by kernel_rfl) (Eq.mpr (show Cq P EG BX Gx x K=_ by kernel_rfl) hw)
def Hk:Bq:=
 (.seq (.region [ia 4 (kI 0),ia 5 (kI 0),ia 6 (kI 0)]) (.seq (.region [im 12 0,im 13 1,oS ⟨some 14,.call zS7 [12,13],none⟩ AQ,im 11 14,
 o1 15 (.ext 11 0),o1 16 (.ext 11 1),ia 7 15,ia 8 16]) (.seq (.seq (.region [im 17 8,o1 18 (.bin .neq 17 (kI 0))]) (.cond 18 (.seq (.region [im 19 8,ia 4 (kI 0),ia 5 (kI 0),
 ia 6 19]) .ret) .skip)) (.seq (.region [im 21 7,oS ⟨some 22,.call XT [21],none⟩ BX,im 20 22,o1 23 (.ext 20 0),o1 24 (.ext 20 1),ia 9 23,ia
 10 24]) (.seq (.region [im 25 10,im 26 9,ia 4 25,ia 5 26,ia 6 (kI 0)]) .ret)))))
def E6:AFn:=⟨zS8,Hk.erase,[.tmp 4,.tmp 5,.tmp 6],2⟩
def JN(P:Pg)(x:((List UInt8)×(List UInt8)))(K:(Int×(Int×Int))→Unit→Prop):Prop:=
 Fn P zS7 AQ x (fun(d1:((List Change)×Int)) (e2:Unit)=>(((d1.2 !=(0:Int))=true→K ((0:Int),((0:Int),d1.2)) ())∧((d1.2 !=(0:Int))=false→Fn P XT BX d1.1 (fun(d3:(Int×Int)) (e4:Unit)=>K (d3.2,(d3.1,(0:Int))) ()))))
theorem Oe{P:Pg}(h:Has P E6){x:DP Br.ps}{K:DP Br.rs→DP (ptrs Br.ps)→Prop}(hw:JN P x K):Fn P zS8 Br x K:=
 Cx (c:=Hk) h rfl rfl (by kernel_rfl) (Eq.mpr (show Cq P E6 Br Hk x K=_ by kernel_rfl) hw)
def Dp:Bq:=
 (.seq (.region [o1 4 (.asg kF)]) (.seq (.seq (.region [im 19 1,o1 20 (.Jp 19),o1 21 (.bin .gtr 20 (kI 40))]) (.cond 21 (.seq (.region [oS ⟨some 22,.call
 zS5 [],none⟩ Be,ia 4 22]) .ret) .skip)) (.seq (.region [im 23 0,oS ⟨some 24,.call XM [23,(kI 0),(kI 9),(kI
 4)],none⟩ Dh,ia 5 24]) (.seq (.region [im 25 5,im 26 5,im 27 0,oS ⟨some 28,.call XN [26,27,(kI 100)],none⟩ Di,im 29 1,oT ⟨some
 30,.buildSl 1 [(.string ⟨#[]⟩)] 3 [(0,25),(1,28),(2,29)],none⟩ (some (.str,.leaf)),ia 6 30]) (.seq (.seq (.region [ia 7 (kI 0)]) (.frame (rg [4,7,8,9,10,11,12,13,
 14,15,16,17,18] 31 119) [] false (.join [.sl 4 false .bool .leaf] (.block 0 (.loop [.sl 4 false .bool .leaf,.si 7] (.seq (.seq (.region [im 31 7,o1 32 (.bin .lss 31 (kI 3))])
 (.cond 32 .skip (.exit 0))) (.seq (.frame (rg [4,8,9,10,11,12,13,14,15,16,17,18] 35 115) [] false (.join [.sl 4 false .bool .leaf] (.block 1 (.seq (.region [ia 8 (kI
 0)]) (.frame (rg [4,8,9,10,11,12,13,14,15,16,17,18] 35 115) [] false (.join [.sl 4 false .bool .leaf] (.block 2 (.loop [.sl 4 false .bool .leaf,.si 8] (.seq (.seq
 (.region [im 35 8,o1 36 (.bin .lss 35 (kI 3))]) (.cond 36 .skip (.exit 2))) (.seq (.frame (rg [4,9,10,11,12,13,14,15,16,17,18] 39 111) [] false (.join [.sl 4 false .bool
 .leaf] (.block 3 (.seq (.frame (rg [9,10,11] 39 13) [] false (.join [.si 9,.si 10,.si 11] (.draw [(.first (im 40 6) (.first (im 41 7) (.first (o1 42 (.ixA 1 40 41)) (.first (ld
 43 42) (.first (im 44 6) (.first (im 45 8) (.first (o1 46 (.ixA 1 44 45)) (.first (ld 47 46) (.alt (oS ⟨some 48,.call zS8 [43,47],none⟩ Br) (.first
 (im 39 48) (.alt (o1 49 (.ext 39 0)) (.alt (o1 50 (.ext 39 1)) (.alt (o1 51 (.ext 39 2)) (.alt (ia 9 49) (.alt (ia 10 50) (.alt (ia 11 51) .done .stop) .stop) .stop) (.alt (ia 9
 49) (.alt (o1 51 (.ext 39 2)) (.alt (ia 10 50) (.alt (ia 11 51) .done .stop) .stop) (.alt (ia 10 50) (.alt (o1 51 (.ext 39 2)) (.alt (ia 11 51) .done .stop) .stop) .stop)) .stop))
 (.alt (o1 51 (.ext 39 2)) (.alt (o1 50 (.ext 39 1)) (.alt (ia 9 49) (.alt (ia 10 50) (.alt (ia 11 51) .done .stop) .stop) .stop) (.alt (ia 9 49) (.alt (o1 50 (.ext 39 1)) (.alt (ia
 10 50) (.alt (ia 11 51) .done .stop) .stop) .stop) .stop)) (.alt (ia 9 49) (.alt (o1 50 (.ext 39 1)) (.alt (o1 51 (.ext 39 2)) (.alt (ia 10 50) (.alt (ia 11 51) .done .stop) .stop)
 (.alt (ia 10 50) (.alt (o1 51 (.ext 39 2)) (.alt (ia 11 51) .done .stop) .stop) .stop)) (.alt (o1 51 (.ext 39 2)) (.alt (o1 50 (.ext 39 1)) (.alt (ia 10 50) (.alt (ia 11 51) .done
 .stop) .stop) .stop) .stop)) .stop))) (.alt (o1 50 (.ext 39 1)) (.alt (o1 49 (.ext 39 0)) (.alt (o1 51 (.ext 39 2)) (.alt (ia 9 49) (.alt (ia 10 50) (.alt (ia 11 51) .done .stop)
 .stop) .stop) (.alt (ia 9 49) (.alt (o1 51 (.ext 39 2)) (.alt (ia 10 50) (.alt (ia 11 51) .done .stop) .stop) (.alt (ia 10 50) (.alt (o1 51 (.ext 39 2)) (.alt (ia 11 51) .done
 .stop) .stop) .stop)) .stop)) (.alt (o1 51 (.ext 39 2)) (.alt (o1 49 (.ext 39 0)) (.alt (ia 9 49) (.alt (ia 10 50) (.alt (ia 11 51) .done .stop) .stop) .stop) .stop) .stop)) (.alt
 (o1 51 (.ext 39 2)) (.alt (o1 49 (.ext 39 0)) (.alt (o1 50 (.ext 39 1)) (.alt (ia 9 49) (.alt (ia 10 50) (.alt (ia 11 51) .done .stop) .stop) .stop) (.alt (ia 9 49) (.alt (o1 50
 (.ext 39 1)) (.alt (ia 10 50) (.alt (ia 11 51) .done .stop) .stop) .stop) .stop)) (.alt (o1 50 (.ext 39 1)) (.alt (o1 49 (.ext 39 0)) (.alt (ia 9 49) (.alt (ia 10 50) (.alt (ia 11
 51) .done .stop) .stop) .stop) .stop) .stop)) .stop)))) .stop)))))))))]))) (.seq (.frame (rg [12,13,14] 52 13) [] false (.join [.si 12,.si 13,.si 14] (.draw [(.first (im 53 6)
 (.first (im 54 8) (.first (o1 55 (.ixA 1 53 54)) (.first (ld 56 55) (.first (im 57 6) (.first (im 58 7) (.first (o1 59 (.ixA 1 57 58)) (.first (ld 60 59) (.alt (oS ⟨some 61,.call
 zS8 [56,60],none⟩ Br) (.first (im 52 61) (.alt (o1 62 (.ext 52 0)) (.alt (o1 63 (.ext 52 1)) (.alt (o1 64 (.ext 52 2)) (.alt (ia 12 62) (.alt (ia 13
 63) (.alt (ia 14 64) .done .stop) .stop) .stop) (.alt (ia 12 62) (.alt (o1 64 (.ext 52 2)) (.alt (ia 13 63) (.alt (ia 14 64) .done .stop) .stop) (.alt (ia 13 63) (.alt (o1 64 (.ext
 52 2)) (.alt (ia 14 64) .done .stop) .stop) .stop)) .stop)) (.alt (o1 64 (.ext 52 2)) (.alt (o1 63 (.ext 52 1)) (.alt (ia 12 62) (.alt (ia 13 63) (.alt (ia 14 64) .done .stop)
 .stop) .stop) (.alt (ia 12 62) (.alt (o1 63 (.ext 52 1)) (.alt (ia 13 63) (.alt (ia 14 64) .done .stop) .stop) .stop) .stop)) (.alt (ia 12 62) (.alt (o1 63 (.ext 52 1)) (.alt (o1
 64 (.ext 52 2)) (.alt (ia 13 63) (.alt (ia 14 64) .done .stop) .stop) (.alt (ia 13 63) (.alt (o1 64 (.ext 52 2)) (.alt (ia 14 64) .done .stop) .stop) .stop)) (.alt (o1 64 (.ext 52
 2)) (.alt (o1 63 (.ext 52 1)) (.alt (ia 13 63) (.alt (ia 14 64) .done .stop) .stop) .stop) .stop)) .stop))) (.alt (o1 63 (.ext 52 1)) (.alt (o1 62 (.ext 52 0)) (.alt (o1 64 (.ext
 52 2)) (.alt (ia 12 62) (.alt (ia 13 63) (.alt (ia 14 64) .done .stop) .stop) .stop) (.alt (ia 12 62) (.alt (o1 64 (.ext 52 2)) (.alt (ia 13 63) (.alt (ia 14 64) .done .stop)
 .stop) (.alt (ia 13 63) (.alt (o1 64 (.ext 52 2)) (.alt (ia 14 64) .done .stop) .stop) .stop)) .stop)) (.alt (o1 64 (.ext 52 2)) (.alt (o1 62 (.ext 52 0)) (.alt (ia 12 62) (.alt
 (ia 13 63) (.alt (ia 14 64) .done .stop) .stop) .stop) .stop) .stop)) (.alt (o1 64 (.ext 52 2)) (.alt (o1 62 (.ext 52 0)) (.alt (o1 63 (.ext 52 1)) (.alt (ia 12 62) (.alt (ia 13
 63) (.alt (ia 14 64) .done .stop) .stop) .stop) (.alt (ia 12 62) (.alt (o1 63 (.ext 52 1)) (.alt (ia 13 63) (.alt (ia 14 64) .done .stop) .stop) .stop) .stop)) (.alt (o1 63 (.ext
 52 1)) (.alt (o1 62 (.ext 52 0)) (.alt (ia 12 62) (.alt (ia 13 63) (.alt (ia 14 64) .done .stop) .stop) .stop) .stop) .stop)) .stop)))) .stop)))))))))]))) (.seq (.frame (rg [15,
 16] 65 12) [] false (.join [.sl 15 false (.sl Du) tO,.si 16] (.draw [(.first (im 66 6) (.first (im 67 7) (.first (o1 68 (.ixA 1 66 67)) (.first (ld 69 68) (.first (im 70 6)
 (.first (im 71 8) (.first (o1 72 (.ixA 1 70 71)) (.first (ld 73 72) (.alt (oS ⟨some 74,.call zS7 [69,73],none⟩ AQ) (.first (im 65 74) (.alt
 (o1 75 (.ext 65 0)) (.alt (o1 76 (.ext 65 1)) (.alt (ia 15 75) (.alt (ia 16 76) .done .stop) .stop) (.alt (ia 15 75) (.alt (o1 76 (.ext 65 1)) (.alt (ia 16 76) .done .stop) .stop)
 .stop)) (.alt (o1 76 (.ext 65 1)) (.alt (o1 75 (.ext 65 0)) (.alt (ia 15 75) (.alt (ia 16 76) .done .stop) .stop) .stop) .stop))) .stop)))))))))]))) (.seq (.region [ia 17 (kI 0)])
 (.seq (.seq (.region [ia 18 (kI 0)]) (.frame (rg [17,18] 77 19) [] false (.join [.si 17] (.block 4 (.loop [.si 17,.si 18] (.seq (.seq (.region [im 77 18,im 78 15,o1 79 (.lenK
 78),o1 80 (.bin .lss 77 79)]) (.cond 80 .skip (.exit 4))) (.seq (.frame (rg [17] 83 13) [] false (.join [.si 17] (.block 5 (.frame (rg [17] 83 13) [] false (.join [.si 17] (.draw
 [(.first (im 83 17) (.first (im 84 15) (.first (im 85 18) (.first (o1 86 (.ixA 4 84 85)) (.first (fa 87 1 86) (.first (ld 88 87) (.first (o1 89 (.bin .add 83 88)) (.first (im 90
 15) (.first (im 91 18) (.first (o1 92 (.ixA 4 90 91)) (.first (fa 93 3 92) (.first (ld 94 93) (.first (o1 95 (.bin .add 89 94)) (.alt (ia 17 95) .done .stop))))))))))))))]))))))
 (.region [im 81 18,o1 82 (.bin .add 81 (kI 1)),ia 18 82])))))))) (.seq (.frame (rg [] 96 54) [] false (.join [.sl 149 false .bool .leaf] (.draw [(.first (im 96 11) (.first (o1 97
 (.bin .neq 96 (kI 0))) (.first (im 98 97) (.first (gf 99 98 (.mv 14)) (.first (gf 100 98 (.bin .neq 99 (kI 0))) (.first (o1 101 (.pick 98 kT 100)) (.first (im 102 101) (.first (gf
 103 102 (.mv 16)) (.first (gf 104 102 (.bin .neq 103 (kI 0))) (.first (o1 105 (.pick 102 kT 104)) (.first (im 106 105) (.first (gf 107 106 (.mv 9)) (.first (gf 108 106 (.mv 13))
 (.first (gf 109 106 (.bin .neq 107 108)) (.first (o1 110 (.pick 106 kT 109)) (.first (im 111 110) (.first (gf 112 111 (.mv 10)) (.first (gf 113 111 (.mv 12)) (.first (gf 114 111
 (.bin .neq 112 113)) (.first (o1 115 (.pick 111 kT 114)) (.first (im 116 115) (.first (gf 117 116 (.mv 9)) (.first (gf 118 116 (.mv 10)) (.first (gf 119 116 (.bin .add 117 118))
 (.first (gf 120 116 (.mv 17)) (.first (gf 121 116 (.bin .neq 119 120)) (.first (o1 122 (.pick 116 kT 121)) (.first (im 123 122) (.first (⟨⟨some 124,.mv 9,some (123,false)⟩,
 none,⟨[],[]⟩,false,some 123,true,false⟩) (.first (⟨⟨some 125,.mv 10,some (123,false)⟩,none,⟨[],[]⟩,false,none,true,false⟩) (.first (⟨⟨some 126,.bin .sub 124 125,
 some (123,false)⟩,none,⟨[],[]⟩,false,none,true,false⟩) (.first (⟨⟨some 127,.mv 6,some (123,false)⟩,none,⟨[],[]⟩,false,none,true,false⟩) (.first (⟨⟨some 128,.mv
 8,some (123,false)⟩,none,⟨[],[]⟩,false,none,true,false⟩) (.first (⟨⟨some 129,.ixA 1 127 128,some (123,false)⟩,none,⟨[],[]⟩,false,none,true,false⟩) (.first
 (⟨⟨some 130,.load false 1 129,some (123,false)⟩,none,⟨[],[]⟩,false,none,true,false⟩) (.first (⟨⟨some 133,.mv 6,some (123,false)⟩,none,⟨[],[]⟩,false,none,true,
 false⟩) (.first (⟨⟨some 134,.mv 7,some (123,false)⟩,none,⟨[],[]⟩,false,none,true,false⟩) (.first (⟨⟨some 135,.ixA 1 133 134,some (123,false)⟩,none,⟨[],[]⟩,false,
 none,true,false⟩) (.alt (⟨⟨some 131,.call zS1 [130],some (123,false)⟩,none,AJ,false,none,true,false⟩) (.first (⟨⟨some 132,.lenK
 131,some (123,false)⟩,none,⟨[],[]⟩,false,none,true,false⟩) (.first (⟨⟨some 136,.load false 1 135,some (123,false)⟩,none,⟨[],[]⟩,false,none,true,false⟩) (.alt
 (⟨⟨some 137,.call zS1 [136],some (123,false)⟩,none,AJ,false,none,true,false⟩) (.first (⟨⟨some 138,.lenK 137,some (123,false)⟩,
 none,⟨[],[]⟩,false,none,true,false⟩) (.first (⟨⟨some 139,.bin .sub 132 138,some (123,false)⟩,none,⟨[],[]⟩,false,none,true,false⟩) (.first (⟨⟨some 140,.bin .neq 126
 139,some (123,false)⟩,none,⟨[],[]⟩,false,none,true,true⟩) (.first (o1 141 (.pick 123 kT 140)) (.first (im 142 141) (.first (gf 143 142 (.mv 9)) (.first (gf 144 142 (.bin
 .lss 143 (kI 0))) (.first (o1 145 (.pick 142 kT 144)) (.first (im 146 145) (.first (gf 147 146 (.mv 10)) (.first (gf 148 146 (.bin .lss 147 (kI 0))) (.first (o1 149 (.pick 146 kT
 148)) .done)))))))))))) .stop))) (.alt (⟨⟨some 136,.load false 1 135,some (123,false)⟩,none,⟨[],[]⟩,false,none,true,false⟩) (.alt (⟨⟨some 131,.call
 zS1 [130],some (123,false)⟩,none,AJ,false,none,true,false⟩) (.first (⟨⟨some 132,.lenK 131,some (123,false)⟩,none,⟨[],[]⟩,
 false,none,true,false⟩) (.alt (⟨⟨some 137,.call zS1 [136],some (123,false)⟩,none,AJ,false,none,true,false⟩) (.first (⟨⟨some 138,
 .lenK 137,some (123,false)⟩,none,⟨[],[]⟩,false,none,true,false⟩) (.first (⟨⟨some 139,.bin .sub 132 138,some (123,false)⟩,none,⟨[],[]⟩,false,none,true,false⟩)
 (.first (⟨⟨some 140,.bin .neq 126 139,some (123,false)⟩,none,⟨[],[]⟩,false,none,true,true⟩) (.first (o1 141 (.pick 123 kT 140)) (.first (im 142 141) (.first (gf 143 142
 (.mv 9)) (.first (gf 144 142 (.bin .lss 143 (kI 0))) (.first (o1 145 (.pick 142 kT 144)) (.first (im 146 145) (.first (gf 147 146 (.mv 10)) (.first (gf 148 146 (.bin .lss 147 (kI
 0))) (.first (o1 149 (.pick 146 kT 148)) .done)))))))))))) .stop)) .stop) .stop))))))))))))))))))))))))))))))))))))))))]))) (.cond 149 (.seq (.region [o1 4 (.asg kF)]) .ret)
 .skip)))))))))) (.region [im 37 8,o1 38 (.bin .add 37 (kI 1)),ia 8 38]))))))))))) (.region [im 33 7,o1 34 (.bin .add 33 (kI 1)),ia 7 34])))))))) (.seq (.region [oS ⟨some 150,
 .call zS5 [],none⟩ Be,ia 4 150]) .ret))))))
def Ca:AFn:=⟨ZV,Dp.erase,[.tmp 4],2⟩
def EU(P:Pg)(x:((List Int)×(List UInt8)))(K:Bool→Unit→Prop):Prop:=
 (((decide ((x.2.length:Int)>(40:Int)))=true→Fn P zS5 Be () (fun(d1:Bool) (e2:Unit)=>K d1 ()))∧((decide ((x.2.length:Int)>(40:Int)))=false→Fn P XM Dh (x.1,((0:Int),((9:Int),(4:Int)))) (fun(d3:(List UInt8)) (e4:Unit)=>Fn P XN Di (d3,(x.1,(100:Int))) (fun(d5:(List UInt8)) (e6:Unit)=>Av (D:=Bool) (fun J7=>DD (D:=(Bool×Int)) (false,(0:Int)) (fun d9 J10=>(((decide (d9.2<(3:Int)))=true→Av (D:=Bool) (fun J11=>Av (D:=Bool) (fun J13=>DD (D:=(Bool×Int)) (d9.1,(0:Int)) (fun d15 J16=>(((decide (d15.2<(3:Int)))=true→Av (D:=Bool) (fun J17=>Av (D:=(Int×(Int×Int))) (fun J19=>(0≤d9.2∧d9.2<((List.length ([d3,d5,x.2]:List (List UInt8)):Nat):Int))∧
 (d9.2.toNat<List.length ([d3,d5,x.2]:List (List UInt8)))∧
 (0≤d15.2∧d15.2<((List.length ([d3,d5,x.2]:List (List UInt8)):Nat):Int))∧
 (d15.2.toNat<List.length ([d3,d5,x.2]:List (List UInt8)))∧
 (Fn P zS8 Br ((List.getD ([d3,d5,x.2]:List (List UInt8)) d9.2.toNat []),(List.getD ([d3,d5,x.2]:List (List UInt8)) d15.2.toNat [])) (fun(d21:(Int×(Int×Int))) (e22:Unit)=>((((((J19 d21)∧True)∧True)∧True)∧(((((J19 d21)∧True)∧True)∧((((J19 d21)∧True)∧True)∧True))∧True))∧((((((J19 d21)∧True)∧True)∧True)∧(((((J19 d21)∧True)∧True)∧True)∧True))∧((((((J19 d21)∧True)∧True)∧((((J19 d21)∧True)∧True)∧True))∧(((((J19 d21)∧True)∧True)∧True)∧True))∧True)))∧(((((((J19 d21)∧True)∧True)∧True)∧(((((J19 d21)∧True)∧True)∧((((J19 d21)∧True)∧True)∧True))∧True))∧((((((J19 d21)∧True)∧True)∧True)∧True)∧True))∧(((((((J19 d21)∧True)∧True)∧True)∧(((((J19 d21)∧True)∧True)∧True)∧True))∧((((((J19 d21)∧True)∧True)∧True)∧True)∧True))∧True))))∧True) (fun d20=>Av (D:=(Int×(Int×Int))) (fun J23=>(0≤d15.2∧d15.2<((List.length ([d3,d5,x.2]:List (List UInt8)):Nat):Int))∧
 (d15.2.toNat<List.length ([d3,d5,x.2]:List (List UInt8)))∧
 (0≤d9.2∧d9.2<((List.length ([d3,d5,x.2]:List (List UInt8)):Nat):Int))∧
 (d9.2.toNat<List.length ([d3,d5,x.2]:List (List UInt8)))∧
 (Fn P zS8 Br ((List.getD ([d3,d5,x.2]:List (List UInt8)) d15.2.toNat []),(List.getD ([d3,d5,x.2]:List (List UInt8)) d9.2.toNat [])) (fun(d25:(Int×(Int×Int))) (e26:Unit)=>((((((J23 d25)∧True)∧True)∧True)∧(((((J23 d25)∧True)∧True)∧((((J23 d25)∧True)∧True)∧True))∧True))∧((((((J23 d25)∧True)∧True)∧True)∧(((((J23 d25)∧True)∧True)∧True)∧True))∧((((((J23 d25)∧True)∧True)∧((((J23 d25)∧True)∧True)∧True))∧(((((J23 d25)∧True)∧True)∧True)∧True))∧True)))∧(((((((J23 d25)∧True)∧True)∧True)∧(((((J23 d25)∧True)∧True)∧((((J23 d25)∧True)∧True)∧True))∧True))∧((((((J23 d25)∧True)∧True)∧True)∧True)∧True))∧(((((((J23 d25)∧True)∧True)∧True)∧(((((J23 d25)∧True)∧True)∧True)∧True))∧((((((J23 d25)∧True)∧True)∧True)∧True)∧True))∧True))))∧True) (fun d24=>Av (D:=((List Change)×Int)) (fun J27=>(0≤d9.2∧d9.2<((List.length ([d3,d5,x.2]:List (List UInt8)):Nat):Int))∧
 (d9.2.toNat<List.length ([d3,d5,x.2]:List (List UInt8)))∧
 (0≤d15.2∧d15.2<((List.length ([d3,d5,x.2]:List (List UInt8)):Nat):Int))∧
 (d15.2.toNat<List.length ([d3,d5,x.2]:List (List UInt8)))∧
 (Fn P zS7 AQ ((List.getD ([d3,d5,x.2]:List (List UInt8)) d9.2.toNat []),(List.getD ([d3,d5,x.2]:List (List UInt8)) d15.2.toNat [])) (fun(d29:((List Change)×Int)) (e30:Unit)=>((((J27 d29)∧True)∧True)∧((((J27 d29)∧True)∧True)∧True))∧(((((J27 d29)∧True)∧True)∧True)∧True)))∧True) (fun d28=>Av (D:=Int) (fun J31=>DD (D:=(Int×Int)) ((0:Int),(0:Int)) (fun d33 J34=>(((decide (d33.2<(d28.1.length:Int)))=true→Av (D:=Int) (fun J35=>Av (D:=Int) (fun J37=>(0≤d33.2∧d33.2<(d28.1.length:Int))∧
 (d33.2.toNat<d28.1.length)∧
 (0≤d33.2∧d33.2<(d28.1.length:Int))∧
 (d33.2.toNat<d28.1.length)∧
 (J37 (i64.wrap ((i64.wrap (d33.1+(List.getD d28.1 d33.2.toNat Gk).2.1))+(List.getD d28.1 d33.2.toNat Gk).2.2.2)))∧True) (fun d38=>J35 d38)) (fun d36=>J34 (d36,(i64.wrap (d33.2+(1:Int))))))∧((decide (d33.2<(d28.1.length:Int)))=false→J31 d33.1)))) (fun d32=>Av (D:=Bool) (fun J39=>(((cond (cond (cond (cond (cond (d20.2.2 !=(0:Int)) true (d24.2.2 !=(0:Int))) true (d28.2 !=(0:Int))) true (d20.1 !=d24.2.1)) true (d20.2.1 !=d24.1)) true ((i64.wrap (d20.1+d20.2.1)) !=d32))=true→((J39 (cond (cond (cond true true false) true (decide (d20.1<(0:Int)))) true (decide (d20.2.1<(0:Int)))))∧True)∧((((J39 (cond (cond (cond true true false) true (decide (d20.1<(0:Int)))) true (decide (d20.2.1<(0:Int)))))∧True)∧True)∧True))∧((cond (cond (cond (cond (cond (d20.2.2 !=(0:Int)) true (d24.2.2 !=(0:Int))) true (d28.2 !=(0:Int))) true (d20.1 !=d24.2.1)) true (d20.2.1 !=d24.1)) true ((i64.wrap (d20.1+d20.2.1)) !=d32))=false→(0≤d15.2∧d15.2<((List.length ([d3,d5,x.2]:List (List UInt8)):Nat):Int))∧
 (d15.2.toNat<List.length ([d3,d5,x.2]:List (List UInt8)))∧
 (0≤d9.2∧d9.2<((List.length ([d3,d5,x.2]:List (List UInt8)):Nat):Int))∧
 (Fn P zS1 AJ (List.getD ([d3,d5,x.2]:List (List UInt8)) d15.2.toNat []) (fun(d41:(List (List UInt8))) (e42:Unit)=>(d9.2.toNat<List.length ([d3,d5,x.2]:List (List UInt8)))∧
 (Fn P zS1 AJ (List.getD ([d3,d5,x.2]:List (List UInt8)) d9.2.toNat []) (fun(d43:(List (List UInt8))) (e44:Unit)=>J39 (cond (cond (cond false true ((i64.wrap (d20.1 -d20.2.1)) !=(i64.wrap ((d41.length:Int) -(d43.length:Int))))) true (decide (d20.1<(0:Int)))) true (decide (d20.2.1<(0:Int))))))∧True))∧(((d9.2.toNat<List.length ([d3,d5,x.2]:List (List UInt8)))∧
 (Fn P zS1 AJ (List.getD ([d3,d5,x.2]:List (List UInt8)) d15.2.toNat []) (fun(d45:(List (List UInt8))) (e46:Unit)=>(Fn P zS1 AJ (List.getD ([d3,d5,x.2]:List (List UInt8)) d9.2.toNat []) (fun(d47:(List (List UInt8))) (e48:Unit)=>J39 (cond (cond (cond false true ((i64.wrap (d20.1 -d20.2.1)) !=(i64.wrap ((d45.length:Int) -(d47.length:Int))))) true (decide (d20.1<(0:Int)))) true (decide (d20.2.1<(0:Int))))))∧True))∧True)∧True)))) (fun d40=>((d40=true→K false ())∧(d40=false→J17 d15.1)))))))) (fun d18=>J16 (d18,(i64.wrap (d15.2+(1:Int))))))∧((decide (d15.2<(3:Int)))=false→J13 d15.1)))) (fun d14=>J11 d14)) (fun d12=>J10 (d12,(i64.wrap (d9.2+(1:Int))))))∧((decide (d9.2<(3:Int)))=false→J7 d9.1)))) (fun d8=>Fn P zS5 Be () (fun(d49:Bool) (e50:Unit)=>K d49 ()))))))
theorem HF{P:Pg}(h:Has P Ca){x:DP AK.ps}{K:DP AK.rs→DP (ptrs AK.ps)→Prop}(hw:EU P x K):Fn P ZV AK x K:=
 Cx (c:=Dp) h rfl rfl (by kernel_rfl) (Eq.mpr (show Cq P Ca AK Dp x K=_ by kernel_rfl) hw)
def Gz:Bq:=
 (.seq (.region [ia 2 (kI 0),ia 3 (kI 0),ia 4 (kI 0),o1 5 (.asg kF)]) (.seq (.seq (.region [im 8 0,o1 9 (.lenK 8),o1 10 (.mv (kI 0))]) (.frame (rg [2,3,4,5,7] 10 35) [1007]
 false (.join [.si 2,.si 3,.si 4,.sl 5 false .bool .leaf] (.block 0 (.loop [.si 2,.si 3,.si 4,.sl 5 false .bool .leaf,.si 10] (.seq (.region [o1 11 (.bin .lss 10 9)]) (.seq
 (.cond 11 .skip (.exit 0)) (.seq (.frame (rg [2,3,4,5,7] 12 32) [1007] false (.join [.si 2,.si 3,.si 4,.sl 5 false .bool .leaf] (.block 1 (.seq (.region [o1 12 (.ixA 3 8
 10),o1 13 (.load true 3 12),o1 7 (.alloc [(.string ⟨#[]⟩),(.int .i64 0),(.int .i64 0)]),o0 ⟨none,.store 3 7 13,none⟩]) (.seq (.seq (.region [fa 14 1 7,ld 15 14,oS ⟨some
 16,.call zS0 [15],none⟩ AH,o1 17 (.un .not 16),im 18 17,gf 19 18 (.fAddr 2 7),gf 20 18 (.load false 1 19),oS ⟨some 21,.call
 zS0 [20],some (18,false)⟩ AH,gf 22 18 (.un .not 21),o1 23 (.pick 18 kT 22)]) (.cond 23 (.seq (.region [ia 2 (kI 0),ia 3 (kI 0),ia 4 (kI 0),o1
 5 (.asg kF)]) .ret) .skip)) (.seq (.region [im 24 2,fa 25 1 7,ld 26 25,o1 27 (.bin .add 24 26),ia 2 27]) (.seq (.region [im 28 3,fa 29 2 7,ld 30 29,o1 31 (.bin .add 28 30),
 ia 3 31]) (.seq (.seq (.region [im 32 2,im 33 3,o1 34 (.bin .add 32 33),oS ⟨some 35,.call zS0 [34],none⟩ AH,o1 36 (.un .not 35)]) (.cond 36
 (.seq (.region [ia 2 (kI 0),ia 3 (kI 0),ia 4 (kI 0),o1 5 (.asg kF)]) .ret) .skip)) (.region [im 37 4,fa 38 1 7,ld 39 38,fa 40 2 7,ld 41 40,o1 42 (.bin .add 39 41),o1 43
 (.mm true 37 42),ia 4 43]))))))))) (.region [o1 44 (.bin .add 10 (kI 1)),im 10 44]))))))))) (.seq (.region [im 45 2,im 46 3,im 47 4,ia 2 45,ia 3 46,ia 4 47,o1 5 (.asg kT)])
 .ret)))
def EI:AFn:=⟨ "mergelens/stat.totals",Gz.erase,[.tmp 2,.tmp 3,.tmp 4,.tmp 5],1⟩
def I2(P:Pg)(x:(List Stat))(K:(Int×(Int×(Int×Bool)))→Unit→Prop):Prop:=
 Av (D:=(Int×(Int×(Int×Bool)))) (fun J1=>DD (D:=(Int×(Int×(Int×(Bool×Int))))) ((0:Int),((0:Int),((0:Int),(false,(0:Int))))) (fun d3 J4=>(((decide (d3.2.2.2.2<(x.length:Int)))=true→Av (D:=(Int×(Int×(Int×Bool)))) (fun J5=>(0≤d3.2.2.2.2∧d3.2.2.2.2<(x.length:Int))∧
 (d3.2.2.2.2.toNat<x.length)∧
 Fn P zS0 AH (List.getD x d3.2.2.2.2.toNat HD).2.1 (fun(d7:Bool) (e8:Unit)=>Av (D:=Bool) (fun J9=>(((!d7)=false→Fn P zS0 AH (List.getD x d3.2.2.2.2.toNat HD).2.2 (fun(d10:Bool) _=>J9 d10))∧(((!d7)=true→J9 false)∧True))) (fun d11=>(((cond (!d7) true (!d11))=true→K ((0:Int),((0:Int),((0:Int),false))) ())∧((cond (!d7) true (!d11))=false→Fn P zS0 AH (i64.wrap ((i64.wrap (d3.1+(List.getD x d3.2.2.2.2.toNat HD).2.1))+(i64.wrap (d3.2.1+(List.getD x d3.2.2.2.2.toNat HD).2.2)))) (fun(d12:Bool) (e13:Unit)=>(((!d12)=true→K ((0:Int),((0:Int),((0:Int),false))) ())∧((!d12)=false→J5 ((i64.wrap (d3.1+(List.getD x d3.2.2.2.2.toNat HD).2.1)),((i64.wrap (d3.2.1+(List.getD x d3.2.2.2.2.toNat HD).2.2)),((if(i64.wrap ((List.getD x d3.2.2.2.2.toNat HD).2.1+(List.getD x d3.2.2.2.2.toNat HD).2.2))>d3.2.2.1 then(i64.wrap ((List.getD x d3.2.2.2.2.toNat HD).2.1+(List.getD x d3.2.2.2.2.toNat HD).2.2))else d3.2.2.1),d3.2.2.2.1))))))))))) (fun d6=>J4 (d6.1,(d6.2.1,(d6.2.2.1,(d6.2.2.2,(i64.wrap (d3.2.2.2.2+(1:Int)))))))))∧((decide (d3.2.2.2.2<(x.length:Int)))=false→J1 (d3.1,(d3.2.1,(d3.2.2.1,d3.2.2.2.1))))))) (fun d2=>K (d2.1,(d2.2.1,(d2.2.2.1,true))) ())
theorem Nc{P:Pg}(h:Has P EI){x:DP Cn.ps}{K:DP Cn.rs→DP (ptrs Cn.ps)→Prop}(hw:I2 P x K):Fn P "mergelens/stat.totals" Cn x K:=
 Cx (c:=Gz) h rfl rfl (by kernel_rfl) (Eq.mpr (show Cq P EI Cn Gz x K=_ by kernel_rfl) hw)
def Gw:Bq:=
 (.seq (.region [o1 2 (.asg (.c (.string ⟨#[]⟩)))]) (.seq (.seq (.region [im 3 0,o1 4 (.bin .lss 3 (kI 0)),im 5 4,gf 6 5 (.mv 0),gf 7 5 (.bin .gtr 6 (kI 2147483647)),o1 8
 (.pick 5 kT 7)]) (.cond 8 (.seq (.region [o1 2 (.asg (.c (.string ⟨#[]⟩)))]) .ret) .skip)) (.seq (.region [im 9 0,oS ⟨some 10,.call "strconv.Itoa" [9],none⟩ Fx,ia 2
 10]) .ret)))
def EF:AFn:=⟨ "mergelens/scan.Format",Gw.erase,[.tmp 2],1⟩
def IY(P:Pg)(x:Int)(K:(List UInt8)→Unit→Prop):Prop:=
 (((cond (decide (x<(0:Int))) true (decide (x>(2147483647:Int))))=true→K ([]:List UInt8) ())∧((cond (decide (x<(0:Int))) true (decide (x>(2147483647:Int))))=false→Fn P "strconv.Itoa" Fx x (fun(d1:(List UInt8)) (e2:Unit)=>K d1 ())))
theorem M9{P:Pg}(h:Has P EF){x:DP Cm.ps}{K:DP Cm.rs→DP (ptrs Cm.ps)→Prop}(hw:IY P x K):Fn P "mergelens/scan.Format" Cm x K:=
 Cx (c:=Gw) h rfl rfl (by kernel_rfl) (Eq.mpr (show Cq P EF Cm Gw x K=_ by kernel_rfl) hw)
def FX:Bq:=
 (.seq (.region [o1 2 (.asg (.c (.string ⟨#[]⟩)))]) (.seq (.frame (rg [] 2 37) [] false (.join [.sl 2 false .str .leaf] (.block 0 (.seq (.region [im 4 0,o1 5 (.bin .eql 4 (.c (.int
 .u8 34))),im 6 5,gf 7 6 (.mv 0),gf 8 6 (.bin .eql 7 (.c (.int .u8 92))),o1 9 (.pick 6 kT 8),ia 3 9]) (.cond 3 (.seq (.region [im 10 0,o1 11 (.conv .ofInt 10),o1 12 (.bin
 .add (.c (.string ⟨#[92]⟩)) 11),ia 2 12]) .ret) (.seq (.region [im 14 0,o1 15 (.bin .eql 14 (.c (.int .u8 10))),ia 13 15]) (.cond 13 (.seq (.region [o1 2 (.asg (.c (.string
 ⟨#[92,110]⟩)))]) .ret) (.seq (.region [im 17 0,o1 18 (.bin .eql 17 (.c (.int .u8 9))),ia 16 18]) (.cond 16 (.seq (.region [o1 2 (.asg (.c (.string ⟨#[92,116]⟩)))]) .ret) (.seq
 (.region [im 20 0,o1 21 (.bin .lss 20 (.c (.int .u8 32))),im 22 21,gf 23 22 (.mv 0),gf 24 22 (.bin .gtr 23 (.c (.int .u8 126))),o1 25 (.pick 22 kT 24),ia 19 25]) (.cond 19
 (.seq (.region [im 26 0,o1 27 (.bin .shr 26 (.c (.int .u64 6))),o1 28 (.bin .add (.c (.int .u8 48)) 27),im 29 0,o1 30 (.bin .shr 29 (.c (.int .u64 3))),o1 31 (.bin .and 30 (.c
 (.int .u8 7))),o1 32 (.bin .add (.c (.int .u8 48)) 31),im 33 0,o1 34 (.bin .and 33 (.c (.int .u8 7))),o1 35 (.bin .add (.c (.int .u8 48)) 34),oT ⟨some 36,.buildSl 1 [(.int
 .u8 0)] 3 [(0,28),(1,32),(2,35)],none⟩ (some ((.int .u8),.leaf)),o1 37 (.conv .bytesToStr 36),o1 38 (.bin .add (.c (.string ⟨#[92]⟩)) 37),ia 2 38]) .ret) .skip)))))))))))
 (.seq (.region [im 39 0,o1 40 (.conv .ofInt 39),ia 2 40]) .ret)))
def D4:AFn:=⟨ "mergelens/scan.escaped",FX.erase,[.tmp 2],1⟩
def HJ(P:Pg)(x:Int)(K:(List UInt8)→Unit→Prop):Prop:=
 Av (D:=(List UInt8)) (fun J1=>(((cond (x==(34:Int)) true (x==(92:Int)))=true→(List.length ([92]:List UInt8)+List.length (Vc x)≤9223372036854775807)∧
 K (([92]:List UInt8)++(Vc x)) ())∧((cond (x==(34:Int)) true (x==(92:Int)))=false→(((x==(10:Int))=true→K ([92,110]:List UInt8) ())∧((x==(10:Int))=false→(((x==(9:Int))=true→K ([92,116]:List UInt8) ())∧((x==(9:Int))=false→(((cond (decide (x<(32:Int))) true (decide (x>(126:Int))))=true→(0≤(6:Int))∧
 (0≤(3:Int))∧
 (List.length ([92]:List UInt8)+List.length (strOf ([(u8.wrap ((48:Int)+(Int.fdiv x (2^(min (Int.toNat (6:Int)) u8.bits))))),(u8.wrap ((48:Int)+(u8.wrap ((BitVec.toNat (BitVec.ofInt u8.bits (Int.fdiv x (2^(min (Int.toNat (3:Int)) u8.bits)))&&&BitVec.ofInt u8.bits (7:Int)):Nat):Int)))),(u8.wrap ((48:Int)+(u8.wrap ((BitVec.toNat (BitVec.ofInt u8.bits x&&&BitVec.ofInt u8.bits (7:Int)):Nat):Int))))]:List Int))≤9223372036854775807)∧
 K (([92]:List UInt8)++(strOf ([(u8.wrap ((48:Int)+(Int.fdiv x (2^(min (Int.toNat (6:Int)) u8.bits))))),(u8.wrap ((48:Int)+(u8.wrap ((BitVec.toNat (BitVec.ofInt u8.bits (Int.fdiv x (2^(min (Int.toNat (3:Int)) u8.bits)))&&&BitVec.ofInt u8.bits (7:Int)):Nat):Int)))),(u8.wrap ((48:Int)+(u8.wrap ((BitVec.toNat (BitVec.ofInt u8.bits x&&&BitVec.ofInt u8.bits (7:Int)):Nat):Int))))]:List Int))) ())∧((cond (decide (x<(32:Int))) true (decide (x>(126:Int))))=false→J1 ([]:List UInt8)))))))))) (fun d2=>K (Vc x) ())
theorem Mi{P:Pg}(h:Has P D4){x:DP Cw.ps}{K:DP Cw.rs→DP (ptrs Cw.ps)→Prop}(hw:HJ P x K):Fn P "mergelens/scan.escaped" Cw x K:=
 Cx (c:=FX) h rfl rfl (by kernel_rfl) (Eq.mpr (show Cq P D4 Cw FX x K=_ by kernel_rfl) hw)
end Go.VS
