/- Functions of the program: typed code, and what it says, lifted. -/
import Derived.Test.YtfkfmokccekccaaGreatDoorKTxSig
import Derived.KernelRfl
set_option linter.unusedVariables false
set_option linter.unusedSimpArgs false
set_option maxRecDepth 8000
namespace Go.VS
open IntKind
def Pw:Be:=
 (.seq (.region [ia 4 (kI 0)]) (.seq (.region [im 5 0,o1 6 (.conv (.toInt .u64) 5),im 7 1,o1 8 (.conv (.toInt .u64) 7),o1 9 (.bin .rem 6 8),o1 10 (.conv (.toInt .i64) 9),ia 4
 10]) .ret))
def LR:AFn:=⟨zS1,Pw.erase,[.tmp 4],2⟩
def TH(P:Pg)(x:(Int×Int))(K:Int→Unit→Prop):Prop:=
 ((u64.wrap x.2)≠0)∧
 K (i64.wrap (Int.tmod (u64.wrap x.1) (u64.wrap x.2))) ()
theorem YJ{P:Pg}(h:Has P LR){x:DP BD.ps}{K:DP BD.rs→DP (ptrs BD.ps)→Prop}(hw:TH P x K):Fn P zS1 BD x K:=
 BG (c:=Pw) h rfl rfl (by kernel_rfl) (Eq.mpr (show BC P LR BD Pw x K=_ by kernel_rfl) hw)
def Hb:Be:=
 (.seq (.region [o1 1 (.box 0),o1 2 (.asg kF)]) (.seq (.region [fa 3 0 1,ld 4 3,o1 5 (.lenK 4),o1 6 (.bin .gtr 5 (kI 32)),ia 2 6]) .ret))
def Ft:AFn:=⟨Afm,Hb.erase,[.tmp 2],1⟩
def P8(P:Pg)(x:Commit)(K:Bool→Unit→Prop):Prop:=
 K (decide ((x.1.length:Int)>(32:Int))) ()
theorem Pd{P:Pg}(h:Has P Ft){x:DP Db.ps}{K:DP Db.rs→DP (ptrs Db.ps)→Prop}(hw:P8 P x K):Fn P Afm Db x K:=
 BG (c:=Hb) h rfl rfl (by kernel_rfl) (Eq.mpr (show BC P Ft Db Hb x K=_ by kernel_rfl) hw)
def Bh:Be:=
 (.seq (.region [ia 4 (kI 0)]) (.seq (.seq (.region [im 6 0,o1 7 (.lenK 6),o1 8 (.mv (kI 0))]) (.frame (rg [4,5] 8 11) [] false (.join [.si 4] (.block 0 (.loop [.si 4,.si 8]
 (.seq (.region [o1 9 (.bin .lss 8 7)]) (.seq (.cond 9 .skip (.exit 0)) (.seq (.frame (rg [4,5] 10 8) [] false (.join [.si 4] (.block 1 (.seq (.region [im 10 8,ia 5 10]) (.seq
 (.region [im 11 1,im 12 0,im 13 5,o1 14 (.ixA 3 12 13),o1 15 (.load true 3 14),oS ⟨some 16,.callv 11 [15],none⟩ Db]) (.cond 16 (.seq (.region [im 17 5,ia 4
 17]) .ret) .skip)))))) (.region [o1 18 (.bin .add 8 (kI 1)),im 8 18]))))))))) (.seq (.region [ia 4 (kI (-1))]) .ret)))
def AP:AFn:=⟨zS4,Bh.erase,[.tmp 4],2⟩
def BX(P:Pg)(x:((List Commit)×Unit))(K:Int→Unit→Prop):Prop:=
 Ad (D:=Int) (fun J1=>AJ (D:=(Int×Int)) ((0:Int),(0:Int)) (fun d3 J4=>(((decide (d3.2<(x.1.length:Int)))=true→Ad (D:=Int) (fun J5=>(0≤d3.2∧d3.2<(x.1.length:Int))∧
 (d3.2.toNat<x.1.length)∧
 Fn P Afm Db (List.getD x.1 d3.2.toNat Ah) (fun(d7:Bool) (e8:Unit)=>((d7=true→K d3.2 ())∧(d7=false→J5 d3.1)))) (fun d6=>J4 (d6,(i64.wrap (d3.2+(1:Int))))))∧((decide (d3.2<(x.1.length:Int)))=false→J1 d3.1)))) (fun d2=>K (-1:Int) ())
theorem C4{P:Pg}(h:Has P AP){x:DP Aq.ps}{K:DP Aq.rs→DP (ptrs Aq.ps)→Prop}(hw:BX P x K):Fn P zS4 Aq x K:=
 BG (c:=Bh) h rfl rfl (by kernel_rfl) (Eq.mpr (show BC P AP Aq Bh x K=_ by kernel_rfl) hw)
def A9:Be:=
 (.seq (.region [o1 4 (.asg kF)]) (.seq (.region [im 5 0,im 6 1,oS ⟨some 7,.call zS4 [5,6],none⟩
 Aq,o1 8 (.bin .geq 7 (kI 0)),ia 4 8]) .ret))
def AL:AFn:=⟨zS5,A9.erase,[.tmp 4],2⟩
def BJ(P:Pg)(x:((List Commit)×Unit))(K:Bool→Unit→Prop):Prop:=
 Fn P zS4 Aq (x.1,()) (fun(d1:Int) (e2:Unit)=>K (decide (d1≥(0:Int))) ())
theorem CP{P:Pg}(h:Has P AL){x:DP Am.ps}{K:DP Am.rs→DP (ptrs Am.ps)→Prop}(hw:BJ P x K):Fn P zS5 Am x K:=
 BG (c:=A9) h rfl rfl (by kernel_rfl) (Eq.mpr (show BC P AL Am A9 x K=_ by kernel_rfl) hw)
def I7:Be:=
 (.seq (.region [o1 2 (.asg kF)]) (.seq (.region [im 3 0,o1 4 (.lenK 3),o1 5 (.bin .leq 4 (kI 300)),im 6 5,gt 7 6 (.mv 0),oS ⟨some 8,.call
 zS5 [7,(.f Afm)],some (6,true)⟩ Am,
 gt 9 6 (.un .not 8),o1 10 (.pick 6 9 kF),ia 2 10]) .ret))
def Gu:AFn:=⟨AdI,I7.erase,[.tmp 2],1⟩
def Mq(P:Pg)(x:(List Commit))(K:Bool→Unit→Prop):Prop:=
 Ad (D:=Bool) (fun J1=>(((decide ((x.length:Int)≤(300:Int)))=true→Fn P zS5 Am (x,()) (fun(d2:Bool) _=>J1 d2))∧(((decide ((x.length:Int)≤(300:Int)))=false→J1 false)∧True))) (fun d3=>K (cond (decide ((x.length:Int)≤(300:Int))) (!d3) false) ())
theorem Rk{P:Pg}(h:Has P Gu){x:DP Dn.ps}{K:DP Dn.rs→DP (ptrs Dn.ps)→Prop}(hw:Mq P x K):Fn P AdI Dn x K:=
 BG (c:=I7) h rfl rfl (by kernel_rfl) (Eq.mpr (show BC P Gu Dn I7 x K=_ by kernel_rfl) hw)
def Eu:Be:=
 (.seq (.region [ia 4 (kI 0)]) (.seq (.seq (.region [im 6 0,o1 7 (.lenK 6),o1 8 (.mv (kI 0))]) (.frame (rg [4,5] 8 11) [] false (.join [.si 4] (.block 0 (.loop [.si 4,.si 8]
 (.seq (.region [o1 9 (.bin .lss 8 7)]) (.seq (.cond 9 .skip (.exit 0)) (.seq (.frame (rg [4,5] 10 8) [] false (.join [.si 4] (.block 1 (.seq (.region [im 10 8,ia 5 10]) (.seq
 (.region [im 11 1,im 12 0,im 13 5,o1 14 (.ixA 1 12 13),ld 15 14,o1 16 (.bin .eql 11 15)]) (.cond 16 (.seq (.region [im 17 5,ia 4 17]) .ret) .skip)))))) (.region [o1 18 (.bin
 .add 8 (kI 1)),im 8 18]))))))))) (.seq (.region [ia 4 (kI (-1))]) .ret)))
def Dj:AFn:=⟨ "slices.Index[[]int,int]",Eu.erase,[.tmp 4],2⟩
def FL(P:Pg)(x:((List Int)×Int))(K:Int→Unit→Prop):Prop:=
 Ad (D:=Int) (fun J1=>AJ (D:=(Int×Int)) ((0:Int),(0:Int)) (fun d3 J4=>(((decide (d3.2<(x.1.length:Int)))=true→Ad (D:=Int) (fun J5=>(0≤d3.2∧d3.2<(x.1.length:Int))∧
 (d3.2.toNat<x.1.length)∧
 (((x.2==(List.getD x.1 d3.2.toNat (0:Int)))=true→K d3.2 ())∧((x.2==(List.getD x.1 d3.2.toNat (0:Int)))=false→J5 d3.1))) (fun d6=>J4 (d6,(i64.wrap (d3.2+(1:Int))))))∧((decide (d3.2<(x.1.length:Int)))=false→J1 d3.1)))) (fun d2=>K (-1:Int) ())
theorem Jy{P:Pg}(h:Has P Dj){x:DP BE.ps}{K:DP BE.rs→DP (ptrs BE.ps)→Prop}(hw:FL P x K):Fn P "slices.Index[[]int,int]" BE x K:=
 BG (c:=Eu) h rfl rfl (by kernel_rfl) (Eq.mpr (show BC P Dj BE Eu x K=_ by kernel_rfl) hw)
def DM:Be:=
 (.seq (.region [o1 4 (.asg kF)]) (.seq (.region [im 5 0,im 6 1,oS ⟨some 7,.call "slices.Index[[]int,int]" [5,6],none⟩ BE,o1 8 (.bin .geq 7 (kI 0)),ia 4
 8]) .ret))
def CN:AFn:=⟨ "slices.Contains[[]int,int]",DM.erase,[.tmp 4],2⟩
def Fe(P:Pg)(x:((List Int)×Int))(K:Bool→Unit→Prop):Prop:=
 Fn P "slices.Index[[]int,int]" BE x (fun(d1:Int) (e2:Unit)=>K (decide (d1≥(0:Int))) ())
theorem HT{P:Pg}(h:Has P CN){x:DP Bj.ps}{K:DP Bj.rs→DP (ptrs Bj.ps)→Prop}(hw:Fe P x K):Fn P "slices.Contains[[]int,int]" Bj x K:=
 BG (c:=DM) h rfl rfl (by kernel_rfl) (Eq.mpr (show BC P CN Bj DM x K=_ by kernel_rfl) hw)
def I8:Be:=
 (.seq (.region [o1 2 (.asg kF)]) (.seq (.seq (.region [im 7 0,o1 8 (.lenK 7),o1 9 (.mv (kI 0))]) (.frame (rg [2,4,5,6] 9 30) [1004] false (.join [.sl 2 false .bool .leaf]
 (.block 0 (.loop [.sl 2 false .bool .leaf,.si 9] (.seq (.region [o1 10 (.bin .lss 9 8)]) (.seq (.cond 10 .skip (.exit 0)) (.seq (.frame (rg [2,4,5,6] 11 27) [1004] false (.join
 [.sl 2 false .bool .leaf] (.block 1 (.seq (.region [o1 11 (.ixA 3 7 9),o1 12 (.load true 3 11),o1 4 (.alloc [(.slice none 0 0),(.int .i64 0),(.slice none 0 0)]),o0 ⟨none,
 .store 3 4 12,none⟩]) (.seq (.region [fa 13 0 4,ld 14 13,o1 15 (.lenK 14),o1 16 (.mv (kI 0))]) (.frame (rg [2,5,6] 16 22) [] false (.join [.sl 2 false .bool .leaf] (.block 2
 (.loop [.sl 2 false .bool .leaf,.si 16] (.seq (.region [o1 17 (.bin .lss 16 15)]) (.seq (.cond 17 .skip (.exit 2)) (.seq (.frame (rg [2,5,6] 18 19) [] false (.join [.sl 2 false
 .bool .leaf] (.block 3 (.seq (.region [im 18 16,o1 19 (.ixA 1 14 16),ld 20 19,ia 5 18,ia 6 20]) (.seq (.region [im 21 6,o1 22 (.bin .lss 21 (kI 0)),im 23 22,gf 24 23 (.mv
 6),gf 25 23 (.mv 0),gf 26 23 (.lenK 25),gf 27 23 (.bin .geq 24 26),o1 28 (.pick 23 kT 27),im 29 28,gf 30 29 (.fAddr 0 4),gf 31 29 (.load false 1 30),gf 32 29 (.mv 5),gf 33
 29 (.slK 1 31 none (some 32)),gf 34 29 (.mv 6),oS ⟨some 35,.call "slices.Contains[[]int,int]" [33,34],some (29,false)⟩ Bj,o1 36 (.pick 29 kT 35)])
 (.cond 36 (.seq (.region [o1 2 (.asg kF)]) .ret) .skip)))))) (.region [o1 37 (.bin .add 16 (kI 1)),im 16 37]))))))))))))) (.region [o1 38 (.bin .add 9 (kI 1)),im 9 38])))))))))
 (.seq (.region [o1 2 (.asg kT)]) .ret)))
def Gv:AFn:=⟨AdJ,I8.erase,[.tmp 2],1⟩
def Mr(P:Pg)(x:(List Commit))(K:Bool→Unit→Prop):Prop:=
 Ad (D:=Bool) (fun J1=>AJ (D:=(Bool×Int)) (false,(0:Int)) (fun d3 J4=>(((decide (d3.2<(x.length:Int)))=true→Ad (D:=Bool) (fun J5=>(0≤d3.2∧d3.2<(x.length:Int))∧
 (d3.2.toNat<x.length)∧
 Ad (D:=Bool) (fun J7=>AJ (D:=(Bool×Int)) (d3.1,(0:Int)) (fun d9 J10=>(((decide (d9.2<((List.length (List.getD x d3.2.toNat Ah).1:Nat):Int)))=true→Ad (D:=Bool) (fun J11=>(0≤d9.2∧d9.2<((List.length (List.getD x d3.2.toNat Ah).1:Nat):Int))∧
 (d9.2.toNat<List.length (List.getD x d3.2.toNat Ah).1)∧
 (((cond (decide ((List.getD (List.getD x d3.2.toNat Ah).1 d9.2.toNat (0:Int))<(0:Int))) true (decide ((List.getD (List.getD x d3.2.toNat Ah).1 d9.2.toNat (0:Int))≥(x.length:Int))))=false→0≤d9.2∧d9.2≤((List.length (List.getD x d3.2.toNat Ah).1:Nat):Int)))∧
 Ad (D:=Bool) (fun J13=>(((cond (decide ((List.getD (List.getD x d3.2.toNat Ah).1 d9.2.toNat (0:Int))<(0:Int))) true (decide ((List.getD (List.getD x d3.2.toNat Ah).1 d9.2.toNat (0:Int))≥(x.length:Int))))=false→Fn P "slices.Contains[[]int,int]" Bj ((List.take d9.2.toNat (List.getD x d3.2.toNat Ah).1),(List.getD (List.getD x d3.2.toNat Ah).1 d9.2.toNat (0:Int))) (fun(d14:Bool) _=>J13 d14))∧(((cond (decide ((List.getD (List.getD x d3.2.toNat Ah).1 d9.2.toNat (0:Int))<(0:Int))) true (decide ((List.getD (List.getD x d3.2.toNat Ah).1 d9.2.toNat (0:Int))≥(x.length:Int))))=true→J13 false)∧True))) (fun d15=>(((cond (cond (decide ((List.getD (List.getD x d3.2.toNat Ah).1 d9.2.toNat (0:Int))<(0:Int))) true (decide ((List.getD (List.getD x d3.2.toNat Ah).1 d9.2.toNat (0:Int))≥(x.length:Int)))) true d15)=true→K false ())∧((cond (cond (decide ((List.getD (List.getD x d3.2.toNat Ah).1 d9.2.toNat (0:Int))<(0:Int))) true (decide ((List.getD (List.getD x d3.2.toNat Ah).1 d9.2.toNat (0:Int))≥(x.length:Int)))) true d15)=false→J11 d9.1)))) (fun d12=>J10 (d12,(i64.wrap (d9.2+(1:Int))))))∧((decide (d9.2<((List.length (List.getD x d3.2.toNat Ah).1:Nat):Int)))=false→J7 d9.1)))) (fun d8=>J5 d8)) (fun d6=>J4 (d6,(i64.wrap (d3.2+(1:Int))))))∧((decide (d3.2<(x.length:Int)))=false→J1 d3.1)))) (fun d2=>K true ())
theorem Rl{P:Pg}(h:Has P Gv){x:DP Dp.ps}{K:DP Dp.rs→DP (ptrs Dp.ps)→Prop}(hw:Mr P x K):Fn P AdJ Dp x K:=
 BG (c:=I8) h rfl rfl (by kernel_rfl) (Eq.mpr (show BC P Gv Dp I8 x K=_ by kernel_rfl) hw)
def Kl:Be:=
 (.seq (.region [o1 2 (.asg (.c (.slice none 0 0)))]) (.seq (.region [im 14 0,o1 15 (.lenK 14),oT ⟨some 16,.mkSl 1 8 [(.int .i64 0)] 15 15,none⟩ (some (bI,.leaf)),ia 3 16])
 (.seq (.seq (.region [im 17 0,o1 18 (.lenK 17),o1 19 (.mv (kI 0))]) (.frame (rg [3,5,7] 19 19) [1005] false (.join [.sl 3 false (.sl bI) tO] (.block 0 (.loop [.sl 3 false (.sl
 bI) tO,.si 19] (.seq (.region [o1 20 (.bin .lss 19 18)]) (.seq (.cond 20 .skip (.exit 0)) (.seq (.frame (rg [3,5,7] 21 16) [1005] false (.join [.sl 3 false (.sl bI) tO] (.block
 1 (.seq (.region [o1 21 (.ixA 3 17 19),o1 22 (.load true 3 21),o1 5 (.alloc [(.slice none 0 0),(.int .i64 0),(.slice none 0 0)]),o0 ⟨none,.store 3 5 22,none⟩]) (.seq
 (.region [fa 23 0 5,ld 24 23,o1 25 (.lenK 24),o1 26 (.mv (kI 0))]) (.frame (rg [3,7] 26 11) [] false (.join [.sl 3 false (.sl bI) tO] (.block 2 (.loop [.sl 3 false (.sl bI) tO,
 .si 26] (.seq (.region [o1 27 (.bin .lss 26 25)]) (.seq (.cond 27 .skip (.exit 2)) (.seq (.frame (rg [3,7] 28 8) [] false (.join [.sl 3 false (.sl bI) tO] (.block 3 (.seq (.region
 [o1 28 (.ixA 1 24 26),ld 29 28,ia 7 29]) (.region [im 30 3,im 31 7,o1 32 (.ixA 1 30 31),ld 33 32,o1 34 (.bin .add 33 (kI 1)),o1 35 (.ixA 1 30 31),o0 ⟨none,.store 1 35 34,
 none⟩]))))) (.region [o1 36 (.bin .add 26 (kI 1)),im 26 36]))))))))))))) (.region [o1 37 (.bin .add 19 (kI 1)),im 19 37]))))))))) (.seq (.region [o1 8 (.asg (.c (.slice none 0
 0)))]) (.seq (.seq (.region [im 38 3,o1 39 (.lenK 38),o1 40 (.mv (kI 0))]) (.frame (rg [8,9,10] 40 12) [] false (.join [.sl 8 false (.sl bI) tO] (.block 4 (.loop [.sl 8 false
 (.sl bI) tO,.si 40] (.seq (.region [o1 41 (.bin .lss 40 39)]) (.seq (.cond 41 .skip (.exit 4)) (.seq (.frame (rg [8,9,10] 42 9) [] false (.join [.sl 8 false (.sl bI) tO] (.block
 5 (.seq (.region [im 42 40,o1 43 (.ixA 1 38 40),ld 44 43,ia 9 42,ia 10 44]) (.seq (.region [im 45 10,o1 46 (.bin .eql 45 (kI 0))]) (.frame (rg [8] 47 4) [] false (.join [.sl 8
 false (.sl bI) tO] (.cond 46 (.region [im 47 8,im 48 9,oT ⟨some 49,.buildSl 1 [(.int .i64 0)] 1 [(0,48)],none⟩ (some (bI,.leaf)),oT ⟨some 50,.app 1 8 47 49,none⟩ (some
 (bI,.leaf)),ia 8 50]) .skip)))))))) (.region [o1 51 (.bin .add 40 (kI 1)),im 40 51]))))))))) (.seq (.seq (.region [ia 11 (kI 0)]) (.frame (rg [3,8,11,13] 52 35) [] false
 (.join [.sl 8 false (.sl bI) tO] (.block 6 (.loop [.sl 3 false (.sl bI) tO,.sl 8 false (.sl bI) tO,.si 11] (.seq (.seq (.region [im 52 11,im 53 8,o1 54 (.lenK 53),o1 55 (.bin
 .lss 52 54)]) (.cond 55 .skip (.exit 6))) (.seq (.frame (rg [3,8,13] 58 29) [] false (.join [.sl 3 false (.sl bI) tO,.sl 8 false (.sl bI) tO] (.block 7 (.seq (.region [im 58 0,
 im 59 8,im 60 11,o1 61 (.ixA 1 59 60),ld 62 61,o1 63 (.ixA 3 58 62),fa 64 0 63,ld 65 64,o1 66 (.lenK 65),o1 67 (.mv (kI 0))]) (.frame (rg [3,8,13] 67 20) [] false (.join
 [.sl 3 false (.sl bI) tO,.sl 8 false (.sl bI) tO] (.block 8 (.loop [.sl 3 false (.sl bI) tO,.sl 8 false (.sl bI) tO,.si 67] (.seq (.region [o1 68 (.bin .lss 67 66)]) (.seq
 (.cond 68 .skip (.exit 8)) (.seq (.frame (rg [3,8,13] 69 17) [] false (.join [.sl 3 false (.sl bI) tO,.sl 8 false (.sl bI) tO] (.block 9 (.seq (.region [o1 69 (.ixA 1 65 67),ld
 70 69,ia 13 70]) (.seq (.region [im 71 3,im 72 13,o1 73 (.ixA 1 71 72),ld 74 73,o1 75 (.bin .sub 74 (kI 1)),o1 76 (.ixA 1 71 72),o0 ⟨none,.store 1 76 75,none⟩]) (.seq
 (.region [im 77 3,im 78 13,o1 79 (.ixA 1 77 78),ld 80 79,o1 81 (.bin .eql 80 (kI 0))]) (.frame (rg [8] 82 4) [] false (.join [.sl 8 false (.sl bI) tO] (.cond 81 (.region [im 82
 8,im 83 13,oT ⟨some 84,.buildSl 1 [(.int .i64 0)] 1 [(0,83)],none⟩ (some (bI,.leaf)),oT ⟨some 85,.app 1 8 82 84,none⟩ (some (bI,.leaf)),ia 8 85]) .skip))))))))) (.region
 [o1 86 (.bin .add 67 (kI 1)),im 67 86])))))))))))) (.region [im 56 11,o1 57 (.bin .add 56 (kI 1)),ia 11 57])))))))) (.seq (.region [im 87 8,ia 2 87]) .ret)))))))
def He:AFn:=⟨AdK,Kl.erase,[.tmp 2],1⟩
def NC(P:Pg)(x:(List Commit))(K:(List Int)→Unit→Prop):Prop:=
 (0≤(x.length:Int)∧(x.length:Int)≤(x.length:Int)∧((8:Nat):Int)*(x.length:Int)≤281474976710656)∧
 Ad (D:=(List Int)) (fun J1=>AJ (D:=((List Int)×Int)) ((List.replicate (Int.toNat (x.length:Int)) (0:Int)),(0:Int)) (fun d3 J4=>(((decide (d3.2<(x.length:Int)))=true→Ad (D:=(List Int)) (fun J5=>(0≤d3.2∧d3.2<(x.length:Int))∧
 (d3.2.toNat<x.length)∧
 Ad (D:=(List Int)) (fun J7=>AJ (D:=((List Int)×Int)) (d3.1,(0:Int)) (fun d9 J10=>(((decide (d9.2<((List.length (List.getD x d3.2.toNat Ah).1:Nat):Int)))=true→Ad (D:=(List Int)) (fun J11=>(0≤d9.2∧d9.2<((List.length (List.getD x d3.2.toNat Ah).1:Nat):Int))∧
 (d9.2.toNat<List.length (List.getD x d3.2.toNat Ah).1)∧
 (0≤(List.getD (List.getD x d3.2.toNat Ah).1 d9.2.toNat (0:Int))∧(List.getD (List.getD x d3.2.toNat Ah).1 d9.2.toNat (0:Int))<(d9.1.length:Int))∧
 ((Int.toNat (List.getD (List.getD x d3.2.toNat Ah).1 d9.2.toNat (0:Int)))<d9.1.length)∧
 (0≤(List.getD (List.getD x d3.2.toNat Ah).1 d9.2.toNat (0:Int))∧(List.getD (List.getD x d3.2.toNat Ah).1 d9.2.toNat (0:Int))<(d9.1.length:Int))∧
 ((Int.toNat (List.getD (List.getD x d3.2.toNat Ah).1 d9.2.toNat (0:Int)))<d9.1.length)∧
 J11 (List.set d9.1 (Int.toNat (List.getD (List.getD x d3.2.toNat Ah).1 d9.2.toNat (0:Int))) (i64.wrap ((List.getD d9.1 (Int.toNat (List.getD (List.getD x d3.2.toNat Ah).1 d9.2.toNat (0:Int))) (0:Int))+(1:Int))))) (fun d12=>J10 (d12,(i64.wrap (d9.2+(1:Int))))))∧((decide (d9.2<((List.length (List.getD x d3.2.toNat Ah).1:Nat):Int)))=false→J7 d9.1)))) (fun d8=>J5 d8)) (fun d6=>J4 (d6,(i64.wrap (d3.2+(1:Int))))))∧((decide (d3.2<(x.length:Int)))=false→J1 d3.1)))) (fun d2=>Ad (D:=(List Int)) (fun J13=>AJ (D:=((List Int)×Int)) ([],(0:Int)) (fun d15 J16=>(((decide (d15.2<(d2.length:Int)))=true→Ad (D:=(List Int)) (fun J17=>(0≤d15.2∧d15.2<(d2.length:Int))∧
 (d15.2.toNat<d2.length)∧
 Ad (D:=(List Int)) (fun J19=>((((List.getD d2 d15.2.toNat (0:Int))==(0:Int))=true→((d15.1.length+List.length ([d15.2]:List Int))*8≤140737488355328)∧
 J19 (d15.1++([d15.2]:List Int)))∧(((List.getD d2 d15.2.toNat (0:Int))==(0:Int))=false→J19 d15.1))) (fun d20=>J17 d20)) (fun d18=>J16 (d18,(i64.wrap (d15.2+(1:Int))))))∧((decide (d15.2<(d2.length:Int)))=false→J13 d15.1)))) (fun d14=>Ad (D:=(List Int)) (fun J21=>AJ (D:=((List Int)×((List Int)×Int))) (d2,(d14,(0:Int))) (fun d23 J24=>(((decide (d23.2.2<(d23.2.1.length:Int)))=true→Ad (D:=((List Int)×(List Int))) (fun J25=>(0≤d23.2.2∧d23.2.2<(d23.2.1.length:Int))∧
 (d23.2.2.toNat<d23.2.1.length)∧
 (0≤(List.getD d23.2.1 d23.2.2.toNat (0:Int))∧(List.getD d23.2.1 d23.2.2.toNat (0:Int))<(x.length:Int))∧
 ((Int.toNat (List.getD d23.2.1 d23.2.2.toNat (0:Int)))<x.length)∧
 Ad (D:=((List Int)×(List Int))) (fun J27=>AJ (D:=((List Int)×((List Int)×Int))) (d23.1,(d23.2.1,(0:Int))) (fun d29 J30=>(((decide (d29.2.2<((List.length (List.getD x (Int.toNat (List.getD d23.2.1 d23.2.2.toNat (0:Int))) Ah).1:Nat):Int)))=true→Ad (D:=((List Int)×(List Int))) (fun J31=>(0≤d29.2.2∧d29.2.2<((List.length (List.getD x (Int.toNat (List.getD d23.2.1 d23.2.2.toNat (0:Int))) Ah).1:Nat):Int))∧
 (d29.2.2.toNat<List.length (List.getD x (Int.toNat (List.getD d23.2.1 d23.2.2.toNat (0:Int))) Ah).1)∧
 (0≤(List.getD (List.getD x (Int.toNat (List.getD d23.2.1 d23.2.2.toNat (0:Int))) Ah).1 d29.2.2.toNat (0:Int))∧(List.getD (List.getD x (Int.toNat (List.getD d23.2.1 d23.2.2.toNat (0:Int))) Ah).1 d29.2.2.toNat (0:Int))<(d29.1.length:Int))∧
 ((Int.toNat (List.getD (List.getD x (Int.toNat (List.getD d23.2.1 d23.2.2.toNat (0:Int))) Ah).1 d29.2.2.toNat (0:Int)))<d29.1.length)∧
 (0≤(List.getD (List.getD x (Int.toNat (List.getD d23.2.1 d23.2.2.toNat (0:Int))) Ah).1 d29.2.2.toNat (0:Int))∧(List.getD (List.getD x (Int.toNat (List.getD d23.2.1 d23.2.2.toNat (0:Int))) Ah).1 d29.2.2.toNat (0:Int))<(d29.1.length:Int))∧
 ((Int.toNat (List.getD (List.getD x (Int.toNat (List.getD d23.2.1 d23.2.2.toNat (0:Int))) Ah).1 d29.2.2.toNat (0:Int)))<d29.1.length)∧
 (0≤(List.getD (List.getD x (Int.toNat (List.getD d23.2.1 d23.2.2.toNat (0:Int))) Ah).1 d29.2.2.toNat (0:Int))∧(List.getD (List.getD x (Int.toNat (List.getD d23.2.1 d23.2.2.toNat (0:Int))) Ah).1 d29.2.2.toNat (0:Int))<((List.length (List.set d29.1 (Int.toNat (List.getD (List.getD x (Int.toNat (List.getD d23.2.1 d23.2.2.toNat (0:Int))) Ah).1 d29.2.2.toNat (0:Int))) (i64.wrap ((List.getD d29.1 (Int.toNat (List.getD (List.getD x (Int.toNat (List.getD d23.2.1 d23.2.2.toNat (0:Int))) Ah).1 d29.2.2.toNat (0:Int))) (0:Int)) -(1:Int)))):Nat):Int))∧
 ((Int.toNat (List.getD (List.getD x (Int.toNat (List.getD d23.2.1 d23.2.2.toNat (0:Int))) Ah).1 d29.2.2.toNat (0:Int)))<List.length (List.set d29.1 (Int.toNat (List.getD (List.getD x (Int.toNat (List.getD d23.2.1 d23.2.2.toNat (0:Int))) Ah).1 d29.2.2.toNat (0:Int))) (i64.wrap ((List.getD d29.1 (Int.toNat (List.getD (List.getD x (Int.toNat (List.getD d23.2.1 d23.2.2.toNat (0:Int))) Ah).1 d29.2.2.toNat (0:Int))) (0:Int)) -(1:Int)))))∧
 Ad (D:=(List Int)) (fun J33=>((((List.getD (List.set d29.1 (Int.toNat (List.getD (List.getD x (Int.toNat (List.getD d23.2.1 d23.2.2.toNat (0:Int))) Ah).1 d29.2.2.toNat (0:Int))) (i64.wrap ((List.getD d29.1 (Int.toNat (List.getD (List.getD x (Int.toNat (List.getD d23.2.1 d23.2.2.toNat (0:Int))) Ah).1 d29.2.2.toNat (0:Int))) (0:Int)) -(1:Int)))) (Int.toNat (List.getD (List.getD x (Int.toNat (List.getD d23.2.1 d23.2.2.toNat (0:Int))) Ah).1 d29.2.2.toNat (0:Int))) (0:Int))==(0:Int))=true→((d29.2.1.length+List.length ([(List.getD (List.getD x (Int.toNat (List.getD d23.2.1 d23.2.2.toNat (0:Int))) Ah).1 d29.2.2.toNat (0:Int))]:List Int))*8≤140737488355328)∧
 J33 (d29.2.1++([(List.getD (List.getD x (Int.toNat (List.getD d23.2.1 d23.2.2.toNat (0:Int))) Ah).1 d29.2.2.toNat (0:Int))]:List Int)))∧(((List.getD (List.set d29.1 (Int.toNat (List.getD (List.getD x (Int.toNat (List.getD d23.2.1 d23.2.2.toNat (0:Int))) Ah).1 d29.2.2.toNat (0:Int))) (i64.wrap ((List.getD d29.1 (Int.toNat (List.getD (List.getD x (Int.toNat (List.getD d23.2.1 d23.2.2.toNat (0:Int))) Ah).1 d29.2.2.toNat (0:Int))) (0:Int)) -(1:Int)))) (Int.toNat (List.getD (List.getD x (Int.toNat (List.getD d23.2.1 d23.2.2.toNat (0:Int))) Ah).1 d29.2.2.toNat (0:Int))) (0:Int))==(0:Int))=false→J33 d29.2.1))) (fun d34=>J31 ((List.set d29.1 (Int.toNat (List.getD (List.getD x (Int.toNat (List.getD d23.2.1 d23.2.2.toNat (0:Int))) Ah).1 d29.2.2.toNat (0:Int))) (i64.wrap ((List.getD d29.1 (Int.toNat (List.getD (List.getD x (Int.toNat (List.getD d23.2.1 d23.2.2.toNat (0:Int))) Ah).1 d29.2.2.toNat (0:Int))) (0:Int)) -(1:Int)))),d34))) (fun d32=>J30 (d32.1,(d32.2,(i64.wrap (d29.2.2+(1:Int)))))))∧((decide (d29.2.2<((List.length (List.getD x (Int.toNat (List.getD d23.2.1 d23.2.2.toNat (0:Int))) Ah).1:Nat):Int)))=false→J27 (d29.1,d29.2.1))))) (fun d28=>J25 d28)) (fun d26=>J24 (d26.1,(d26.2,(i64.wrap (d23.2.2+(1:Int)))))))∧((decide (d23.2.2<(d23.2.1.length:Int)))=false→J21 d23.2.1)))) (fun d22=>K d22 ())))
theorem SU{P:Pg}(h:Has P He){x:DP DQ.ps}{K:DP DQ.rs→DP (ptrs DQ.ps)→Prop}(hw:NC P x K):Fn P AdK DQ x K:=
 BG (c:=Kl) h rfl rfl (by kernel_rfl) (Eq.mpr (show BC P He DQ Kl x K=_ by kernel_rfl) hw)
def Ig:Be:=
 (.seq (.region [o1 1 (.box 0),o1 2 (.asg kF)]) (.seq (.region [fa 3 0 1,ld 4 3,oS ⟨some 5,.call Afn [4],none⟩ D8,o1 6 (.bin .neq 5 (kI
 0)),ia 2 6]) .ret))
def FH:AFn:=⟨AdG,Ig.erase,[.tmp 2],1⟩
def K4(P:Pg)(x:((List UInt8)×(List UInt8)))(K:Bool→Unit→Prop):Prop:=
 Fn P Afn D8 x.1 (fun(d1:Int) (e2:Unit)=>K (d1 !=(0:Int)) ())
theorem Qb{P:Pg}(h:Has P FH){x:DP CY.ps}{K:DP CY.rs→DP (ptrs CY.ps)→Prop}(hw:K4 P x K):Fn P AdG CY x K:=
 BG (c:=Ig) h rfl rfl (by kernel_rfl) (Eq.mpr (show BC P FH CY Ig x K=_ by kernel_rfl) hw)
def Bz:Be:=
 (.seq (.region [ia 4 (kI 0)]) (.seq (.seq (.region [im 6 0,o1 7 (.lenK 6),o1 8 (.mv (kI 0))]) (.frame (rg [4,5] 8 11) [] false (.join [.si 4] (.block 0 (.loop [.si 4,.si 8]
 (.seq (.region [o1 9 (.bin .lss 8 7)]) (.seq (.cond 9 .skip (.exit 0)) (.seq (.frame (rg [4,5] 10 8) [] false (.join [.si 4] (.block 1 (.seq (.region [im 10 8,ia 5 10]) (.seq
 (.region [im 11 1,im 12 0,im 13 5,o1 14 (.ixA 2 12 13),o1 15 (.load true 2 14),oS ⟨some 16,.callv 11 [15],none⟩ CY]) (.cond 16 (.seq (.region [im 17 5,ia 4 17])
 .ret) .skip)))))) (.region [o1 18 (.bin .add 8 (kI 1)),im 8 18]))))))))) (.seq (.region [ia 4 (kI (-1))]) .ret)))
def AZ:AFn:=⟨zS6,Bz.erase,[.tmp 4],2⟩
def Cb(P:Pg)(x:((List ((List UInt8)×(List UInt8)))×Unit))(K:Int→Unit→Prop):Prop:=
 Ad (D:=Int) (fun J1=>AJ (D:=(Int×Int)) ((0:Int),(0:Int)) (fun d3 J4=>(((decide (d3.2<(x.1.length:Int)))=true→Ad (D:=Int) (fun J5=>(0≤d3.2∧d3.2<(x.1.length:Int))∧
 (d3.2.toNat<x.1.length)∧
 Fn P AdG CY (List.getD x.1 d3.2.toNat ([],[])) (fun(d7:Bool) (e8:Unit)=>((d7=true→K d3.2 ())∧(d7=false→J5 d3.1)))) (fun d6=>J4 (d6,(i64.wrap (d3.2+(1:Int))))))∧((decide (d3.2<(x.1.length:Int)))=false→J1 d3.1)))) (fun d2=>K (-1:Int) ())
theorem Dz{P:Pg}(h:Has P AZ){x:DP Ax.ps}{K:DP Ax.rs→DP (ptrs Ax.ps)→Prop}(hw:Cb P x K):Fn P zS6 Ax x K:=
 BG (c:=Bz) h rfl rfl (by kernel_rfl) (Eq.mpr (show BC P AZ Ax Bz x K=_ by kernel_rfl) hw)
def Bk:Be:=
 (.seq (.region [o1 4 (.asg kF)]) (.seq (.region [im 5 0,im 6 1,oS ⟨some 7,.call zS6 [5,6],none⟩
 Ax,o1 8 (.bin .geq 7 (kI 0)),ia 4 8]) .ret))
def AW:AFn:=⟨zS7,Bk.erase,[.tmp 4],2⟩
def B0(P:Pg)(x:((List ((List UInt8)×(List UInt8)))×Unit))(K:Bool→Unit→Prop):Prop:=
 Fn P zS6 Ax (x.1,()) (fun(d1:Int) (e2:Unit)=>K (decide (d1≥(0:Int))) ())
theorem Dc{P:Pg}(h:Has P AW){x:DP Ar.ps}{K:DP Ar.rs→DP (ptrs Ar.ps)→Prop}(hw:B0 P x K):Fn P zS7 Ar x K:=
 BG (c:=Bk) h rfl rfl (by kernel_rfl) (Eq.mpr (show BC P AW Ar Bk x K=_ by kernel_rfl) hw)
def Ks:Be:=
 (.seq (.region [o1 2 (.asg kF)]) (.seq (.region [im 3 0,oS ⟨some 4,.call "strings.HasSuffix" [3,(.c (.string ⟨#[10]⟩))],none⟩ Df,ia 2 4]) .ret))
def Hl:AFn:=⟨AdL,Ks.erase,[.tmp 2],1⟩
def NK(P:Pg)(x:(List UInt8))(K:Bool→Unit→Prop):Prop:=
 Fn P "strings.HasSuffix" Df (x,([10]:List UInt8)) (fun(d1:Bool) (e2:Unit)=>K d1 ())
theorem Ta{P:Pg}(h:Has P Hl){x:DP DW.ps}{K:DP DW.rs→DP (ptrs DW.ps)→Prop}(hw:NK P x K):Fn P AdL DW x K:=
 BG (c:=Ks) h rfl rfl (by kernel_rfl) (Eq.mpr (show BC P Hl DW Ks x K=_ by kernel_rfl) hw)
def Kr:Be:=
 (.seq (.region [ia 2 (kI 0)]) (.seq (.region [im 4 0,oS ⟨some 5,.call "strings.Count" [4,(.c (.string ⟨#[10]⟩))],none⟩ Ew,ia 3 5]) (.seq (.seq (.region [im 6 0,
 o1 7 (.bin .neq 6 (.c (.string ⟨#[]⟩))),im 8 7,gt 9 8 (.mv 0),oS ⟨some 10,.call AdL [9],some (8,true)⟩ DW,gt 11 8 (.un .not 10),o1 12 (.pick 8
 11 kF)]) (.frame [3,13,14] [] false (.join [.si 3] (.cond 12 (.region [im 13 3,o1 14 (.bin .add 13 (kI 1)),ia 3 14]) .skip)))) (.seq (.seq (.region [im 15 0,o1 16 (.lenS 15),
 o1 17 (.bin .gtr 16 (kI 1048576)),im 18 17,gf 19 18 (.mv 3),gf 20 18 (.bin .gtr 19 (kI 4096)),o1 21 (.pick 18 kT 20)]) (.cond 21 (.seq (.region [ia 2 (kI 1)]) .ret) .skip))
 (.seq (.region [ia 2 (kI 0)]) .ret)))))
def Hk:AFn:=⟨AdM,Kr.erase,[.tmp 2],1⟩
def NJ(P:Pg)(x:(List UInt8))(K:Int→Unit→Prop):Prop:=
 Fn P "strings.Count" Ew (x,([10]:List UInt8)) (fun(d1:Int) (e2:Unit)=>Ad (D:=Bool) (fun J3=>(((!(x==([]:List UInt8)))=true→Fn P AdL DW x (fun(d4:Bool) _=>J3 d4))∧(((!(x==([]:List UInt8)))=false→J3 false)∧True))) (fun d5=>Ad (D:=Int) (fun J6=>(((cond (!(x==([]:List UInt8))) (!d5) false)=true→J6 (i64.wrap (d1+(1:Int))))∧((cond (!(x==([]:List UInt8))) (!d5) false)=false→J6 d1))) (fun d7=>(((cond (decide ((x.length:Int)>(1048576:Int))) true (decide (d7>(4096:Int))))=true→K (1:Int) ())∧((cond (decide ((x.length:Int)>(1048576:Int))) true (decide (d7>(4096:Int))))=false→K (0:Int) ())))))
theorem S9{P:Pg}(h:Has P Hk){x:DP DV.ps}{K:DP DV.rs→DP (ptrs DV.ps)→Prop}(hw:NJ P x K):Fn P AdM DV x K:=
 BG (c:=Kr) h rfl rfl (by kernel_rfl) (Eq.mpr (show BC P Hk DV Kr x K=_ by kernel_rfl) hw)
def Ih:Be:=
 (.seq (.region [o1 1 (.box 0),o1 2 (.asg kF)]) (.seq (.region [fa 3 1 1,ld 4 3,oS ⟨some 5,.call AdM [4],none⟩ DV,o1 6 (.bin .neq 5 (kI 0)),ia 2
 6]) .ret))
def FI:AFn:=⟨AdH,Ih.erase,[.tmp 2],1⟩
def K5(P:Pg)(x:((List UInt8)×(List UInt8)))(K:Bool→Unit→Prop):Prop:=
 Fn P AdM DV x.2 (fun(d1:Int) (e2:Unit)=>K (d1 !=(0:Int)) ())
theorem Qc{P:Pg}(h:Has P FI){x:DP CZ.ps}{K:DP CZ.rs→DP (ptrs CZ.ps)→Prop}(hw:K5 P x K):Fn P AdH CZ x K:=
 BG (c:=Ih) h rfl rfl (by kernel_rfl) (Eq.mpr (show BC P FI CZ Ih x K=_ by kernel_rfl) hw)
def BA:Be:=
 (.seq (.region [ia 4 (kI 0)]) (.seq (.seq (.region [im 6 0,o1 7 (.lenK 6),o1 8 (.mv (kI 0))]) (.frame (rg [4,5] 8 11) [] false (.join [.si 4] (.block 0 (.loop [.si 4,.si 8]
 (.seq (.region [o1 9 (.bin .lss 8 7)]) (.seq (.cond 9 .skip (.exit 0)) (.seq (.frame (rg [4,5] 10 8) [] false (.join [.si 4] (.block 1 (.seq (.region [im 10 8,ia 5 10]) (.seq
 (.region [im 11 1,im 12 0,im 13 5,o1 14 (.ixA 2 12 13),o1 15 (.load true 2 14),oS ⟨some 16,.callv 11 [15],none⟩ CZ]) (.cond 16 (.seq (.region [im 17 5,ia 4 17])
 .ret) .skip)))))) (.region [o1 18 (.bin .add 8 (kI 1)),im 8 18]))))))))) (.seq (.region [ia 4 (kI (-1))]) .ret)))
def A0:AFn:=⟨zS6,BA.erase,[.tmp 4],2⟩
def Cc(P:Pg)(x:((List ((List UInt8)×(List UInt8)))×Unit))(K:Int→Unit→Prop):Prop:=
 Ad (D:=Int) (fun J1=>AJ (D:=(Int×Int)) ((0:Int),(0:Int)) (fun d3 J4=>(((decide (d3.2<(x.1.length:Int)))=true→Ad (D:=Int) (fun J5=>(0≤d3.2∧d3.2<(x.1.length:Int))∧
 (d3.2.toNat<x.1.length)∧
 Fn P AdH CZ (List.getD x.1 d3.2.toNat ([],[])) (fun(d7:Bool) (e8:Unit)=>((d7=true→K d3.2 ())∧(d7=false→J5 d3.1)))) (fun d6=>J4 (d6,(i64.wrap (d3.2+(1:Int))))))∧((decide (d3.2<(x.1.length:Int)))=false→J1 d3.1)))) (fun d2=>K (-1:Int) ())
theorem DA{P:Pg}(h:Has P A0){x:DP Ay.ps}{K:DP Ay.rs→DP (ptrs Ay.ps)→Prop}(hw:Cc P x K):Fn P zS6 Ay x K:=
 BG (c:=BA) h rfl rfl (by kernel_rfl) (Eq.mpr (show BC P A0 Ay BA x K=_ by kernel_rfl) hw)
def Bn:Be:=
 (.seq (.region [o1 4 (.asg kF)]) (.seq (.region [im 5 0,im 6 1,oS ⟨some 7,.call zS6 [5,6],none⟩
 Ay,o1 8 (.bin .geq 7 (kI 0)),ia 4 8]) .ret))
def AX:AFn:=⟨zS7,Bn.erase,[.tmp 4],2⟩
def B2(P:Pg)(x:((List ((List UInt8)×(List UInt8)))×Unit))(K:Bool→Unit→Prop):Prop:=
 Fn P zS6 Ay (x.1,()) (fun(d1:Int) (e2:Unit)=>K (decide (d1≥(0:Int))) ())
theorem Dd{P:Pg}(h:Has P AX){x:DP Au.ps}{K:DP Au.rs→DP (ptrs Au.ps)→Prop}(hw:B2 P x K):Fn P zS7 Au x K:=
 BG (c:=Bn) h rfl rfl (by kernel_rfl) (Eq.mpr (show BC P AX Au Bn x K=_ by kernel_rfl) hw)
def Ku:Be:=
 (.seq (.region [ia 2 (kI 0)]) (.seq (.frame (rg [] 2 15) [] false (.join [.si 2] (.block 0 (.seq (.region [im 4 0,o1 5 (.lenK 4),o1 6 (.bin .gtr 5 (kI 200)),ia 3 6]) (.cond 3
 (.seq (.region [ia 2 (kI 1)]) .ret) (.seq (.region [im 8 0,oS ⟨some 9,.call zS7 [8,(.f AdG)],
 none⟩ Ar,ia 7 9]) (.cond 7 (.seq (.region [ia 2 (kI 210)]) .ret) (.seq (.region [im 11 0,oS ⟨some 12,.call
 "mergelens/tree.ordered" [11],none⟩ FJ,o1 13 (.un .not 12),ia 10 13]) (.cond 10 (.seq (.region [ia 2 (kI 211)]) .ret) (.seq (.region [im 15 0,oS ⟨some 16,.call
 zS7 [15,(.f AdH)],none⟩ Au,ia 14 16]) (.cond
 14 (.seq (.region [ia 2 (kI 1)]) .ret) .skip))))))))))) (.seq (.region [ia 2 (kI 0)]) .ret)))
def FG:AFn:=⟨zS3,Ku.erase,[.tmp 2],1⟩
def JU(P:Pg)(x:(List ((List UInt8)×(List UInt8))))(K:Int→Unit→Prop):Prop:=
 Ad (D:=Int) (fun J1=>(((decide ((x.length:Int)>(200:Int)))=true→K (1:Int) ())∧((decide ((x.length:Int)>(200:Int)))=false→Fn P zS7 Ar (x,()) (fun(d3:Bool) (e4:Unit)=>((d3=true→K (210:Int) ())∧(d3=false→Fn P "mergelens/tree.ordered" FJ x (fun(d5:Bool) (e6:Unit)=>(((!d5)=true→K (211:Int) ())∧((!d5)=false→Fn P zS7 Au (x,()) (fun(d7:Bool) (e8:Unit)=>((d7=true→K (1:Int) ())∧(d7=false→J1 (0:Int))))))))))))) (fun d2=>K (0:Int) ())
theorem MH{P:Pg}(h:Has P FG){x:DP B6.ps}{K:DP B6.rs→DP (ptrs B6.ps)→Prop}(hw:JU P x K):Fn P zS3 B6 x K:=
 BG (c:=Ku) h rfl rfl (by kernel_rfl) (Eq.mpr (show BC P FG B6 Ku x K=_ by kernel_rfl) hw)
def I6:Be:=
 (.seq (.region [o1 1 (.box 0),o1 2 (.asg kF)]) (.seq (.region [fa 3 1 1,ld 4 3,o1 5 (.bin .lss 4 (kI 0)),im 6 5,gf 7 6 (.fAddr 1 1),gf 8 6 (.load false 1 7),gf 9 6 (.bin
 .gtr 8 (kI 2147483647)),o1 10 (.pick 6 kT 9),ia 2 10]) .ret))
def Gt:AFn:=⟨Afl,I6.erase,[.tmp 2],1⟩
def SQ(P:Pg)(x:Commit)(K:Bool→Unit→Prop):Prop:=
 K (cond (decide (x.2.1<(0:Int))) true (decide (x.2.1>(2147483647:Int)))) ()
theorem Rj{P:Pg}(h:Has P Gt){x:DP D1.ps}{K:DP D1.rs→DP (ptrs D1.ps)→Prop}(hw:SQ P x K):Fn P Afl D1 x K:=
 BG (c:=I6) h rfl rfl (by kernel_rfl) (Eq.mpr (show BC P Gt D1 I6 x K=_ by kernel_rfl) hw)
def Bp:Be:=
 (.seq (.region [ia 4 (kI 0)]) (.seq (.seq (.region [im 6 0,o1 7 (.lenK 6),o1 8 (.mv (kI 0))]) (.frame (rg [4,5] 8 11) [] false (.join [.si 4] (.block 0 (.loop [.si 4,.si 8]
 (.seq (.region [o1 9 (.bin .lss 8 7)]) (.seq (.cond 9 .skip (.exit 0)) (.seq (.frame (rg [4,5] 10 8) [] false (.join [.si 4] (.block 1 (.seq (.region [im 10 8,ia 5 10]) (.seq
 (.region [im 11 1,im 12 0,im 13 5,o1 14 (.ixA 3 12 13),o1 15 (.load true 3 14),oS ⟨some 16,.callv 11 [15],none⟩ D1]) (.cond 16 (.seq (.region [im 17 5,ia 4 17])
 .ret) .skip)))))) (.region [o1 18 (.bin .add 8 (kI 1)),im 8 18]))))))))) (.seq (.region [ia 4 (kI (-1))]) .ret)))
def AY:AFn:=⟨zS4,Bp.erase,[.tmp 4],2⟩
def B3(P:Pg)(x:((List Commit)×Unit))(K:Int→Unit→Prop):Prop:=
 Ad (D:=Int) (fun J1=>AJ (D:=(Int×Int)) ((0:Int),(0:Int)) (fun d3 J4=>(((decide (d3.2<(x.1.length:Int)))=true→Ad (D:=Int) (fun J5=>(0≤d3.2∧d3.2<(x.1.length:Int))∧
 (d3.2.toNat<x.1.length)∧
 Fn P Afl D1 (List.getD x.1 d3.2.toNat Ah) (fun(d7:Bool) (e8:Unit)=>((d7=true→K d3.2 ())∧(d7=false→J5 d3.1)))) (fun d6=>J4 (d6,(i64.wrap (d3.2+(1:Int))))))∧((decide (d3.2<(x.1.length:Int)))=false→J1 d3.1)))) (fun d2=>K (-1:Int) ())
theorem De{P:Pg}(h:Has P AY){x:DP Av.ps}{K:DP Av.rs→DP (ptrs Av.ps)→Prop}(hw:B3 P x K):Fn P zS4 Av x K:=
 BG (c:=Bp) h rfl rfl (by kernel_rfl) (Eq.mpr (show BC P AY Av Bp x K=_ by kernel_rfl) hw)
def Bg:Be:=
 (.seq (.region [o1 4 (.asg kF)]) (.seq (.region [im 5 0,im 6 1,oS ⟨some 7,.call zS4 [5,6],none⟩
 Av,o1 8 (.bin .geq 7 (kI 0)),ia 4 8]) .ret))
def AO:AFn:=⟨zS5,Bg.erase,[.tmp 4],2⟩
def BN(P:Pg)(x:((List Commit)×Unit))(K:Bool→Unit→Prop):Prop:=
 Fn P zS4 Av (x.1,()) (fun(d1:Int) (e2:Unit)=>K (decide (d1≥(0:Int))) ())
theorem CV{P:Pg}(h:Has P AO){x:DP Ap.ps}{K:DP Ap.rs→DP (ptrs Ap.ps)→Prop}(hw:BN P x K):Fn P zS5 Ap x K:=
 BG (c:=Bg) h rfl rfl (by kernel_rfl) (Eq.mpr (show BC P AO Ap Bg x K=_ by kernel_rfl) hw)
def LG:Be:=
 (.seq (.region [ia 2 (kI 0)]) (.seq (.frame (rg [2] 6 18) [] false (.join [.si 2] (.block 0 (.seq (.region [im 7 0,oS ⟨some 8,.call AdI [7],none⟩
 Dn,o1 9 (.un .not 8),ia 6 9]) (.cond 6 (.seq (.region [ia 2 (kI 1)]) .ret) (.seq (.region [im 11 0,oS ⟨some 12,.call AdJ [11],none⟩
 Dp,o1 13 (.un .not 12),ia 10 13]) (.cond 10 (.seq (.region [ia 2 (kI 230)]) .ret) (.seq (.region [im 15 0,oS ⟨some 16,.call AdK [15],none⟩
 DQ,o1 17 (.lenK 16),im 18 0,o1 19 (.lenK 18),o1 20 (.bin .lss 17 19),ia 14 20]) (.cond 14 (.seq (.region [ia 2 (kI 231)]) .ret) (.seq (.region [im 22 0,oS ⟨some 23,
 .call zS5 [22,(.f Afl)],none⟩ Ap,ia 21
 23]) (.cond 21 (.seq (.region [ia 2 (kI 3)]) .ret) .skip))))))))))) (.seq (.seq (.region [im 24 0,o1 25 (.lenK 24),o1 26 (.mv (kI 0))]) (.frame (rg [2,4,5] 26 11) [1004] false
 (.join [.si 2] (.block 1 (.loop [.si 2,.si 26] (.seq (.region [o1 27 (.bin .lss 26 25)]) (.seq (.cond 27 .skip (.exit 1)) (.seq (.frame (rg [2,4,5] 28 8) [1004] false (.join
 [.si 2] (.block 2 (.seq (.region [o1 28 (.ixA 3 24 26),o1 29 (.load true 3 28),o1 4 (.alloc [(.slice none 0 0),(.int .i64 0),(.slice none 0 0)]),o0 ⟨none,.store 3 4 29,
 none⟩]) (.seq (.region [fa 30 2 4,ld 31 30,oS ⟨some 32,.call zS3 [31],none⟩ B6,ia 5 32]) (.seq (.region [im 33 5,o1 34 (.bin .neq 33 (kI 0))])
 (.cond 34 (.seq (.region [im 35 5,ia 2 35]) .ret) .skip))))))) (.region [o1 36 (.bin .add 26 (kI 1)),im 26 36]))))))))) (.seq (.region [ia 2 (kI 0)]) .ret))))
def Iu:AFn:=⟨AdN,LG.erase,[.tmp 2],1⟩
def PB(P:Pg)(x:(List Commit))(K:Int→Unit→Prop):Prop:=
 Ad (D:=Int) (fun J1=>Fn P AdI Dn x (fun(d3:Bool) (e4:Unit)=>(((!d3)=true→K (1:Int) ())∧((!d3)=false→Fn P AdJ Dp x (fun(d5:Bool) (e6:Unit)=>(((!d5)=true→K (230:Int) ())∧((!d5)=false→Fn P AdK DQ x (fun(d7:(List Int)) (e8:Unit)=>(((decide ((d7.length:Int)<(x.length:Int)))=true→K (231:Int) ())∧((decide ((d7.length:Int)<(x.length:Int)))=false→Fn P zS5 Ap (x,()) (fun(d9:Bool) (e10:Unit)=>((d9=true→K (3:Int) ())∧(d9=false→J1 (0:Int)))))))))))))) (fun d2=>Ad (D:=Int) (fun J11=>AJ (D:=(Int×Int)) (d2,(0:Int)) (fun d13 J14=>(((decide (d13.2<(x.length:Int)))=true→Ad (D:=Int) (fun J15=>(0≤d13.2∧d13.2<(x.length:Int))∧
 (d13.2.toNat<x.length)∧
 Fn P zS3 B6 (List.getD x d13.2.toNat Ah).2.2 (fun(d17:Int) (e18:Unit)=>(((d17 !=(0:Int))=true→K d17 ())∧((d17 !=(0:Int))=false→J15 d13.1)))) (fun d16=>J14 (d16,(i64.wrap (d13.2+(1:Int))))))∧((decide (d13.2<(x.length:Int)))=false→J11 d13.1)))) (fun d12=>K (0:Int) ()))
theorem U4{P:Pg}(h:Has P Iu){x:DP Ef.ps}{K:DP Ef.rs→DP (ptrs Ef.ps)→Prop}(hw:PB P x K):Fn P AdN Ef x K:=
 BG (c:=LG) h rfl rfl (by kernel_rfl) (Eq.mpr (show BC P Iu Ef LG x K=_ by kernel_rfl) hw)
def SB:Be:=
 (.seq (.region [o1 4 (.asg kF)]) (.seq (.region [im 5 1,o1 6 (.bin .geq 5 (kI 0)),im 7 6,gt 8 7 (.mv 1),gt 9 7 (.mv 0),gt 10 7 (.lenK 9),gt 11 7 (.bin .lss 8 10),o1 12
 (.pick 7 11 kF),ia 4 12]) .ret))
def Nw:AFn:=⟨ "mergelens/dag.Is",SB.erase,[.tmp 4],2⟩
def VZ(P:Pg)(x:((List Commit)×Int))(K:Bool→Unit→Prop):Prop:=
 K (cond (decide (x.2≥(0:Int))) (decide (x.2<(x.1.length:Int))) false) ()
theorem AaR{P:Pg}(h:Has P Nw){x:DP HD.ps}{K:DP HD.rs→DP (ptrs HD.ps)→Prop}(hw:VZ P x K):Fn P "mergelens/dag.Is" HD x K:=
 BG (c:=SB) h rfl rfl (by kernel_rfl) (Eq.mpr (show BC P Nw HD SB x K=_ by kernel_rfl) hw)
def Ha:Be:=
 (.seq (.region [ia 4 (kI 0)]) (.seq (.seq (.region [im 6 0,oS ⟨some 7,.call AdN [6],none⟩ Ef,ia 5 7]) (.seq (.region [im 8 5,o1 9 (.bin .neq 8 (kI
 0))]) (.cond 9 (.seq (.region [im 10 5,ia 4 10]) .ret) .skip))) (.seq (.seq (.region [im 11 0,im 12 1,oS ⟨some 13,.call "mergelens/dag.Is" [11,12],none⟩ HD,o1 14 (.un
 .not 13)]) (.cond 14 (.seq (.region [ia 4 (kI 5)]) .ret) .skip)) (.seq (.region [ia 4 (kI 0)]) .ret))))
def Fs:AFn:=⟨ZF,Ha.erase,[.tmp 4],2⟩
def KE(P:Pg)(x:((List Commit)×Int))(K:Int→Unit→Prop):Prop:=
 Fn P AdN Ef x.1 (fun(d1:Int) (e2:Unit)=>(((d1 !=(0:Int))=true→K d1 ())∧((d1 !=(0:Int))=false→Fn P "mergelens/dag.Is" HD x (fun(d3:Bool) (e4:Unit)=>(((!d3)=true→K (5:Int) ())∧((!d3)=false→K (0:Int) ()))))))
theorem Pc{P:Pg}(h:Has P Fs){x:DP BI.ps}{K:DP BI.rs→DP (ptrs BI.ps)→Prop}(hw:KE P x K):Fn P ZF BI x K:=
 BG (c:=Ha) h rfl rfl (by kernel_rfl) (Eq.mpr (show BC P Fs BI Ha x K=_ by kernel_rfl) hw)
def F4:Be:=
 (.seq (.region [⟨⟨some 4,.asg (.c (.slice none 0 0)),none⟩,none,⟨[],[]⟩,true,none,false,false⟩]) (.seq (.seq (.region [im 8 0,im 9 1,o1 10 (.ixA 3 8 9),fa 11 0 10,ld
 12 11,o1 13 (.lenK 12),o1 14 (.bin .eql 13 (kI 0))]) (.cond 14 (.seq (.region [oT ⟨some 15,.buildSl 1 [(.slice none 0 0)] 1 [(0,(.c (.slice none 0 0)))],none⟩ (some ((.sl
 (.pair .str .str)),tM)),⟨⟨some 4,.asg 15,none⟩,none,⟨[],[]⟩,true,none,false,false⟩]) .ret) .skip)) (.seq (.region [o1 5 (.asg (.c (.slice none 0 0)))]) (.seq (.seq
 (.region [im 16 0,im 17 1,o1 18 (.ixA 3 16 17),fa 19 0 18,ld 20 19,o1 21 (.lenK 20),o1 22 (.mv (kI 0))]) (.frame (rg [5,7] 22 13) [] false (.join [.sl 5 false (.sl (.sl
 (.pair .str .str))) (.node .own tM)] (.block 0 (.loop [.sl 5 false (.sl (.sl (.pair .str .str))) (.node .own tM),.si 22] (.seq (.region [o1 23 (.bin .lss 22 21)]) (.seq (.cond 23
 .skip (.exit 0)) (.seq (.frame (rg [5,7] 24 10) [] false (.join [.sl 5 false (.sl (.sl (.pair .str .str))) (.node .own tM)] (.block 1 (.seq (.region [o1 24 (.ixA 1 20 22),ld 25
 24,ia 7 25]) (.region [im 26 5,im 27 0,im 28 7,o1 29 (.ixA 3 27 28),fa 30 2 29,ld 31 30,oT ⟨some 32,.buildSl 1 [(.slice none 0 0)] 1 [(0,31)],none⟩ (some ((.sl (.pair
 .str .str)),tM)),oT ⟨some 33,.app 1 24 26 32,none⟩ (some ((.sl (.pair .str .str)),tM)),ia 5 33]))))) (.region [o1 34 (.bin .add 22 (kI 1)),im 22 34]))))))))) (.seq (.region
 [im 35 5,⟨⟨some 4,.asg 35,none⟩,none,⟨[],[]⟩,true,none,false,false⟩]) .ret)))))
def EM:AFn:=⟨ZG,F4.erase,[.tmp 4],2⟩
def ID(P:Pg)(x:((List Commit)×Int))(K:(List (List ((List UInt8)×(List UInt8))))→Unit→Prop):Prop:=
 (0≤x.2∧x.2<(x.1.length:Int))∧
 (x.2.toNat<x.1.length)∧
 (((((List.length (List.getD x.1 x.2.toNat Ah).1:Nat):Int)==(0:Int))=true→K ([[]]:List (List ((List UInt8)×(List UInt8)))) ())∧((((List.length (List.getD x.1 x.2.toNat Ah).1:Nat):Int)==(0:Int))=false→(0≤x.2∧x.2<(x.1.length:Int))∧
 (x.2.toNat<x.1.length)∧
 Ad (D:=(List (List ((List UInt8)×(List UInt8))))) (fun J1=>AJ (D:=((List (List ((List UInt8)×(List UInt8))))×Int)) ([],(0:Int)) (fun d3 J4=>(((decide (d3.2<((List.length (List.getD x.1 x.2.toNat Ah).1:Nat):Int)))=true→Ad (D:=(List (List ((List UInt8)×(List UInt8))))) (fun J5=>(0≤d3.2∧d3.2<((List.length (List.getD x.1 x.2.toNat Ah).1:Nat):Int))∧
 (d3.2.toNat<List.length (List.getD x.1 x.2.toNat Ah).1)∧
 (0≤(List.getD (List.getD x.1 x.2.toNat Ah).1 d3.2.toNat (0:Int))∧(List.getD (List.getD x.1 x.2.toNat Ah).1 d3.2.toNat (0:Int))<(x.1.length:Int))∧
 ((Int.toNat (List.getD (List.getD x.1 x.2.toNat Ah).1 d3.2.toNat (0:Int)))<x.1.length)∧
 ((d3.1.length+List.length ([(List.getD x.1 (Int.toNat (List.getD (List.getD x.1 x.2.toNat Ah).1 d3.2.toNat (0:Int))) Ah).2.2]:List (List ((List UInt8)×(List UInt8)))))*24≤140737488355328)∧
 J5 (d3.1++([(List.getD x.1 (Int.toNat (List.getD (List.getD x.1 x.2.toNat Ah).1 d3.2.toNat (0:Int))) Ah).2.2]:List (List ((List UInt8)×(List UInt8)))))) (fun d6=>J4 (d6,(i64.wrap (d3.2+(1:Int))))))∧((decide (d3.2<((List.length (List.getD x.1 x.2.toNat Ah).1:Nat):Int)))=false→J1 d3.1)))) (fun d2=>K d2 ())))
theorem M3{P:Pg}(h:Has P EM){x:DP BL.ps}{K:DP BL.rs→DP (ptrs BL.ps)→Prop}(hw:ID P x K):Fn P ZG BL x K:=
 BG (c:=F4) h rfl rfl (by kernel_rfl) (Eq.mpr (show BC P EM BL F4 x K=_ by kernel_rfl) hw)
def Kk:Be:=
 (.seq (.region [o1 4 (.asg (.c (.slice none 0 0)))]) (.seq (.region [o1 5 (.asg (.c (.slice none 0 0)))]) (.seq (.seq (.region [im 10 0,im 11 1,oS ⟨some 12,.call
 ZG [10,11],none⟩ BL,o1 13 (.lenK 12),o1 14 (.mv (kI 0))]) (.frame (rg [5,7,8,9] 14 19) [] false (.join [.sl 5 false (.sl (.sl (.pair
 .str bI))) (.node .own tO)] (.block 0 (.loop [.sl 5 false (.sl (.sl (.pair .str bI))) (.node .own tO),.si 14] (.seq (.region [o1 15 (.bin .lss 14 13)]) (.seq (.cond 15 .skip
 (.exit 0)) (.seq (.frame (rg [5,7,8,9] 16 16) [] false (.join [.sl 5 false (.sl (.sl (.pair .str bI))) (.node .own tO)] (.block 1 (.seq (.region [o1 16 (.ixA 1 12 14),ld 17 16,
 ia 7 17]) (.seq (.region [im 19 7,im 20 0,im 21 1,o1 22 (.ixA 3 20 21),fa 23 2 22,ld 24 23,oS ⟨some 25,.call "mergelens/tree.Diff" [19,24],none⟩ K1,im 18 25,o1
 26 (.ext 18 0),o1 27 (.ext 18 1),ia 8 26,ia 9 27]) (.region [im 28 5,im 29 8,oT ⟨some 30,.buildSl 1 [(.slice none 0 0)] 1 [(0,29)],none⟩ (some ((.sl (.pair .str bI)),tO)),
 oT ⟨some 31,.app 1 24 28 30,none⟩ (some ((.sl (.pair .str bI)),tO)),ia 5 31])))))) (.region [o1 32 (.bin .add 14 (kI 1)),im 14 32]))))))))) (.seq (.region [im 33 5,ia 4 33])
 .ret))))
def Hd:AFn:=⟨AdO,Kk.erase,[.tmp 4],2⟩
def NB(P:Pg)(x:((List Commit)×Int))(K:(List (List ((List UInt8)×Int)))→Unit→Prop):Prop:=
 Fn P ZG BL x (fun(d1:(List (List ((List UInt8)×(List UInt8))))) (e2:Unit)=>Ad (D:=(List (List ((List UInt8)×Int)))) (fun J3=>AJ (D:=((List (List ((List UInt8)×Int)))×Int)) ([],(0:Int)) (fun d5 J6=>(((decide (d5.2<(d1.length:Int)))=true→Ad (D:=(List (List ((List UInt8)×Int)))) (fun J7=>(0≤d5.2∧d5.2<(d1.length:Int))∧
 (d5.2.toNat<d1.length)∧
 (0≤x.2∧x.2<(x.1.length:Int))∧
 (x.2.toNat<x.1.length)∧
 Fn P "mergelens/tree.Diff" K1 ((List.getD d1 d5.2.toNat []),(List.getD x.1 x.2.toNat Ah).2.2) (fun(d9:((List ((List UInt8)×Int))×Int)) (e10:Unit)=>((d5.1.length+List.length ([d9.1]:List (List ((List UInt8)×Int))))*24≤140737488355328)∧
 J7 (d5.1++([d9.1]:List (List ((List UInt8)×Int)))))) (fun d8=>J6 (d8,(i64.wrap (d5.2+(1:Int))))))∧((decide (d5.2<(d1.length:Int)))=false→J3 d5.1)))) (fun d4=>K d4 ()))
theorem SS{P:Pg}(h:Has P Hd){x:DP Dk.ps}{K:DP Dk.rs→DP (ptrs Dk.ps)→Prop}(hw:NB P x K):Fn P AdO Dk x K:=
 BG (c:=Kk) h rfl rfl (by kernel_rfl) (Eq.mpr (show BC P Hd Dk Kk x K=_ by kernel_rfl) hw)
def G9:Be:=
 (.seq (.region [o1 4 (.asg (.c (.slice none 0 0))),ia 5 (kI 0)]) (.seq (.seq (.region [im 7 0,im 8 1,oS ⟨some 9,.call ZF [7,8],none⟩ BI,
 ia 6 9]) (.seq (.region [im 10 6,o1 11 (.bin .neq 10 (kI 0))]) (.cond 11 (.seq (.region [im 12 6,o1 4 (.asg (.c (.slice none 0 0))),ia 5 12]) .ret) .skip))) (.seq (.region [im
 13 0,im 14 1,oS ⟨some 15,.call AdO [13,14],none⟩ Dk,ia 4 15,ia 5 (kI 0)]) .ret)))
def Ev:AFn:=⟨zS8,G9.erase,[.tmp 4,.tmp 5],2⟩
def G6(P:Pg)(x:((List Commit)×Int))(K:((List (List ((List UInt8)×Int)))×Int)→Unit→Prop):Prop:=
 Fn P ZF BI x (fun(d1:Int) (e2:Unit)=>(((d1 !=(0:Int))=true→K ([],d1) ())∧((d1 !=(0:Int))=false→Fn P AdO Dk x (fun(d3:(List (List ((List UInt8)×Int)))) (e4:Unit)=>K (d3,(0:Int)) ()))))
theorem Jw{P:Pg}(h:Has P Ev){x:DP BZ.ps}{K:DP BZ.rs→DP (ptrs BZ.ps)→Prop}(hw:G6 P x K):Fn P zS8 BZ x K:=
 BG (c:=G9) h rfl rfl (by kernel_rfl) (Eq.mpr (show BC P Ev BZ G9 x K=_ by kernel_rfl) hw)
def LL:Be:=
 (.seq (.region [o1 4 (.asg (.c (.string ⟨#[]⟩))),o1 5 (.asg kF)]) (.seq (.seq (.region [im 8 0,o1 9 (.lenK 8),o1 10 (.mv (kI 0))]) (.frame (rg [4,5,7] 10 11) [1007] false
 (.join [.sl 4 false .str .leaf,.sl 5 false .bool .leaf] (.block 0 (.loop [.sl 4 false .str .leaf,.sl 5 false .bool .leaf,.si 10] (.seq (.region [o1 11 (.bin .lss 10 9)]) (.seq
 (.cond 11 .skip (.exit 0)) (.seq (.frame (rg [4,5,7] 12 8) [1007] false (.join [.sl 4 false .str .leaf,.sl 5 false .bool .leaf] (.block 1 (.seq (.region [o1 12 (.ixA 2 8 10),o1
 13 (.load true 2 12),o1 7 (.alloc [(.string ⟨#[]⟩),(.string ⟨#[]⟩)]),o0 ⟨none,.store 2 7 13,none⟩]) (.seq (.region [fa 14 0 7,ld 15 14,im 16 1,o1 17 (.bin .eql 15 16)])
 (.cond 17 (.seq (.region [fa 18 1 7,ld 19 18,ia 4 19,o1 5 (.asg kT)]) .ret) .skip)))))) (.region [o1 20 (.bin .add 10 (kI 1)),im 10 20]))))))))) (.seq (.region [o1 4 (.asg (.c
 (.string ⟨#[]⟩))),o1 5 (.asg kF)]) .ret)))
def Iz:AFn:=⟨zS9,LL.erase,[.tmp 4,.tmp 5],2⟩
def PF(P:Pg)(x:((List ((List UInt8)×(List UInt8)))×(List UInt8)))(K:((List UInt8)×Bool)→Unit→Prop):Prop:=
 Ad (D:=((List UInt8)×Bool)) (fun J1=>AJ (D:=((List UInt8)×(Bool×Int))) (([]:List UInt8),(false,(0:Int))) (fun d3 J4=>(((decide (d3.2.2<(x.1.length:Int)))=true→Ad (D:=((List UInt8)×Bool)) (fun J5=>(0≤d3.2.2∧d3.2.2<(x.1.length:Int))∧
 (d3.2.2.toNat<x.1.length)∧
 ((((List.getD x.1 d3.2.2.toNat ([],[])).1==x.2)=true→K ((List.getD x.1 d3.2.2.toNat ([],[])).2,true) ())∧(((List.getD x.1 d3.2.2.toNat ([],[])).1==x.2)=false→J5 (d3.1,d3.2.1)))) (fun d6=>J4 (d6.1,(d6.2,(i64.wrap (d3.2.2+(1:Int)))))))∧((decide (d3.2.2<(x.1.length:Int)))=false→J1 (d3.1,d3.2.1))))) (fun d2=>K (([]:List UInt8),false) ())
theorem U8{P:Pg}(h:Has P Iz){x:DP C3.ps}{K:DP C3.rs→DP (ptrs C3.ps)→Prop}(hw:PF P x K):Fn P zS9 C3 x K:=
 BG (c:=LL) h rfl rfl (by kernel_rfl) (Eq.mpr (show BC P Iz C3 LL x K=_ by kernel_rfl) hw)
def Ic:Be:=
 (.seq (.region [o1 8 (.asg (.c (.string ⟨#[]⟩))),o1 9 (.asg (.c (.string ⟨#[]⟩))),ia 10 (kI 0)]) (.seq (.seq (.region [im 17 0,im 18 1,oS ⟨some 19,.call
 ZF [17,18],none⟩ BI,ia 11 19]) (.seq (.region [im 20 11,o1 21 (.bin .neq 20 (kI 0))]) (.cond 21 (.seq (.region [im 22 11,o1 8 (.asg (.c
 (.string ⟨#[]⟩))),o1 9 (.asg (.c (.string ⟨#[]⟩))),ia 10 22]) .ret) .skip))) (.seq (.region [im 23 0,im 24 1,oS ⟨some 25,.call ZG [23,24],none⟩
 BL,ia 12 25]) (.seq (.seq (.region [im 26 2,o1 27 (.bin .lss 26 (kI 0)),im 28 27,gf 29 28 (.mv 2),gf 30 28 (.mv 12),gf 31 28 (.lenK 30),gf 32 28 (.bin .geq 29
 31),o1 33 (.pick 28 kT 32)]) (.cond 33 (.seq (.region [o1 8 (.asg (.c (.string ⟨#[]⟩))),o1 9 (.asg (.c (.string ⟨#[]⟩))),ia 10 (kI 3)]) .ret) .skip)) (.seq (.region [im 35 12,
 im 36 2,o1 37 (.ixA 1 35 36),ld 38 37,im 39 3,oS ⟨some 40,.call zS9 [38,39],none⟩ C3,im 34 40,o1 41 (.ext 34 0),o1 42 (.ext 34 1),ia 13 41,ia
 14 42]) (.seq (.region [im 44 0,im 45 1,o1 46 (.ixA 3 44 45),fa 47 2 46,ld 48 47,im 49 3,oS ⟨some 50,.call zS9 [48,49],none⟩ C3,im 43 50,o1 51
 (.ext 43 0),o1 52 (.ext 43 1),ia 15 51,ia 16 52]) (.seq (.region [im 53 13,im 54 15,ia 8 53,ia 9 54,ia 10 (kI 0)]) .ret)))))))
def ET:AFn:=⟨X8,Ic.erase,[.tmp 8,.tmp 9,.tmp 10],4⟩
def HJ(P:Pg)(x:((List Commit)×(Int×(Int×(List UInt8)))))(K:Rename→Unit→Prop):Prop:=
 Fn P ZF BI (x.1,x.2.1) (fun(d1:Int) (e2:Unit)=>(((d1 !=(0:Int))=true→K (([]:List UInt8),(([]:List UInt8),d1)) ())∧((d1 !=(0:Int))=false→Fn P ZG BL (x.1,x.2.1) (fun(d3:(List (List ((List UInt8)×(List UInt8))))) (e4:Unit)=>(((cond (decide (x.2.2.1<(0:Int))) true (decide (x.2.2.1≥(d3.length:Int))))=true→K (([]:List UInt8),(([]:List UInt8),(3:Int))) ())∧((cond (decide (x.2.2.1<(0:Int))) true (decide (x.2.2.1≥(d3.length:Int))))=false→(0≤x.2.2.1∧x.2.2.1<(d3.length:Int))∧
 (x.2.2.1.toNat<d3.length)∧
 Fn P zS9 C3 ((List.getD d3 x.2.2.1.toNat []),x.2.2.2) (fun(d5:((List UInt8)×Bool)) (e6:Unit)=>(0≤x.2.1∧x.2.1<(x.1.length:Int))∧
 (x.2.1.toNat<x.1.length)∧
 Fn P zS9 C3 ((List.getD x.1 x.2.1.toNat Ah).2.2,x.2.2.2) (fun(d7:((List UInt8)×Bool)) (e8:Unit)=>K (d5.1,(d7.1,(0:Int))) ()))))))))
theorem KJ{P:Pg}(h:Has P ET){x:DP B8.ps}{K:DP B8.rs→DP (ptrs B8.ps)→Prop}(hw:HJ P x K):Fn P X8 B8 x K:=
 BG (c:=Ic) h rfl rfl (by kernel_rfl) (Eq.mpr (show BC P ET B8 Ic x K=_ by kernel_rfl) hw)
def Km:Be:=
 (.seq (.region [o1 4 (.asg kF)]) (.seq (.seq (.region [im 6 0,o1 7 (.lenK 6),im 8 1,o1 9 (.lenK 8),o1 10 (.bin .neq 7 9)]) (.cond 10 (.seq (.region [o1 4 (.asg kF)]) .ret)
 .skip)) (.seq (.seq (.region [ia 5 (kI 0)]) (.frame (rg [4,5] 11 15) [] false (.join [.sl 4 false .bool .leaf] (.block 0 (.loop [.sl 4 false .bool .leaf,.si 5] (.seq (.seq
 (.region [im 11 5,im 12 0,o1 13 (.lenK 12),o1 14 (.bin .lss 11 13)]) (.cond 14 .skip (.exit 0))) (.seq (.frame (rg [4] 17 9) [] false (.join [.sl 4 false .bool .leaf] (.block 1
 (.seq (.draw [(.first (im 17 0) (.first (im 18 5) (.first (o1 19 (.ixA 2 17 18)) (.first (o1 20 (.load true 2 19)) (.first (im 21 1) (.first (im 22 5) (.first (o1 23 (.ixA 2 21
 22)) (.first (o1 24 (.load true 2 23)) (.first (o1 25 (.eqA true [.str,.int] 20 24)) .done)))))))))]) (.cond 25 (.seq (.region [o1 4 (.asg kF)]) .ret) .skip))))) (.region [im 15
 5,o1 16 (.bin .add 15 (kI 1)),ia 5 16])))))))) (.seq (.region [o1 4 (.asg kT)]) .ret))))
def Hf:AFn:=⟨X9,Km.erase,[.tmp 4],2⟩
def ND(P:Pg)(x:((List ((List UInt8)×Int))×(List ((List UInt8)×Int))))(K:Bool→Unit→Prop):Prop:=
 ((((x.1.length:Int) !=(x.2.length:Int))=true→K false ())∧(((x.1.length:Int) !=(x.2.length:Int))=false→Ad (D:=Bool) (fun J1=>AJ (D:=(Bool×Int)) (false,(0:Int)) (fun d3 J4=>(((decide (d3.2<(x.1.length:Int)))=true→Ad (D:=Bool) (fun J5=>(0≤d3.2∧d3.2<(x.1.length:Int))∧
 (d3.2.toNat<x.1.length)∧
 (0≤d3.2∧d3.2<(x.2.length:Int))∧
 (d3.2.toNat<x.2.length)∧
 (((!(((List.getD x.1 d3.2.toNat ([],(0:Int))).1==(List.getD x.2 d3.2.toNat ([],(0:Int))).1)&&(((List.getD x.1 d3.2.toNat ([],(0:Int))).2==(List.getD x.2 d3.2.toNat ([],(0:Int))).2)&&true)))=true→K false ())∧((!(((List.getD x.1 d3.2.toNat ([],(0:Int))).1==(List.getD x.2 d3.2.toNat ([],(0:Int))).1)&&(((List.getD x.1 d3.2.toNat ([],(0:Int))).2==(List.getD x.2 d3.2.toNat ([],(0:Int))).2)&&true)))=false→J5 d3.1))) (fun d6=>J4 (d6,(i64.wrap (d3.2+(1:Int))))))∧((decide (d3.2<(x.1.length:Int)))=false→J1 d3.1)))) (fun d2=>K true ())))
theorem SX{P:Pg}(h:Has P Hf){x:DP CD.ps}{K:DP CD.rs→DP (ptrs CD.ps)→Prop}(hw:ND P x K):Fn P X9 CD x K:=
 BG (c:=Km) h rfl rfl (by kernel_rfl) (Eq.mpr (show BC P Hf CD Km x K=_ by kernel_rfl) hw)
def Ja:Be:=
 (.seq (.region [o1 0 (.asg kF)]) (.seq (.region [o1 7 (.build [(.string ⟨#[]⟩),(.string ⟨#[]⟩)] [(0,1,(.c (.string ⟨#[120]⟩))),(1,1,(.c (.string ⟨#[97]⟩)))]),⟨⟨some 8,
 .buildSl 2 [(.string ⟨#[]⟩),(.string ⟨#[]⟩)] 1 [(0,7)],none⟩,some ((.pair .str .str),.leaf),⟨[],[]⟩,true,none,false,false⟩,o1 9 (.build [(.slice none 0 0),(.int .i64
 0),(.slice none 0 0)] [(2,1,8)]),oT ⟨some 10,.buildSl 3 [(.slice none 0 0),(.int .i64 0),(.slice none 0 0)] 1 [(0,9)],none⟩ (some (AB,(.pair tM (.pair .leaf tM)))),
 ia 1 10]) (.seq (.frz [1] (.region [im 12 1,oS ⟨some 13,.call zS8 [12,(kI 0)],none⟩ BZ,im 11 13,o1 14 (.ext 11 0),o1 15 (.ext 11 1),ia 2
 14,ia 3 15])) (.seq (.frz [1] (.region [im 17 1,oS ⟨some 18,.call X8 [17,(kI 0),(kI 0),(.c (.string ⟨#[120]⟩))],none⟩ B8,im 16 18,o1 19
 (.ext 16 0),o1 20 (.ext 16 1),o1 21 (.ext 16 2),ia 4 19,ia 5 20,ia 6 21])) (.seq (.region [im 22 3,o1 23 (.bin .eql 22 (kI 0)),im 24 23,gt 25 24 (.mv 6),gt 26 24 (.bin
 .eql 25 (kI 0)),o1 27 (.pick 24 26 kF),im 28 27,gt 29 28 (.mv 2),gt 30 28 (.lenK 29),gt 31 28 (.bin .eql 30 (kI 1)),o1 32 (.pick 28 31 kF),im 33 32,⟨⟨some 34,.mv 2,some
 (33,true)⟩,none,⟨[],[]⟩,false,some 33,true,false⟩,⟨⟨some 35,.ixA 1 34 (kI 0),some (33,true)⟩,none,⟨[],[]⟩,false,none,true,false⟩,⟨⟨some 36,.load false 1 35,
 some (33,true)⟩,none,⟨[],[]⟩,false,none,true,false⟩,⟨⟨some 37,.build [(.string ⟨#[]⟩),(.int .i64 0)] [(0,1,(.c (.string ⟨#[120]⟩))),(1,1,(kI 1))],some (33,true)⟩,
 none,⟨[],[]⟩,false,none,true,false⟩,⟨⟨some 38,.buildSl 2 [(.string ⟨#[]⟩),(.int .i64 0)] 1 [(0,37)],some (33,true)⟩,some ((.pair .str bI),.leaf),⟨[],[]⟩,false,
 none,true,false⟩,⟨⟨some 39,.call X9 [36,38],some (33,true)⟩,none,CD,false,none,true,true⟩,o1 40 (.pick 33 39 kF),im 41 40,gt
 42 41 (.mv 4),o0 ⟨some 43,.bin .eql 42 (.c (.string ⟨#[]⟩)),some (41,true)⟩,o1 44 (.pick 41 43 kF),im 45 44,gt 46 45 (.mv 5),o0 ⟨some 47,.bin .eql 46 (.c (.string
 ⟨#[97]⟩)),some (45,true)⟩,o1 48 (.pick 45 47 kF),ia 0 48]) .ret)))))
def Gx:AFn:=⟨Ya,Ja.erase,[.tmp 0],0⟩
def Mt(P:Pg)(x:Unit)(K:Bool→Unit→Prop):Prop:=
 Fn P zS8 BZ (([([],((0:Int),([(([120]:List UInt8),([97]:List UInt8))]:List ((List UInt8)×(List UInt8)))))]:List Commit),(0:Int)) (fun(d1:((List (List ((List UInt8)×Int)))×Int)) (e2:Unit)=>Fn P X8 B8 (([([],((0:Int),([(([120]:List UInt8),([97]:List UInt8))]:List ((List UInt8)×(List UInt8)))))]:List Commit),((0:Int),((0:Int),([120]:List UInt8)))) (fun(d3:Rename) (e4:Unit)=>(((cond (cond (d1.2==(0:Int)) (d3.2.2==(0:Int)) false) ((d1.1.length:Int)==(1:Int)) false)=true→(0≤(0:Int)∧(0:Int)<(d1.1.length:Int))∧
 ((Int.toNat (0:Int))<d1.1.length)∧
 ((Int.toNat (0:Int))<d1.1.length)∧
 Fn P X9 CD ((List.getD d1.1 (Int.toNat (0:Int)) []),([(([120]:List UInt8),(1:Int))]:List ((List UInt8)×Int))) (fun(d5:Bool) (e6:Unit)=>K (cond (cond (cond true d5 false) (d3.1==([]:List UInt8)) false) (d3.2.1==([97]:List UInt8)) false) ()))∧((cond (cond (d1.2==(0:Int)) (d3.2.2==(0:Int)) false) ((d1.1.length:Int)==(1:Int)) false)=false→K (cond (cond (cond false false false) (d3.1==([]:List UInt8)) false) (d3.2.1==([97]:List UInt8)) false) ()))))
theorem Rn{P:Pg}(h:Has P Gx){x:DP Ck.ps}{K:DP Ck.rs→DP (ptrs Ck.ps)→Prop}(hw:Mt P x K):Fn P Ya Ck x K:=
 BG (c:=Ja) h rfl rfl (by kernel_rfl) (Eq.mpr (show BC P Gx Ck Ja x K=_ by kernel_rfl) hw)
def SC:Be:=
 (.seq (.region [ia 4 (kI 0)]) (.seq (.region [im 6 1,o1 7 (.bin .add 6 (kI 1)),o1 8 (.conv (.toInt .u64) 7),o1 9 (.bin .mul 8 (.c (.int .u64 11400714819323198485))),ia 5 9])
 (.seq (.seq (.region [im 10 0,o1 11 (.lenK 10),o1 12 (.bin .gtr 11 (kI 0))]) (.frame (rg [5] 13 10) [] false (.join [.sl 5 false (.int .u64) .leaf] (.cond 12 (.region [im 13 5,
 im 14 0,im 15 1,im 16 0,o1 17 (.lenK 16),o1 18 (.bin .rem 15 17),o1 19 (.ixA 1 14 18),ld 20 19,o1 21 (.conv (.toInt .u64) 20),o1 22 (.bin .xor 13 21),ia 5 22]) .skip))))
 (.seq (.region [im 23 5,im 24 5,o1 25 (.bin .shr 24 (.c (.int .u64 31))),o1 26 (.bin .xor 23 25),o1 27 (.bin .mul 26 (.c (.int .u64 13787848793156543929))),ia 5 27]) (.seq
 (.region [im 28 5,im 29 5,o1 30 (.bin .shr 29 (.c (.int .u64 29))),o1 31 (.bin .xor 28 30),o1 32 (.bin .shr 31 (.c (.int .u64 1))),o1 33 (.conv (.toInt .i64) 32),ia 4 33])
 .ret)))))
def Nx:AFn:=⟨zS0,SC.erase,[.tmp 4],2⟩
def V0(P:Pg)(x:((List Int)×Int))(K:Int→Unit→Prop):Prop:=
 Ad (D:=Int) (fun J1=>(((decide ((x.1.length:Int)>(0:Int)))=true→((x.1.length:Int)≠0)∧
 (0≤(Int.tmod x.2 (x.1.length:Int))∧(Int.tmod x.2 (x.1.length:Int))<(x.1.length:Int))∧
 ((Int.toNat (Int.tmod x.2 (x.1.length:Int)))<x.1.length)∧
 J1 (u64.wrap ((BitVec.toNat (BitVec.ofInt u64.bits (u64.wrap ((u64.wrap (i64.wrap (x.2+(1:Int))))*(11400714819323198485:Int)))^^^BitVec.ofInt u64.bits (u64.wrap (List.getD x.1 (Int.toNat (Int.tmod x.2 (x.1.length:Int))) (0:Int)))):Nat):Int)))∧((decide ((x.1.length:Int)>(0:Int)))=false→J1 (u64.wrap ((u64.wrap (i64.wrap (x.2+(1:Int))))*(11400714819323198485:Int)))))) (fun d2=>(0≤(31:Int))∧
 (0≤(29:Int))∧
 (0≤(1:Int))∧
 K (i64.wrap (Int.fdiv (u64.wrap ((BitVec.toNat (BitVec.ofInt u64.bits (u64.wrap ((u64.wrap ((BitVec.toNat (BitVec.ofInt u64.bits d2^^^BitVec.ofInt u64.bits (Int.fdiv d2 (2^(min (Int.toNat (31:Int)) u64.bits)))):Nat):Int))*(13787848793156543929:Int)))^^^BitVec.ofInt u64.bits (Int.fdiv (u64.wrap ((u64.wrap ((BitVec.toNat (BitVec.ofInt u64.bits d2^^^BitVec.ofInt u64.bits (Int.fdiv d2 (2^(min (Int.toNat (31:Int)) u64.bits)))):Nat):Int))*(13787848793156543929:Int))) (2^(min (Int.toNat (29:Int)) u64.bits)))):Nat):Int)) (2^(min (Int.toNat (1:Int)) u64.bits)))) ())
theorem AaS{P:Pg}(h:Has P Nx){x:DP Bf.ps}{K:DP Bf.rs→DP (ptrs Bf.ps)→Prop}(hw:V0 P x K):Fn P zS0 Bf x K:=
 BG (c:=SC) h rfl rfl (by kernel_rfl) (Eq.mpr (show BC P Nx Bf SC x K=_ by kernel_rfl) hw)
def Nl:Be:=
 (.seq (.region [o1 2 (.asg (.c (.string ⟨#[]⟩)))]) (.seq (.region [oT ⟨some 3,.buildSl 1 [(.string ⟨#[]⟩)] 10 [(0,(.c (.string ⟨#[97]⟩))),(1,(.c (.string ⟨#[98]⟩))),(2,(.c
 (.string ⟨#[99]⟩))),(3,(.c (.string ⟨#[97,98]⟩))),(4,(.c (.string ⟨#[98,97]⟩))),(5,(.c (.string ⟨#[]⟩))),(6,(.c (.string ⟨#[97,97]⟩))),(7,(.c (.string ⟨#[98,32,
 97]⟩))),(8,(.c (.string ⟨#[120,43,121]⟩))),(9,(.c (.string ⟨#[92]⟩)))],none⟩ (some (.str,.leaf)),im 4 0,oS ⟨some 5,.call zS1 [4,(kI 10)],none⟩
 BD,o1 6 (.ixA 1 3 5),ld 7 6,ia 2 7]) .ret))
def JN:AFn:=⟨ZH,Nl.erase,[.tmp 2],1⟩
abbrev Lx:List (List UInt8):=([([97]:List UInt8),([98]:List UInt8),([99]:List UInt8),([97,98]:List UInt8),([98,97]:List UInt8),([]:List UInt8),([97,97]:List UInt8),([98,32,97]:List UInt8),([120,43,121]:List UInt8),([92]:List UInt8)]:List (List UInt8))
def QT(P:Pg)(x:Int)(K:(List UInt8)→Unit→Prop):Prop:=
 Fn P zS1 BD (x,(10:Int)) (fun(d1:Int) (e2:Unit)=>(0≤d1∧d1<((List.length Lx:Nat):Int))∧
 (d1.toNat<List.length Lx)∧
 K (List.getD Lx d1.toNat []) ())
theorem WA{P:Pg}(h:Has P JN){x:DP D2.ps}{K:DP D2.rs→DP (ptrs D2.ps)→Prop}(hw:QT P x K):Fn P ZH D2 x K:=
 BG (c:=Nl) h rfl rfl (by kernel_rfl) (Eq.mpr (show BC P JN D2 Nl x K=_ by kernel_rfl) hw)
def Nk:Be:=
 (.seq (.region [o1 8 (.asg (.c (.string ⟨#[]⟩)))]) (.seq (.region [im 11 0,im 12 1,oS ⟨some 13,.call zS0 [11,12],none⟩ Bf,im 14 2,o1 15 (.bin
 .add 14 (kI 1)),oS ⟨some 16,.call zS1 [13,15],none⟩ BD,ia 2 16]) (.seq (.region [o1 9 (.asg (.c (.string ⟨#[]⟩)))]) (.seq (.seq (.region [ia 10
 (kI 0)]) (.frame (rg [9,10] 17 17) [] false (.join [.sl 9 false .str .leaf] (.block 0 (.loop [.sl 9 false .str .leaf,.si 10] (.seq (.seq (.region [im 17 10,im 18 2,o1 19 (.bin
 .lss 17 18)]) (.cond 19 .skip (.exit 0))) (.seq (.frame (rg [9] 22 12) [] false (.join [.sl 9 false .str .leaf] (.block 1 (.region [im 22 9,im 23 0,im 24 1,o1 25 (.bin .add 24
 (kI 1)),im 26 10,o1 27 (.bin .add 25 26),oS ⟨some 28,.call zS0 [23,27],none⟩ Bf,im 29 3,oS ⟨some 30,.call zS1 [28,
 29],none⟩ BD,oS ⟨some 31,.call ZH [30],none⟩ D2,o1 32 (.bin .add 22 31),o1 33 (.bin .add 32 (.c (.string ⟨#[10]⟩))),ia 9 33]))))
 (.region [im 20 10,o1 21 (.bin .add 20 (kI 1)),ia 10 21])))))))) (.seq (.seq (.region [im 34 0,im 35 1,o1 36 (.bin .add 35 (kI 90)),oS ⟨some 37,.call
 zS0 [34,36],none⟩ Bf,o1 38 (.bin .rem 37 (kI 4)),o1 39 (.bin .eql 38 (kI 0)),im 40 39,gt 41 40 (.mv 9),gt 42 40 (.lenS 41),gt 43 40 (.bin .gtr
 42 (kI 1)),o1 44 (.pick 40 43 kF),im 45 44,gt 46 45 (.mv 9),gt 47 45 (.mv 9),gt 48 45 (.lenS 47),gt 49 45 (.bin .sub 48 (kI 2)),gt 50 45 (.ixS 46 49),gt 51 45 (.bin .neq 50
 (.c (.int .u8 10))),o1 52 (.pick 45 51 kF)]) (.frame (rg [9] 53 5) [] false (.join [.sl 9 false .str .leaf] (.cond 52 (.region [im 53 9,im 54 9,o1 55 (.lenS 54),o1 56 (.bin
 .sub 55 (kI 1)),o1 57 (.slS 53 none (some 56)),ia 9 57]) .skip)))) (.seq (.region [im 58 9,ia 8 58]) .ret))))))
def JM:AFn:=⟨Yb,Nk.erase,[.tmp 8],4⟩
def QS(P:Pg)(x:((List Int)×(Int×(Int×Int))))(K:(List UInt8)→Unit→Prop):Prop:=
 Fn P zS0 Bf (x.1,x.2.1) (fun(d1:Int) (e2:Unit)=>Fn P zS1 BD (d1,(i64.wrap (x.2.2.1+(1:Int)))) (fun(d3:Int) (e4:Unit)=>Ad (D:=(List UInt8)) (fun J5=>AJ (D:=((List UInt8)×Int)) (([]:List UInt8),(0:Int)) (fun d7 J8=>(((decide (d7.2<d3))=true→Ad (D:=(List UInt8)) (fun J9=>Fn P zS0 Bf (x.1,(i64.wrap ((i64.wrap (x.2.1+(1:Int)))+d7.2))) (fun(d11:Int) (e12:Unit)=>Fn P zS1 BD (d11,x.2.2.2) (fun(d13:Int) (e14:Unit)=>Fn P ZH D2 d13 (fun(d15:(List UInt8)) (e16:Unit)=>(d7.1.length+d15.length≤9223372036854775807)∧
 (List.length (d7.1++d15)+List.length ([10]:List UInt8)≤9223372036854775807)∧
 J9 ((d7.1++d15)++([10]:List UInt8)))))) (fun d10=>J8 (d10,(i64.wrap (d7.2+(1:Int))))))∧((decide (d7.2<d3))=false→J5 d7.1)))) (fun d6=>Fn P zS0 Bf (x.1,(i64.wrap (x.2.1+(90:Int)))) (fun(d17:Int) (e18:Unit)=>((4:Int)≠0)∧
 (((cond ((Int.tmod d17 (4:Int))==(0:Int)) (decide ((d6.length:Int)>(1:Int))) false)=true→0≤(i64.wrap ((d6.length:Int) -(2:Int)))∧(i64.wrap ((d6.length:Int) -(2:Int)))<(d6.length:Int)))∧
 Ad (D:=(List UInt8)) (fun J19=>(((cond (cond ((Int.tmod d17 (4:Int))==(0:Int)) (decide ((d6.length:Int)>(1:Int))) false) (((UInt8.toNat (List.getD d6 (Int.toNat (i64.wrap ((d6.length:Int) -(2:Int)))) 0):Nat):Int) !=(10:Int)) false)=true→(0≤(i64.wrap ((d6.length:Int) -(1:Int)))∧(i64.wrap ((d6.length:Int) -(1:Int)))≤(d6.length:Int))∧
 J19 (List.take (Int.toNat (i64.wrap ((d6.length:Int) -(1:Int)))) d6))∧((cond (cond ((Int.tmod d17 (4:Int))==(0:Int)) (decide ((d6.length:Int)>(1:Int))) false) (((UInt8.toNat (List.getD d6 (Int.toNat (i64.wrap ((d6.length:Int) -(2:Int)))) 0):Nat):Int) !=(10:Int)) false)=false→J19 d6))) (fun d20=>K d20 ())))))
theorem Wz{P:Pg}(h:Has P JM){x:DP DD.ps}{K:DP DD.rs→DP (ptrs DD.ps)→Prop}(hw:QS P x K):Fn P Yb DD x K:=
 BG (c:=Nk) h rfl rfl (by kernel_rfl) (Eq.mpr (show BC P JM DD Nk x K=_ by kernel_rfl) hw)
def LH:Be:=
 (.seq (.region [o1 6 (.asg (.c (.slice none 0 0)))]) (.seq (.region [oT ⟨some 10,.buildSl 1 [(.string ⟨#[]⟩)] 4 [(0,(.c (.string ⟨#[97]⟩))),(1,(.c (.string ⟨#[98,47,120]⟩))),
 (2,(.c (.string ⟨#[98,47,121]⟩))),(3,(.c (.string ⟨#[99,32,100]⟩)))],none⟩ (some (.str,.leaf)),ia 7 10]) (.seq (.region [o1 8 (.asg (.c (.slice none 0 0)))]) (.seq (.seq
 (.region [ia 9 (kI 0)]) (.frame (rg [8,9] 11 27) [] false (.join [.sl 8 false (.sl (.pair .str .str)) tO] (.block 0 (.loop [.sl 8 false (.sl (.pair .str .str)) tO,.si 9] (.seq
 (.seq (.region [im 11 9,o1 12 (.bin .lss 11 (kI 4))]) (.cond 12 .skip (.exit 0))) (.seq (.frame (rg [8] 15 23) [] false (.join [.sl 8 false (.sl (.pair .str .str)) tO] (.block 1
 (.seq (.region [im 15 0,im 16 1,im 17 9,o1 18 (.bin .add 16 17),oS ⟨some 19,.call zS0 [15,18],none⟩ Bf,o1 20 (.bin .rem 19 (kI 3)),o1 21
 (.bin .gtr 20 (kI 0))]) (.frame (rg [8] 22 16) [] false (.join [.sl 8 false (.sl (.pair .str .str)) tO] (.cond 21 (.frame (rg [8] 22 16) [] false (.join [.sl 8 false (.sl (.pair
 .str .str)) tO] (.draw [(.first (im 22 8) (.first (im 23 7) (.first (im 24 9) (.first (o1 25 (.ixA 1 23 24)) (.first (im 27 0) (.first (im 28 1) (.first (o1 29 (.bin .add 28 (kI
 10))) (.first (im 30 9) (.first (o1 31 (.bin .mul (kI 20) 30)) (.first (o1 32 (.bin .add 29 31)) (.first (im 33 2) (.alt (ld 26 25) (.alt (oS ⟨some 34,.call
 Yb [27,32,33,(kI 4)],none⟩ DD) (.first (o1 35 (.build [(.string ⟨#[]⟩),(.string ⟨#[]⟩)] [(0,1,26),(1,1,34)])) (.alt (oT ⟨some 36,
 .buildSl 2 [(.string ⟨#[]⟩),(.string ⟨#[]⟩)] 1 [(0,35)],none⟩ (some ((.pair .str .str),.leaf))) (.alt (oT ⟨some 37,.app 2 32 22 36,none⟩ (some ((.pair .str .str),.leaf)))
 (.alt (ia 8 37) .done .stop) .stop) .stop)) .stop) (.alt (oS ⟨some 34,.call Yb [27,32,33,(kI 4)],none⟩ DD) (.first (ld 26 25) (.first (o1 35
 (.build [(.string ⟨#[]⟩),(.string ⟨#[]⟩)] [(0,1,26),(1,1,34)])) (.alt (oT ⟨some 36,.buildSl 2 [(.string ⟨#[]⟩),(.string ⟨#[]⟩)] 1 [(0,35)],none⟩ (some ((.pair .str .str),
 .leaf))) (.alt (oT ⟨some 37,.app 2 32 22 36,none⟩ (some ((.pair .str .str),.leaf))) (.alt (ia 8 37) .done .stop) .stop) .stop))) .stop)))))))))))))]))) .skip))))))) (.region [im
 13 9,o1 14 (.bin .add 13 (kI 1)),ia 9 14])))))))) (.seq (.region [im 38 8,ia 6 38]) .ret)))))
def Iv:AFn:=⟨Yc,LH.erase,[.tmp 6],3⟩
abbrev Es:List (List UInt8):=([([97]:List UInt8),([98,47,120]:List UInt8),([98,47,121]:List UInt8),([99,32,100]:List UInt8)]:List (List UInt8))
def PC(P:Pg)(x:((List Int)×(Int×Int)))(K:(List ((List UInt8)×(List UInt8)))→Unit→Prop):Prop:=
 Ad (D:=(List ((List UInt8)×(List UInt8)))) (fun J1=>AJ (D:=((List ((List UInt8)×(List UInt8)))×Int)) ([],(0:Int)) (fun d3 J4=>(((decide (d3.2<(4:Int)))=true→Ad (D:=(List ((List UInt8)×(List UInt8)))) (fun J5=>Fn P zS0 Bf (x.1,(i64.wrap (x.2.1+d3.2))) (fun(d7:Int) (e8:Unit)=>((3:Int)≠0)∧
 Ad (D:=(List ((List UInt8)×(List UInt8)))) (fun J9=>(((decide ((Int.tmod d7 (3:Int))>(0:Int)))=true→Ad (D:=(List ((List UInt8)×(List UInt8)))) (fun J11=>(0≤d3.2∧d3.2<((List.length Es:Nat):Int))∧
 ((d3.2.toNat<List.length Es)∧
 (Fn P Yb DD (x.1,((i64.wrap ((i64.wrap (x.2.1+(10:Int)))+(i64.wrap ((20:Int)*d3.2)))),(x.2.2,(4:Int)))) (fun(d13:(List UInt8)) (e14:Unit)=>((((d3.1.length+List.length ([((List.getD Es d3.2.toNat []),d13)]:List ((List UInt8)×(List UInt8))))*32≤140737488355328)∧
 (J11 (d3.1++([((List.getD Es d3.2.toNat []),d13)]:List ((List UInt8)×(List UInt8)))))∧True)∧True)∧True))∧True)∧((Fn P Yb DD (x.1,((i64.wrap ((i64.wrap (x.2.1+(10:Int)))+(i64.wrap ((20:Int)*d3.2)))),(x.2.2,(4:Int)))) (fun(d15:(List UInt8)) (e16:Unit)=>(d3.2.toNat<List.length Es)∧
 ((((d3.1.length+List.length ([((List.getD Es d3.2.toNat []),d15)]:List ((List UInt8)×(List UInt8))))*32≤140737488355328)∧
 (J11 (d3.1++([((List.getD Es d3.2.toNat []),d15)]:List ((List UInt8)×(List UInt8)))))∧True)∧True)∧True))∧True)) (fun d12=>J9 d12))∧((decide ((Int.tmod d7 (3:Int))>(0:Int)))=false→J9 d3.1))) (fun d10=>J5 d10))) (fun d6=>J4 (d6,(i64.wrap (d3.2+(1:Int))))))∧((decide (d3.2<(4:Int)))=false→J1 d3.1)))) (fun d2=>K d2 ())
theorem U5{P:Pg}(h:Has P Iv){x:DP CW.ps}{K:DP CW.rs→DP (ptrs CW.ps)→Prop}(hw:PC P x K):Fn P Yc CW x K:=
 BG (c:=LH) h rfl rfl (by kernel_rfl) (Eq.mpr (show BC P Iv CW LH x K=_ by kernel_rfl) hw)
def Jc:Be:=
 (.seq (.region [o1 2 (.asg (.c (.slice none 0 0)))]) (.seq (.region [o1 3 (.asg (.c (.slice none 0 0)))]) (.seq (.region [ia 4 (kI 0)]) (.seq (.seq (.region [ia 5 (kI 0)]) (.frame
 (rg [] 3 30) [] false (.join [.sl 3 false (.sl .str) tO] (.block 0 (.loop [.sl 3 false (.sl .str) tO,.si 4,.si 5] (.seq (.seq (.region [im 6 5,im 7 0,o1 8 (.lenS 7),o1 9 (.bin
 .lss 6 8)]) (.cond 9 .skip (.exit 0))) (.seq (.frame (rg [3,4] 12 21) [] false (.join [.sl 3 false (.sl .str) tO,.si 4] (.block 1 (.seq (.region [im 12 0,im 13 5,o1 14 (.ixS 12
 13),o1 15 (.bin .eql 14 (.c (.int .u8 10))),im 16 15,gf 17 16 (.mv 5),gf 18 16 (.bin .add 17 (kI 1)),gf 19 16 (.mv 0),gf 20 16 (.lenS 19),gf 21 16 (.bin .eql 18 20),o1 22
 (.pick 16 kT 21)]) (.frame (rg [3,4] 23 10) [] false (.join [.sl 3 false (.sl .str) tO,.si 4] (.cond 22 (.seq (.region [im 23 3,im 24 0,im 25 4,im 26 5,o1 27 (.bin .add 26
 (kI 1)),o1 28 (.slS 24 (some 25) (some 27)),oT ⟨some 29,.buildSl 1 [(.string ⟨#[]⟩)] 1 [(0,28)],none⟩ (some (.str,.leaf)),oT ⟨some 30,.app 1 16 23 29,none⟩ (some (.str,
 .leaf)),ia 3 30]) (.region [im 31 5,o1 32 (.bin .add 31 (kI 1)),ia 4 32])) .skip))))))) (.region [im 10 5,o1 11 (.bin .add 10 (kI 1)),ia 5 11])))))))) (.seq (.region [im 33 3,
 ia 2 33]) .ret)))))
def Gz:AFn:=⟨ZI,Jc.erase,[.tmp 2],1⟩
def Mv(P:Pg)(x:(List UInt8))(K:(List (List UInt8))→Unit→Prop):Prop:=
 Ad (D:=(List (List UInt8))) (fun J1=>AJ (D:=((List (List UInt8))×(Int×Int))) ([],((0:Int),(0:Int))) (fun d3 J4=>(((decide (d3.2.2<(x.length:Int)))=true→Ad (D:=((List (List UInt8))×Int)) (fun J5=>(0≤d3.2.2∧d3.2.2<(x.length:Int))∧
 Ad (D:=((List (List UInt8))×Int)) (fun J7=>(((cond (((x.getD d3.2.2.toNat 0).toNat:Int)==(10:Int)) true ((i64.wrap (d3.2.2+(1:Int)))==(x.length:Int)))=true→(0≤d3.2.1∧d3.2.1≤(i64.wrap (d3.2.2+(1:Int)))∧(i64.wrap (d3.2.2+(1:Int)))≤(x.length:Int))∧
 ((d3.1.length+List.length ([(List.drop d3.2.1.toNat (List.take (Int.toNat (i64.wrap (d3.2.2+(1:Int)))) x))]:List (List UInt8)))*16≤140737488355328)∧
 J7 ((d3.1++([(List.drop d3.2.1.toNat (List.take (Int.toNat (i64.wrap (d3.2.2+(1:Int)))) x))]:List (List UInt8))),(i64.wrap (d3.2.2+(1:Int)))))∧((cond (((x.getD d3.2.2.toNat 0).toNat:Int)==(10:Int)) true ((i64.wrap (d3.2.2+(1:Int)))==(x.length:Int)))=false→J7 (d3.1,d3.2.1)))) (fun d8=>J5 d8)) (fun d6=>J4 (d6.1,(d6.2,(i64.wrap (d3.2.2+(1:Int)))))))∧((decide (d3.2.2<(x.length:Int)))=false→J1 d3.1)))) (fun d2=>K d2 ())
theorem Rp{P:Pg}(h:Has P Gz){x:DP Cx.ps}{K:DP Cx.rs→DP (ptrs Cx.ps)→Prop}(hw:Mv P x K):Fn P ZI Cx x K:=
 BG (c:=Jc) h rfl rfl (by kernel_rfl) (Eq.mpr (show BC P Gz Cx Jc x K=_ by kernel_rfl) hw)
def Nn:Be:=
 (.seq (.region [o1 6 (.asg (.c (.string ⟨#[]⟩)))]) (.seq (.region [im 10 0,oS ⟨some 11,.call ZI [10],none⟩ Cx,ia 7 11]) (.seq (.region
 [o1 8 (.asg (.c (.string ⟨#[]⟩)))]) (.seq (.seq (.region [ia 9 (kI 0)]) (.frame (rg [8,9] 12 32) [] false (.join [.sl 8 false .str .leaf] (.block 0 (.loop [.sl 8 false .str .leaf,
 .si 9] (.seq (.seq (.region [im 12 9,im 13 7,o1 14 (.lenK 13),o1 15 (.bin .lss 12 14)]) (.cond 15 .skip (.exit 0))) (.seq (.frame (rg [8] 18 26) [] false (.join [.sl 8 false
 .str .leaf] (.block 1 (.seq (.seq (.region [im 18 1,im 19 2,im 20 9,o1 21 (.bin .add 19 20),oS ⟨some 22,.call zS0 [18,21],none⟩ Bf,o1 23 (.bin
 .rem 22 (kI 6))]) (.frame (rg [8] 24 14) [] false (.join [.sl 8 false .str .leaf] (.block 2 (.seq (.region [o1 25 (.bin .eql 23 (kI 0)),ia 24 25]) (.cond 24 (.exit 1) (.seq
 (.region [o1 27 (.bin .eql 23 (kI 1)),ia 26 27]) (.frame (rg [8] 28 10) [] false (.join [.sl 8 false .str .leaf] (.cond 26 (.region [im 28 8,im 29 1,im 30 2,o1 31 (.bin .add 30
 (kI 40)),im 32 9,o1 33 (.bin .add 31 32),oS ⟨some 34,.call zS0 [29,33],none⟩ Bf,oS ⟨some 35,.call ZH [34],none⟩
 D2,o1 36 (.bin .add 28 35),o1 37 (.bin .add 36 (.c (.string ⟨#[10]⟩))),ia 8 37]) .skip)))))))))) (.region [im 38 8,im 39 7,im 40 9,o1 41 (.ixA 1 39 40),ld 42 41,o1
 43 (.bin .add 38 42),ia 8 43]))))) (.region [im 16 9,o1 17 (.bin .add 16 (kI 1)),ia 9 17])))))))) (.seq (.region [im 44 8,ia 6 44]) .ret)))))
def JO:AFn:=⟨AdP,Nn.erase,[.tmp 6],3⟩
def QU(P:Pg)(x:((List UInt8)×((List Int)×Int)))(K:(List UInt8)→Unit→Prop):Prop:=
 Fn P ZI Cx x.1 (fun(d1:(List (List UInt8))) (e2:Unit)=>Ad (D:=(List UInt8)) (fun J3=>AJ (D:=((List UInt8)×Int)) (([]:List UInt8),(0:Int)) (fun d5 J6=>(((decide (d5.2<(d1.length:Int)))=true→Ad (D:=(List UInt8)) (fun J7=>Fn P zS0 Bf (x.2.1,(i64.wrap (x.2.2+d5.2))) (fun(d9:Int) (e10:Unit)=>((6:Int)≠0)∧
 Ad (D:=(List UInt8)) (fun J11=>((((Int.tmod d9 (6:Int))==(0:Int))=true→J7 d5.1)∧(((Int.tmod d9 (6:Int))==(0:Int))=false→Ad (D:=(List UInt8)) (fun J13=>((((Int.tmod d9 (6:Int))==(1:Int))=true→Fn P zS0 Bf (x.2.1,(i64.wrap ((i64.wrap (x.2.2+(40:Int)))+d5.2))) (fun(d15:Int) (e16:Unit)=>Fn P ZH D2 d15 (fun(d17:(List UInt8)) (e18:Unit)=>(d5.1.length+d17.length≤9223372036854775807)∧
 (List.length (d5.1++d17)+List.length ([10]:List UInt8)≤9223372036854775807)∧
 J13 ((d5.1++d17)++([10]:List UInt8)))))∧(((Int.tmod d9 (6:Int))==(1:Int))=false→J13 d5.1))) (fun d14=>J11 d14)))) (fun d12=>(0≤d5.2∧d5.2<(d1.length:Int))∧
 (d5.2.toNat<d1.length)∧
 (d12.length+List.length (List.getD d1 d5.2.toNat [])≤9223372036854775807)∧
 J7 (d12++(List.getD d1 d5.2.toNat []))))) (fun d8=>J6 (d8,(i64.wrap (d5.2+(1:Int))))))∧((decide (d5.2<(d1.length:Int)))=false→J3 d5.1)))) (fun d4=>K d4 ()))
theorem WC{P:Pg}(h:Has P JO){x:DP EU.ps}{K:DP EU.rs→DP (ptrs EU.ps)→Prop}(hw:QU P x K):Fn P AdP EU x K:=
 BG (c:=Nn) h rfl rfl (by kernel_rfl) (Eq.mpr (show BC P JO EU Nn x K=_ by kernel_rfl) hw)
def Ko:Be:=
 (.seq (.region [o1 8 (.asg (.c (.slice none 0 0)))]) (.seq (.region [o1 9 (.asg (.c (.slice none 0 0)))]) (.seq (.region [im 13 1,im 14 2,o1 15 (.bin .add 14 (kI 3)),oS ⟨some
 16,.call zS0 [13,15],none⟩ Bf,oS ⟨some 17,.call zS1 [16,(kI 4)],none⟩ BD,ia 10 17]) (.seq (.seq (.region [ia
 11 (kI 0)]) (.frame (rg [9,11,12] 18 30) [1012] false (.join [.sl 9 false (.sl (.pair .str .str)) tO] (.block 0 (.loop [.sl 9 false (.sl (.pair .str .str)) tO,.si 11] (.seq
 (.seq (.region [im 18 11,im 19 0,o1 20 (.lenK 19),o1 21 (.bin .lss 18 20)]) (.cond 21 .skip (.exit 0))) (.seq (.frame (rg [9,12] 24 24) [1012] false (.join [.sl 9 false (.sl
 (.pair .str .str)) tO] (.block 1 (.seq (.region [im 24 0,im 25 11,o1 26 (.ixA 2 24 25),o1 27 (.load true 2 26),o1 12 (.alloc [(.string ⟨#[]⟩),(.string ⟨#[]⟩)]),o0 ⟨none,
 .store 2 12 27,none⟩]) (.seq (.seq (.region [im 28 11,im 29 10,o1 30 (.bin .eql 28 29)]) (.frame (rg [] 31 13) [1012] false (.join [.bx 1012 (.pair .str .str) .leaf] (.cond 30
 (.seq (.region [fa 31 1 12,ld 32 31,im 33 1,im 34 2,o1 35 (.bin .add 34 (kI 7)),oS ⟨some 36,.call AdP [32,33,35],none⟩ EU,fa 37 1 12,o0
 ⟨none,.store 1 37 36,none⟩]) (.seq (.region [im 38 1,im 39 2,o1 40 (.bin .add 39 (kI 5)),oS ⟨some 41,.call zS0 [38,40],none⟩ Bf,o1 42 (.bin
 .rem 41 (kI 5)),o1 43 (.bin .eql 42 (kI 0))]) (.cond 43 (.exit 1) .skip))) .skip)))) (.region [im 44 9,o1 45 (.load true 2 12),oT ⟨some 46,.buildSl 2 [(.string ⟨#[]⟩),(.string
 ⟨#[]⟩)] 1 [(0,45)],none⟩ (some ((.pair .str .str),.leaf)),oT ⟨some 47,.app 2 32 44 46,none⟩ (some ((.pair .str .str),.leaf)),ia 9 47])))))) (.region [im 22 11,o1 23 (.bin
 .add 22 (kI 1)),ia 11 23])))))))) (.seq (.seq (.region [im 48 9,o1 49 (.lenK 48),o1 50 (.bin .eql 49 (kI 0))]) (.cond 50 (.seq (.region [im 51 1,im 52 2,im 53 3,oS ⟨some 54,
 .call Yc [51,52,53],none⟩ CW,ia 8 54]) .ret) .skip)) (.seq (.region [im 55 9,ia 8 55]) .ret))))))
def Hh:AFn:=⟨AdQ,Ko.erase,[.tmp 8],4⟩
def NG(P:Pg)(x:((List ((List UInt8)×(List UInt8)))×((List Int)×(Int×Int))))(K:(List ((List UInt8)×(List UInt8)))→Unit→Prop):Prop:=
 Fn P zS0 Bf (x.2.1,(i64.wrap (x.2.2.1+(3:Int)))) (fun(d1:Int) (e2:Unit)=>Fn P zS1 BD (d1,(4:Int)) (fun(d3:Int) (e4:Unit)=>Ad (D:=(List ((List UInt8)×(List UInt8)))) (fun J5=>AJ (D:=((List ((List UInt8)×(List UInt8)))×Int)) ([],(0:Int)) (fun d7 J8=>(((decide (d7.2<(x.1.length:Int)))=true→Ad (D:=(List ((List UInt8)×(List UInt8)))) (fun J9=>(0≤d7.2∧d7.2<(x.1.length:Int))∧
 (d7.2.toNat<x.1.length)∧
 Ad (D:=((List UInt8)×(List UInt8))) (fun J11=>(((d7.2==d3)=true→Fn P AdP EU ((List.getD x.1 d7.2.toNat ([],[])).2,(x.2.1,(i64.wrap (x.2.2.1+(7:Int))))) (fun(d13:(List UInt8)) (e14:Unit)=>Fn P zS0 Bf (x.2.1,(i64.wrap (x.2.2.1+(5:Int)))) (fun(d15:Int) (e16:Unit)=>((5:Int)≠0)∧
 ((((Int.tmod d15 (5:Int))==(0:Int))=true→J9 d7.1)∧(((Int.tmod d15 (5:Int))==(0:Int))=false→J11 ((List.getD x.1 d7.2.toNat ([],[])).1,d13))))))∧((d7.2==d3)=false→J11 (List.getD x.1 d7.2.toNat ([],[]))))) (fun d12=>((d7.1.length+List.length ([d12]:List ((List UInt8)×(List UInt8))))*32≤140737488355328)∧
 J9 (d7.1++([d12]:List ((List UInt8)×(List UInt8)))))) (fun d10=>J8 (d10,(i64.wrap (d7.2+(1:Int))))))∧((decide (d7.2<(x.1.length:Int)))=false→J5 d7.1)))) (fun d6=>((((d6.length:Int)==(0:Int))=true→Fn P Yc CW x.2 (fun(d17:(List ((List UInt8)×(List UInt8)))) (e18:Unit)=>K d17 ()))∧(((d6.length:Int)==(0:Int))=false→K d6 ())))))
theorem SZ{P:Pg}(h:Has P Hh){x:DP DT.ps}{K:DP DT.rs→DP (ptrs DT.ps)→Prop}(hw:NG P x K):Fn P AdQ DT x K:=
 BG (c:=Ko) h rfl rfl (by kernel_rfl) (Eq.mpr (show BC P Hh DT Ko x K=_ by kernel_rfl) hw)
def Kn:Be:=
 (.seq (.region [⟨⟨some 4,.asg (.c (.slice none 0 0)),none⟩,none,⟨[],[]⟩,true,none,false,false⟩]) (.seq (.seq (.region [im 10 1,oS ⟨some 11,.call
 zS0 [10,(kI 3)],none⟩ Bf,o1 12 (.bin .rem 11 (kI 2)),o1 13 (.bin .eql 12 (kI 0))]) (.cond 13 (.seq (.region [im 14 0,⟨⟨some 4,.asg 14,none⟩,
 none,⟨[],[]⟩,true,none,false,false⟩]) .ret) .skip)) (.seq (.region [im 15 0,o1 16 (.lenK 15),ia 5 16]) (.seq (.region [im 17 5,oT ⟨some 18,.mkSl 3 56 [(.slice none 0 0),
 (.int .i64 0),(.slice none 0 0)] 17 17,none⟩ (some (AB,(.pair tO (.pair .leaf tM)))),ia 6 18]) (.seq (.seq (.region [ia 7 (kI 0)]) (.frame (rg [6,7,8,9] 19 43) [1008]
 true (.join [.sl 6 false (.sl AB) (.node .own (.pair tO (.pair .leaf tM)))] (.block 0 (.loop [.sl 6 false (.sl AB) (.node .own (.pair tO (.pair .leaf tM))),.si 7] (.seq
 (.seq (.region [im 19 7,im 20 5,o1 21 (.bin .lss 19 20)]) (.cond 21 .skip (.exit 0))) (.seq (.frame (rg [6,8,9] 24 38) [1008] true (.join [.sl 6 false (.sl AB) (.node .own
 (.pair tO (.pair .leaf tM)))] (.block 1 (.seq (.region [im 24 0,im 25 7,o1 26 (.ixA 3 24 25),o1 27 (.load true 3 26),o1 8 (.alloc [(.slice none 0 0),(.int .i64 0),(.slice
 none 0 0)]),o0 ⟨none,.store 3 8 27,none⟩]) (.seq (.region [fa 28 0 8,o0 ⟨none,.store 1 28 (.c (.slice none 0 0)),none⟩]) (.seq (.seq (.region [ia 9 (kI 0)]) (.frame (rg [9]
 29 26) [1008] true (.join [.bx 1008 AB (.pair tO (.pair .leaf tM))] (.block 2 (.loop [.si 9,.bx 1008 AB (.pair tO (.pair .leaf tM))] (.seq (.seq (.region [im 29 9,im 30
 0,im 31 7,o1 32 (.ixA 3 30 31),fa 33 0 32,ld 34 33,o1 35 (.lenK 34),o1 36 (.bin .lss 29 35)]) (.cond 36 .skip (.exit 2))) (.seq (.frame (rg [] 39 16) [1008] true (.join [.bx
 1008 AB (.pair tO (.pair .leaf tM))] (.block 3 (.frame (rg [] 39 16) [1008] true (.join [.bx 1008 AB (.pair tO (.pair .leaf tM))] (.draw [(.first (fa 39 0 8) (.first (im
 41 5) (.first (o1 42 (.bin .sub 41 (kI 1))) (.first (im 43 0) (.first (im 44 7) (.first (o1 45 (.ixA 3 43 44)) (.first (fa 46 0 45) (.first (ld 47 46) (.first (im 48 9) (.first (o1
 49 (.ixA 1 47 48)) (.first (ld 50 49) (.first (o1 51 (.bin .sub 42 50)) (.alt (ld 40 39) (.alt (oT ⟨some 52,.buildSl 1 [(.int .i64 0)] 1 [(0,51)],none⟩ (some (bI,.leaf))) (.alt
 (oT ⟨some 53,.app 1 8 40 52,none⟩ (some (bI,.leaf))) (.first (fa 54 0 8) (.alt (o0 ⟨none,.store 1 54 53,none⟩) .done .stop)) .stop) .stop) (.alt (oT ⟨some 52,.buildSl 1
 [(.int .i64 0)] 1 [(0,51)],none⟩ (some (bI,.leaf))) (.first (ld 40 39) (.alt (oT ⟨some 53,.app 1 8 40 52,none⟩ (some (bI,.leaf))) (.first (fa 54 0 8) (.alt (o0 ⟨none,.store
 1 54 53,none⟩) .done .stop)) .stop)) .stop))))))))))))))])))))) (.region [im 37 9,o1 38 (.bin .add 37 (kI 1)),ia 9 38])))))))) (.region [im 55 6,im 56 5,o1 57 (.bin .sub 56
 (kI 1)),im 58 7,o1 59 (.bin .sub 57 58),o1 60 (.load true 3 8),o1 61 (.ixA 3 55 59),o0 ⟨none,.store 3 61 60,none⟩]))))))) (.region [im 22 7,o1 23 (.bin .add 22 (kI 1)),ia
 7 23])))))))) (.seq (.region [im 62 6,⟨⟨some 4,.asg 62,none⟩,none,⟨[],[]⟩,true,none,false,false⟩]) .ret))))))
def Hg:AFn:=⟨AdR,Kn.erase,[.tmp 4],2⟩
def NF(P:Pg)(x:((List Commit)×(List Int)))(K:(List Commit)→Unit→Prop):Prop:=
 Fn P zS0 Bf (x.2,(3:Int)) (fun(d1:Int) (e2:Unit)=>((2:Int)≠0)∧
 ((((Int.tmod d1 (2:Int))==(0:Int))=true→K x.1 ())∧(((Int.tmod d1 (2:Int))==(0:Int))=false→(0≤(x.1.length:Int)∧(x.1.length:Int)≤(x.1.length:Int)∧((56:Nat):Int)*(x.1.length:Int)≤281474976710656)∧
 Ad (D:=(List Commit)) (fun J3=>AJ (D:=((List Commit)×Int)) ((List.replicate (Int.toNat (x.1.length:Int)) ([],((0:Int),[]))),(0:Int)) (fun d5 J6=>(((decide (d5.2<(x.1.length:Int)))=true→Ad (D:=(List Commit)) (fun J7=>(0≤d5.2∧d5.2<(x.1.length:Int))∧
 (d5.2.toNat<x.1.length)∧
 Ad (D:=Commit) (fun J9=>AJ (D:=(Int×Commit)) ((0:Int),([],(List.getD x.1 d5.2.toNat Ah).2)) (fun d11 J12=>(0≤d5.2∧d5.2<(x.1.length:Int))∧
 (d5.2.toNat<x.1.length)∧
 (((decide (d11.1<((List.length (List.getD x.1 d5.2.toNat Ah).1:Nat):Int)))=true→Ad (D:=Commit) (fun J13=>Ad (D:=Commit) (fun J15=>(0≤d5.2∧d5.2<(x.1.length:Int))∧
 (d5.2.toNat<x.1.length)∧
 (0≤d11.1∧d11.1<((List.length (List.getD x.1 d5.2.toNat Ah).1:Nat):Int))∧
 (d11.1.toNat<List.length (List.getD x.1 d5.2.toNat Ah).1)∧
 (((((d11.2.1.length+List.length ([(i64.wrap ((i64.wrap ((x.1.length:Int) -(1:Int))) -(List.getD (List.getD x.1 d5.2.toNat Ah).1 d11.1.toNat (0:Int))))]:List Int))*8≤140737488355328)∧
 (J15 ((d11.2.1++([(i64.wrap ((i64.wrap ((x.1.length:Int) -(1:Int))) -(List.getD (List.getD x.1 d5.2.toNat Ah).1 d11.1.toNat (0:Int))))]:List Int)),d11.2.2))∧True)∧True)∧True)∧(((((d11.2.1.length+List.length ([(i64.wrap ((i64.wrap ((x.1.length:Int) -(1:Int))) -(List.getD (List.getD x.1 d5.2.toNat Ah).1 d11.1.toNat (0:Int))))]:List Int))*8≤140737488355328)∧
 (J15 ((d11.2.1++([(i64.wrap ((i64.wrap ((x.1.length:Int) -(1:Int))) -(List.getD (List.getD x.1 d5.2.toNat Ah).1 d11.1.toNat (0:Int))))]:List Int)),d11.2.2))∧True)∧True)∧True)) (fun d16=>J13 d16)) (fun d14=>J12 ((i64.wrap (d11.1+(1:Int))),d14)))∧((decide (d11.1<((List.length (List.getD x.1 d5.2.toNat Ah).1:Nat):Int)))=false→J9 d11.2)))) (fun d10=>(0≤(i64.wrap ((i64.wrap ((x.1.length:Int) -(1:Int))) -d5.2))∧(i64.wrap ((i64.wrap ((x.1.length:Int) -(1:Int))) -d5.2))<(d5.1.length:Int))∧
 ((Int.toNat (i64.wrap ((i64.wrap ((x.1.length:Int) -(1:Int))) -d5.2)))<d5.1.length)∧
 J7 (List.set d5.1 (Int.toNat (i64.wrap ((i64.wrap ((x.1.length:Int) -(1:Int))) -d5.2))) d10))) (fun d8=>J6 (d8,(i64.wrap (d5.2+(1:Int))))))∧((decide (d5.2<(x.1.length:Int)))=false→J3 d5.1)))) (fun d4=>K d4 ()))))
theorem SY{P:Pg}(h:Has P Hg){x:DP DS.ps}{K:DP DS.rs→DP (ptrs DS.ps)→Prop}(hw:NF P x K):Fn P AdR DS x K:=
 BG (c:=Kn) h rfl rfl (by kernel_rfl) (Eq.mpr (show BC P Hg DS Kn x K=_ by kernel_rfl) hw)
end Go.VS
