/- Functions of the program: typed code, and what it says, lifted. -/
import Derived.Test.YtopngokkgogolaaGreatDoorKTxSig
import Derived.KernelRfl
set_option linter.unusedVariables false
set_option linter.unusedSimpArgs false
set_option maxRecDepth 8000
open List renaming getD → Qa0, length → Qa2, set → Qa3
open Int renaming toNat → Qa1
namespace Go.VS
open IntKind
def G2:AnF:=⟨ "mergelens/pickaxe.matching",66,[BP,BP,DJ,B6,Ck,Lz,M9,Lz,M9,Lz],[(12,.t none ⟨[],[]⟩ true none false false),(34,.t none ⟨[],[]⟩ true none false false),dT 53 (.sl .str,tM),dF 57 [12,13] 41 10,dJ 57 [.sl 12 false (.sl AZ) tO],(86,.f (rg [14,16,18,19,20] 53 44) [1016] false),dJ 86 [.sl 14 false (.sl .str) tO],dL [.sl 14 false (.sl .str) tO,.si 53],(96,.f (rg [14,16,18,19,20] 55 41) [1016] false),dJ 96 [.sl 14 false (.sl .str) tO],dF 104 [] 57 22,dJ 104 [.sl 76 false (.sl .str) tO,.si 77,.si 78],dT 124 (.sl .str,tM),dF 127 [14,18,19,20] 78 18,dJ 127 [.sl 14 false (.sl .str) tO],dL [.sl 14 false (.sl .str) tO,.si 78],dF 137 [14,18,19,20] 80 15,dJ 137 [.sl 14 false (.sl .str) tO],dF 144 [19,20] 82 7,dJ 144 [.sl 19 false .bool .leaf],dF 179 [14] 90 5,dJ 179 [.sl 14 false (.sl .str) tO],dT 184 (.str,.leaf),dT 185 (.str,.leaf)],[.tmp 6,.tmp 7],3⟩
def Ht:AnF:=⟨ArO,65,[Ka],[],[.tmp 3],2⟩
def Bz:AnF:=⟨ "slices.IndexFunc[[][2]string,[2]string]",196,[Lx],[(9,.f (rg [4,5] 8 11) [2] true),dJ 9 [.si 4,.bx 2 (.pair (.sl Dv) bI) (.pair tM .leaf)],dL [.si 4,.si 8,.bx 2 (.pair (.sl Dv) bI) (.pair tM .leaf)],(19,.f (rg [4,5] 10 8) [2] true),dJ 19 [.si 4,.bx 2 (.pair (.sl Dv) bI) (.pair tM .leaf)]],[.tmp 4],2⟩
def Bw:AnF:=⟨ "slices.ContainsFunc[[][2]string,[2]string]",126,[B2],[],[.tmp 4],2⟩
def Cw:AnF:=⟨ "mergelens/pickaxe.filter",64,[HJ,NP,BZ,BM],[dT 8 (bI,.leaf),(37,.f (rg [10,12] 25 15) [3] true),dJ 37 [.sl 10 false (.sl bI) tO,.bx 3 (.pair (.sl Dv) bI) (.pair tM .leaf)],dL [.sl 10 false (.sl bI) tO,.si 25,.bx 3 (.pair (.sl Dv) bI) (.pair tM .leaf)],(47,.f (rg [10,12] 27 12) [3] true),dJ 47 [.sl 10 false (.sl bI) tO,.bx 3 (.pair (.sl Dv) bI) (.pair tM .leaf)],dF 61 [10] 35 4,dJ 61 [.sl 10 false (.sl bI) tO],dT 65 (bI,.leaf),dT 66 (bI,.leaf)],[.tmp 6,.tmp 7],3⟩
def Jf:AnF:=⟨ "mergelens/pickaxe.Regex",20,[Ly,Ee],[(9,.t none ⟨[],[]⟩ true none false false)],[.tmp 6,.tmp 7],3⟩
def Qv:AnF:=⟨ "mergelens/mergelensgen.Ints",62,[],[dF 21 [4,5] 11 15,dJ 21 [.sl 4 false .bool .leaf],dL [.sl 4 false .bool .leaf,.si 5],dF 34 [4] 17 9,dJ 34 [.sl 4 false .bool .leaf]],[.tmp 4],2⟩
def Qw:AnF:=⟨AgM,18,[NO,HJ],[(6,.t (some (.pair .str .str,.leaf)) ⟨[],[]⟩ true none false false),dT 8 (AW,.pair tM (.pair .leaf tM)),(11,.z [1]),dT 22 (bI,.leaf),(38,.t none ⟨[],[]⟩ false (some 27) true false),(39,.t (some (bI,.leaf)) ⟨[],[]⟩ false none true false),(40,.t none Qz false none true true),(43,.t none ⟨[],[]⟩ false (some 32) true false),(44,.t (some (bI,.leaf)) ⟨[],[]⟩ false none true false),(45,.t none Qz false none true true)],[.tmp 0],0⟩
def GQ:AnF:=⟨Aqy,202,[],[],[.tmp 2],1⟩
def Vi(P:Pg)(x:Commit)(K:Bool→Unit→Prop):Prop:=
 K (decide ((x.1.length:Int)>32)) ()
theorem TW{P}(h:Hq P GQ){x K}(hw:Vi P x K):Fn P Aqy GW x K:=
 zF h hw
def AY:AnF:=⟨zS7,204,[GW],[dF 9 [4,5] 8 11,dI 9 [4],dK [4,8],dF 19 [4,5] 10 8,dI 19 [4]],[.tmp 4],2⟩
def BX(P:Pg)(x:((List Commit)×Unit))(K:Int→Unit→Prop):Prop:=
 Ac (D:=Int) (fun J1=>AJ (D:=(Int×Int)) ((0:Int),(0:Int)) (fun d3 J4=>(((decide (d3.2<(x.1.length:Int)))=true→Ac (D:=Int) (fun J5=>(0≤d3.2∧d3.2<(x.1.length:Int))∧
 (d3.2.toNat<x.1.length)∧
 Fn P Aqy GW (Qa0 x.1 d3.2.toNat Am) (fun(d7:Bool) _=>((d7=true→K d3.2 ())∧(d7=false→J5 d3.1)))) (fun d6=>J4 (d6,(i64.wrap (d3.2+1)))))∧((decide (d3.2<(x.1.length:Int)))=false→J1 d3.1)))) (fun d2=>K (-1:Int) ())
theorem Dd{P}(h:Hq P AY){x K}(hw:BX P x K):Fn P zS7 AD x K:=
 zF h hw
def AU:AnF:=⟨zS8,137,[AD],[],[.tmp 4],2⟩
def BK(P:Pg)(x:((List Commit)×Unit))(K:Bool→Unit→Prop):Prop:=
 Fn P zS7 AD (x.1,()) (fun(d1:Int) _=>K (decide (d1≥0)) ())
theorem CQ{P}(h:Hq P AU){x K}(hw:BK P x K):Fn P zS8 Ay x K:=
 zF h hw
def ID:AnF:=⟨Aon,134,[Ay],[],[.tmp 2],1⟩
def Qe(P:Pg)(x:(List Commit))(K:Bool→Unit→Prop):Prop:=
 Ac (D:=Bool) (fun J1=>(((decide ((x.length:Int)≤300))=true→Fn P zS8 Ay (x,()) (fun(d2:Bool) _=>J1 d2))∧(((decide ((x.length:Int)≤300))=false→J1 false)∧True))) (fun d3=>K (cond (decide ((x.length:Int)≤300)) (!d3) false) ())
theorem WY{P}(h:Hq P ID){x K}(hw:Qe P x K):Fn P Aon Gz x K:=
 zF h hw
def DH:AnF:=⟨ "slices.Index[[]int,int]",271,[],[dF 9 [4,5] 8 11,dI 9 [4],dK [4,8],dF 19 [4,5] 10 8,dI 19 [4]],[.tmp 4],2⟩
def HM(P:Pg)(x:((List Int)×Int))(K:Int→Unit→Prop):Prop:=
 Ac (D:=Int) (fun J1=>AJ (D:=(Int×Int)) ((0:Int),(0:Int)) (fun d3 J4=>(((decide (d3.2<(x.1.length:Int)))=true→Ac (D:=Int) (fun J5=>(0≤d3.2∧d3.2<(x.1.length:Int))∧
 (d3.2.toNat<x.1.length)∧
 (((x.2==(Qa0 x.1 d3.2.toNat (0:Int)))=true→K d3.2 ())∧((x.2==(Qa0 x.1 d3.2.toNat (0:Int)))=false→J5 d3.1))) (fun d6=>J4 (d6,(i64.wrap (d3.2+1)))))∧((decide (d3.2<(x.1.length:Int)))=false→J1 d3.1)))) (fun d2=>K (-1:Int) ())
theorem MF{P}(h:Hq P DH){x K}(hw:HM P x K):Fn P "slices.Index[[]int,int]" Cz x K:=
 zF h hw
def CL:AnF:=⟨ "slices.Contains[[]int,int]",203,[Cz],[],[.tmp 4],2⟩
def Gm(P:Pg)(x:((List Int)×Int))(K:Bool→Unit→Prop):Prop:=
 Fn P "slices.Index[[]int,int]" Cz x (fun(d1:Int) _=>K (decide (d1≥0)) ())
theorem Ku{P}(h:Hq P CL){x K}(hw:Gm P x K):Fn P "slices.Contains[[]int,int]" Cg x K:=
 zF h hw
def IE:AnF:=⟨Aoo,135,[Cg],[(9,.f (rg [2,4,5,6] 9 30) [1004] false),dJ 9 [.sl 2 false .bool .leaf],dL [.sl 2 false .bool .leaf,.si 9],(19,.f (rg [2,4,5,6] 11 27) [1004] false),dJ 19 [.sl 2 false .bool .leaf],dF 32 [2,5,6] 16 22,dJ 32 [.sl 2 false .bool .leaf],dL [.sl 2 false .bool .leaf,.si 16],dF 42 [2,5,6] 18 19,dJ 42 [.sl 2 false .bool .leaf]],[.tmp 2],1⟩
def Qf(P:Pg)(x:(List Commit))(K:Bool→Unit→Prop):Prop:=
 Ac (D:=Bool) (fun J1=>AJ (D:=(Bool×Int)) (false,(0:Int)) (fun d3 J4=>(((decide (d3.2<(x.length:Int)))=true→Ac (D:=Bool) (fun J5=>(0≤d3.2∧d3.2<(x.length:Int))∧
 (d3.2.toNat<x.length)∧
 Ac (D:=Bool) (fun J7=>AJ (D:=(Bool×Int)) (d3.1,(0:Int)) (fun d9 J10=>(((decide (d9.2<((Qa2 (Qa0 x d3.2.toNat Am).1:Nat):Int)))=true→Ac (D:=Bool) (fun J11=>(0≤d9.2∧d9.2<((Qa2 (Qa0 x d3.2.toNat Am).1:Nat):Int))∧
 (d9.2.toNat<Qa2 (Qa0 x d3.2.toNat Am).1)∧
 (((cond (decide ((Qa0 (Qa0 x d3.2.toNat Am).1 d9.2.toNat (0:Int))<0)) true (decide ((Qa0 (Qa0 x d3.2.toNat Am).1 d9.2.toNat (0:Int))≥(x.length:Int))))=false→0≤d9.2∧d9.2≤((Qa2 (Qa0 x d3.2.toNat Am).1:Nat):Int)))∧
 Ac (D:=Bool) (fun J13=>(((cond (decide ((Qa0 (Qa0 x d3.2.toNat Am).1 d9.2.toNat (0:Int))<0)) true (decide ((Qa0 (Qa0 x d3.2.toNat Am).1 d9.2.toNat (0:Int))≥(x.length:Int))))=false→Fn P "slices.Contains[[]int,int]" Cg ((List.take d9.2.toNat (Qa0 x d3.2.toNat Am).1),(Qa0 (Qa0 x d3.2.toNat Am).1 d9.2.toNat (0:Int))) (fun(d14:Bool) _=>J13 d14))∧(((cond (decide ((Qa0 (Qa0 x d3.2.toNat Am).1 d9.2.toNat (0:Int))<0)) true (decide ((Qa0 (Qa0 x d3.2.toNat Am).1 d9.2.toNat (0:Int))≥(x.length:Int))))=true→J13 false)∧True))) (fun d15=>(((cond (cond (decide ((Qa0 (Qa0 x d3.2.toNat Am).1 d9.2.toNat (0:Int))<0)) true (decide ((Qa0 (Qa0 x d3.2.toNat Am).1 d9.2.toNat (0:Int))≥(x.length:Int)))) true d15)=true→K false ())∧((cond (cond (decide ((Qa0 (Qa0 x d3.2.toNat Am).1 d9.2.toNat (0:Int))<0)) true (decide ((Qa0 (Qa0 x d3.2.toNat Am).1 d9.2.toNat (0:Int))≥(x.length:Int)))) true d15)=false→J11 d9.1)))) (fun d12=>J10 (d12,(i64.wrap (d9.2+1)))))∧((decide (d9.2<((Qa2 (Qa0 x d3.2.toNat Am).1:Nat):Int)))=false→J7 d9.1)))) (fun d8=>J5 d8)) (fun d6=>J4 (d6,(i64.wrap (d3.2+1)))))∧((decide (d3.2<(x.length:Int)))=false→J1 d3.1)))) (fun d2=>K true ())
theorem WZ{P}(h:Hq P IE){x K}(hw:Qf P x K):Fn P Aoo GA x K:=
 zF h hw
def Jq:AnF:=⟨Aop,136,[],[dT 7 (bI,.leaf),(15,.f (rg [3,5,7] 19 19) [1005] false),dJ 15 [.sl 3 false (.sl bI) tO],dL [.sl 3 false (.sl bI) tO,.si 19],(25,.f (rg [3,5,7] 21 16) [1005] false),dJ 25 [.sl 3 false (.sl bI) tO],dF 38 [3,7] 26 11,dJ 38 [.sl 3 false (.sl bI) tO],dL [.sl 3 false (.sl bI) tO,.si 26],dF 48 [3,7] 28 8,dJ 48 [.sl 3 false (.sl bI) tO],dF 77 [8,9,10] 40 12,dJ 77 [.sl 8 false (.sl bI) tO],dL [.sl 8 false (.sl bI) tO,.si 40],dF 87 [8,9,10] 42 9,dJ 87 [.sl 8 false (.sl bI) tO],dF 99 [8] 47 4,dJ 99 [.sl 8 false (.sl bI) tO],dT 103 (bI,.leaf),dT 104 (bI,.leaf),dF 114 [3,8,11,13] 52 35,dJ 114 [.sl 8 false (.sl bI) tO],dL [.sl 3 false (.sl bI) tO,.sl 8 false (.sl bI) tO,.si 11],dF 127 [3,8,13] 58 29,dJ 127 [.sl 3 false (.sl bI) tO,.sl 8 false (.sl bI) tO],dF 140 [3,8,13] 67 20,dJ 140 [.sl 3 false (.sl bI) tO,.sl 8 false (.sl bI) tO],dL [.sl 3 false (.sl bI) tO,.sl 8 false (.sl bI) tO,.si 67],dF 150 [3,8,13] 69 17,dJ 150 [.sl 3 false (.sl bI) tO,.sl 8 false (.sl bI) tO],dF 172 [8] 82 4,dJ 172 [.sl 8 false (.sl bI) tO],dT 176 (bI,.leaf),dT 177 (bI,.leaf)],[.tmp 2],1⟩
def Ry(P:Pg)(x:(List Commit))(K:(List Int)→Unit→Prop):Prop:=
 (0≤(x.length:Int)∧(x.length:Int)≤(x.length:Int)∧((8:Nat):Int)*(x.length:Int)≤281474976710656)∧
 Ac (D:=(List Int)) (fun J1=>AJ (D:=((List Int)×Int)) ((List.replicate (Qa1 (x.length:Int)) (0:Int)),(0:Int)) (fun d3 J4=>(((decide (d3.2<(x.length:Int)))=true→Ac (D:=(List Int)) (fun J5=>(0≤d3.2∧d3.2<(x.length:Int))∧
 (d3.2.toNat<x.length)∧
 Ac (D:=(List Int)) (fun J7=>AJ (D:=((List Int)×Int)) (d3.1,(0:Int)) (fun d9 J10=>(((decide (d9.2<((Qa2 (Qa0 x d3.2.toNat Am).1:Nat):Int)))=true→Ac (D:=(List Int)) (fun J11=>(0≤d9.2∧d9.2<((Qa2 (Qa0 x d3.2.toNat Am).1:Nat):Int))∧
 (d9.2.toNat<Qa2 (Qa0 x d3.2.toNat Am).1)∧
 (0≤(Qa0 (Qa0 x d3.2.toNat Am).1 d9.2.toNat (0:Int))∧(Qa0 (Qa0 x d3.2.toNat Am).1 d9.2.toNat (0:Int))<(d9.1.length:Int))∧
 ((Qa1 (Qa0 (Qa0 x d3.2.toNat Am).1 d9.2.toNat (0:Int)))<d9.1.length)∧
 (0≤(Qa0 (Qa0 x d3.2.toNat Am).1 d9.2.toNat (0:Int))∧(Qa0 (Qa0 x d3.2.toNat Am).1 d9.2.toNat (0:Int))<(d9.1.length:Int))∧
 ((Qa1 (Qa0 (Qa0 x d3.2.toNat Am).1 d9.2.toNat (0:Int)))<d9.1.length)∧
 J11 (Qa3 d9.1 (Qa1 (Qa0 (Qa0 x d3.2.toNat Am).1 d9.2.toNat (0:Int))) (i64.wrap ((Qa0 d9.1 (Qa1 (Qa0 (Qa0 x d3.2.toNat Am).1 d9.2.toNat (0:Int))) (0:Int))+1)))) (fun d12=>J10 (d12,(i64.wrap (d9.2+1)))))∧((decide (d9.2<((Qa2 (Qa0 x d3.2.toNat Am).1:Nat):Int)))=false→J7 d9.1)))) (fun d8=>J5 d8)) (fun d6=>J4 (d6,(i64.wrap (d3.2+1)))))∧((decide (d3.2<(x.length:Int)))=false→J1 d3.1)))) (fun d2=>Ac (D:=(List Int)) (fun J13=>AJ (D:=((List Int)×Int)) ([],(0:Int)) (fun d15 J16=>(((decide (d15.2<(d2.length:Int)))=true→Ac (D:=(List Int)) (fun J17=>(0≤d15.2∧d15.2<(d2.length:Int))∧
 (d15.2.toNat<d2.length)∧
 Ac (D:=(List Int)) (fun J19=>((((Qa0 d2 d15.2.toNat (0:Int))==0)=true→((d15.1.length+Qa2 ([d15.2]:List Int))*8≤140737488355328)∧
 J19 (d15.1++([d15.2]:List Int)))∧(((Qa0 d2 d15.2.toNat (0:Int))==0)=false→J19 d15.1))) (fun d20=>J17 d20)) (fun d18=>J16 (d18,(i64.wrap (d15.2+1)))))∧((decide (d15.2<(d2.length:Int)))=false→J13 d15.1)))) (fun d14=>Ac (D:=(List Int)) (fun J21=>AJ (D:=((List Int)×((List Int)×Int))) (d2,(d14,(0:Int))) (fun d23 J24=>(((decide (d23.2.2<(d23.2.1.length:Int)))=true→Ac (D:=((List Int)×(List Int))) (fun J25=>(0≤d23.2.2∧d23.2.2<(d23.2.1.length:Int))∧
 (d23.2.2.toNat<d23.2.1.length)∧
 (0≤(Qa0 d23.2.1 d23.2.2.toNat (0:Int))∧(Qa0 d23.2.1 d23.2.2.toNat (0:Int))<(x.length:Int))∧
 ((Qa1 (Qa0 d23.2.1 d23.2.2.toNat (0:Int)))<x.length)∧
 Ac (D:=((List Int)×(List Int))) (fun J27=>AJ (D:=((List Int)×((List Int)×Int))) (d23.1,(d23.2.1,(0:Int))) (fun d29 J30=>(((decide (d29.2.2<((Qa2 (Qa0 x (Qa1 (Qa0 d23.2.1 d23.2.2.toNat (0:Int))) Am).1:Nat):Int)))=true→Ac (D:=((List Int)×(List Int))) (fun J31=>(0≤d29.2.2∧d29.2.2<((Qa2 (Qa0 x (Qa1 (Qa0 d23.2.1 d23.2.2.toNat (0:Int))) Am).1:Nat):Int))∧
 (d29.2.2.toNat<Qa2 (Qa0 x (Qa1 (Qa0 d23.2.1 d23.2.2.toNat (0:Int))) Am).1)∧
 (0≤(Qa0 (Qa0 x (Qa1 (Qa0 d23.2.1 d23.2.2.toNat (0:Int))) Am).1 d29.2.2.toNat (0:Int))∧(Qa0 (Qa0 x (Qa1 (Qa0 d23.2.1 d23.2.2.toNat (0:Int))) Am).1 d29.2.2.toNat (0:Int))<(d29.1.length:Int))∧
 ((Qa1 (Qa0 (Qa0 x (Qa1 (Qa0 d23.2.1 d23.2.2.toNat (0:Int))) Am).1 d29.2.2.toNat (0:Int)))<d29.1.length)∧
 (0≤(Qa0 (Qa0 x (Qa1 (Qa0 d23.2.1 d23.2.2.toNat (0:Int))) Am).1 d29.2.2.toNat (0:Int))∧(Qa0 (Qa0 x (Qa1 (Qa0 d23.2.1 d23.2.2.toNat (0:Int))) Am).1 d29.2.2.toNat (0:Int))<(d29.1.length:Int))∧
 ((Qa1 (Qa0 (Qa0 x (Qa1 (Qa0 d23.2.1 d23.2.2.toNat (0:Int))) Am).1 d29.2.2.toNat (0:Int)))<d29.1.length)∧
 (0≤(Qa0 (Qa0 x (Qa1 (Qa0 d23.2.1 d23.2.2.toNat (0:Int))) Am).1 d29.2.2.toNat (0:Int))∧(Qa0 (Qa0 x (Qa1 (Qa0 d23.2.1 d23.2.2.toNat (0:Int))) Am).1 d29.2.2.toNat (0:Int))<((Qa2 (Qa3 d29.1 (Qa1 (Qa0 (Qa0 x (Qa1 (Qa0 d23.2.1 d23.2.2.toNat (0:Int))) Am).1 d29.2.2.toNat (0:Int))) (i64.wrap ((Qa0 d29.1 (Qa1 (Qa0 (Qa0 x (Qa1 (Qa0 d23.2.1 d23.2.2.toNat (0:Int))) Am).1 d29.2.2.toNat (0:Int))) (0:Int)) -1))):Nat):Int))∧
 ((Qa1 (Qa0 (Qa0 x (Qa1 (Qa0 d23.2.1 d23.2.2.toNat (0:Int))) Am).1 d29.2.2.toNat (0:Int)))<Qa2 (Qa3 d29.1 (Qa1 (Qa0 (Qa0 x (Qa1 (Qa0 d23.2.1 d23.2.2.toNat (0:Int))) Am).1 d29.2.2.toNat (0:Int))) (i64.wrap ((Qa0 d29.1 (Qa1 (Qa0 (Qa0 x (Qa1 (Qa0 d23.2.1 d23.2.2.toNat (0:Int))) Am).1 d29.2.2.toNat (0:Int))) (0:Int)) -1))))∧
 Ac (D:=(List Int)) (fun J33=>((((Qa0 (Qa3 d29.1 (Qa1 (Qa0 (Qa0 x (Qa1 (Qa0 d23.2.1 d23.2.2.toNat (0:Int))) Am).1 d29.2.2.toNat (0:Int))) (i64.wrap ((Qa0 d29.1 (Qa1 (Qa0 (Qa0 x (Qa1 (Qa0 d23.2.1 d23.2.2.toNat (0:Int))) Am).1 d29.2.2.toNat (0:Int))) (0:Int)) -1))) (Qa1 (Qa0 (Qa0 x (Qa1 (Qa0 d23.2.1 d23.2.2.toNat (0:Int))) Am).1 d29.2.2.toNat (0:Int))) (0:Int))==0)=true→((d29.2.1.length+Qa2 ([(Qa0 (Qa0 x (Qa1 (Qa0 d23.2.1 d23.2.2.toNat (0:Int))) Am).1 d29.2.2.toNat (0:Int))]:List Int))*8≤140737488355328)∧
 J33 (d29.2.1++([(Qa0 (Qa0 x (Qa1 (Qa0 d23.2.1 d23.2.2.toNat (0:Int))) Am).1 d29.2.2.toNat (0:Int))]:List Int)))∧(((Qa0 (Qa3 d29.1 (Qa1 (Qa0 (Qa0 x (Qa1 (Qa0 d23.2.1 d23.2.2.toNat (0:Int))) Am).1 d29.2.2.toNat (0:Int))) (i64.wrap ((Qa0 d29.1 (Qa1 (Qa0 (Qa0 x (Qa1 (Qa0 d23.2.1 d23.2.2.toNat (0:Int))) Am).1 d29.2.2.toNat (0:Int))) (0:Int)) -1))) (Qa1 (Qa0 (Qa0 x (Qa1 (Qa0 d23.2.1 d23.2.2.toNat (0:Int))) Am).1 d29.2.2.toNat (0:Int))) (0:Int))==0)=false→J33 d29.2.1))) (fun d34=>J31 ((Qa3 d29.1 (Qa1 (Qa0 (Qa0 x (Qa1 (Qa0 d23.2.1 d23.2.2.toNat (0:Int))) Am).1 d29.2.2.toNat (0:Int))) (i64.wrap ((Qa0 d29.1 (Qa1 (Qa0 (Qa0 x (Qa1 (Qa0 d23.2.1 d23.2.2.toNat (0:Int))) Am).1 d29.2.2.toNat (0:Int))) (0:Int)) -1))),d34))) (fun d32=>J30 (d32.1,(d32.2,(i64.wrap (d29.2.2+1))))))∧((decide (d29.2.2<((Qa2 (Qa0 x (Qa1 (Qa0 d23.2.1 d23.2.2.toNat (0:Int))) Am).1:Nat):Int)))=false→J27 (d29.1,d29.2.1))))) (fun d28=>J25 d28)) (fun d26=>J24 (d26.1,(d26.2,(i64.wrap (d23.2.2+1))))))∧((decide (d23.2.2<(d23.2.1.length:Int)))=false→J21 d23.2.1)))) (fun d22=>K d22 ())))
theorem YS{P}(h:Hq P Jq){x K}(hw:Ry P x K):Fn P Aop HD x K:=
 zF h hw
def Hz:AnF:=⟨Aod,206,[ED],[],[.tmp 2],1⟩
def Oz(P:Pg)(x:(Bt8×Bt8))(K:Bool→Unit→Prop):Prop:=
 Fn P AqC ED x.1 (fun(d1:Int) _=>K (d1 !=0) ())
theorem Vq{P}(h:Hq P Hz){x K}(hw:Oz P x K):Fn P Aod FL x K:=
 zF h hw
def A7:AnF:=⟨zS9,272,[FL],[dF 9 [4,5] 8 11,dI 9 [4],dK [4,8],dF 19 [4,5] 10 8,dI 19 [4]],[.tmp 4],2⟩
def Cb(P:Pg)(x:((List (Bt8×Bt8))×Unit))(K:Int→Unit→Prop):Prop:=
 Ac (D:=Int) (fun J1=>AJ (D:=(Int×Int)) ((0:Int),(0:Int)) (fun d3 J4=>(((decide (d3.2<(x.1.length:Int)))=true→Ac (D:=Int) (fun J5=>(0≤d3.2∧d3.2<(x.1.length:Int))∧
 (d3.2.toNat<x.1.length)∧
 Fn P Aod FL (Qa0 x.1 d3.2.toNat ([],[])) (fun(d7:Bool) _=>((d7=true→K d3.2 ())∧(d7=false→J5 d3.1)))) (fun d6=>J4 (d6,(i64.wrap (d3.2+1)))))∧((decide (d3.2<(x.1.length:Int)))=false→J1 d3.1)))) (fun d2=>K (-1:Int) ())
theorem DQ{P}(h:Hq P A7){x K}(hw:Cb P x K):Fn P zS9 AO x K:=
 zF h hw
def A0:AnF:=⟨Aez,205,[AO],[],[.tmp 4],2⟩
def B3(P:Pg)(x:((List (Bt8×Bt8))×Unit))(K:Bool→Unit→Prop):Prop:=
 Fn P zS9 AO (x.1,()) (fun(d1:Int) _=>K (decide (d1≥0)) ())
theorem Dx{P}(h:Hq P A0){x K}(hw:B3 P x K):Fn P Aez AK x K:=
 zF h hw
def HA:AnF:=⟨Aoe,209,[En],[],[.tmp 2],1⟩
def OA(P:Pg)(x:(Bt8×Bt8))(K:Bool→Unit→Prop):Prop:=
 Fn P Ami En x.2 (fun(d1:Int) _=>K (d1 !=0) ())
theorem Vr{P}(h:Hq P HA){x K}(hw:OA P x K):Fn P Aoe FM x K:=
 zF h hw
def A8:AnF:=⟨zS9,272,[FM],[dF 9 [4,5] 8 11,dI 9 [4],dK [4,8],dF 19 [4,5] 10 8,dI 19 [4]],[.tmp 4],2⟩
def Cc(P:Pg)(x:((List (Bt8×Bt8))×Unit))(K:Int→Unit→Prop):Prop:=
 Ac (D:=Int) (fun J1=>AJ (D:=(Int×Int)) ((0:Int),(0:Int)) (fun d3 J4=>(((decide (d3.2<(x.1.length:Int)))=true→Ac (D:=Int) (fun J5=>(0≤d3.2∧d3.2<(x.1.length:Int))∧
 (d3.2.toNat<x.1.length)∧
 Fn P Aoe FM (Qa0 x.1 d3.2.toNat ([],[])) (fun(d7:Bool) _=>((d7=true→K d3.2 ())∧(d7=false→J5 d3.1)))) (fun d6=>J4 (d6,(i64.wrap (d3.2+1)))))∧((decide (d3.2<(x.1.length:Int)))=false→J1 d3.1)))) (fun d2=>K (-1:Int) ())
theorem DR{P}(h:Hq P A8){x K}(hw:Cc P x K):Fn P zS9 AP x K:=
 zF h hw
def A4:AnF:=⟨Aez,205,[AP],[],[.tmp 4],2⟩
def B4(P:Pg)(x:((List (Bt8×Bt8))×Unit))(K:Bool→Unit→Prop):Prop:=
 Fn P zS9 AP (x.1,()) (fun(d1:Int) _=>K (decide (d1≥0)) ())
theorem Dy{P}(h:Hq P A4){x K}(hw:B4 P x K):Fn P Aez AL x K:=
 zF h hw
def Hy:AnF:=⟨AeA,139,[AK,HI,AL],[dF 4 [] 2 15,dI 4 [2]],[.tmp 2],1⟩
def Ni(P:Pg)(x:(List (Bt8×Bt8)))(K:Int→Unit→Prop):Prop:=
 Ac (D:=Int) (fun J1=>(((decide ((x.length:Int)>200))=true→K (1:Int) ())∧((decide ((x.length:Int)>200))=false→Fn P Aez AK (x,()) (fun(d3:Bool) _=>((d3=true→K (210:Int) ())∧(d3=false→Fn P "mergelens/tree.ordered" HI x (fun(d5:Bool) _=>(((!d5)=true→K (211:Int) ())∧((!d5)=false→Fn P Aez AL (x,()) (fun(d7:Bool) _=>((d7=true→K (1:Int) ())∧(d7=false→J1 (0:Int))))))))))))) (fun d2=>K (0:Int) ())
theorem Qo{P}(h:Hq P Hy){x K}(hw:Ni P x K):Fn P AeA CA x K:=
 zF h hw
def IC:AnF:=⟨Aqx,138,[],[],[.tmp 2],1⟩
def YM(P:Pg)(x:Commit)(K:Bool→Unit→Prop):Prop:=
 K (cond (decide (x.2.1<0)) true (decide (x.2.1>2147483647))) ()
theorem WX{P}(h:Hq P IC){x K}(hw:YM P x K):Fn P Aqx IP x K:=
 zF h hw
def A5:AnF:=⟨zS7,204,[IP],[dF 9 [4,5] 8 11,dI 9 [4],dK [4,8],dF 19 [4,5] 10 8,dI 19 [4]],[.tmp 4],2⟩
def B5(P:Pg)(x:((List Commit)×Unit))(K:Int→Unit→Prop):Prop:=
 Ac (D:=Int) (fun J1=>AJ (D:=(Int×Int)) ((0:Int),(0:Int)) (fun d3 J4=>(((decide (d3.2<(x.1.length:Int)))=true→Ac (D:=Int) (fun J5=>(0≤d3.2∧d3.2<(x.1.length:Int))∧
 (d3.2.toNat<x.1.length)∧
 Fn P Aqx IP (Qa0 x.1 d3.2.toNat Am) (fun(d7:Bool) _=>((d7=true→K d3.2 ())∧(d7=false→J5 d3.1)))) (fun d6=>J4 (d6,(i64.wrap (d3.2+1)))))∧((decide (d3.2<(x.1.length:Int)))=false→J1 d3.1)))) (fun d2=>K (-1:Int) ())
theorem Dz{P}(h:Hq P A5){x K}(hw:B5 P x K):Fn P zS7 AN x K:=
 zF h hw
def AX:AnF:=⟨zS8,137,[AN],[],[.tmp 4],2⟩
def BN(P:Pg)(x:((List Commit)×Unit))(K:Bool→Unit→Prop):Prop:=
 Fn P zS7 AN (x.1,()) (fun(d1:Int) _=>K (decide (d1≥0)) ())
theorem Db{P}(h:Hq P AX){x K}(hw:BN P x K):Fn P zS8 AB x K:=
 zF h hw
def Ln:AnF:=⟨Aml,69,[Gz,GA,HD,AB,CA],[dF 4 [2] 6 18,dI 4 [2],(58,.f (rg [2,4,5] 26 11) [1004] false),dI 58 [2],dK [2,26],(68,.f (rg [2,4,5] 28 8) [1004] false),dI 68 [2]],[.tmp 2],1⟩
def UD(P:Pg)(x:(List Commit))(K:Int→Unit→Prop):Prop:=
 Ac (D:=Int) (fun J1=>Fn P Aon Gz x (fun(d3:Bool) _=>(((!d3)=true→K (1:Int) ())∧((!d3)=false→Fn P Aoo GA x (fun(d5:Bool) _=>(((!d5)=true→K (230:Int) ())∧((!d5)=false→Fn P Aop HD x (fun(d7:(List Int)) _=>(((decide ((d7.length:Int)<(x.length:Int)))=true→K (231:Int) ())∧((decide ((d7.length:Int)<(x.length:Int)))=false→Fn P zS8 AB (x,()) (fun(d9:Bool) _=>((d9=true→K (3:Int) ())∧(d9=false→J1 (0:Int)))))))))))))) (fun d2=>Ac (D:=Int) (fun J11=>AJ (D:=(Int×Int)) (d2,(0:Int)) (fun d13 J14=>(((decide (d13.2<(x.length:Int)))=true→Ac (D:=Int) (fun J15=>(0≤d13.2∧d13.2<(x.length:Int))∧
 (d13.2.toNat<x.length)∧
 Fn P AeA CA (Qa0 x d13.2.toNat Am).2.2 (fun(d17:Int) _=>(((d17 !=0)=true→K d17 ())∧((d17 !=0)=false→J15 d13.1)))) (fun d16=>J14 (d16,(i64.wrap (d13.2+1)))))∧((decide (d13.2<(x.length:Int)))=false→J11 d13.1)))) (fun d12=>K (0:Int) ()))
theorem AaU{P}(h:Hq P Ln){x K}(hw:UD P x K):Fn P Aml EL x K:=
 zF h hw
def Mi:AnF:=⟨Amm,70,[],[],[.tmp 4],2⟩
def Rx(P:Pg)(x:((List Commit)×Int))(K:Bool→Unit→Prop):Prop:=
 K (cond (decide (x.2≥0)) (decide (x.2<(x.1.length:Int))) false) ()
theorem TU{P}(h:Hq P Mi){x K}(hw:Rx P x K):Fn P Amm I1 x K:=
 zF h hw
def GP:AnF:=⟨Amn,76,[EL,I1],[],[.tmp 4],2⟩
def NS(P:Pg)(x:((List Commit)×Int))(K:Int→Unit→Prop):Prop:=
 Fn P Aml EL x.1 (fun(d1:Int) _=>(((d1 !=0)=true→K d1 ())∧((d1 !=0)=false→Fn P Amm I1 x (fun(d3:Bool) _=>(((!d3)=true→K (5:Int) ())∧((!d3)=false→K (0:Int) ()))))))
theorem TR{P}(h:Hq P GP){x K}(hw:NS P x K):Fn P Amn Dr x K:=
 zF h hw
def GO:AnF:=⟨Aoq,23,[Dr,ET],[],[.tmp 4,.tmp 5],2⟩
def NR(P:Pg)(x:((List Commit)×Int))(K:((List (List (Bt8×Int)))×Int)→Unit→Prop):Prop:=
 Fn P Amn Dr x (fun(d1:Int) _=>(((d1 !=0)=true→K ([],d1) ())∧((d1 !=0)=false→Fn P Aoj ET x (fun(d3:(List (List (Bt8×Int)))) _=>K (d3,(0:Int)) ()))))
theorem TQ{P}(h:Hq P GO){x K}(hw:NR P x K):Fn P Aoq E6 x K:=
 zF h hw
def Hs:AnF:=⟨Aor,24,[Dr,Bh,Ca,Ca],[],[.tmp 8,.tmp 9,.tmp 10],4⟩
def Ov(P:Pg)(x:((List Commit)×(Int×(Int×Bt8))))(K:(Bt8×(Bt8×Int))→Unit→Prop):Prop:=
 Fn P Amn Dr (x.1,x.2.1) (fun(d1:Int) _=>(((d1 !=0)=true→K (([]:List UInt8),(([]:List UInt8),d1)) ())∧((d1 !=0)=false→Fn P zS4 Bh (x.1,x.2.1) (fun(d3:(List (List (Bt8×Bt8)))) _=>(((cond (decide (x.2.2.1<0)) true (decide (x.2.2.1≥(d3.length:Int))))=true→K (([]:List UInt8),(([]:List UInt8),(3:Int))) ())∧((cond (decide (x.2.2.1<0)) true (decide (x.2.2.1≥(d3.length:Int))))=false→(0≤x.2.2.1∧x.2.2.1<(d3.length:Int))∧
 (x.2.2.1.toNat<d3.length)∧
 Fn P zS5 Ca ((Qa0 d3 x.2.2.1.toNat []),x.2.2.2) (fun(d5:(Bt8×Bool)) _=>(0≤x.2.1∧x.2.1<(x.1.length:Int))∧
 (x.2.1.toNat<x.1.length)∧
 Fn P zS5 Ca ((Qa0 x.1 x.2.1.toNat Am).2.2,x.2.2.2) (fun(d7:(Bt8×Bool)) _=>K (d5.1,(d7.1,(0:Int))) ()))))))))
theorem Vm{P}(h:Hq P Hs){x K}(hw:Ov P x K):Fn P Aor FG x K:=
 zF h hw
def F5:AnF:=⟨Amo,223,[BP,BP,DJ,B6],[dT 52 (.sl .str,tO),dF 56 [4,5] 30 9,dJ 56 [.sl 4 false (.sl AZ) tO,.si 5]],[.tmp 4,.tmp 5],2⟩
def Ms(P:Pg)(x:(Bt8×Bt8))(K:((List Change)×Int)→Unit→Prop):Prop:=
 Fn P zS6 BP x.1 (fun(d1:((List Bt8)×Int)) _=>(((d1.2 !=0)=true→K ([],d1.2) ())∧((d1.2 !=0)=false→Fn P zS6 BP x.2 (fun(d3:((List Bt8)×Int)) _=>(((d3.2 !=0)=true→K ([],d3.2) ())∧((d3.2 !=0)=false→Fn P Amj DJ ([d1.1,d3.1]:List (List Bt8)) (fun(d5:(List (List Int))) _=>Ac (D:=((List Change)×Int)) (fun J7=>(0≤(0:Int)∧(0:Int)<(d5.length:Int))∧
 ((Qa1 (0:Int))<d5.length)∧
 (0≤(1:Int)∧(1:Int)<(d5.length:Int))∧
 ((Qa1 (1:Int))<d5.length)∧
 (((Qa1 (0:Int))<d5.length)∧
 ((Qa1 (1:Int))<d5.length)∧
 Fn P Amk B6 ((Qa0 d5 (Qa1 (0:Int)) []),(Qa0 d5 (Qa1 (1:Int)) [])) (fun(d9:((List Change)×Int)) _=>((((J7 d9)∧True)∧True)∧True)∧(((((J7 d9)∧True)∧True)∧True)∧True)))∧True) (fun d8=>K d8 ()))))))))
theorem R7{P}(h:Hq P F5){x K}(hw:Ms P x K):Fn P Amo DO x K:=
 zF h hw
def F0:AnF:=⟨Amp,279,[AF],[],[.tmp 2],1⟩
def Mq(P:Pg)(x:Int)(K:Int→Unit→Prop):Prop:=
 Fn P zS1 AF x (fun(d1:Bool) _=>(((!d1)=true→K (0:Int) ())∧((!d1)=false→K x ())))
theorem RZ{P}(h:Hq P F0){x K}(hw:Mq P x K):Fn P Amp CX x K:=
 zF h hw
def IL:AnF:=⟨Aos,224,[CX,CX],[(14,.f (rg [4,5,7] 10 15) [1007] false),dI 14 [4,5],dK [4,5,10],(24,.f (rg [4,5,7] 12 12) [1007] false),dI 24 [4,5]],[.tmp 2,.tmp 3],1⟩
def Ql(P:Pg)(x:(List Change))(K:(Int×Int)→Unit→Prop):Prop:=
 Ac (D:=(Int×Int)) (fun J1=>AJ (D:=(Int×(Int×Int))) ((0:Int),((0:Int),(0:Int))) (fun d3 J4=>(((decide (d3.2.2<(x.length:Int)))=true→Ac (D:=(Int×Int)) (fun J5=>(0≤d3.2.2∧d3.2.2<(x.length:Int))∧
 (d3.2.2.toNat<x.length)∧
 Fn P Amp CX (Qa0 x d3.2.2.toNat Ad).2.1 (fun(d7:Int) _=>Fn P Amp CX (Qa0 x d3.2.2.toNat Ad).2.2.2 (fun(d9:Int) _=>J5 ((i64.wrap (d3.1+d7)),(i64.wrap (d3.2.1+d9)))))) (fun d6=>J4 (d6.1,(d6.2,(i64.wrap (d3.2.2+1))))))∧((decide (d3.2.2<(x.length:Int)))=false→J1 (d3.1,d3.2.1))))) (fun d2=>K d2 ())
theorem Xd{P}(h:Hq P IL){x K}(hw:Ql P x K):Fn P Aos GD x K:=
 zF h hw
def Ju:AnF:=⟨Amq,149,[DO,GD],[],[.tmp 4,.tmp 5,.tmp 6],2⟩
def RD(P:Pg)(x:(Bt8×Bt8))(K:(Int×(Int×Int))→Unit→Prop):Prop:=
 Fn P Amo DO x (fun(d1:((List Change)×Int)) _=>(((d1.2 !=0)=true→K ((0:Int),((0:Int),d1.2)) ())∧((d1.2 !=0)=false→Fn P Aos GD d1.1 (fun(d3:(Int×Int)) _=>K (d3.2,(d3.1,(0:Int))) ()))))
theorem YX{P}(h:Hq P Ju){x K}(hw:RD P x K):Fn P Amq Ga x K:=
 zF h hw
def Jv:AnF:=⟨AjG,88,[Hc,Ca,Ca,Ga],[(36,.f (rg [8,10,11,12,13,14,15,16,17] 29 34) [1010] false),dJ 36 [.sl 8 false (.sl UO) tO],dL [.sl 8 false (.sl UO) tO,.si 29],(46,.f (rg [8,10,11,12,13,14,15,16,17] 31 31) [1010] false),dJ 46 [.sl 8 false (.sl UO) tO],dT 94 (UO,.leaf),dT 95 (UO,.leaf)],[.tmp 4,.tmp 5],2⟩
def RE(P:Pg)(x:((List (Bt8×Bt8))×(List (Bt8×Bt8))))(K:((List Stat)×Int)→Unit→Prop):Prop:=
 Fn P Aok Hc x (fun(d1:((List (Bt8×Int))×Int)) _=>(((d1.2 !=0)=true→K ([],d1.2) ())∧((d1.2 !=0)=false→Ac (D:=(List Stat)) (fun J3=>AJ (D:=((List Stat)×Int)) ([],(0:Int)) (fun d5 J6=>(((decide (d5.2<(d1.1.length:Int)))=true→Ac (D:=(List Stat)) (fun J7=>(0≤d5.2∧d5.2<(d1.1.length:Int))∧
 (d5.2.toNat<d1.1.length)∧
 Fn P zS5 Ca (x.1,(Qa0 d1.1 d5.2.toNat ([],(0:Int))).1) (fun(d9:(Bt8×Bool)) _=>Fn P zS5 Ca (x.2,(Qa0 d1.1 d5.2.toNat ([],(0:Int))).1) (fun(d11:(Bt8×Bool)) _=>Fn P Amq Ga (d9.1,d11.1) (fun(d13:(Int×(Int×Int))) _=>((d5.1.length+Qa2 ([((Qa0 d1.1 d5.2.toNat ([],(0:Int))).1,(d13.1,d13.2.1))]:List Stat))*32≤140737488355328)∧
 J7 (d5.1++([((Qa0 d1.1 d5.2.toNat ([],(0:Int))).1,(d13.1,d13.2.1))]:List Stat)))))) (fun d8=>J6 (d8,(i64.wrap (d5.2+1)))))∧((decide (d5.2<(d1.1.length:Int)))=false→J3 d5.1)))) (fun d4=>K (d4,(0:Int)) ()))))
theorem YY{P}(h:Hq P Jv){x K}(hw:RE P x K):Fn P AjG Em x K:=
 zF h hw
def IM:AnF:=⟨Aot,29,[EL,I1,Bh,Em,Bh,Em],[dF 37 [4,5] 16 13,dJ 37 [.sl 4 false (.sl UO) tO,.si 5]],[.tmp 4,.tmp 5],2⟩
def Qm(P:Pg)(x:((List Commit)×Int))(K:((List Stat)×Int)→Unit→Prop):Prop:=
 Fn P Aml EL x.1 (fun(d1:Int) _=>(((d1 !=0)=true→K ([],d1) ())∧((d1 !=0)=false→Fn P Amm I1 x (fun(d3:Bool) _=>(((!d3)=true→K ([],(5:Int)) ())∧((!d3)=false→Ac (D:=((List Stat)×Int)) (fun J5=>(0≤x.2∧x.2<(x.1.length:Int))∧
 (Fn P zS4 Bh x (fun(d7:(List (List (Bt8×Bt8)))) _=>(0≤(0:Int)∧(0:Int)<(d7.length:Int))∧
 ((Qa1 (0:Int))<d7.length)∧
 (x.2.toNat<x.1.length)∧
 (Fn P AjG Em ((Qa0 d7 (Qa1 (0:Int)) []),(Qa0 x.1 x.2.toNat Am).2.2) (fun(d9:((List Stat)×Int)) _=>((((J5 d9)∧True)∧True)∧True)∧(((((J5 d9)∧True)∧True)∧True)∧True)))∧True))∧(((x.2.toNat<x.1.length)∧
 (Fn P zS4 Bh x (fun(d11:(List (List (Bt8×Bt8)))) _=>(0≤(0:Int)∧(0:Int)<(d11.length:Int))∧
 ((Qa1 (0:Int))<d11.length)∧
 (Fn P AjG Em ((Qa0 d11 (Qa1 (0:Int)) []),(Qa0 x.1 x.2.toNat Am).2.2) (fun(d13:((List Stat)×Int)) _=>((((J5 d13)∧True)∧True)∧True)∧(((((J5 d13)∧True)∧True)∧True)∧True)))∧True))∧True)∧True)) (fun d6=>K d6 ())))))))
theorem Xe{P}(h:Hq P IM){x K}(hw:Qm P x K):Fn P Aot GF x K:=
 zF h hw
def GS:AnF:=⟨Aou,89,[],[],[.tmp 2],1⟩
def Jk(P:Pg)(x:Bt8)(K:Bool→Unit→Prop):Prop:=
 K (cond (decide ((x.length:Int)≥1)) (decide ((x.length:Int)≤200)) false) ()
theorem MH{P}(h:Hq P GS){x K}(hw:Jk P x K):Fn P Aou El x K:=
 zF h hw
def Hv:AnF:=⟨Amr,156,[AF,AF,AF,AF,AF,AF],[(30,.f (rg [6,7,8,9,10,11] 22 62) [1010] false),dI 30 [6,7,8],dK [6,7,8,22],(40,.f (rg [6,7,8,9,10,11] 24 59) [1010] false),dI 40 [6,7,8],dF 116 [7,8] 73 10,dI 116 [7,8]],[.tmp 6],3⟩
def Ow(P:Pg)(x:((List Change)×(Int×Int)))(K:Int→Unit→Prop):Prop:=
 Fn P zS1 AF x.2.1 (fun(d1:Bool) _=>Ac (D:=Bool) (fun J3=>(((!d1)=false→Fn P zS1 AF x.2.2 (fun(d4:Bool) _=>J3 d4))∧(((!d1)=true→J3 false)∧True))) (fun d5=>(((cond (!d1) true (!d5))=true→K (80:Int) ())∧((cond (!d1) true (!d5))=false→Ac (D:=(Int×(Int×Int))) (fun J6=>AJ (D:=Change) ((0:Int),((0:Int),((0:Int),(0:Int)))) (fun d8 J9=>(((decide (d8.2.2.2<(x.1.length:Int)))=true→Ac (D:=(Int×(Int×Int))) (fun J10=>(0≤d8.2.2.2∧d8.2.2.2<(x.1.length:Int))∧
 (d8.2.2.2.toNat<x.1.length)∧
 Fn P zS1 AF (Qa0 x.1 d8.2.2.2.toNat Ad).1 (fun(d12:Bool) _=>Ac (D:=Bool) (fun J14=>(((!d12)=false→Fn P zS1 AF (Qa0 x.1 d8.2.2.2.toNat Ad).2.1 (fun(d15:Bool) _=>J14 d15))∧(((!d12)=true→J14 false)∧True))) (fun d16=>Ac (D:=Bool) (fun J17=>(((cond (!d12) true (!d16))=false→Fn P zS1 AF (Qa0 x.1 d8.2.2.2.toNat Ad).2.2.1 (fun(d18:Bool) _=>J17 d18))∧(((cond (!d12) true (!d16))=true→J17 false)∧True))) (fun d19=>Ac (D:=Bool) (fun J20=>(((cond (cond (!d12) true (!d16)) true (!d19))=false→Fn P zS1 AF (Qa0 x.1 d8.2.2.2.toNat Ad).2.2.2 (fun(d21:Bool) _=>J20 d21))∧(((cond (cond (!d12) true (!d16)) true (!d19))=true→J20 false)∧True))) (fun d22=>(((cond (cond (cond (cond (!d12) true (!d16)) true (!d19)) true (!d22)) true ((i64.wrap ((Qa0 x.1 d8.2.2.2.toNat Ad).2.1+(Qa0 x.1 d8.2.2.2.toNat Ad).2.2.2))==0))=true→K (80:Int) ())∧((cond (cond (cond (cond (!d12) true (!d16)) true (!d19)) true (!d22)) true ((i64.wrap ((Qa0 x.1 d8.2.2.2.toNat Ad).2.1+(Qa0 x.1 d8.2.2.2.toNat Ad).2.2.2))==0))=false→(((cond ((i64.wrap ((Qa0 x.1 d8.2.2.2.toNat Ad).1 -d8.2.1)) !=(i64.wrap ((Qa0 x.1 d8.2.2.2.toNat Ad).2.2.1 -d8.2.2.1))) true (decide ((i64.wrap ((Qa0 x.1 d8.2.2.2.toNat Ad).1 -d8.2.1))<(if(1:Int)<d8.2.2.2 then(1:Int)else d8.2.2.2))))=true→K (80:Int) ())∧((cond ((i64.wrap ((Qa0 x.1 d8.2.2.2.toNat Ad).1 -d8.2.1)) !=(i64.wrap ((Qa0 x.1 d8.2.2.2.toNat Ad).2.2.1 -d8.2.2.1))) true (decide ((i64.wrap ((Qa0 x.1 d8.2.2.2.toNat Ad).1 -d8.2.1))<(if(1:Int)<d8.2.2.2 then(1:Int)else d8.2.2.2))))=false→Ac (D:=(Int×Int)) (fun J23=>((((J23 ((i64.wrap ((Qa0 x.1 d8.2.2.2.toNat Ad).1+(Qa0 x.1 d8.2.2.2.toNat Ad).2.1)),(i64.wrap ((Qa0 x.1 d8.2.2.2.toNat Ad).2.2.1+(Qa0 x.1 d8.2.2.2.toNat Ad).2.2.2))))∧True)∧True)∧(((J23 ((i64.wrap ((Qa0 x.1 d8.2.2.2.toNat Ad).1+(Qa0 x.1 d8.2.2.2.toNat Ad).2.1)),(i64.wrap ((Qa0 x.1 d8.2.2.2.toNat Ad).2.2.1+(Qa0 x.1 d8.2.2.2.toNat Ad).2.2.2))))∧True)∧True))∧(((((J23 ((i64.wrap ((Qa0 x.1 d8.2.2.2.toNat Ad).1+(Qa0 x.1 d8.2.2.2.toNat Ad).2.1)),(i64.wrap ((Qa0 x.1 d8.2.2.2.toNat Ad).2.2.1+(Qa0 x.1 d8.2.2.2.toNat Ad).2.2.2))))∧True)∧True)∧(((J23 ((i64.wrap ((Qa0 x.1 d8.2.2.2.toNat Ad).1+(Qa0 x.1 d8.2.2.2.toNat Ad).2.1)),(i64.wrap ((Qa0 x.1 d8.2.2.2.toNat Ad).2.2.1+(Qa0 x.1 d8.2.2.2.toNat Ad).2.2.2))))∧True)∧True))∧(((J23 ((i64.wrap ((Qa0 x.1 d8.2.2.2.toNat Ad).1+(Qa0 x.1 d8.2.2.2.toNat Ad).2.1)),(i64.wrap ((Qa0 x.1 d8.2.2.2.toNat Ad).2.2.1+(Qa0 x.1 d8.2.2.2.toNat Ad).2.2.2))))∧True)∧True))) (fun d24=>J10 (d8.1,d24))))))))))) (fun d11=>J9 (d11.1,(d11.2.1,(d11.2.2,(i64.wrap (d8.2.2.2+1)))))))∧((decide (d8.2.2.2<(x.1.length:Int)))=false→J6 (d8.1,(d8.2.1,d8.2.2.1)))))) (fun d7=>(((cond ((i64.wrap (x.2.1 -d7.2.1)) !=(i64.wrap (x.2.2 -d7.2.2))) true (decide (x.2.1<d7.2.1)))=true→K (80:Int) ())∧((cond ((i64.wrap (x.2.1 -d7.2.1)) !=(i64.wrap (x.2.2 -d7.2.2))) true (decide (x.2.1<d7.2.1)))=false→K (0:Int) ())))))))
theorem Vn{P}(h:Hq P Hv){x K}(hw:Ow P x K):Fn P Amr DX x K:=
 zF h hw
def IG:AnF:=⟨Aov,157,[],[(4,.f (rg [11,12] 15 9) [1011,1012] false),dJ 4 [.pt 11 1011 0,.pt 12 1012 0,.bx 1011 AZ .leaf,.bx 1012 AZ .leaf]],[.cell 10 true 6],5⟩
def Qg(P:Pg)(x:((List Change)×Change))(K:Hunk→Unit→Prop):Prop:=
 Ac (D:=(Change×Change)) (fun J1=>(0≤x.2.1∧x.2.1<(x.1.length:Int))∧
 (0≤(i64.wrap (x.2.2.1 -1))∧(i64.wrap (x.2.2.1 -1))<(x.1.length:Int))∧
 ((x.2.1.toNat<x.1.length)∧
 (((Qa1 (i64.wrap (x.2.2.1 -1)))<x.1.length)∧
 ((((J1 ((Qa0 x.1 x.2.1.toNat Ad),(Qa0 x.1 (Qa1 (i64.wrap (x.2.2.1 -1))) Ad)))∧True)∧True)∧True)∧(((((J1 ((Qa0 x.1 x.2.1.toNat Ad),(Qa0 x.1 (Qa1 (i64.wrap (x.2.2.1 -1))) Ad)))∧True)∧True)∧True)∧True))∧(((((Qa1 (i64.wrap (x.2.2.1 -1)))<x.1.length)∧
 (((J1 ((Qa0 x.1 x.2.1.toNat Ad),(Qa0 x.1 (Qa1 (i64.wrap (x.2.2.1 -1))) Ad)))∧True)∧True)∧True)∧(((((Qa1 (i64.wrap (x.2.2.1 -1)))<x.1.length)∧
 ((J1 ((Qa0 x.1 x.2.1.toNat Ad),(Qa0 x.1 (Qa1 (i64.wrap (x.2.2.1 -1))) Ad)))∧True)∧True)∧((((Qa1 (i64.wrap (x.2.2.1 -1)))<x.1.length)∧
 (J1 ((Qa0 x.1 x.2.1.toNat Ad),(Qa0 x.1 (Qa1 (i64.wrap (x.2.2.1 -1))) Ad)))∧True)∧True))∧True))∧(((((Qa1 (i64.wrap (x.2.2.1 -1)))<x.1.length)∧
 (((J1 ((Qa0 x.1 x.2.1.toNat Ad),(Qa0 x.1 (Qa1 (i64.wrap (x.2.2.1 -1))) Ad)))∧True)∧True)∧True)∧(((((Qa1 (i64.wrap (x.2.2.1 -1)))<x.1.length)∧
 ((J1 ((Qa0 x.1 x.2.1.toNat Ad),(Qa0 x.1 (Qa1 (i64.wrap (x.2.2.1 -1))) Ad)))∧True)∧True)∧((((Qa1 (i64.wrap (x.2.2.1 -1)))<x.1.length)∧
 (J1 ((Qa0 x.1 x.2.1.toNat Ad),(Qa0 x.1 (Qa1 (i64.wrap (x.2.2.1 -1))) Ad)))∧True)∧True))∧True))∧True)))∧((((Qa1 (i64.wrap (x.2.2.1 -1)))<x.1.length)∧
 ((x.2.1.toNat<x.1.length)∧
 ((((J1 ((Qa0 x.1 x.2.1.toNat Ad),(Qa0 x.1 (Qa1 (i64.wrap (x.2.2.1 -1))) Ad)))∧True)∧True)∧True)∧(((((J1 ((Qa0 x.1 x.2.1.toNat Ad),(Qa0 x.1 (Qa1 (i64.wrap (x.2.2.1 -1))) Ad)))∧True)∧True)∧True)∧True))∧((((x.2.1.toNat<x.1.length)∧
 (((J1 ((Qa0 x.1 x.2.1.toNat Ad),(Qa0 x.1 (Qa1 (i64.wrap (x.2.2.1 -1))) Ad)))∧True)∧True)∧True)∧(((x.2.1.toNat<x.1.length)∧
 ((J1 ((Qa0 x.1 x.2.1.toNat Ad),(Qa0 x.1 (Qa1 (i64.wrap (x.2.2.1 -1))) Ad)))∧True)∧True)∧True))∧((((x.2.1.toNat<x.1.length)∧
 (((J1 ((Qa0 x.1 x.2.1.toNat Ad),(Qa0 x.1 (Qa1 (i64.wrap (x.2.2.1 -1))) Ad)))∧True)∧True)∧True)∧(((x.2.1.toNat<x.1.length)∧
 ((J1 ((Qa0 x.1 x.2.1.toNat Ad),(Qa0 x.1 (Qa1 (i64.wrap (x.2.2.1 -1))) Ad)))∧True)∧True)∧True))∧True)))∧((((x.2.1.toNat<x.1.length)∧
 (((Qa1 (i64.wrap (x.2.2.1 -1)))<x.1.length)∧
 (((J1 ((Qa0 x.1 x.2.1.toNat Ad),(Qa0 x.1 (Qa1 (i64.wrap (x.2.2.1 -1))) Ad)))∧True)∧True)∧True)∧(((((Qa1 (i64.wrap (x.2.2.1 -1)))<x.1.length)∧
 ((J1 ((Qa0 x.1 x.2.1.toNat Ad),(Qa0 x.1 (Qa1 (i64.wrap (x.2.2.1 -1))) Ad)))∧True)∧True)∧((((Qa1 (i64.wrap (x.2.2.1 -1)))<x.1.length)∧
 (J1 ((Qa0 x.1 x.2.1.toNat Ad),(Qa0 x.1 (Qa1 (i64.wrap (x.2.2.1 -1))) Ad)))∧True)∧True))∧True))∧((((Qa1 (i64.wrap (x.2.2.1 -1)))<x.1.length)∧
 ((x.2.1.toNat<x.1.length)∧
 (((J1 ((Qa0 x.1 x.2.1.toNat Ad),(Qa0 x.1 (Qa1 (i64.wrap (x.2.2.1 -1))) Ad)))∧True)∧True)∧True)∧(((x.2.1.toNat<x.1.length)∧
 ((J1 ((Qa0 x.1 x.2.1.toNat Ad),(Qa0 x.1 (Qa1 (i64.wrap (x.2.2.1 -1))) Ad)))∧True)∧True)∧True))∧(((x.2.1.toNat<x.1.length)∧
 (((Qa1 (i64.wrap (x.2.2.1 -1)))<x.1.length)∧
 ((J1 ((Qa0 x.1 x.2.1.toNat Ad),(Qa0 x.1 (Qa1 (i64.wrap (x.2.2.1 -1))) Ad)))∧True)∧True)∧((((Qa1 (i64.wrap (x.2.2.1 -1)))<x.1.length)∧
 (J1 ((Qa0 x.1 x.2.1.toNat Ad),(Qa0 x.1 (Qa1 (i64.wrap (x.2.2.1 -1))) Ad)))∧True)∧True))∧True)))∧((((x.2.1.toNat<x.1.length)∧
 (((Qa1 (i64.wrap (x.2.2.1 -1)))<x.1.length)∧
 (((J1 ((Qa0 x.1 x.2.1.toNat Ad),(Qa0 x.1 (Qa1 (i64.wrap (x.2.2.1 -1))) Ad)))∧True)∧True)∧True)∧(((((Qa1 (i64.wrap (x.2.2.1 -1)))<x.1.length)∧
 ((J1 ((Qa0 x.1 x.2.1.toNat Ad),(Qa0 x.1 (Qa1 (i64.wrap (x.2.2.1 -1))) Ad)))∧True)∧True)∧((((Qa1 (i64.wrap (x.2.2.1 -1)))<x.1.length)∧
 (J1 ((Qa0 x.1 x.2.1.toNat Ad),(Qa0 x.1 (Qa1 (i64.wrap (x.2.2.1 -1))) Ad)))∧True)∧True))∧True))∧((((Qa1 (i64.wrap (x.2.2.1 -1)))<x.1.length)∧
 ((x.2.1.toNat<x.1.length)∧
 (((J1 ((Qa0 x.1 x.2.1.toNat Ad),(Qa0 x.1 (Qa1 (i64.wrap (x.2.2.1 -1))) Ad)))∧True)∧True)∧True)∧(((x.2.1.toNat<x.1.length)∧
 ((J1 ((Qa0 x.1 x.2.1.toNat Ad),(Qa0 x.1 (Qa1 (i64.wrap (x.2.2.1 -1))) Ad)))∧True)∧True)∧True))∧(((x.2.1.toNat<x.1.length)∧
 (((Qa1 (i64.wrap (x.2.2.1 -1)))<x.1.length)∧
 ((J1 ((Qa0 x.1 x.2.1.toNat Ad),(Qa0 x.1 (Qa1 (i64.wrap (x.2.2.1 -1))) Ad)))∧True)∧True)∧((((Qa1 (i64.wrap (x.2.2.1 -1)))<x.1.length)∧
 (J1 ((Qa0 x.1 x.2.1.toNat Ad),(Qa0 x.1 (Qa1 (i64.wrap (x.2.2.1 -1))) Ad)))∧True)∧True))∧True)))∧True)))) (fun d2=>K (x.2.1,(x.2.2.1,(((i64.wrap (d2.1.1 -(if d2.1.1<x.2.2.2.2 then d2.1.1 else x.2.2.2.2))),(i64.wrap ((i64.wrap (d2.2.1+d2.2.2.1))+(if(i64.wrap ((i64.wrap (x.2.2.2.1 -d2.2.1)) -d2.2.2.1))<x.2.2.2.2 then(i64.wrap ((i64.wrap (x.2.2.2.1 -d2.2.1)) -d2.2.2.1))else x.2.2.2.2)))),((i64.wrap (d2.1.2.2.1 -(if d2.1.1<x.2.2.2.2 then d2.1.1 else x.2.2.2.2))),(i64.wrap ((i64.wrap (d2.2.2.2.1+d2.2.2.2.2))+(if(i64.wrap ((i64.wrap (x.2.2.2.1 -d2.2.1)) -d2.2.2.1))<x.2.2.2.2 then(i64.wrap ((i64.wrap (x.2.2.2.1 -d2.2.1)) -d2.2.2.1))else x.2.2.2.2))))))) ())
theorem W8{P}(h:Hq P IG){x K}(hw:Qg P x K):Fn P Aov GB x K:=
 zF h hw
end Go.VS
