/- Numbers made of raw numbers; sets of bytes. -/
import Derived.Test.YtopngokkgogolaaKSpMod
set_option linter.unusedVariables false
set_option linter.unusedSimpArgs false
namespace Go.VS
variable{P:Pg}
@[irreducible] def atX(raw:List Int)(k:Int):Int:=
 if((List.length raw:Nat):Int)>0 then(IntKind.u64.wrap ((BitVec.toNat (BitVec.ofInt IntKind.u64.bits (IntKind.u64.wrap ((IntKind.u64.wrap (IntKind.i64.wrap (k+(1:Int))))*(11400714819323198485:Int)))^^^BitVec.ofInt IntKind.u64.bits (IntKind.u64.wrap (List.getD raw (Int.toNat (Int.tmod k ((List.length raw:Nat):Int))) (0:Int)))):Nat):Int))
 else(IntKind.u64.wrap ((IntKind.u64.wrap (IntKind.i64.wrap (k+(1:Int))))*(11400714819323198485:Int)))
@[irreducible] def atY(d2:Int):Int:=IntKind.u64.wrap ((BitVec.toNat (BitVec.ofInt IntKind.u64.bits (IntKind.u64.wrap ((IntKind.u64.wrap ((BitVec.toNat (BitVec.ofInt IntKind.u64.bits d2^^^BitVec.ofInt IntKind.u64.bits (Int.fdiv d2 (2^(min (Int.toNat (31:Int)) IntKind.u64.bits)))):Nat):Int))*(13787848793156543929:Int)))^^^BitVec.ofInt IntKind.u64.bits (Int.fdiv (IntKind.u64.wrap ((IntKind.u64.wrap ((BitVec.toNat (BitVec.ofInt IntKind.u64.bits d2^^^BitVec.ofInt IntKind.u64.bits (Int.fdiv d2 (2^(min (Int.toNat (31:Int)) IntKind.u64.bits)))):Nat):Int))*(13787848793156543929:Int))) (2^(min (Int.toNat (29:Int)) IntKind.u64.bits)))):Nat):Int)
@[irreducible] def atF(raw:List Int)(k:Int):Int:=IntKind.i64.wrap (Int.fdiv (atY (atX raw k)) (2^(min (Int.toNat (1:Int)) IntKind.u64.bits)))
def QC(P:Pg):Prop:=∀x:List Int×Int,0≤x.2→Fn P zS4 Cg x fun d _=>d=atF x.1 x.2
theorem Zq(h:Has P Kq):QC P:=by
 intro x h1
 refine Uz h ?_
 unfold QF
 refine Ak.mid (fun d=>d=atX x.1 x.2) ⟨fun hc=>?_,fun hc=>?_⟩ fun d hd=>⟨by decide,by decide,by decide,?_⟩
 ·have hc:((List.length x.1:Nat):Int)>0:=of_decide_eq_true hc
  have e1:(Int.tmod x.2 ((List.length x.1:Nat):Int))=x.2%(List.length x.1:Nat):=Int.tmod_eq_emod_of_nonneg h1
  have e2:=Int.emod_nonneg x.2 (show((List.length x.1:Nat):Int)≠0 by omega)
  have e3:=Int.emod_lt_of_pos x.2 hc
  refine⟨by omega,by omega,by omega,?_⟩
  unfold atX
  rw[if_pos hc]
 ·have hc:¬((List.length x.1:Nat):Int)>0:=of_decide_eq_false hc
  unfold atX
  rw[if_neg hc]
 ·subst hd;unfold atF atY;rfl
abbrev GK:=Int×(Int×(Int×Int))
@[irreducible] def orW(w c:Int):Int:=IntKind.u64.wrap ((BitVec.toNat (BitVec.ofInt IntKind.u64.bits w|||BitVec.ofInt IntKind.u64.bits (IntKind.u64.wrap ((1:Int)*2^(min (Int.toNat (Int.tmod c (64:Int))) IntKind.u64.bits)))):Nat):Int)
@[irreducible] def SR(s:GK)(c:Int):GK:=
 let w:=List.getD [s.1,s.2.1,s.2.2.1,s.2.2.2] (c/64).toNat 0
 let v:=orW w c
 (if(c/64).toNat=0 then v else s.1,if(c/64).toNat=1 then v else s.2.1,if(c/64).toNat=2 then v else s.2.2.1,if(c/64).toNat=3 then v else s.2.2.2)
@[irreducible] def SG(s:GK)(c:Int):Bool:=(IntKind.u64.wrap ((BitVec.toNat (BitVec.ofInt IntKind.u64.bits (Int.fdiv (List.getD [s.1,s.2.1,s.2.2.1,s.2.2.2] (c/64).toNat (0:Int)) (2^(min (Int.toNat (Int.tmod c (64:Int))) IntKind.u64.bits)))&&&BitVec.ofInt IntKind.u64.bits (1:Int)):Nat):Int))==(1:Int)
theorem X3{c:Int}(h1:0≤c)(h2:c≤255):IntKind.u8.wrap (Int.tdiv c 64)=c/64∧0≤c/64∧c/64<4∧0≤Int.tmod c 64:=by
 have e:Int.tdiv c 64=c/64:=Int.tdiv_eq_ediv_of_nonneg h1
 have e2:Int.tmod c 64=c%64:=Int.tmod_eq_emod_of_nonneg h1
 rw[e,wu8 (by omega) (by omega)]
 omega
def JK(P:Pg):Prop:=∀x:GK×Int,0≤x.2→x.2≤255→Fn P zS6 BI x fun d _=>d=SR x.1 x.2
theorem YM(h:Has P GQ):JK P:=by
 intro x h1 h2
 refine P7 h ?_
 unfold Mm
 obtain⟨e1,e2,e3,e4⟩:=X3 h1 h2
 rw[e1]
 exact⟨by decide,by decide,⟨e2,e3⟩,by omega,by decide,e4,⟨e2,e3⟩,by omega,by unfold SR orW;rfl⟩
def Sg(P:Pg):Prop:=∀x:GK×Int,0≤x.2→x.2≤255→Fn P W0 Fo x fun d _=>d=SG x.1 x.2
theorem YK(h:Has P GP):Sg P:=by
 intro x h1 h2
 refine P6 h ?_
 unfold Ml
 obtain⟨e1,e2,e3,e4⟩:=X3 h1 h2
 rw[e1]
 exact⟨by decide,⟨e2,e3⟩,by omega,by decide,e4,by unfold SG;rfl⟩
theorem QC.at(h:QC P){raw:List Int}{k:Int}(h1:0≤k){K:Int→Unit→Prop}(hk:K (atF raw k) ()):Fn P zS4 Cg (raw,k) K:=(h (raw,k) h1).to fun(d:Int) e hd=>by
 have hd:d=atF raw k:=hd
 subst hd;exact hk
theorem JK.at(h:JK P){s:GK}{c:Int}(h1:0≤c)(h2:c≤255){K:GK→Unit→Prop}(hk:∀d,d=SR s c→K d ()):Fn P zS6 BI (s,c) K:=(h (s,c) h1 h2).to fun(d:GK) e hd=>hk d hd
end Go.VS
