/- The statements about layer 6. -/
import Derived.Test.YtopngokkgogolaaKSpAdd
set_option linter.unusedVariables false
set_option linter.unusedSimpArgs false
namespace Go.VS
variable{P:Pg}
def NM(raw:List Int)(N:Int)(i:Nat):State:=(CU (atF raw (1+4*i)) 5,(SR ((0:Int),((0:Int),((0:Int),(0:Int)))) (97+CU (atF raw (4+4*i)) 2),(CU (atF raw (2+4*i)) N,CU (atF raw (3+4*i)) N)))
def Ha(raw:List Int)(n k:Int):Auto:=((List.range (1+CU n k).toNat).map (NM raw (1+CU n k)),CU (atF raw 0) (1+CU n k))
theorem Rn(raw:List Int)(n:Int){k:Int}(h1:1≤k)(h2:k≤1000):Valid (Ha raw n k):=by
 have hr:=C8 (a:=n) h1 (by omega)
 have hlen:(Ha raw n k).1.length=(1+CU n k).toNat:=by simp[Ha]
 have hst:=C8 (a:=atF raw 0) (n:=1+CU n k) (by omega) (by omega)
 refine⟨by omega,by omega,hst.1,by rw[hlen];have:=hst.2;show CU _ _<_;omega,fun i hi=>?_⟩
 rw[hlen]at hi⊢
 have e:(Ha raw n k).1.getD i Al=NM raw (1+CU n k) i:=by
  simp[Ha,List.getD_eq_getElem?_getD,List.getElem?_map,List.getElem?_range hi]
 rw[e]
 have a1:=C8 (a:=atF raw (1+4*i)) (n:=5) (by decide) (by decide)
 have a2:=C8 (a:=atF raw (2+4*i)) (n:=1+CU n k) (by omega) (by omega)
 have a3:=C8 (a:=atF raw (3+4*i)) (n:=1+CU n k) (by omega) (by omega)
 simp only[B2,NM]
 omega
theorem Wa(raw:List Int)(N:Int){i:Int}(h:0≤i):NM raw N i.toNat=(CU (atF raw (1+4*i)) 5,(SR ((0:Int),((0:Int),((0:Int),(0:Int)))) (97+CU (atF raw (4+4*i)) 2),(CU (atF raw (2+4*i)) N,CU (atF raw (3+4*i)) N))):=by
 unfold NM
 rw[show((i.toNat:Nat):Int)=i by omega]
theorem Wb(hM:JJ P)(hP:JK P){a k x y:Int}:Fn P zS1 A9 (a,(2:Int)) fun(d:Int) (_:Unit)=>Fn P zS6 BI (((0:Int),((0:Int),((0:Int),(0:Int)))),IntKind.u8.wrap (97+IntKind.u8.wrap d)) (fun(d:GK) (_:Unit)=>(k,((d.1,(d.2.1,(d.2.2.1,d.2.2.2))),(x,y)))=(k,(SR ((0:Int),((0:Int),((0:Int),(0:Int)))) (97+CU a 2),(x,y)))∧True)∧True:=by
 have hr2:=C8 (a:=a) (n:=2) (by decide) (by decide)
 refine hM.at (by decide) (by decide) ⟨?_,trivial⟩
 generalize CU a 2=m at hr2
 have ew:IntKind.u8.wrap (97+IntKind.u8.wrap m)=97+m:=by
  rw[wu8 (n:=m) (by omega) (by omega),wu8 (by omega) (by omega)]
 rw[ew]
 have h1:0≤97+m:=by omega
 have h2:97+m≤255:=by omega
 refine hP.at h1 h2 fun d hd=>⟨?_,trivial⟩
 rw[←hd]
abbrev S97:GK:=SR ((0:Int),((0:Int),((0:Int),(0:Int)))) 97
end Go.VS
