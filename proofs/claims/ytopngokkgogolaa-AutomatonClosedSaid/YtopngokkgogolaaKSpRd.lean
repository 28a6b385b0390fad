/- The reader of patterns: its small steps. -/
import Derived.Test.YtopngokkgogolaaKSpNb
import Derived.Test.YtopngokkgogolaaKSpGen
set_option linter.unusedVariables false
set_option linter.unusedSimpArgs false
namespace Go.VS
variable{P:Pg}
def OV(P:Pg):Prop:=∀x:Ae×Int,0≤x.1.2.1→Fn P zS7 AW x fun(d:Bool) (e:Ae)=>e=x.1∧(d=true↔x.1.2.1<x.1.1.length∧((x.1.1.getD x.1.2.1.toNat 0).toNat:Int)=x.2)
theorem Zr(h:Has P Dx):OV P:=by
 rintro⟨⟨s,a,dp,l,e⟩,c⟩ ha
 dsimp only at ha
 refine JX h ?_
 unfold GY
 dsimp only
 refine Ak.mid (fun d=>d=true↔a<s.length∧((s.getD a.toNat 0).toNat:Int)=c) ⟨fun hc=>⟨ha,of_decide_eq_true hc⟩,?_,trivial⟩ fun d hd=>⟨rfl,hd⟩
 rw[Bool.cond_eq_ite]
 split
 ·rename_i h1
  have h1:=of_decide_eq_true h1
  simp only[beq_iff_eq]
  exact⟨fun h=>⟨h1,h⟩,fun h=>h.2⟩
 ·rename_i h1
  have h1:¬a<s.length:=fun h=>h1 (decide_eq_true h)
  exact⟨fun h=>(nomatch h),fun h=>(h1 h.1).elim⟩
def Kr(P:Pg):Prop:=∀x:Ae×Node,x.1.2.2.2.1.length≤1000000000→Fn P zS0 Av x fun(d:Int) (e:Ae)=>d=x.1.2.2.2.1.length∧e=(x.1.1,(x.1.2.1,(x.1.2.2.1,(x.1.2.2.2.1++[x.2],x.1.2.2.2.2))))
theorem XT(h:Has P CQ):Kr P:=by
 rintro⟨⟨s,a,dp,l,e⟩,n⟩ hl
 dsimp only at hl
 refine Iq h ?_
 unfold FH
 dsimp only
 refine Ak.mid (fun d=>d=(s,(a,(dp,(l++[n],e))))) ?_ ?_
 ·simp only[List.length_cons,List.length_nil,and_true,and_self]
  omega
 ·rintro d rfl
  dsimp only
  have hlen:(l++[n]).length=l.length+1:=by simp
  rw[hlen,w64 (by omega) (by omega)]
  exact⟨by omega,rfl⟩
theorem OV.at(h:OV P){s:Bs}{a d:Int}{l:List Node}{e c:Int}{K:Bool→Ae→Prop}(ha:0≤a)(hk:K (isc s a.toNat c) (s,(a,(d,(l,e))))):Fn P zS7 AW ((s,(a,(d,(l,e)))),c) K:=
 (h ((s,(a,(d,(l,e)))),c) ha).to fun(b:Bool) (r:Ae) hr=>by
  obtain⟨rfl,hb⟩:=hr
  have:b=isc s a.toNat c:=by
   rw[Bool.eq_iff_iff,hb,V7]
   dsimp only
   exact⟨fun h=>⟨by omega,h.2⟩,fun h=>⟨by omega,h.2⟩⟩
  rw[this];exact hk
theorem Kr.at(h:Kr P){s:Bs}{a d:Int}{l:List Node}{e:Int}{n:Node}{K:Int→Ae→Prop}(hl:l.length≤1000000000)(hk:K (l.length:Int) (s,(a,(d,(l++[n],e))))):Fn P zS0 Av ((s,(a,(d,(l,e)))),n) K:=
 (h ((s,(a,(d,(l,e)))),n) hl).to fun(b:Int) (r:Ae) hr=>by
  obtain⟨hb,rfl⟩:=hr
  have hb:b=(l.length:Int):=hb
  rw[hb];exact hk
end Go.VS
