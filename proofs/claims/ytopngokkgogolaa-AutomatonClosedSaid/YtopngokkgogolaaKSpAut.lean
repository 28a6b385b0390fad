/- Automata: what they mean; checks. -/
import Derived.Test.YtopngokkgogolaaKSpGen
set_option linter.unusedVariables false
set_option linter.unusedSimpArgs false
namespace Go.VS
variable{P:Pg}
abbrev Auto:=List State×Int
def B2(n:Nat)(s:State):Prop:=0≤s.1∧s.1≤4∧(s.1≠4→0≤s.2.2.1∧s.2.2.1<(n:Int))∧(s.1=1→0≤s.2.2.2∧s.2.2.2<(n:Int))
structure Valid(a:Auto):Prop where
 lo:1≤a.1.length
 hi:a.1.length≤8000
 s0:0≤a.2
 s1:a.2<(a.1.length:Int)
 ok:∀i,i<a.1.length→B2 a.1.length (a.1.getD i Al)
def LK(P:Pg):Prop:=∀x:Auto,Fn P WY D7 x fun(d:Int) _=>(Valid x→d=0)∧(¬Valid x→d=2)
theorem U4(h:Has P Fc):LK P:=by
 intro x
 refine Nv h ?_
 unfold Jv
 refine⟨fun hc=>⟨fun v=>?_,fun _=>rfl⟩,fun hc=>Ak.of (Bf.of (fun d=>0≤d.2∧d.2≤x.1.length∧∀i:Nat,(i:Int)<d.2→B2 x.1.length (x.1.getD i Al)) (fun d=>(x.1.length -d.2).toNat) ?_ ?_)⟩
 ·exfalso
  have:=v.lo;have:=v.hi;have:=v.s0;have:=v.s1
  simp at hc
  omega
 ·exact⟨by omega,by omega,fun i hi=>by omega⟩
 ·rintro⟨d1,d2⟩ ⟨h1,h2,h3⟩
  dsimp only at h1 h2 h3⊢
  simp at hc
  refine⟨fun hd=>Ak.of ?_,fun hd=>?_⟩
  ·have hd:=of_decide_eq_true hd
   refine⟨⟨h1,hd⟩,by omega,fun hb=>?_,fun hb=>?_⟩
   ·refine⟨fun v=>?_,fun _=>rfl⟩
    exfalso
    obtain⟨k1,k2,k3,k4⟩:=v.ok d2.toNat (by omega)
    simp[-List.getD_eq_getElem?_getD]at hb
    rcases hb with((hb|hb)|⟨hb,hb2⟩)|⟨hb,hb2⟩
    ·omega
    ·omega
    ·have:=k3 hb;omega
    ·have:=k4 hb;omega
   ·have e:IntKind.i64.wrap (d2+1)=d2+1:=w64 (by omega) (by omega)
    rw[e]
    refine⟨⟨by omega,by omega,fun i hi=>?_⟩,by omega⟩
    by_cases hi2:(i:Int)<d2
    ·exact h3 i hi2
    ·have:i=d2.toNat:=by omega
     subst this
     simp[-List.getD_eq_getElem?_getD]at hb
     obtain⟨⟨⟨b1,b2⟩,b3⟩,b4⟩:=hb
     refine⟨by omega,by omega,fun hn=>?_,fun hn=>?_⟩
     ·have:=b3 hn;omega
     ·have:=b4 hn;omega
  ·have hd:=of_decide_eq_false hd
   refine⟨fun _=>rfl,fun nv=>(nv ⟨by omega,by omega,by omega,by omega,fun i hi=>h3 i (by omega)⟩).elim⟩
def M8(P:Pg):Prop:=∀x:Int×Int,Fn P zS8 AU x fun(d:Bool) (e:Int)=>(d=true↔0≤x.1∧x.1<x.2)∧e=x.2
theorem WD(h:Has P CN):M8 P:=by
 intro x
 refine Im h ?_
 unfold FE
 exact⟨by simp,rfl⟩
def I2(P:Pg):Prop:=∀x:Auto,Fn P zS9 Bh x fun(d:Int) _=>(Valid x→d=0)∧(¬Valid x→d=2)
theorem U1(h:Has P Dv)(hI:M8 P):I2 P:=by
 intro x
 refine JV h ?_
 unfold GW
 refine⟨fun hc=>⟨fun _=>⟨fun v=>?_,fun _=>rfl⟩,fun h=>nomatch h⟩,fun hc=>?_⟩
 ·exfalso
  have:=v.lo;have:=v.hi
  simp at hc
  omega
 simp at hc
 refine(hI _).to ?_
 rintro(b:Bool) (e:Int) ⟨hb,rfl⟩
 refine⟨fun hn=>⟨fun v=>?_,fun _=>rfl⟩,fun hn=>?_⟩
 ·exfalso
  have:=v.s0;have:=v.s1
  simp at hn
  subst hn
  simp at hb
  omega
 simp at hn
 subst hn
 simp only[true_iff]at hb
 refine Ak.of (Bf.of (fun d=>0≤d.2.1∧d.2.1≤x.1.length∧d.2.2=x.1.length∧∀i:Nat,(i:Int)<d.2.1→B2 x.1.length (x.1.getD i Al)) (fun d=>(x.1.length -d.2.1).toNat) ?_ ?_)
 ·exact⟨Int.le_refl _,by dsimp only;omega,rfl,fun i hi=>by dsimp only at hi;omega⟩
 rintro⟨d1,d2,d3⟩ ⟨h1,h2,h3,h4⟩
 dsimp only at h1 h2 h3 h4⊢
 subst h3
 refine⟨fun hd=>Ak.of ?_,fun hd=>?_⟩
 ·have hd:=of_decide_eq_true hd
  refine⟨⟨h1,hd⟩,by omega,?_⟩
  have hok:B2 x.1.length (x.1.getD d2.toNat Al)→∀i:Nat,(i:Int)<d2+1→B2 x.1.length (x.1.getD i Al):=by
   intro h i hi
   by_cases hi2:(i:Int)<d2
   ·exact h4 i hi2
   ·have:i=d2.toNat:=by omega
    subst this;exact h
  have hbad:Valid x→B2 x.1.length (x.1.getD d2.toNat Al):=fun v=>v.ok _ (by omega)
  generalize x.1.getD d2.toNat Al=s at hok hbad⊢
  obtain⟨k,st,nx,ot⟩:=s
  dsimp only at hok hbad⊢
  refine(hI _).to ?_
  rintro(b1:Bool) (e1:Int) ⟨hb1,rfl⟩
  dsimp only at hb1⊢
  refine Ak.mid (fun d=>(d.1=true↔B2 x.1.length (k,st,nx,ot))∧d.2=x.1.length) ?_ ?_
  ·refine Ak.mid (fun d=>d=true↔(k=0∨k=2∨k=3)) ?_ ?_
   ·refine⟨fun hk=>by simp at hk;simp[hk],fun hk=>Ak.of ⟨fun hk2=>by simp at hk hk2;simp[hk2],fun hk2=>by simp at hk hk2;simp[hk,hk2]⟩⟩
   ·intro d12 h12
    refine Ak.of ⟨fun hk=>?_,fun hk=>Ak.of ?_⟩
    ·rw[h12]at hk
     refine⟨?_,rfl⟩
     rw[hb1]
     simp only[B2]
     omega
    ·have hk:¬(k=0∨k=2∨k=3):=by rw[←h12];simp[hk]
     refine⟨fun hk1=>⟨fun hb2=>(hI _).to ?_,fun hb2=>⟨?_,rfl⟩⟩,fun hk1=>Ak.of ⟨fun hk4=>⟨?_,rfl⟩,fun hk4=>⟨?_,rfl⟩⟩⟩
     ·rintro(b2:Bool) (e2:Int) ⟨hb3,rfl⟩
      refine⟨?_,rfl⟩
      simp at hk1
      simp only[cond_true,hb3,B2]
      rw[hb1]at hb2
      omega
     ·simp at hk1
      have:¬(0≤nx∧nx<(x.1.length:Int)):=by rw[←hb1];simp[hb2]
      simp only[cond_false,B2,Bool.false_eq_true,false_iff]
      omega
     ·simp at hk1 hk4
      simp only[B2,true_iff]
      omega
     ·simp at hk1 hk4
      simp only[B2,Bool.false_eq_true,false_iff]
      omega
  ·rintro⟨q,e⟩ ⟨hq,he⟩
   dsimp only at hq he⊢
   subst he
   refine⟨fun hn=>⟨fun v=>?_,fun _=>rfl⟩,fun hn=>?_⟩
   ·exfalso
    have:=hbad v
    rw[←hq]at this
    simp[this]at hn
   ·simp at hn
    have e:IntKind.i64.wrap (d2+1)=d2+1:=w64 (by omega) (by omega)
    rw[e]
    exact⟨⟨by omega,by omega,rfl,hok (hq.1 hn)⟩,by omega⟩
 ·have hd:=of_decide_eq_false hd
  refine⟨fun _=>rfl,fun nv=>(nv ⟨by omega,by omega,by omega,by omega,fun i hi=>h4 i (by omega)⟩).elim⟩
end Go.VS
