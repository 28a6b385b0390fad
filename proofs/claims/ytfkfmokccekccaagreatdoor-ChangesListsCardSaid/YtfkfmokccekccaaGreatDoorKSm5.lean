import Derived.Test.YtfkfmokccekccaaGreatDoorKSm0
import Derived.Lib.ItoaNum
import Derived.Test.YtfkfmokccekccaaGreatDoorKSm4
/- Words read back. -/
set_option linter.unusedVariables false
set_option linter.unusedSimpArgs false
namespace Go.VS
variable{P:Pg}
def up(l:Bs):List Int:=l.map fun b=>((b.toNat:Nat):Int)
end Go.VS

/- Words joined by spaces are read back. -/
set_option linter.unusedVariables false
set_option linter.unusedSimpArgs false
namespace Go.VS
variable{P:Pg}
def MV(P:Pg):Prop:=∀x:List Bs×List Bs,x.1.length≤9223372036854775806→x.1=x.2→Fn P Ad2 Dq x fun(d:Bool) _=>d=true
theorem Zw(h:Has P Gw):MV P:=by
 rintro⟨l,m⟩ hl he
 dsimp only at hl he
 subst he
 refine Rm h ?_
 unfold Ms
 dsimp only
 refine⟨fun hc=>absurd hc (by simp),fun _=>Ad.mid (fun _=>True) ?_ fun _ _=>rfl⟩
 refine AJ.of (fun d=>0≤d.2∧d.2≤l.length) (fun d=>(l.length -d.2).toNat) ⟨by omega,by simp⟩ ?_
 rintro⟨b,i⟩ ⟨i0,i1⟩
 dsimp only at i0 i1⊢
 refine⟨fun hc=>?_,fun _=>trivial⟩
 have hi:=of_decide_eq_true hc
 have hin:i.toNat<l.length:=by omega
 refine Ad.mid (fun _=>True) ⟨⟨i0,hi⟩,hin,⟨i0,hi⟩,hin,fun h2=>absurd h2 (by simp),fun _=>trivial⟩ ?_
 intro d _
 rw[w64 (by omega) (by omega)]
 exact⟨⟨by omega,by omega⟩,by omega⟩
end Go.VS

/- ChangesLists: from what Everywhere answers. -/
set_option linter.unusedVariables false
set_option linter.unusedSimpArgs false
namespace Go.VS
variable{P:Pg}
def QI(P:Pg):Prop:=∀x:List Ak×Int,Hv x.1→Fn P Afo DO x fun(d:List Bs×Int) _=>MR x.1 x.2 d
theorem Xd{g:List Ak}{c:Int}(hs:Hv g){d:List (List AD)×Int}(h:JQ g c d):d.1.length≤1000000∧∀k,k<d.1.length→(d.1.getD k []).length≤400:=by
 obtain⟨e,he,h2,h3,h4⟩:=h
 by_cases hk:e=0
 ·subst hk
  by_cases hc:inR g c
  ·have:=Og he hs hc (h4 rfl hc).1
   exact⟨this.2.1,this.2.2⟩
  ·rw[h3 rfl hc];exact⟨Nat.zero_le _,fun k hk=>absurd hk (by simp)⟩
 ·rw[h2 hk];exact⟨Nat.zero_le _,fun k hk=>absurd hk (by simp)⟩
theorem YH{g:List Ak}{c:Int}(hs:Hv g){d:List Bs×Int}(h:MR g c d):d.1.length≤400:=by
 obtain⟨e,he,h2,h3,h4⟩:=h
 by_cases hk:e=0
 ·subst hk
  by_cases hc:inR g c
  ·obtain⟨L,hL,hd⟩:=h4 rfl hc
   obtain⟨hp,_,hb⟩:=Og he hs hc hL
   rw[hd]
   show(Lc L).length≤400
   unfold Lc G0
   rw[List.length_map]
   exact Nat.le_trans (List.length_filter_le _ _) (hb 0 hp)
  ·rw[h3 rfl hc];exact Nat.zero_le _
 ·rw[h2 hk];exact Nat.zero_le _
theorem Qn(h:Has P DN)(hG:QJ P)(hM:JS P)(hL:OQ P)(hRL:LS P)(hE:QI P)(hRE:QN P)(hV:QL P)(hRV:QO P)(hD:Gg P)(hS:MV P)(hAw:HH P)(x:List Int×(Int×(Int×(Bs×Bool)))):
  Fn P AgB Bu x fun(d:Bool) _=>d=true:=by
 obtain⟨raw,c,par,path,fit⟩:=x
 refine KV h ?_
 unfold GQ
 dsimp only
 refine⟨fun _=>hAw.at rfl,fun _=>?_⟩
 refine(hG (raw,(6,2)) ⟨show(0:Int)≤6 by decide,show(6:Int)≤9 by decide⟩ ⟨show(0:Int)≤2 by decide,show(2:Int)≤2 by decide⟩).to ?_
 rintro(g:List Ak) _ hg
 have hg:Aat 6 g:=hg
 obtain⟨hgl,hg0,hgs,hgT⟩:=hg
 refine Ad.mid (fun _=>True) ⟨fun hb=>?_,fun _=>trivial⟩ ?_
 ·have hpos:=of_decide_eq_true (Q9 hb).2
  refine hM.at (by omega) (by omega) (hM.at (by decide) (by decide) (hM.at (by decide) (by decide) ?_))
  have hr:=Em (a:=((path.length:Nat):Int)) (n:=4) (by decide) (by decide)
  generalize Ga ((path.length:Nat):Int) 4=k at hr⊢
  exact⟨⟨hr.1,by show k<4;omega⟩,by show k.toNat<4;omega,trivial⟩
 rintro⟨c,p,w⟩ _
 dsimp only
 refine(hL (g,c) hgs).to ?_
 rintro(d1:List (List AD)×Int) _ h1
 have h1:JQ g c d1:=h1
 refine(hRL (g,c) (by dsimp only;omega) hgs).to ?_
 rintro(d2:List (List AD)×Int) _ h2
 have e2:d2=d1:=Vp hgs h2 h1
 subst e2
 clear h2
 refine(hE (g,c) hgs).to ?_
 rintro(d3:List Bs×Int) _ h3
 have h3:MR g c d3:=h3
 refine(hRE (g,c) (by dsimp only;omega) hgs).to ?_
 rintro(d4:List Bs×Int) _ h4
 have e4:d4=d3:=Wq hgs h4 h3
 subst e4
 clear h4
 refine(hV (g,(c,(p,w))) hgs).to ?_
 rintro(d5:Bs×(Bs×Int)) _ h5
 have h5:QF g c p w d5:=h5
 refine(hRV (g,(c,(p,w))) (by dsimp only;omega) hgs).to ?_
 rintro(d6:Bs×(Bs×Int)) _ h6
 have e6:d6=d5:=Xs h6 h5
 subst e6
 clear h6
 obtain⟨hll,hlk⟩:=Xd hgs h1
 have hel:=YH hgs h3
 obtain⟨L,e⟩:=d2
 obtain⟨V,ev⟩:=d4
 obtain⟨a,b,ep⟩:=d6
 have hll:L.length≤1000000:=hll
 have hlk:∀k,k<L.length→(L.getD k []).length≤400:=hlk
 have hel:V.length≤400:=hel
 dsimp only
 refine⟨fun hb=>absurd hb (by simp),fun _=>?_⟩
 refine Ad.mid (fun _=>True) ?_ fun _ _=>?_
 ·refine AJ.of (fun q=>(0≤q.2∧q.2≤L.length)) (fun q=>(L.length -q.2).toNat) ⟨Int.le_refl _,Int.natCast_nonneg _⟩ ?_
  rintro⟨b,i⟩ ⟨i0,i1⟩
  dsimp only at i0 i1⊢
  refine⟨fun hi=>?_,fun _=>trivial⟩
  have hi:=of_decide_eq_true hi
  have hi2:i.toNat<L.length:=by omega
  have hb:=hlk i.toNat hi2
  refine Ad.mid (fun _=>True) ?_ fun _ _=>by rw[w64 (by omega) (by omega)];exact⟨⟨by omega,by omega⟩,by omega⟩
  refine Ad.mid (fun q=>q=false) ⟨⟨i0,hi⟩,hi2,⟨i0,hi⟩,hi2,⟨hi2,hi2,(hD (L.getD i.toNat [],L.getD i.toNat []) (by dsimp only;omega)).to ?_⟩,trivial⟩ fun q hq=>⟨fun hb=>(by rw[hq]at hb;cases hb),fun _=>trivial⟩
  rintro(q:Bool) _ hq
  have hq:q=decide (L.getD i.toNat []=L.getD i.toNat []):=hq
  rw[hq]
  simp
 ·refine Ad.mid (fun q=>q=true) ⟨fun _=>(hS (V,V) (by dsimp only;omega) rfl).to fun(q:Bool) _ hq=>hq,fun hb=>absurd hb (by simp),trivial⟩ ?_
  rintro q rfl
  simp only[beq_self_eq_true,cond_true]
  refine Ad.mid (fun q=>q=true) ⟨fun _=>hAw.at rfl,fun hb=>absurd hb (by simp),trivial⟩ ?_
  rintro q rfl
  rfl
end Go.VS

/- The paths that differ from all parents, of graphs made of raw numbers. -/
set_option linter.unusedVariables false
set_option linter.unusedSimpArgs false
namespace Go.VS
variable{P:Pg}
theorem Abd{g:List Ak}{c:Int}(h0:DC g 0)(hs:Hv g)(hc:inR g c){L:List (List AD)}(hO:Ny g c L){k:Nat}(hk:k<L.length):G4 ((BH g c).getD k []) (Cm g c) (L.getD k []):=by
 obtain⟨e,he⟩:=hO.2 k hk
 have hl:=hO.1
 have hT:=EF h0 hs hc _ (A6 (d:=[]) (show k<(BH g c).length by omega))
 have hF:=D9 h0 hs hc
 have hb:GW ((BH g c).getD k []) (Cm g c)=0:=Qs hT.1 hF.1
 exact he.2.2 (he.1.trans hb)
end Go.VS
