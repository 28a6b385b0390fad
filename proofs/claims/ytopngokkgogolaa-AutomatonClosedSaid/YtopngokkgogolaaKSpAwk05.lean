/- The pattern "a"; awake of layer 5. -/
import Derived.Test.YtopngokkgogolaaKSpBuild
import Derived.Test.YtopngokkgogolaaKSpLaw06
import Derived.Test.YtopngokkgogolaaKSpRd
set_option linter.unusedVariables false
set_option linter.unusedSimpArgs false
namespace Go.VS
variable{P:Pg}
abbrev Pn:Node:=((1:Int),(S97,((0:Int),((0:Int),[]))))
abbrev N6:Ae:=(([97]:List UInt8),((0:Int),((0:Int),([],(0:Int)))))
abbrev JC:Ae:=(([97]:List UInt8),((1:Int),((0:Int),([Pn],(0:Int)))))
def Na(P:Pg):Prop:=Fn P Vg BQ N6 fun(d:Int) (e:Ae)=>d=0∧e=JC
theorem WG(h:Has P CP)(hP:JK P)(hN:Kr P):Na P:=by
 refine Ip h ?_
 unfold FG
 dsimp only
 refine Ak.mid (fun d=>d=97) ⟨⟨by decide,by decide⟩,rfl,trivial⟩ ?_
 rintro c rfl
 refine Ak.mid (fun d=>d.2=((97:Int),(([97]:List UInt8),((1:Int),((0:Int),([],(0:Int))))))) ?_ ?_
 ·refine⟨fun hc=>absurd hc (by decide),fun _=>⟨fun hc=>absurd hc (by decide),fun _=>⟨fun hc=>absurd hc (by decide),fun _=>⟨fun hc=>absurd hc (by decide),fun _=>⟨fun hc=>absurd hc (by decide),fun _=>?_⟩⟩⟩⟩⟩
  refine Ak.mid (fun d=>d=false) ?_ ?_
  ·refine⟨fun hc=>absurd hc (by decide),fun _=>Ak.of ⟨fun hc=>absurd hc (by decide),fun _=>Ak.of ⟨fun hc=>absurd hc (by decide),fun _=>Ak.of ⟨fun hc=>absurd hc (by decide),fun _=>Ak.of ⟨fun hc=>absurd hc (by decide),fun _=>by decide⟩⟩⟩⟩⟩
  ·rintro b rfl
   refine⟨fun hc=>absurd hc (by decide),fun _=>Ak.of ⟨fun hc=>absurd hc (by decide),fun _=>?_⟩⟩
   dsimp only
   rw[w64 (by decide) (by decide)]
   rfl
 ·rintro⟨u,d⟩ hd
  dsimp only at hd
  subst hd
  dsimp only
  refine hP.at (by decide) (by decide) fun d hd=>?_
  have hd:d=S97:=hd
  subst hd
  refine(hN (_,_) (by decide)).to ?_
  rintro(k:Int) (e:Ae) ⟨rfl,rfl⟩
  exact⟨rfl,rfl⟩
def LN(P:Pg):Prop:=Fn P WN B8 N6 fun(d:Int) (e:Ae)=>d=0∧e=JC
theorem U6(h:Has P CB)(hI:OV P)(hA:Na P):LN P:=by
 refine Ia h ?_
 unfold Fq
 dsimp only
 refine(hI (N6,94) (by decide)).to ?_
 rintro(b:Bool) (e:Ae) ⟨rfl,hb⟩
 refine⟨fun hc=>?_,fun _=>?_⟩
 ·exact absurd (hb.1 hc).2 (by decide)
 refine(hI (N6,36) (by decide)).to ?_
 rintro(b2:Bool) (e:Ae) ⟨rfl,hb2⟩
 refine Fn.to hA ?_
 rintro(d:Int) (e:Ae) ⟨rfl,rfl⟩
 exact⟨fun _=>⟨rfl,rfl⟩,fun hc=>absurd hc (by decide)⟩
def PQ(P:Pg):Prop:=Fn P Sd AS N6 fun(d:Int) (e:Ae)=>d=0∧e=JC
theorem XR(h:Has P BM)(hA:LN P):PQ P:=by
 refine FQ h ?_
 unfold DG
 dsimp only
 refine Ak.mid (fun d=>d=(([0]:List Int),JC)) ?_ ?_
 ·refine Bf.of (fun d=>d=(([]:List Int),N6)∨d=(([0]:List Int),JC)) (fun d=>1 -d.1.length) (.inl rfl) ?_
  rintro d (rfl|rfl)
  ·refine⟨fun _=>⟨by decide,by decide⟩,fun _=>⟨by decide,by decide⟩,fun _=>Ak.of ?_,fun hc=>absurd hc (by decide)⟩
   refine Fn.to hA ?_
   rintro(d:Int) (e:Ae) ⟨rfl,rfl⟩
   exact⟨by decide,.inr rfl,by decide⟩
  ·exact⟨fun hc=>absurd hc (by decide),fun hc=>absurd hc (by decide),fun hc=>absurd hc (by decide),fun _=>rfl⟩
 ·rintro d rfl
  exact Ak.of ⟨fun hc=>absurd hc (by decide),fun _=>⟨fun hc=>absurd hc (by decide),fun _=>⟨fun _=>⟨⟨by decide,by decide⟩,by decide,rfl,rfl⟩,fun hc=>absurd hc (by decide)⟩⟩⟩
def PS(P:Pg):Prop:=Fn P Tv Be N6 fun(d:Int) (e:Ae)=>d=0∧e=JC
theorem XU(h:Has P Cj)(hA:PQ P)(hI:OV P):PS P:=by
 refine Hn h ?_
 unfold Ez
 dsimp only
 refine Fn.to hA ?_
 rintro(d:Int) (e:Ae) ⟨rfl,rfl⟩
 refine Ak.mid (fun d=>d=(([0]:List Int),JC)) ?_ ?_
 ·refine Bf.of (fun d=>d=(([0]:List Int),JC)) (fun d=>0) rfl ?_
  rintro d rfl
  refine⟨fun _=>?_,fun hc=>absurd hc (by decide)⟩
  refine(hI (JC,124) (by decide)).to ?_
  rintro(b:Bool) (e:Ae) ⟨rfl,hb⟩
  refine⟨fun hc=>?_,fun _=>rfl⟩
  have hb2:b=true:=hc
  exact absurd (hb.1 hb2).1 (by decide)
 ·rintro d rfl
  exact⟨fun _=>⟨⟨by decide,by decide⟩,by decide,rfl,rfl⟩,fun hc=>absurd hc (by decide)⟩
def LJ(P:Pg):Prop:=Fn P WO D6 ([97]:List UInt8) fun(d:List Node×Int) _=>d=([Pn],0)
theorem U3(h:Has P Fb)(hA:PS P):LJ P:=by
 refine Nu h ?_
 unfold Ju
 dsimp only
 refine⟨fun hc=>absurd hc (by decide),fun _=>?_⟩
 refine Fn.to hA ?_
 rintro(d:Int) (e:Ae) ⟨rfl,rfl⟩
 refine Ak.mid (fun d=>d=JC) ⟨fun hc=>absurd hc (by decide),fun _=>rfl⟩ ?_
 rintro d rfl
 exact⟨fun hc=>absurd hc (by decide),fun _=>rfl⟩
theorem Rr:Cq [Pn]:=by
 refine⟨by decide,by decide,fun i hi=>?_⟩
 have:i=0:=by simp at hi;omega
 subst this
 refine⟨fun k hk=>by simp at hk,by decide,by decide,fun _=>rfl,fun h=>?_,fun h=>?_⟩
 ·rcases h with h|h<;>cases h
 ·cases h
theorem Y6{l:List Node}(h:∀n∈l,n.2.2.2.2.length≤140737488351232):KB l:=by
 intro i
 rcases Nat.lt_or_ge i l.length with hi|hi
 ·exact h _ (Hp hi)
 ·rw[List.getD_eq_getElem?_getD,List.getElem?_eq_none hi];decide
def JL(P:Pg):Prop:=Fn P YS Fg () fun(d:Bool) _=>d=true
theorem Tg(h:Has P Fa)(hA:LJ P)(hB:M6 P)(hR:LK P)(hE:PN P)(hC:I2 P):JL P:=by
 refine Nt h ?_
 unfold Jt
 refine Fn.to hA ?_
 rintro(d:List Node×Int) _ rfl
 refine(hB [Pn] (Y6 (by decide)) (by decide)).to ?_
 rintro(d3:Auto×Int) _ ⟨_,hd⟩
 obtain⟨_,hd⟩:=hd Rr
 have hw:(wts [Pn]).getD ([Pn].length -1) 0=1:=by rfl
 obtain⟨h0,hb⟩:=hd (by rw[hw];omega)
 have hlang:∀s i j,acc d3.1 s i j↔YH S97 s i j:=fun s i j=>(hb.lang s i j).trans Iff.rfl
 rw[h0]
 refine Ak.mid (fun d=>d=0) ⟨fun _=>?_,fun hc=>absurd hc (by decide),trivial⟩ ?_
 ·refine(hR d3.1).to ?_
  rintro(d:Int) _ hd
  exact hd.1 hb.valid
 rintro d rfl
 refine⟨fun hc=>absurd hc (by decide),fun _=>?_⟩
 refine(hE (d3.1,(([97]:List UInt8),0)) hb.valid (by simp) (by simp) (by simp)).to ?_
 rintro(x:List Bool) _ ⟨hxl,hx⟩
 dsimp only at hxl hx⊢
 have x1:x.getD 1 false=true:=by
  rw[hx,hlang]
  exact⟨by decide,by decide+kernel,rfl⟩
 have x0:x.getD 0 false=false:=by
  cases hy:x.getD 0 false
  ·rfl
  ·have:=(hlang _ _ _).1 ((hx 0).1 hy)
   exact absurd this.2.2 (by decide)
 have hlen:x.length=2:=hxl
 have e1:x.getD (Int.toNat 1) false=true:=x1
 have e0:x.getD (Int.toNat 0) false=false:=x0
 rw[hlen]
 rw[e1,e0]
 refine⟨⟨by decide,by decide⟩,by decide,fun _=>⟨by decide,by decide⟩,fun _=>by decide,?_⟩
 refine Ak.mid (fun d=>d=0) ⟨fun _=>?_,fun hc=>absurd hc (by decide),trivial⟩ ?_
 ·refine(hC d3.1).to ?_
  rintro(d:Int) _ hd
  exact hd.1 hb.valid
 rintro d rfl
 refine Ak.mid (fun d=>d=2) ⟨fun _=>?_,fun hc=>absurd hc (by decide),trivial⟩ ?_
 ·refine(hC (([]:List State),(0:Int))).to ?_
  rintro(d:Int) _ hd
  exact hd.2 fun v=>absurd v.lo (by decide)
 rintro d rfl
 rfl
end Go.VS
