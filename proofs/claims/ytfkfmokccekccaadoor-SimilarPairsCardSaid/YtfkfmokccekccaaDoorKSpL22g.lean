/- SimilarPairs. -/
import Derived.Test.YtfkfmokccekccaaDoorKSm1
set_option linter.unusedVariables false
set_option linter.unusedSimpArgs false
namespace Go.VS
variable{P:Pg}
def Adz(P:Pg):Prop:=∀x:List Aba×(Bs×Bs),x.1.length≤100000000→Fn P XP AbV x fun(d:Bool) _=>d=AbB x.1 (x.2.1,(x.2.2,0))
theorem Agr(h:Has P Ab8):Adz P:=by
 rintro⟨l,p,q⟩ hl
 dsimp only at hl
 refine AdU h ?_
 unfold Ac7
 dsimp only
 refine Av.mid (fun _=>AbB l (p,(q,0))=false) ?_ fun _ hn=>hn.symm
 refine DD.of (fun s=>(0≤s.2∧s.2≤l.length)∧AbB l (p,(q,0))=AbB (l.drop s.2.toNat) (p,(q,0))) (fun s=>(l.length -s.2).toNat) ⟨⟨Int.le_refl _,Int.natCast_nonneg _⟩,rfl⟩ ?_
 rintro⟨s,i⟩ ⟨⟨i0,i1⟩,hs⟩
 dsimp only at i0 i1 hs⊢
 refine⟨fun hi=>?_,fun hi=>?_⟩
 ·have hi:=of_decide_eq_true hi
  have hi2:i.toNat<l.length:=by omega
  rw[AfZ hi2]at hs
  dsimp only at hs
  refine Av.mid (fun _=>AbB l (p,(q,0))=AbB (l.drop (i.toNat+1)) (p,(q,0))) ⟨⟨i0,hi⟩,hi2,fun _=>⟨i0,hi⟩,fun _=>hi2,fun hb=>?_,fun hb=>?_⟩ fun s2 hs2=>by
   rw[w64 (by omega) (by omega)]
   exact⟨⟨⟨by omega,by omega⟩,by rw[show(i+1).toNat=i.toNat+1 by omega];exact hs2⟩,by omega⟩
  ·show true=_
   rw[hs]
   by_cases h1:(l.getD i.toNat zR).1=p
   ·rw[decide_eq_true h1];rfl
   ·have h2:((l.getD i.toNat AaK).1==p)=false:=beq_eq_false_iff_ne.2 h1
    rw[h2,cond_false]at hb
    rw[decide_eq_true (show(l.getD i.toNat zR).2.1=q from eq_of_beq hb)]
    simp
  ·have h1:((l.getD i.toNat AaK).1==p)=false:=by
    cases h1:((l.getD i.toNat AaK).1==p)with
    |false=>rfl
    |true=>rw[h1]at hb;cases hb
   rw[h1,cond_false]at hb
   rw[hs,decide_eq_false (show¬(l.getD i.toNat zR).1=p from beq_eq_false_iff_ne.1 h1),decide_eq_false (show¬(l.getD i.toNat zR).2.1=q from beq_eq_false_iff_ne.1 hb)]
   rfl
 ·have hi:=of_decide_eq_false hi
  rw[List.drop_eq_nil_of_le (by omega)]at hs
  exact hs
structure Ahj(a b:List Aa0)(least:Int)(l:List Aba):Prop where
 in_:∀r∈l,∃u v:Bs,findF a r.1=(u,true)∧findF b r.2.1=(v,true)∧findF b r.1=([],false)∧findF a r.2.1=([],false)∧(Abn u v).1=r.2.2∧least≤r.2.2∧u.length≤2000∧v.length≤2000
 to:l.Pairwise fun x y=>Op.bytesLess x.2.1 y.2.1=true
 from_:l.Pairwise fun x y=>x.1≠y.1
 all:∀f∈a,∀g∈b,least≤(Abn f.2 g.2).1→AbB l (f.1,(g.1,0))=true
theorem Agc{a b:List Aa0}{p:Bs}:Adq a b p=some 2↔(∃v,Aa9 a p=some v)∧Aa9 b p=none:=by
 unfold Adq
 cases Aa9 a p<;>cases Aa9 b p<;>simp
theorem Agb{a b:List Aa0}{p:Bs}:Adq a b p=some 1↔Aa9 a p=none∧∃v,Aa9 b p=some v:=by
 unfold Adq
 cases Aa9 a p<;>cases Aa9 b p<;>simp
theorem AcV{l:List Aa0}(h:Acn l){p v:Bs}(hv:Aa9 l p=some v):findF l p=(v,true):=by
 rw[AeC h,hv];rfl
theorem Aea{l:List Aa0}(h:Acn l){p:Bs}(hv:Aa9 l p=none):findF l p=([],false):=by
 rw[AeC h,hv];rfl
theorem Agk{a b:List Aa0}{least:Int}{d:List Aba×Int}(h:Afu a b least d)(hl:1≤least∧least≤100)(oa:Acn a)(ob:Acn b)(ba:∀f∈a,f.2.length≤2000)(bb:∀f∈b,f.2.length≤2000)(hab:∀f∈a,∀g∈b,f.1≠g.1):Ahj a b least d.1:=by
 obtain⟨_,D,S,hD,hp,hs,hr⟩:=h.2 hl
 have hsub:∀r∈d.1,r∈Ab0 a b least D D:=fun r hm=>by
  rcases Afy ((hr.2 r).1 hm)with k|k
  ·cases k
  ·exact hp.mem_iff.1 k
 have hap:Adc (Ab2 [] S):=Ade .nil
 refine⟨fun r hm=>?_,hr.1,?_,fun f hf g hg hn=>?_⟩
 ·obtain⟨x,hx,y,hy,x2,y1,hsc,rfl⟩:=Aew.1 (hsub r hm)
  obtain⟨⟨u,hu⟩,hbn⟩:=Agc.1 ((hD.2 x.1 2).1 (by rw[←x2];exact hx))
  obtain⟨han,v,hv⟩:=Agb.1 ((hD.2 y.1 1).1 (by rw[←y1];exact hy))
  dsimp only
  have e1:=AcV oa hu
  have e2:=AcV ob hv
  have e3:scR a b x y=(Abn u v).1:=by unfold scR;rw[e1,e2]
  refine⟨u,v,e1,e2,Aea ob hbn,Aea oa han,e3.symm,hsc,ba _ (AcL hu),bb _ (AcL hv)⟩
 ·have hn:d.1.Nodup:=AdQ hr.1
  rw[List.nodup_iff_pairwise_ne]at hn
  refine hn.imp_of_mem fun{x y} hx hy hxy=>?_
  have hx2:=(hr.2 x).1 hx
  have hy2:=(hr.2 y).1 hy
  obtain⟨i,hi,rfl⟩:=List.getElem_of_mem hx2
  obtain⟨j,hj,rfl⟩:=List.getElem_of_mem hy2
  have hij:i≠j:=fun e=>hxy (by subst e;rfl)
  have hpw:=List.pairwise_iff_getElem.1 hap
  by_cases k:i<j
  ·exact(hpw i j hi hj k).1
  ·exact fun e=>(hpw j i hj hi (by omega)).1 e.symm
 ·have hfb:Aa9 b f.1=none:=by
   cases k:Aa9 b f.1 with
   |none=>rfl
   |some v=>exact(hab f hf _ (AcL k) rfl).elim
  have hga:Aa9 a g.1=none:=by
   cases k:Aa9 a g.1 with
   |none=>rfl
   |some v=>exact(hab _ (AcL k) g hg rfl).elim
  have h1:=(hD.2 f.1 2).2 (Agc.2 ⟨⟨f.2,oa.blob hf⟩,hfb⟩)
  have h2:=(hD.2 g.1 1).2 (Agb.2 ⟨hga,g.2,ob.blob hg⟩)
  have e3:scR a b (f.1,2) (g.1,1)=(Abn f.2 g.2).1:=by
   unfold scR
   dsimp only
   rw[AcV oa (oa.blob hf),AcV ob (ob.blob hg)]
  have hm:(f.1,(g.1,(Abn f.2 g.2).1))∈Ab0 a b least D D:=Aew.2 ⟨_,h1,_,h2,rfl,rfl,by rw[e3];exact hn,by rw[e3]⟩
  have hu:=Afx (out:=[]) (hp.mem_iff.2 hm)
  rw[Aft (fun t=>(hr.2 t).symm)]at hu
  exact hu
theorem Ag9{l:List Aba}{i:Int}(h0:0≤i)(h:i<l.length):l.getD i.toNat AaK∈l:=Rk (by omega)
theorem Ag1{α:Type}{R:α→α→Prop}{l:List α}(h:l.Pairwise R){i j:Nat}(hij:i<j)(hj:j<l.length)(z:α):R (l.getD i z) (l.getD j z):=by
 rw[getD_eq hj,getD_eq (Nat.lt_trans hij hj)]
 exact List.pairwise_iff_getElem.1 h i j _ _ hij
theorem Adw(h:Has P Aby)(hT:Ac0 P)(hR:Ae2 P)(hM:Lb P)(hF:AcG P)(hS:Acd P)(hU:Adz P)(hAw:Ace P)(x:List Int×Int):
  Fn P YR Abj x fun(d:Bool) _=>d=true:=by
 obtain⟨raw,least⟩:=x
 refine AcF h ?_
 unfold Ab6
 dsimp only
 refine(hT raw).to ?_
 rintro(dd:List Aa0×List Aa0) _ hd
 have hd:T22 6 dd:=hd
 obtain⟨a,b⟩:=dd
 obtain⟨h1,h2,h3,h4,hab⟩:=hd
 obtain⟨ca,la,na⟩:=AfD (l:=a) h1 h3
 obtain⟨cb,lb,nb⟩:=AfD (l:=b) h2 h4
 have hz:=Ag7 ca cb
 have oa:=AcU ca
 have ob:=AcU cb
 clear h1 h2 ca cb
 dsimp only at h3 h4 hab
 have hM0:=Nv (a:=least) (n:=100) (by decide) (by decide)
 refine hM.at (by decide) (by decide) ?_
 dsimp only
 rw[w64 (by omega) (by omega)]
 generalize Qg least 100=m at hM0⊢
 refine(hR (a,(b,1+m)) la lb (by dsimp only;omega) (by dsimp only;omega) hz).to ?_
 rintro(r:List Aba×Int) _ hr
 have hr:Afu a b (1+m) r:=hr
 have hlen:=AfT hr na nb
 have he:=(hr.2 ⟨by omega,by omega⟩).1
 have hok:=Agk hr ⟨by omega,by omega⟩ oa ob h3 h4 hab
 obtain⟨l,e⟩:=r
 dsimp only at he hok hlen⊢
 subst he
 clear hr hz hR hT hab
 have hla:a.length≤1000000:=la.1
 have hlb:b.length≤1000000:=lb.1
 refine⟨(fun hc=>by cases hc),fun _=>?_⟩
 refine Av.mid (fun _=>True) ?_ fun s0 _=>?_
 ·refine DD.of (fun s=>0≤s.2∧s.2≤l.length) (fun s=>(l.length -s.2).toNat) ⟨Int.le_refl _,Int.natCast_nonneg _⟩ ?_
  rintro⟨s,i⟩ ⟨i0,i1⟩
  dsimp only at i0 i1⊢
  refine⟨fun hi=>?_,fun hi=>trivial⟩
  have hi:=of_decide_eq_true hi
  have hi2:i.toNat<l.length:=by omega
  have hgo:0≤IntKind.i64.wrap (i+1)∧IntKind.i64.wrap (i+1)≤(l.length:Int)∧((l.length:Int) -IntKind.i64.wrap (i+1)).toNat<((l.length:Int) -i).toNat:=by
   rw[w64 (by omega) (by omega)];omega
  refine Av.mid (fun _=>True) ?_ fun s2 _=>⟨⟨hgo.1,hgo.2.1⟩,hgo.2.2⟩
  obtain⟨u,v,e1,e2,e3,e4,hsc,hlo,hu,hv⟩:=hok.in_ _ (Ag9 i0 hi)
  have hprev:0<i→Op.bytesLess (l.getD (i -1).toNat AaK).2.1 (l.getD i.toNat AaK).2.1=true:=fun h0=>Ag1 hok.to (by omega) hi2 AaK
  have hfrom:∀k:Int,0≤k→k<i→(l.getD k.toNat AaK).1≠(l.getD i.toNat AaK).1:=fun k k0 k1=>Ag1 hok.from_ (by omega) hi2 AaK
  have hw:0<i→IntKind.i64.wrap (i -1)=i -1:=fun h0=>w64 (by omega) (by omega)
  generalize l.getD i.toNat AaK=y at*
  refine⟨⟨i0,hi⟩,hi2,hF.at hla ?_⟩
  rw[e1]
  refine⟨⟨i0,hi⟩,hi2,hF.at hlb ?_⟩
  rw[e2]
  refine⟨⟨i0,hi⟩,hi2,hF.at hlb ?_⟩
  rw[e3]
  refine⟨⟨i0,hi⟩,hi2,hF.at hla ?_⟩
  rw[e4]
  refine hS.at (Nat.le_trans hu (by decide)) (Nat.le_trans hv (by decide)) ?_
  have hq:=(Aef (a:=u) (b:=v) (by omega) (by omega)).1
  generalize Abn u v=q at hsc hq
  obtain⟨q1,q2⟩:=q
  dsimp only at hsc hq⊢
  subst hsc hq
  have hz:(cond (decide (i>0)) (Op.bytesLess y.2.1 (l.getD (IntKind.i64.wrap (i -1)).toNat AaK).2.1||(y.2.1==(l.getD (IntKind.i64.wrap (i -1)).toNat AaK).2.1)) false)=false:=by
   by_cases h0:0<i
   ·rw[hw h0]
    have hp:=hprev h0
    generalize(l.getD (i -1).toNat AaK).2.1=t at hp
    have h5:Op.bytesLess y.2.1 t=false:=by
     cases h5:Op.bytesLess y.2.1 t with
     |false=>rfl
     |true=>have h8:=AbN hp h5;rw[Abo]at h8;cases h8
    have h6:(y.2.1==t)=false:=beq_eq_false_iff_ne.2 fun e=>by
     rw[e,Abo]at hp
     cases hp
    rw[h5,h6]
    simp
   ·rw[decide_eq_false h0];rfl
  rw[hz]
  refine⟨fun _=>⟨i0,hi⟩,fun _=>hi2,fun _ _=>⟨i0,hi⟩,fun _ _=>hi2,fun h0 _=>?_,fun h0 _=>?_,fun hc=>?_,fun _=>?_⟩
  ·have h0:=of_decide_eq_true h0
   rw[hw h0];omega
  ·have h0:=of_decide_eq_true h0
   rw[hw h0];omega
  ·exfalso
   have h7:decide (y.2.2<1+m)=false:=decide_eq_false (by omega)
   rw[h7]at hc
   simp at hc
  ·refine Av.mid (fun _=>True) ?_ fun _ _=>trivial
   refine DD.of (fun s=>0≤s.2∧s.2≤i) (fun s=>(i -s.2).toNat) ⟨Int.le_refl _,i0⟩ ?_
   rintro⟨s,k⟩ ⟨k0,k1⟩
   dsimp only at k0 k1⊢
   refine⟨fun hk=>?_,fun hk=>trivial⟩
   have hk:=of_decide_eq_true hk
   refine Av.mid (fun _=>True) ⟨⟨k0,by omega⟩,by omega,⟨i0,hi⟩,hi2,fun hc=>?_,fun _=>trivial⟩ fun s2 _=>?_
   ·exact(hfrom k k0 hk (eq_of_beq hc)).elim
   ·rw[w64 (by omega) (by omega)]
    exact⟨⟨by omega,by omega⟩,by omega⟩
 ·refine Av.mid (fun _=>True) ?_ fun _ _=>hAw.at rfl
  refine DD.of (fun s=>0≤s.2∧s.2≤a.length) (fun s=>(a.length -s.2).toNat) ⟨Int.le_refl _,Int.natCast_nonneg _⟩ ?_
  rintro⟨s,i⟩ ⟨i0,i1⟩
  dsimp only at i0 i1⊢
  refine⟨fun hi=>?_,fun hi=>trivial⟩
  have hi:=of_decide_eq_true hi
  have hi2:i.toNat<a.length:=by omega
  refine Av.mid (fun _=>True) ?_ fun s2 _=>by
   rw[w64 (by omega) (by omega)]
   exact⟨⟨by omega,by omega⟩,by omega⟩
  refine Av.mid (fun _=>True) ?_ fun _ _=>trivial
  refine DD.of (fun s=>0≤s.2∧s.2≤b.length) (fun s=>(b.length -s.2).toNat) ⟨Int.le_refl _,Int.natCast_nonneg _⟩ ?_
  rintro⟨s2,j⟩ ⟨j0,j1⟩
  dsimp only at j0 j1⊢
  refine⟨fun hj=>?_,fun hj=>trivial⟩
  have hj:=of_decide_eq_true hj
  have hj2:j.toNat<b.length:=by omega
  refine Av.mid (fun _=>True) ?_ fun s2 _=>by
   rw[w64 (by omega) (by omega)]
   exact⟨⟨by omega,by omega⟩,by omega⟩
  have hmf:a.getD i.toNat (([],[]):Aa0)∈a:=Rk hi2
  have hmg:b.getD j.toNat (([],[]):Aa0)∈b:=Rk hj2
  have hf:=h3 _ hmf
  have hg:=h4 _ hmg
  have hall:=hok.all _ hmf _ hmg
  generalize a.getD i.toNat ([],[])=f at hf hall⊢
  generalize b.getD j.toNat ([],[])=g at hg hall⊢
  refine Av.mid (fun q=>q.2=0∧q.1=(Abn f.2 g.2).1) ⟨⟨i0,hi⟩,hi2,⟨j0,hj⟩,hj2,hS.at (Nat.le_trans hf (by decide)) (Nat.le_trans hg (by decide)) ?_,trivial⟩ ?_
  ·have hq:(Abn f.2 g.2).2=0∧(Abn f.2 g.2).1=(Abn f.2 g.2).1:=⟨(Aef (a:=f.2) (b:=g.2) (by omega) (by omega)).1,rfl⟩
   exact⟨⟨⟨⟨hq,trivial⟩,trivial⟩,⟨⟨hq,trivial⟩,trivial⟩,trivial⟩,⟨⟨⟨hq,trivial⟩,trivial⟩,trivial⟩,trivial⟩
  ·rintro⟨q1,q2⟩ ⟨hq2,hq1⟩
   dsimp only at hq1 hq2
   subst hq1 hq2
   refine Av.mid (fun c=>c=false) ⟨fun _ _=>⟨i0,hi⟩,fun _ _=>hi2,fun _ _=>⟨j0,hj⟩,fun _ _=>hj2,?_,trivial⟩ ?_
   ·refine Av.mid (fun c=>(1+m≤(Abn f.2 g.2).1→c=true)) ⟨fun hc _=>?_,fun hc=>?_,(fun hc=>by cases hc),trivial⟩ fun c hc=>?_
    ·refine(hU (l,(f.1,g.1)) (Nat.le_trans hlen (by decide))).to ?_
     rintro(c:Bool) _ hc2
     have hc2:c=AbB l (f.1,(g.1,0)):=hc2
     intro hn
     rw[hc2,hall hn]
    ·have hc:=of_decide_eq_false hc
     intro hn
     exact absurd hn (by omega)
    ·dsimp only
     by_cases hn:1+m≤(Abn f.2 g.2).1
     ·rw[hc hn];simp
     ·rw[decide_eq_false (by omega)];rfl
   ·rintro c rfl
    exact⟨(fun hc=>by cases hc),fun _=>trivial⟩
end Go.VS
