import Derived.Test.YtfkfmokccekccaaGreatDoorKSm1
import Derived.Test.YtfkfmokccekccaaGreatDoorKSm0
/- Graphs: children before their parents. -/
set_option linter.unusedVariables false
set_option linter.unusedSimpArgs false
namespace Go.VS
variable{P:Pg}
def rng(n:Nat):List Int:=(List.range n).map fun(i:Nat)=>(i:Int)
theorem Fu{n:Nat}{x:Int}:x∈rng n↔0≤x∧x<n:=by
 unfold rng
 rw[List.mem_map]
 constructor
 ·rintro⟨i,hi,rfl⟩
  have:=List.mem_range.1 hi
  omega
 ·intro h
  exact⟨x.toNat,List.mem_range.2 (by omega),by omega⟩
theorem Uj(n:Nat):(rng n).Nodup:=by
 unfold rng
 rw[List.nodup_iff_pairwise_ne,List.pairwise_map]
 exact(List.nodup_iff_pairwise_ne.1 List.nodup_range).imp fun h e=>h (by omega)
theorem Kg(n:Nat):(rng n).length=n:=by simp[rng]
theorem Adf(n:Nat):rng (n+1)=rng n++[(n:Int)]:=by
 unfold rng
 rw[List.range_succ,List.map_append]
 rfl
def DX(g:List Ak)(L:List Int)(p:Int):Nat:=(L.map fun c=>(Bq g c).count p).sum
def ndG(g:List Ak):Prop:=∀c,inR g c→(Bq g c).Nodup
theorem Acs(g:List Ak)(L M:List Int)(p:Int):DX g (L++M) p=DX g L p+DX g M p:=by
 unfold DX
 rw[List.map_append,List.sum_append]
theorem ZT{g:List Ak}{p:Int}:∀{L:List Int},(∀c∈L,(Bq g c).count p≤1)→DX g L p≤L.length
 |[],_=>Nat.le_refl _
 |c::L,h=>by
  have h1:=h c (List.mem_cons_self ..)
  have h2:=ZT (g:=g) (p:=p) (L:=L) fun x hx=>h x (List.mem_cons_of_mem _ hx)
  unfold DX at h2⊢
  rw[List.map_cons,List.sum_cons,List.length_cons]
  omega
theorem L0{g:List Ak}{p:Int}:∀{L:List Int},DX g L p=0↔∀c∈L,p∉Bq g c
 |[]=>by simp[DX]
 |c::L=>by
  have ih:=L0 (g:=g) (p:=p) (L:=L)
  have hs:DX g (c::L) p=(Bq g c).count p+DX g L p:=by unfold DX;rw[List.map_cons,List.sum_cons]
  rw[hs]
  constructor
  ·intro h x hx
   rcases List.mem_cons.1 hx with rfl|hx
   ·intro hm
    have:=List.count_pos_iff.2 hm
    omega
   ·exact ih.1 (by omega) x hx
  ·intro h
   have h1:(Bq g c).count p=0:=List.count_eq_zero.2 (h c (List.mem_cons_self ..))
   have h2:=ih.2 fun x hx=>h x (List.mem_cons_of_mem _ hx)
   omega
def H8(g:List Ak)(Q:List Int):List Int:=(rng g.length).filter fun c=>!decide (c∈Q)
theorem Qy{g:List Ak}{Q:List Int}{c:Int}:c∈H8 g Q↔inR g c∧c∉Q:=by
 unfold H8
 rw[List.mem_filter,Fu]
 simp[inR]
theorem Re(g:List Ak)(Q:List Int)(c p:Int)(hq:c∉Q):∀{R:List Int},R.Nodup→c∈R→DX g (R.filter fun x=>!decide (x∈Q)) p=DX g (R.filter fun x=>!decide (x∈Q++[c])) p+(Bq g c).count p
 |[],_,h=>nomatch h
 |a::R,hn,h=>by
  have hn2:=List.nodup_cons.1 hn
  by_cases e:a=c
  ·subst e
   have hsame:(R.filter fun x=>!decide (x∈Q++[a]))=R.filter fun x=>!decide (x∈Q):=by
    refine List.filter_congr fun x hx=>?_
    have hxa:x≠a:=fun e=>hn2.1 (by rw[←e];exact hx)
    simp[hxa]
   rw[List.filter_cons_of_pos (by simpa using hq),List.filter_cons_of_neg (by simp),hsame]
   unfold DX
   rw[List.map_cons,List.sum_cons]
   omega
  ·have hc:c∈R:=(List.mem_cons.1 h).resolve_left fun h=>e h.symm
   have ih:=Re g Q c p hq hn2.2 hc
   by_cases ha:a∈Q
   ·rw[List.filter_cons_of_neg (by simpa using ha),List.filter_cons_of_neg (by simp[ha])]
    exact ih
   ·rw[List.filter_cons_of_pos (by simpa using ha),List.filter_cons_of_pos (by simp[ha,e])]
    unfold DX at ih⊢
    rw[List.map_cons,List.sum_cons,List.map_cons,List.sum_cons]
    omega
theorem AaK{g:List Ak}{Q:List Int}{c:Int}(p:Int)(hq:c∉Q)(hc:inR g c):DX g (H8 g Q) p=DX g (H8 g (Q++[c])) p+(Bq g c).count p:=
 Re g Q c p hq (Uj _) (Fu.2 hc)
theorem Ae2(g:List Ak):H8 g []=rng g.length:=by
 unfold H8
 rw[List.filter_eq_self]
 intro a _
 simp
structure UpG(g:List Ak)(d:List Int):Prop where
 nd:d.Nodup
 rn:∀p∈d,inR g p
 ord:∀i,i<d.length→∀c,inR g c→d.getD i 0∈Bq g c→c∈d.take i
 rem:∀p,inR g p→p∉d→∃c,inR g c∧c∉d∧p∈Bq g c
def Ml(g:List Ak):Prop:=∃c,inR g c∧∃p∈Bq g c,Rch g p c
theorem UpG.len{g:List Ak}{d:List Int}(h:UpG g d):d.length≤g.length:=by
 have:=Gp h.nd (m:=rng g.length) fun x hx=>Fu.2 (h.rn x hx)
 rwa [Kg]at this
theorem UpG.all{g:List Ak}{d:List Int}(h:UpG g d)(hl:g.length≤d.length){p:Int}(hp:inR g p):p∈d:=by
 by_cases e:p∈d
 ·exact e
 ·have:=Gp h.nd (m:=(rng g.length).erase p) fun x hx=>(List.mem_erase_of_ne (show x≠p from fun e2=>e (by rw[←e2];exact hx))).2 (Fu.2 (h.rn x hx))
  have hm:=Fu.2 hp
  rw[List.length_erase_of_mem hm,Kg]at this
  have:=hp.1
  have:=hp.2
  omega
theorem Wv{g:List Ak}{d:List Int}(h:UpG g d):∀(m:Nat) (x:Int) (L:List Int),g.length -(x::L).length<m→(x::L).Nodup→(∀y∈x::L,inR g y∧Rch g x y)→x∉d→Ml g
 |0,_,_,h0,_,_,_=>absurd h0 (Nat.not_lt_zero _)
 |m+1,x,L,hm,hn,hr,hx=>by
  obtain⟨c,hc,hcd,hp⟩:=h.rem x (hr x (List.mem_cons_self ..)).1 hx
  by_cases e:c∈x::L
  ·exact⟨c,hc,x,hp,(hr c e).2⟩
  ·have hl:=Gp (List.nodup_cons.2 ⟨e,hn⟩) (m:=rng g.length) fun y hy=>by
    rcases List.mem_cons.1 hy with rfl|hy
    ·exact Fu.2 hc
    ·exact Fu.2 (hr y hy).1
   rw[Kg]at hl
   simp only[List.length_cons]at hl hm
   refine Wv h m c (x::L) (by simp only[List.length_cons];omega) (List.nodup_cons.2 ⟨e,hn⟩) (fun y hy=>?_) hcd
   rcases List.mem_cons.1 hy with rfl|hy
   ·exact⟨hc,.refl _⟩
   ·exact⟨(hr y hy).1,.step hp (hr y hy).2⟩
theorem AgA{g:List Ak}{d:List Int}(hv:SO g)(h:UpG g d):d.length<g.length↔Ml g:=by
 constructor
 ·intro hl
  have:∃p,inR g p∧p∉d:=by
   by_cases e:∃p,inR g p∧p∉d
   ·exact e
   ·have:=Gp (Uj g.length) (m:=d) fun x hx=>by
     by_cases e2:x∈d
     ·exact e2
     ·exact absurd ⟨x,Fu.1 hx,e2⟩ e
    rw[Kg]at this
    omega
  obtain⟨p,hp,hpd⟩:=this
  refine Wv h (g.length+1) p [] (by simp only[List.length_cons,List.length_nil];omega) (by simp) (fun y hy=>?_) hpd
  rw[List.mem_singleton.1 hy]
  exact⟨hp,.refl _⟩
 ·rintro⟨c,hc,p,hp,hr⟩
  by_cases hl:d.length<g.length
  ·exact hl
  exfalso
  have hall:=fun{x:Int} (hx:inR g x)=>h.all (by omega) hx
  have hidx:∀{x:Int},inR g x→∃i,∃hi:i<d.length,d[i]=x:=fun hx=>List.getElem_of_mem (hall hx)
  have hinj:∀{i j:Nat} (hi:i<d.length) (hj:j<d.length),d[i]=d[j]→i=j:=fun{i j} hi hj e=>by
   have hpw:=List.pairwise_iff_getElem.1 (List.nodup_iff_pairwise_ne.1 h.nd)
   rcases Nat.lt_trichotomy i j with h1|h1|h1
   ·exact absurd e (hpw i j hi hj h1)
   ·exact h1
   ·exact absurd e.symm (hpw j i hj hi h1)
  have hstep:∀{a b:Int} {i j:Nat} (hi:i<d.length) (hj:j<d.length),inR g a→d[i]=a→d[j]=b→b∈Bq g a→i<j:=fun{a b i j} hi hj ha e1 e2 hb=>by
   have h1:=h.ord j hj a ha (by rw[getD_eq hj,e2];exact hb)
   obtain⟨k,hk,hke⟩:=List.getElem_of_mem h1
   rw[List.getElem_take]at hke
   have hk2:k<j∧k<d.length:=by rw[List.length_take]at hk;omega
   have:=hinj hk2.2 hi (by rw[hke,e1])
   omega
  have hmono:∀{a b:Int},Rch g a b→inR g a→∀{i j:Nat} (hi:i<d.length) (hj:j<d.length),d[i]=a→d[j]=b→i≤j:=by
   intro a b hab
   induction hab with
   |refl c=>intro _ i j hi hj e1 e2;exact Nat.le_of_eq (hinj hi hj (by rw[e1,e2]))
   |step hq _ ih=>
    intro ha i j hi hj e1 e2
    have hqr:=hv _ ha _ hq
    obtain⟨k,hk,hke⟩:=hidx hqr
    have h1:=hstep hi hk ha e1 hke hq
    have h2:=ih hqr hk hj hke e2
    omega
  have hpr:=hv c hc p hp
  obtain⟨i,hi,hie⟩:=hidx hc
  obtain⟨j,hj,hje⟩:=hidx hpr
  have h1:=hstep hi hj hc hie hje hp
  have h2:=hmono hr hpr hj hi hje hie
  omega
structure Up3(g:List Ak)(ch out:List Int)(k:Nat):Prop where
 len:ch.length=g.length
 cnt:∀p,inR g p→ch.getD p.toNat 0=((DX g (H8 g (out.take k)) p:Nat):Int)
 mem:∀p,inR g p→(p∈out↔ch.getD p.toNat 0=0)
 rn:∀p∈out,inR g p
 nd:out.Nodup
 ord:∀i,i<out.length→∀c,inR g c→out.getD i 0∈Bq g c→c∈out.take i
 kl:k≤out.length
structure Up4(g:List Ak)(c:Int)(Q ch out:List Int)(k j:Nat):Prop where
 len:ch.length=g.length
 cnt:∀p,inR g p→ch.getD p.toNat 0=((DX g (H8 g Q) p+((Bq g c).drop j).count p:Nat):Int)
 mem:∀p,inR g p→(p∈out↔ch.getD p.toNat 0=0)
 rn:∀p∈out,inR g p
 nd:out.Nodup
 ord:∀i,i<out.length→∀c,inR g c→out.getD i 0∈Bq g c→c∈out.take i
 pre:out.take (k+1)=Q
 kl:k<out.length
theorem Vw{g:List Ak}{out:List Int}(nd:out.Nodup)(rn:∀p∈out,inR g p):out.length≤g.length:=by
 have:=Gp nd (m:=rng g.length) fun x hx=>Fu.2 (rn x hx)
 rwa [Kg]at this
theorem Aem{l:List Int}(hn:l.Nodup){j:Nat}(hj:j<l.length):l.drop j=l.getD j 0::l.drop (j+1)∧(l.drop (j+1)).count (l.getD j 0)=0:=by
 have h1:l.drop j=l.getD j 0::l.drop (j+1):=by rw[List.drop_eq_getElem_cons hj,getD_eq hj]
 refine⟨h1,List.count_eq_zero.2 ?_⟩
 have h2:(l.drop j).Nodup:=List.Nodup.sublist (List.drop_sublist j l) hn
 rw[h1]at h2
 exact(List.nodup_cons.1 h2).1
def OX(P:Pg):Prop:=∀g:List Ak,g.length≤1000000→SO g→ndG g→(∀c,inR g c→(Bq g c).length≤1000000)→Fn P AdK DQ g fun(d:List Int) _=>UpG g d
theorem AbH(h:Has P He):OX P:=by
 intro g hn hv hnd hpl
 refine SU h ?_
 unfold NC
 dsimp only
 refine⟨⟨Int.natCast_nonneg _,Int.le_refl _,by omega⟩,?_⟩
 have hc1:∀(L:List Int) (p:Int),(∀c∈L,inR g c)→DX g L p≤L.length:=fun L p hL=>ZT fun c hc=>List.nodup_iff_count.1 (hnd c (hL c hc)) p
 have hrl:∀(i:Nat) (p:Int),i≤g.length→DX g (rng i) p≤i:=fun i p hi=>by
  have:=hc1 (rng i) p fun c hc=>⟨(Fu.1 hc).1,by have:=(Fu.1 hc).2;omega⟩
  rwa [Kg]at this
 refine Ad.mid (fun ch=>ch.length=g.length∧∀p,inR g p→ch.getD p.toNat 0=((DX g (rng g.length) p:Nat):Int)) ?_ ?_
 ·refine AJ.of (fun q=>(0≤q.2∧q.2≤g.length)∧q.1.length=g.length∧∀p,inR g p→q.1.getD p.toNat 0=((DX g (rng q.2.toNat) p:Nat):Int)) (fun q=>(g.length -q.2).toNat) ⟨⟨Int.le_refl _,Int.natCast_nonneg _⟩,by simp,fun p hp=>by
   rw[Lk (by have:=hp.1;have:=hp.2;omega)];rfl⟩ ?_
  rintro⟨ch,i⟩ ⟨⟨i0,i1⟩,hl,hcn⟩
  dsimp only at i0 i1 hl hcn⊢
  refine⟨fun hi=>?_,fun hi=>?_⟩
  ·have hi:=of_decide_eq_true hi
   have hi2:i.toNat<g.length:=by omega
   have hir:inR g i:=⟨i0,hi⟩
   have hpc:=hpl i hir
   have hit:((i.toNat:Nat):Int)=i:=by omega
   refine Ad.mid (fun ch=>ch.length=g.length∧∀p,inR g p→ch.getD p.toNat 0=((DX g (rng (i.toNat+1)) p:Nat):Int)) ⟨⟨i0,hi⟩,hi2,?_⟩ ?_
   ·refine Ad.mid (fun ch=>ch.length=g.length∧∀p,inR g p→ch.getD p.toNat 0=((DX g (rng (i.toNat+1)) p:Nat):Int)) ?_ fun _ h=>h
    have hnx:∀p,DX g (rng (i.toNat+1)) p=DX g (rng i.toNat) p+(Bq g i).count p:=fun p=>by
     rw[Adf,Acs,hit]
     unfold DX
     simp
    show AJ _ _
    refine AJ.of (fun q=>(0≤q.2∧q.2≤(Bq g i).length)∧q.1.length=g.length∧∀p,inR g p→q.1.getD p.toNat 0=((DX g (rng i.toNat) p+((Bq g i).take q.2.toNat).count p:Nat):Int)) (fun q=>((Bq g i).length -q.2).toNat) ⟨⟨Int.le_refl _,Int.natCast_nonneg _⟩,hl,fun p hp=>by
     rw[hcn p hp];rfl⟩ ?_
    rintro⟨ch,j⟩ ⟨⟨j0,j1⟩,hl,hcn⟩
    dsimp only at j0 j1 hl hcn⊢
    refine⟨fun hj=>?_,fun hj=>?_⟩
    ·have hj:j<(Bq g i).length:=of_decide_eq_true hj
     have hj2:j.toNat<(Bq g i).length:=by omega
     have hqm:(Bq g i).getD j.toNat 0∈Bq g i:=A6 hj2
     have htk:(Bq g i).take (j.toNat+1)=(Bq g i).take j.toNat++[(Bq g i).getD j.toNat 0]:=by
      rw[List.take_succ_eq_append_getElem hj2,getD_eq hj2]
     have hqr:=hv i hir _ hqm
     have hcq:=hcn _ hqr
     have hd1:=hrl i.toNat ((Bq g i).getD j.toNat 0) (by omega)
     have hd2:((Bq g i).take j.toNat).count ((Bq g i).getD j.toNat 0)≤1000000:=Nat.le_trans List.count_le_length (by rw[List.length_take];omega)
     show Ad _ _
     have hqe:(g.getD i.toNat Ah).1.getD j.toNat 0=(Bq g i).getD j.toNat 0:=rfl
     rw[hqe]
     generalize(Bq g i).getD j.toNat 0=q at hqm htk hqr hcq hd1 hd2⊢
     have hql:q.toNat<ch.length:=by have:=hqr.1;have:=hqr.2;omega
     have hqlt:q<((ch.length:Nat):Int):=by have:=hqr.2;omega
     refine Ad.mid (fun t=>t=ch.set q.toNat (ch.getD q.toNat 0+1)) ⟨⟨j0,hj⟩,hj2,⟨hqr.1,hqlt⟩,hql,⟨hqr.1,hqlt⟩,hql,by rw[w64 (by omega) (by omega)]⟩ ?_
     rintro t rfl
     rw[w64 (by omega) (by omega)]
     refine⟨⟨⟨by omega,by omega⟩,by rw[List.length_set];exact hl,fun p hp=>?_⟩,by omega⟩
     rw[HV hql,show(j+1).toNat=j.toNat+1 by omega,htk,List.count_append,List.count_singleton]
     have hp0:=hp.1
     have hq0:=hqr.1
     by_cases e:p=q
     ·subst e
      rw[if_pos rfl,hcq]
      simp
      omega
     ·rw[if_neg (by omega),hcn p hp]
      have:(q==p)=false:=beq_eq_false_iff_ne.2 fun h=>e h.symm
      rw[this]
      simp
    ·have hj:¬j<(Bq g i).length:=of_decide_eq_false hj
     refine⟨hl,fun p hp=>?_⟩
     rw[hcn p hp,List.take_of_length_le (by omega),hnx]
   ·rintro t ⟨ht,htc⟩
    rw[w64 (by omega) (by omega)]
    exact⟨⟨⟨by omega,by omega⟩,ht,by rw[show(i+1).toNat=i.toNat+1 by omega];exact htc⟩,by omega⟩
  ·have hi:=of_decide_eq_false hi
   rw[show i.toNat=g.length by omega]at hcn
   exact⟨hl,hcn⟩
 rintro ch ⟨hl,hcn⟩
 refine Ad.mid (fun out=>Up3 g ch out 0) ?_ ?_
 ·refine AJ.of (fun q=>(0≤q.2∧q.2≤g.length)∧q.1.Nodup∧∀x,x∈q.1↔(0≤x∧x<q.2)∧ch.getD x.toNat 0=0) (fun q=>(g.length -q.2).toNat) ⟨⟨Int.le_refl _,Int.natCast_nonneg _⟩,List.nodup_nil,fun x=>⟨fun h=>(nomatch h),fun h=>by have:=h.1.1;have:=h.1.2;omega⟩⟩ ?_
  rintro⟨out,i⟩ ⟨⟨i0,i1⟩,hnd2,hm⟩
  dsimp only at i0 i1 hnd2 hm⊢
  have hol:out.length≤g.length:=Vw hnd2 fun p hp=>⟨((hm p).1 hp).1.1,by have:=((hm p).1 hp).1.2;omega⟩
  refine⟨fun hi=>?_,fun hi=>?_⟩
  ·have hi:=of_decide_eq_true hi
   have hi2:i.toNat<ch.length:=by omega
   refine Ad.mid (fun t=>t.Nodup∧∀x,x∈t↔(0≤x∧x<i+1)∧ch.getD x.toNat 0=0) ⟨⟨i0,hi⟩,hi2,?_⟩ fun t ht=>?_
   ·refine Ad.mid (fun t=>t.Nodup∧∀x,x∈t↔(0≤x∧x<i+1)∧ch.getD x.toNat 0=0) ⟨fun hz=>⟨by simp only[List.length_cons,List.length_nil];omega,?_,fun x=>?_⟩,fun hz=>⟨hnd2,fun x=>?_⟩⟩ fun _ h=>h
    ·rw[List.nodup_append]
     refine⟨hnd2,by simp,fun a ha b hb e=>?_⟩
     rw[List.mem_singleton]at hb
     have:=((hm a).1 ha).1.2
     omega
    ·have hz:ch.getD i.toNat 0=0:=by simpa using hz
     rw[List.mem_append,List.mem_singleton,hm x]
     constructor
     ·rintro(⟨h1,h2⟩|rfl)
      ·exact⟨⟨h1.1,by omega⟩,h2⟩
      ·exact⟨⟨i0,by omega⟩,hz⟩
     ·rintro⟨h1,h2⟩
      by_cases e:x=i
      ·exact .inr e
      ·exact .inl ⟨⟨h1.1,by omega⟩,h2⟩
    ·have hz:ch.getD i.toNat 0≠0:=by simpa using hz
     rw[hm x]
     constructor
     ·rintro⟨h1,h2⟩
      exact⟨⟨h1.1,by omega⟩,h2⟩
     ·rintro⟨h1,h2⟩
      by_cases e:x=i
      ·exact absurd (by rw[←e];exact h2) hz
      ·exact⟨⟨h1.1,by omega⟩,h2⟩
   ·rw[w64 (by omega) (by omega)]
    exact⟨⟨⟨by omega,by omega⟩,ht⟩,by omega⟩
  ·have hi:=of_decide_eq_false hi
   refine⟨hl,fun p hp=>?_,fun p hp=>?_,fun p hp=>?_,hnd2,fun k hk c hc hp=>?_,Nat.zero_le _⟩
   ·rw[hcn p hp,List.take_zero,Ae2]
   ·rw[hm p]
    exact⟨fun h=>h.2,fun h=>⟨⟨hp.1,by have:=hp.2;omega⟩,h⟩⟩
   ·exact⟨((hm p).1 hp).1.1,by have:=((hm p).1 hp).1.2;omega⟩
   ·have hz:=((hm _).1 (A6 (d:=(0:Int)) hk)).2
    have hr:inR g (out.getD k 0):=⟨((hm _).1 (A6 (d:=(0:Int)) hk)).1.1,by have:=((hm _).1 (A6 (d:=(0:Int)) hk)).1.2;omega⟩
    rw[hcn _ hr]at hz
    have hz2:DX g (rng g.length) (out.getD k 0)=0:=by omega
    exact absurd hp (L0.1 hz2 c (Fu.2 hc))
 intro out0 hU0
 refine Ad.mid (fun out=>UpG g out) ?_ fun _ h=>h
 refine AJ.of (fun q=>0≤q.2.2∧Up3 g q.1 q.2.1 q.2.2.toNat) (fun q=>(g.length -q.2.2).toNat) ⟨Int.le_refl _,hU0⟩ ?_
 rintro⟨ch,out,k⟩ ⟨k0,hU⟩
 dsimp only at k0 hU⊢
 have hol:=Vw hU.nd hU.rn
 have hkl:=hU.kl
 refine⟨fun hk=>?_,fun hk=>?_⟩
 ·have hk:=of_decide_eq_true hk
  have hk2:k.toNat<out.length:=by omega
  have hcm:out.getD k.toNat 0∈out:=A6 hk2
  have hcr:=hU.rn _ hcm
  have hpre:out.take (k.toNat+1)=out.take k.toNat++[out.getD k.toNat 0]:=by rw[List.take_succ_eq_append_getElem hk2,getD_eq hk2]
  have hcn2:out.getD k.toNat 0∉out.take k.toNat:=fun hm=>by
   have h2:(out.take (k.toNat+1)).Nodup:=List.Nodup.sublist (List.take_sublist _ _) hU.nd
   rw[hpre,List.nodup_append]at h2
   exact h2.2.2 _ hm _ (List.mem_singleton.2 rfl) rfl
  generalize hc:out.getD k.toNat 0=c at hcm hcr hpre hcn2
  have hcl:c.toNat<g.length:=by have:=hcr.1;have:=hcr.2;omega
  have hpc:=hpl c hcr
  refine Ad.mid (fun q=>Up3 g q.1 q.2 (k.toNat+1)) ⟨⟨k0,hk⟩,hk2,?_⟩ fun q hq=>?_
  ·refine⟨⟨hcr.1,hcr.2⟩,hcl,?_⟩
   refine Ad.mid (fun q=>Up3 g q.1 q.2 (k.toNat+1)) ?_ fun _ h=>h
   show AJ _ _
   refine AJ.of (fun q=>(0≤q.2.2∧q.2.2≤(Bq g c).length)∧Up4 g c (out.take (k.toNat+1)) q.1 q.2.1 k.toNat q.2.2.toNat) (fun q=>((Bq g c).length -q.2.2).toNat) ⟨⟨Int.le_refl _,Int.natCast_nonneg _⟩,hU.len,fun p hp=>?_,hU.mem,hU.rn,hU.nd,hU.ord,rfl,hk2⟩ ?_
   ·rw[hU.cnt p hp,AaK p hcn2 hcr,←hpre]
    rfl
   rintro⟨ch,out',j⟩ ⟨⟨j0,j1⟩,hV⟩
   dsimp only at j0 j1 hV⊢
   have hol':=Vw hV.nd hV.rn
   refine⟨fun hj=>?_,fun hj=>?_⟩
   ·have hj:j<(Bq g c).length:=of_decide_eq_true hj
    have hj2:j.toNat<(Bq g c).length:=by omega
    have hqm:(Bq g c).getD j.toNat 0∈Bq g c:=A6 hj2
    have hqr:=hv c hcr _ hqm
    obtain⟨hdr,hdz⟩:=Aem (hnd c hcr) hj2
    show Ad _ _
    have hqe:(g.getD c.toNat Ah).1.getD j.toNat 0=(Bq g c).getD j.toNat 0:=rfl
    rw[hqe]
    generalize(Bq g c).getD j.toNat 0=q at hqm hqr hdr hdz⊢
    have hql:q.toNat<ch.length:=by have:=hqr.1;have:=hqr.2;have:=hV.len;omega
    have hqlt:q<((ch.length:Nat):Int):=by have:=hqr.2;have:=hV.len;omega
    have hcq:=hV.cnt q hqr
    have hdb:DX g (H8 g (out.take (k.toNat+1))) q≤g.length:=by
     refine Nat.le_trans (hc1 _ q fun x hx=>(Qy.1 hx).1) ?_
     unfold H8
     exact Nat.le_trans (List.length_filter_le ..) (by rw[Kg];exact Nat.le_refl _)
    rw[hdr,List.count_cons_self,hdz]at hcq
    have hw:IntKind.i64.wrap (ch.getD q.toNat 0 -1)=((DX g (H8 g (out.take (k.toNat+1))) q:Nat):Int):=by rw[w64 (by omega) (by omega)];omega
    rw[hw]
    have hgs:(ch.set q.toNat ((DX g (H8 g (out.take (k.toNat+1))) q:Nat):Int)).getD q.toNat 0=((DX g (H8 g (out.take (k.toNat+1))) q:Nat):Int):=by rw[HV hql,if_pos rfl]
    rw[hgs]
    have hls:(ch.set q.toNat ((DX g (H8 g (out.take (k.toNat+1))) q:Nat):Int)).length=ch.length:=List.length_set
    have hqno:q∉out':=fun hm=>by
     have:=(hV.mem q hqr).1 hm
     omega
    have hcnt:∀p,inR g p→(ch.set q.toNat ((DX g (H8 g (out.take (k.toNat+1))) q:Nat):Int)).getD p.toNat 0=((DX g (H8 g (out.take (k.toNat+1))) p+((Bq g c).drop (j.toNat+1)).count p:Nat):Int):=fun p hp=>by
     rw[HV hql]
     have hp0:=hp.1
     have hq0:=hqr.1
     by_cases e:p=q
     ·subst e
      rw[if_pos rfl,hdz]
      rfl
     ·rw[if_neg (by omega),hV.cnt p hp,hdr,List.count_cons_of_ne (fun h=>e h.symm)]
    have hgo:∀p,inR g p→p≠q→(ch.set q.toNat ((DX g (H8 g (out.take (k.toNat+1))) q:Nat):Int)).getD p.toNat 0=ch.getD p.toNat 0:=fun p hp e=>by
     rw[HV hql]
     have hp0:=hp.1
     have hq0:=hqr.1
     rw[if_neg (by omega)]
    have hkl:=hV.kl
    have hqp:∀c',inR g c'→DX g (H8 g (out.take (k.toNat+1))) q=0→q∈Bq g c'→c'∈out':=fun c' hc' hz hq=>by
     by_cases e:c'∈out.take (k.toNat+1)
     ·rw[←hV.pre]at e
      exact List.mem_of_mem_take e
     ·exact absurd hq (L0.1 hz c' (Qy.2 ⟨hc',e⟩))
    generalize hch:ch.set q.toNat ((DX g (H8 g (out.take (k.toNat+1))) q:Nat):Int)=ch' at*
    refine Ad.mid (fun d=>Up4 g c (out.take (k.toNat+1)) d.1 d.2 k.toNat (j.toNat+1)) ⟨⟨j0,hj⟩,hj2,⟨hqr.1,hqlt⟩,hql,⟨hqr.1,hqlt⟩,hql,⟨hqr.1,by rw[hls];exact hqlt⟩,by rw[hls];exact hql,?_⟩ ?_
    ·refine Ad.mid (fun d=>Up4 g c (out.take (k.toNat+1)) ch' d k.toNat (j.toNat+1)) ⟨fun hz=>⟨by simp only[List.length_cons,List.length_nil];omega,?_⟩,fun hz=>?_⟩ fun _ h=>h
     ·have hz:DX g (H8 g (out.take (k.toNat+1))) q=0:=by
       have:((DX g (H8 g (out.take (k.toNat+1))) q:Nat):Int)=0:=beq_iff_eq.1 hz
       omega
      refine⟨by rw[hls];exact hV.len,hcnt,fun p hp=>?_,fun p hp=>?_,?_,fun i hi c' hc' hp=>?_,?_,by rw[List.length_append];omega⟩
      ·rw[List.mem_append,List.mem_singleton]
       by_cases e:p=q
       ·subst e
        exact⟨fun _=>by rw[hgs,hz];rfl,fun _=>.inr rfl⟩
       ·rw[hgo p hp e,←hV.mem p hp]
        exact⟨fun h=>h.resolve_right e,.inl⟩
      ·rcases List.mem_append.1 hp with hp|hp
       ·exact hV.rn p hp
       ·rw[List.mem_singleton.1 hp];exact hqr
      ·rw[List.nodup_append]
       refine⟨hV.nd,by simp,fun a ha b hb e=>?_⟩
       rw[List.mem_singleton]at hb
       exact hqno (by rw[←hb,←e];exact ha)
      ·by_cases e:i<out'.length
       ·rw[Pf e]at hp
        rw[List.take_append_of_le_length (by omega)]
        exact hV.ord i e c' hc' hp
       ·rw[List.length_append]at hi
        simp only[List.length_cons,List.length_nil]at hi
        obtain rfl:i=out'.length:=by omega
        rw[RD]at hp
        rw[List.take_append_of_le_length (Nat.le_refl _),List.take_length]
        exact hqp c' hc' hz hp
      ·rw[List.take_append_of_le_length (by omega)]
       exact hV.pre
     ·have hz:((DX g (H8 g (out.take (k.toNat+1))) q:Nat):Int)≠0:=by simpa using hz
      refine⟨by rw[hls];exact hV.len,hcnt,fun p hp=>?_,hV.rn,hV.nd,hV.ord,hV.pre,hV.kl⟩
      by_cases e:p=q
      ·subst e
       exact⟨fun h=>absurd h hqno,fun h=>absurd (by rw[hgs]at h;exact h) hz⟩
      ·rw[hgo p hp e]
       exact hV.mem p hp
    ·rintro⟨ch2,o⟩ hq
     rw[w64 (by omega) (by omega)]
     exact⟨⟨⟨by omega,by omega⟩,by rw[show(j+1).toNat=j.toNat+1 by omega];exact hq⟩,by omega⟩
   ·have hj:¬j<(Bq g c).length:=of_decide_eq_false hj
    refine⟨hV.len,fun p hp=>?_,hV.mem,hV.rn,hV.nd,hV.ord,hV.kl⟩
    rw[hV.cnt p hp,List.drop_of_length_le (by omega),hV.pre]
    rfl
  ·rw[w64 (by omega) (by omega)]
   exact⟨⟨by omega,by rw[show(k+1).toNat=k.toNat+1 by omega];exact hq⟩,by omega⟩
 ·have hk:=of_decide_eq_false hk
  refine⟨hU.nd,hU.rn,hU.ord,fun p hp hpo=>?_⟩
  have h1:ch.getD p.toNat 0≠0:=fun h=>hpo ((hU.mem p hp).2 h)
  rw[hU.cnt p hp,List.take_of_length_le (by omega)]at h1
  have h2:¬DX g (H8 g out) p=0:=by omega
  rw[L0]at h2
  by_cases e:∃c,inR g c∧c∉out∧p∈Bq g c
  ·exact e
  ·exact absurd (fun c hc hpc=>e ⟨c,(Qy.1 hc).1,(Qy.1 hc).2,hpc⟩) h2
end Go.VS

/- Graphs: the document's check and the program's. -/
set_option linter.unusedVariables false
set_option linter.unusedSimpArgs false
namespace Go.VS
variable{P:Pg}
def IZ(g:List Ak):Prop:=g.length≤300∧∀c∈g,c.1.length≤32
def P4(n:Nat)(l:List Int)(j:Nat):Prop:=(0≤l.getD j 0∧l.getD j 0<(n:Int))∧l.getD j 0∉l.take j
def Qk(n:Nat)(l:List Int):Prop:=∀j,j<l.length→P4 n l j
def H5(g:List Ak):Prop:=∀c∈g,Qk g.length c.1
def O3(g:List Ak):Prop:=∀c∈g,0≤c.2.1∧c.2.1≤2147483647
def Ge:List Ak→Int
 |[]=>0
 |c::g=>if Dl c.2.2≠0 then Dl c.2.2 else Ge g
def DC(g:List Ak)(e:Int):Prop:=(¬IZ g→e=1)∧(IZ g→¬H5 g→e=230)∧(IZ g→H5 g→Ml g→e=231)∧(IZ g→H5 g→¬Ml g→¬O3 g→e=3)∧(IZ g→H5 g→¬Ml g→O3 g→e=Ge g)
theorem Gm{g:List Ak}{e d:Int}(h:DC g e)(k:DC g d):e=d:=by
 by_cases h1:IZ g
 ·by_cases h2:H5 g
  ·by_cases h3:Ml g
   ·rw[h.2.2.1 h1 h2 h3,k.2.2.1 h1 h2 h3]
   ·by_cases h4:O3 g
    ·rw[h.2.2.2.2 h1 h2 h3 h4,k.2.2.2.2 h1 h2 h3 h4]
    ·rw[h.2.2.2.1 h1 h2 h3 h4,k.2.2.2.1 h1 h2 h3 h4]
  ·rw[h.2.1 h1 h2,k.2.1 h1 h2]
 ·rw[h.1 h1,k.1 h1]
theorem YS{g:List Ak}(h:¬IZ g):DC g 1:=⟨fun _=>rfl,fun k=>absurd k h,fun k=>absurd k h,fun k=>absurd k h,fun k=>absurd k h⟩
theorem AcW{g:List Ak}(k:IZ g)(h:¬H5 g):DC g 230:=⟨fun h=>absurd k h,fun _ _=>rfl,fun _ k=>absurd k h,fun _ k=>absurd k h,fun _ k=>absurd k h⟩
theorem AcX{g:List Ak}(k:IZ g)(k2:H5 g)(h:Ml g):DC g 231:=⟨fun h=>absurd k h,fun _ h=>absurd k2 h,fun _ _ _=>rfl,fun _ _ k=>absurd h k,fun _ _ k=>absurd h k⟩
theorem AcY{g:List Ak}(k:IZ g)(k2:H5 g)(h:¬Ml g)(h4:¬O3 g):DC g 3:=⟨fun h=>absurd k h,fun _ h=>absurd k2 h,fun _ _ k=>absurd k h,fun _ _ _ _=>rfl,fun _ _ _ k=>absurd k h4⟩
theorem Pl{g:List Ak}(k:IZ g)(k2:H5 g)(h:¬Ml g)(h4:O3 g){e:Int}(he:e=Ge g):DC g e:=⟨fun h=>absurd k h,fun _ h=>absurd k2 h,fun _ _ k=>absurd k h,fun _ _ _ k=>absurd h4 k,fun _ _ _ _=>he⟩
theorem Eb{g:List Ak}{i:Nat}(hi:i<g.length):g.getD i ([],(0,[]))∈g:=A6 hi
theorem XK{g:List Ak}{i j:Nat}(hi:i<g.length)(hj:j<(g.getD i ([],(0,[]))).1.length)(h:¬P4 g.length (g.getD i ([],(0,[]))).1 j):¬H5 g:=fun k=>h (k _ (Eb hi) j hj)
theorem CH{α:Type}{l:List α}{d:α}{p:α→Prop}(h:∀j,j<l.length→p (l.getD j d)):∀x∈l,p x:=by
 intro x hx
 obtain⟨j,hj⟩:=List.getElem?_of_mem hx
 have hl:j<l.length:=(List.getElem?_eq_some_iff.1 hj).1
 have:=h j hl
 rw[List.getD_eq_getElem?_getD,hj,Option.getD_some]at this
 exact this
theorem Ec{g:List Ak}(h:H5 g):SO g:=by
 intro c hc p hp
 obtain⟨j,hj⟩:=List.getElem?_of_mem hp
 have hl:j<(Bq g c).length:=(List.getElem?_eq_some_iff.1 hj).1
 have:=(h _ (Eb (g:=g) (i:=c.toNat) (by have:=hc.1;have:=hc.2;omega)) j hl).1
 have e:(Bq g c).getD j 0=p:=by rw[List.getD_eq_getElem?_getD,hj,Option.getD_some]
 have this:0≤(Bq g c).getD j 0∧(Bq g c).getD j 0<(g.length:Int):=this
 rw[e]at this
 exact this
theorem AeX{g:List Ak}(h:H5 g):ndG g:=by
 intro c hc
 have hr:Qk g.length (Bq g c):=h _ (Eb (g:=g) (i:=c.toNat) (by have:=hc.1;have:=hc.2;omega))
 rw[List.nodup_iff_pairwise_ne,List.pairwise_iff_getElem]
 intro i j hi hj hij e
 refine(hr j hj).2 ?_
 rw[List.getD_eq_getElem?_getD,List.getElem?_eq_getElem hj,Option.getD_some,←e]
 refine List.mem_of_getElem? (i:=i) ?_
 rw[List.getElem?_take_of_lt hij,List.getElem?_eq_getElem hi]
theorem FT{g:List Ak}(h:IZ g):∀c,inR g c→(Bq g c).length≤1000000:=fun c hc=>by
 have:=h.2 _ (Eb (g:=g) (i:=c.toNat) (by have:=hc.1;have:=hc.2;omega))
 have:(Bq g c).length≤32:=this
 omega
theorem SK{g:List Ak}{i:Nat}(hi:i<g.length):Ge (g.drop i)=if Dl (g.getD i ([],(0,[]))).2.2≠0 then Dl (g.getD i ([],(0,[]))).2.2 else Ge (g.drop (i+1)):=by
 rw[List.drop_eq_getElem_cons hi,List.getD_eq_getElem?_getD,List.getElem?_eq_getElem hi,Option.getD_some]
 rfl
theorem Mc(x:Int)(n:Nat):(cond (decide (x<0)) true (decide (x≥(n:Int))))=false↔(0≤x∧x<(n:Int)):=by
 rw[Bool.cond_eq_ite]
 by_cases h:x<0
 ·rw[if_pos (decide_eq_true h)]
  exact⟨fun k=>(by cases k),fun k=>absurd k.1 (by omega)⟩
 ·rw[if_neg (by simpa using h)]
  exact⟨fun k=>(by have:=of_decide_eq_false k;omega),fun k=>decide_eq_false (by omega)⟩
theorem QA(x:Int):(cond (decide (x<(0:Int))) true (decide (x>(2147483647:Int))))=false↔(0≤x∧x≤2147483647):=by
 rw[Bool.cond_eq_ite]
 by_cases h:x<0
 ·rw[if_pos (decide_eq_true h)]
  exact⟨fun k=>(by cases k),fun k=>absurd k.1 (by omega)⟩
 ·rw[if_neg (by simpa using h)]
  exact⟨fun k=>(by have:=of_decide_eq_false k;omega),fun k=>decide_eq_false (by omega)⟩
def UQ(P:Pg):Prop:=∀x:List Int×Int,x.1.length≤1000000→Fn P "slices.Index[[]int,int]" BE x fun(d:Int) _=>decide (d≥0)=true↔x.2∈x.1
theorem Ae9(h:Has P Dj):UQ P:=by
 rintro⟨l,v⟩ hl
 dsimp only at hl
 refine Jy h ?_
 unfold FL
 dsimp only
 refine Ad.mid (fun _=>v∉l) ?_ fun _ h=>⟨fun k=>absurd (of_decide_eq_true k) (by omega),fun k=>absurd k h⟩
 refine AJ.of (fun q=>(0≤q.2∧q.2≤l.length)∧∀j,j<q.2.toNat→l.getD j 0≠v) (fun q=>(l.length -q.2).toNat) ⟨⟨Int.le_refl _,by dsimp only;omega⟩,fun j hj=>absurd hj (by simp)⟩ ?_
 rintro⟨q,i⟩ ⟨⟨i0,i1⟩,hq⟩
 dsimp only at i0 i1 hq⊢
 refine⟨fun hi=>?_,fun hi=>?_⟩
 ·have hi:=of_decide_eq_true hi
  have hi2:i.toNat<l.length:=by omega
  refine Ad.mid (fun _=>l.getD i.toNat 0≠v) ⟨⟨i0,hi⟩,hi2,fun hb=>?_,fun hb=>?_⟩ fun _ hn=>?_
  ·have e:v=l.getD i.toNat 0:=by simpa using hb
   exact⟨fun _=>e▸A6 hi2,fun _=>decide_eq_true (by omega)⟩
  ·exact fun e=>by rw[e]at hb;simp at hb
  ·rw[w64 (by omega) (by omega)]
   refine⟨⟨⟨by omega,by omega⟩,fun j hj=>?_⟩,by omega⟩
   by_cases hji:j=i.toNat
   ·subst hji;exact hn
   ·exact hq j (by omega)
 ·have hi:=of_decide_eq_false hi
  exact fun hv=>CH (p:=fun x=>x≠v) (d:=0) (fun j hj=>hq j (by omega)) v hv rfl
def QH(P:Pg):Prop:=∀x:List Int×Int,x.1.length≤1000000→Fn P "slices.Contains[[]int,int]" Bj x fun(d:Bool) _=>d=true↔x.2∈x.1
theorem Adn(h:Has P CN)(hI:UQ P):QH P:=by
 intro x hx
 refine HT h ?_
 unfold Fe
 exact(hI x hx).to fun(d:Int) _ hd=>hd
def US(P:Pg):Prop:=∀x:List Int×Int,x.1.length≤1000000→Fn P AdU Eg x fun(d:Bool) _=>d=true↔x.2∈x.1
theorem Afb(h:Has P Iy):US P:=by
 rintro⟨l,v⟩ hl
 dsimp only at hl
 refine U7 h ?_
 unfold PE
 dsimp only
 refine Ad.mid (fun _=>v∉l) ?_ fun _ h=>⟨fun k=>(by cases k),fun k=>absurd k h⟩
 refine AJ.of (fun q=>(0≤q.2∧q.2≤l.length)∧∀j,j<q.2.toNat→l.getD j 0≠v) (fun q=>(l.length -q.2).toNat) ⟨⟨Int.le_refl _,by dsimp only;omega⟩,fun j hj=>absurd hj (by simp)⟩ ?_
 rintro⟨q,i⟩ ⟨⟨i0,i1⟩,hq⟩
 dsimp only at i0 i1 hq⊢
 refine⟨fun hi=>?_,fun hi=>?_⟩
 ·have hi:=of_decide_eq_true hi
  have hi2:i.toNat<l.length:=by omega
  refine Ad.mid (fun _=>l.getD i.toNat 0≠v) ⟨⟨i0,hi⟩,hi2,fun hb=>?_,fun hb=>?_⟩ fun _ hn=>?_
  ·have e:l.getD i.toNat 0=v:=by simpa using hb
   exact⟨fun _=>e▸A6 hi2,fun _=>rfl⟩
  ·exact fun e=>by rw[e]at hb;simp at hb
  ·rw[w64 (by omega) (by omega)]
   refine⟨⟨⟨by omega,by omega⟩,fun j hj=>?_⟩,by omega⟩
   by_cases hji:j=i.toNat
   ·subst hji;exact hn
   ·exact hq j (by omega)
 ·have hi:=of_decide_eq_false hi
  exact fun hv=>CH (p:=fun x=>x≠v) (d:=0) (fun j hj=>hq j (by omega)) v hv rfl
def Yg(P:Pg):Prop:=∀l:List Ak,l.length≤1000000→Fn P zS4 Aq (l,()) fun(d:Int) _=>decide (d≥0)=false↔∀c∈l,c.1.length≤32
theorem Agl(h:Has P AP)(h1:Has P Ft):Yg P:=by
 intro l hl
 refine C4 h ?_
 unfold BX
 dsimp only
 refine Ad.mid (fun _=>∀c∈l,c.1.length≤32) ?_ fun _ h=>⟨fun _=>h,fun _=>rfl⟩
 refine AJ.of (fun q=>(0≤q.2∧q.2≤l.length)∧∀j,j<q.2.toNat→(l.getD j ([],(0,[]))).1.length≤32) (fun q=>(l.length -q.2).toNat) ⟨⟨Int.le_refl _,by dsimp only;omega⟩,fun j hj=>absurd hj (by simp)⟩ ?_
 rintro⟨q,i⟩ ⟨⟨i0,i1⟩,hq⟩
 dsimp only at i0 i1 hq⊢
 refine⟨fun hi=>?_,fun hi=>?_⟩
 ·have hi:=of_decide_eq_true hi
  have hi2:i.toNat<l.length:=by omega
  refine Ad.mid (fun _=>(l.getD i.toNat ([],(0,[]))).1.length≤32) ⟨⟨i0,hi⟩,hi2,Pd h1 ⟨fun hb=>?_,fun hb=>?_⟩⟩ fun _ hn=>?_
  ·have hb:=of_decide_eq_true hb
   have hb:(((l.getD i.toNat ([],(0,[]))).1.length:Nat):Int)>32:=hb
   exact⟨fun k=>absurd (of_decide_eq_false k) (by omega),fun k=>absurd (k _ (Eb hi2)) (by omega)⟩
  ·have hb:=of_decide_eq_false hb
   have hb:¬((((l.getD i.toNat ([],(0,[]))).1.length:Nat):Int)>32):=hb
   show(l.getD i.toNat ([],(0,[]))).1.length≤32
   omega
  ·rw[w64 (by omega) (by omega)]
   refine⟨⟨⟨by omega,by omega⟩,fun j hj=>?_⟩,by omega⟩
   by_cases hji:j=i.toNat
   ·subst hji;exact hn
   ·exact hq j (by omega)
 ·have hi:=of_decide_eq_false hi
  exact CH (d:=([],(0,[]))) fun j hj=>hq j (by omega)
def Yi(P:Pg):Prop:=∀l:List Ak,l.length≤1000000→Fn P zS5 Am (l,()) fun(d:Bool) _=>d=false↔∀c∈l,c.1.length≤32
theorem Agn(h:Has P AL)(hI:Yg P):Yi P:=by
 intro l hl
 refine CP h ?_
 unfold BJ
 exact(hI l hl).to fun(d:Int) _ hd=>hd
def MS(P:Pg):Prop:=∀l:List Ak,Fn P AdI Dn l fun(d:Bool) _=>d=true↔IZ l
theorem Zr(h:Has P Gu)(hX:Yi P):MS P:=by
 intro l
 refine Rk h ?_
 unfold Mq
 refine Ad.mid (fun d=>l.length≤300→(d=false↔∀c∈l,c.1.length≤32)) ⟨fun hc=>?_,fun hc hl=>absurd (of_decide_eq_false hc) (by omega),trivial⟩ fun d hd=>?_
 ·have hc:=of_decide_eq_true hc
  exact(hX l (by omega)).to fun(d:Bool) _ hd _=>hd
 ·by_cases hl:l.length≤300
  ·have hd:=hd hl
   rw[decide_eq_true (show((l.length:Nat):Int)≤300 by omega)]
   unfold IZ
   cases d with
   |false=>exact⟨fun _=>⟨hl,hd.1 rfl⟩,fun _=>rfl⟩
   |true=>exact⟨fun k=>(by cases k),fun k=>(by have:=hd.2 k.2;cases this)⟩
  ·rw[decide_eq_false (show¬((l.length:Nat):Int)≤300 by omega)]
   exact⟨fun k=>(by cases k),fun k=>absurd k.1 hl⟩
def Yh(P:Pg):Prop:=∀l:List Ak,l.length≤1000000→Fn P zS4 Av (l,()) fun(d:Int) _=>decide (d≥0)=false↔O3 l
theorem Agm(h:Has P AY)(h1:Has P Gt):Yh P:=by
 intro l hl
 refine De h ?_
 unfold B3
 dsimp only
 refine Ad.mid (fun _=>O3 l) ?_ fun _ h=>⟨fun _=>h,fun _=>rfl⟩
 refine AJ.of (fun q=>(0≤q.2∧q.2≤l.length)∧∀j,j<q.2.toNat→0≤(l.getD j ([],(0,[]))).2.1∧(l.getD j ([],(0,[]))).2.1≤2147483647) (fun q=>(l.length -q.2).toNat) ⟨⟨Int.le_refl _,by dsimp only;omega⟩,fun j hj=>absurd hj (by simp)⟩ ?_
 rintro⟨q,i⟩ ⟨⟨i0,i1⟩,hq⟩
 dsimp only at i0 i1 hq⊢
 refine⟨fun hi=>?_,fun hi=>?_⟩
 ·have hi:=of_decide_eq_true hi
  have hi2:i.toNat<l.length:=by omega
  refine Ad.mid (fun _=>0≤(l.getD i.toNat ([],(0,[]))).2.1∧(l.getD i.toNat ([],(0,[]))).2.1≤2147483647) ⟨⟨i0,hi⟩,hi2,Rj h1 ⟨fun hb=>?_,fun hb=>?_⟩⟩ fun _ hn=>?_
  ·refine⟨fun k=>absurd (of_decide_eq_false k) (by omega),fun k=>?_⟩
   have:=(QA _).2 (k _ (Eb hi2))
   exact absurd (this.symm.trans hb) (by simp)
  ·exact(QA _).1 hb
  ·rw[w64 (by omega) (by omega)]
   refine⟨⟨⟨by omega,by omega⟩,fun j hj=>?_⟩,by omega⟩
   by_cases hji:j=i.toNat
   ·subst hji;exact hn
   ·exact hq j (by omega)
 ·have hi:=of_decide_eq_false hi
  exact CH (d:=([],(0,[]))) (p:=fun c=>0≤c.2.1∧c.2.1≤2147483647) fun j hj=>hq j (by omega)
def Yj(P:Pg):Prop:=∀l:List Ak,l.length≤1000000→Fn P zS5 Ap (l,()) fun(d:Bool) _=>d=false↔O3 l
theorem Ago(h:Has P AO)(hI:Yh P):Yj P:=by
 intro l hl
 refine CV h ?_
 unfold BN
 exact(hI l hl).to fun(d:Int) _ hd=>hd
def MU(P:Pg):Prop:=∀g:List Ak,IZ g→Fn P AdJ Dp g fun(d:Bool) _=>d=true↔H5 g
theorem Zv(h:Has P Gv)(hC:QH P):MU P:=by
 intro g hlim
 refine Rl h ?_
 unfold Mr
 have hg:=hlim.1
 refine Ad.mid (fun _=>H5 g) ?_ fun _ h=>⟨fun _=>h,fun _=>rfl⟩
 refine AJ.of (fun q=>(0≤q.2∧q.2≤g.length)∧∀j,j<q.2.toNat→Qk g.length (g.getD j ([],(0,[]))).1) (fun q=>(g.length -q.2).toNat) ⟨⟨Int.le_refl _,by dsimp only;omega⟩,fun j hj=>absurd hj (by simp)⟩ ?_
 rintro⟨q,i⟩ ⟨⟨i0,i1⟩,hq⟩
 dsimp only at i0 i1 hq⊢
 refine⟨fun hi=>?_,fun hi=>?_⟩
 ·have hi:=of_decide_eq_true hi
  have hi2:i.toNat<g.length:=by omega
  have hl:(g.getD i.toNat ([],(0,[]))).1.length≤32:=hlim.2 _ (Eb hi2)
  have hbad:∀j,j<(g.getD i.toNat ([],(0,[]))).1.length→¬P4 g.length (g.getD i.toNat ([],(0,[]))).1 j→¬H5 g:=fun j hj=>XK hi2 hj
  refine Ad.mid (fun _=>Qk g.length (g.getD i.toNat ([],(0,[]))).1) ⟨⟨i0,hi⟩,hi2,?_⟩ fun _ hn=>?_
  ·show Ad (D:=Bool) _ _
   have ez:g.getD i.toNat Ah=g.getD i.toNat ([],(0,[])):=rfl
   rw[ez]
   generalize(g.getD i.toNat ([],(0,[]))).1=l at hl hbad⊢
   refine Ad.mid (fun _=>Qk g.length l) ?_ fun _ h=>h
   refine AJ.of (fun q=>(0≤q.2∧q.2≤l.length)∧∀j,j<q.2.toNat→P4 g.length l j) (fun q=>(l.length -q.2).toNat) ⟨⟨Int.le_refl _,by dsimp only;omega⟩,fun j hj=>absurd hj (by simp)⟩ ?_
   rintro⟨r,k⟩ ⟨⟨k0,k1⟩,hk⟩
   dsimp only at k0 k1 hk⊢
   refine⟨fun hki=>?_,fun hki=>?_⟩
   ·have hki:=of_decide_eq_true hki
    have hk2:k.toNat<l.length:=by omega
    have hou:=Mc (l.getD k.toNat 0) g.length
    generalize(cond (decide (l.getD k.toNat 0<0)) true (decide (l.getD k.toNat 0≥(g.length:Int))))=b at hou⊢
    refine Ad.mid (fun _=>P4 g.length l k.toNat) ⟨⟨k0,hki⟩,hk2,fun _=>⟨k0,by omega⟩,?_⟩ fun _ hn=>?_
    ·refine Ad.mid (fun d=>b=false→(d=true↔l.getD k.toNat 0∈l.take k.toNat)) ⟨fun hc=>?_,fun hc h=>(by rw[hc]at h;cases h),trivial⟩ fun d hd=>⟨fun hb=>?_,fun hb=>?_⟩
     ·exact(hC (l.take k.toNat,l.getD k.toNat 0) (by rw[List.length_take];omega)).to fun(d:Bool) _ hd _=>hd
     ·refine⟨fun k=>(by cases k),fun hr=>absurd hr (hbad k.toNat hk2 fun ha=>?_)⟩
      have hbf:=hou.2 ha.1
      rw[hbf]at hb
      exact ha.2 ((hd hbf).1 hb)
     ·cases b with
      |true=>cases hb
      |false=>exact⟨hou.1 rfl,fun hm=>(by have:=(hd rfl).2 hm;rw[this]at hb;cases hb)⟩
    ·rw[w64 (by omega) (by omega)]
     refine⟨⟨⟨by omega,by omega⟩,fun j hj=>?_⟩,by omega⟩
     by_cases hji:j=k.toNat
     ·subst hji;exact hn
     ·exact hk j (by omega)
   ·have hki:=of_decide_eq_false hki
    exact fun j hj=>hk j (by omega)
  ·rw[w64 (by omega) (by omega)]
   refine⟨⟨⟨by omega,by omega⟩,fun j hj=>?_⟩,by omega⟩
   by_cases hji:j=i.toNat
   ·subst hji;exact hn
   ·exact hq j (by omega)
 ·have hi:=of_decide_eq_false hi
  exact CH (d:=([],(0,[]))) (p:=fun c=>Qk g.length c.1) fun j hj=>hq j (by omega)
def Hv(g:List Ak):Prop:=∀c∈g,∀f∈c.2.2,f.1.length≤140737488351232∧f.2.length≤140737488351232
def Ahd(l:List AA):Prop:=∀f∈l,f.1.length≤140737488351232∧f.2.length≤140737488351232
def IU(P:Pg):Prop:=∀l:List AA,Ahd l→Fn P zS3 B6 l fun(d:Int) _=>d=Dl l
theorem TD(h:Has P FG)(hT:E6 P):IU P:=by
 intro l hl
 by_cases hn:l.length≤1000000
 ·exact hT l ⟨hn,hl⟩
 ·refine MH h ?_
  unfold JU
  refine Ad.mid (fun _=>False) ⟨fun hc=>?_,fun hc=>absurd (of_decide_eq_false hc) (by omega)⟩ fun _ hh=>hh.elim
  unfold Dl
  rw[if_pos (by omega)]
def HG(P:Pg):Prop:=∀l:List AA,Ahd l→Fn P ZJ Cy l fun(d:Int) _=>d=Dl l
theorem Sx(h:Has P Fg)(hT:Fi P):HG P:=by
 intro l hl
 by_cases hn:l.length≤1000000
 ·exact hT l ⟨hn,hl⟩
 ·refine Lg h ?_
  unfold IV
  refine⟨fun hc=>?_,fun hc=>absurd (of_decide_eq_false hc) (by omega)⟩
  unfold Dl
  rw[if_pos (by omega)]
def K2(P:Pg):Prop:=∀g:List Ak,Hv g→Fn P AdN Ef g fun(d:Int) _=>DC g d
theorem XV(h:Has P Iu)(hL:MS P)(hR:MU P)(hU:OX P)(hX:Yj P)(hT:IU P):K2 P:=by
 intro g hs
 refine U4 h ?_
 unfold PB
 refine Ad.mid (fun _=>IZ g∧H5 g∧¬Ml g∧O3 g) ?_ fun d2 hh=>?_
 ·refine(hL g).to ?_
  rintro(d:Bool) _ hd
  have hd:d=true↔IZ g:=hd
  refine⟨fun hb=>YS fun k=>(by rw[hd.2 k]at hb;cases hb),fun hb=>?_⟩
  have k1:IZ g:=hd.1 (by cases d with|true=>rfl|false=>cases hb)
  clear hd hb
  refine(hR g k1).to ?_
  rintro(d:Bool) _ hd
  have hd:d=true↔H5 g:=hd
  refine⟨fun hb=>AcW k1 fun k=>(by rw[hd.2 k]at hb;cases hb),fun hb=>?_⟩
  have k2:H5 g:=hd.1 (by cases d with|true=>rfl|false=>cases hb)
  clear hd hb
  have hg:=k1.1
  refine(hU g (by omega) (Ec k2) (AeX k2) (FT k1)).to ?_
  rintro(u:List Int) _ hu
  have hu:UpG g u:=hu
  have hcy:=AgA (Ec k2) hu
  refine⟨fun hb=>AcX k1 k2 (hcy.1 (by have:=of_decide_eq_true hb;omega)),fun hb=>?_⟩
  have k3:¬Ml g:=fun k=>by have:=hcy.2 k;have:=of_decide_eq_false hb;omega
  refine(hX g (by omega)).to ?_
  rintro(d:Bool) _ hd
  have hd:d=false↔O3 g:=hd
  exact⟨fun hb=>AcY k1 k2 k3 fun k=>(by rw[hd.2 k]at hb;cases hb),fun hb=>⟨k1,k2,k3,hd.1 hb⟩⟩
 ·obtain⟨k1,k2,k3,k4⟩:=hh
  have hg:=k1.1
  refine Ad.mid (fun _=>Ge g=0) ?_ fun _ h=>Pl k1 k2 k3 k4 h.symm
  refine AJ.of (fun q=>(0≤q.2∧q.2≤g.length)∧Ge g=Ge (g.drop q.2.toNat)) (fun q=>(g.length -q.2).toNat) ⟨⟨Int.le_refl _,by dsimp only;omega⟩,rfl⟩ ?_
  rintro⟨q,i⟩ ⟨⟨i0,i1⟩,hq⟩
  dsimp only at i0 i1 hq⊢
  refine⟨fun hi=>?_,fun hi=>?_⟩
  ·have hi:=of_decide_eq_true hi
   have hi2:i.toNat<g.length:=by omega
   rw[SK hi2]at hq
   refine Ad.mid (fun _=>Dl (g.getD i.toNat ([],(0,[]))).2.2=0) ⟨⟨i0,hi⟩,hi2,(hT _ (hs _ (Eb hi2))).to ?_⟩ fun _ hn=>?_
   ·rintro(d:Int) _ hd
    have hd:d=Dl (g.getD i.toNat ([],(0,[]))).2.2:=hd
    rw[←hd]at hq⊢
    refine⟨fun hb=>Pl k1 k2 k3 k4 ?_,fun hb=>by simpa using hb⟩
    rw[hq,if_pos (by simpa using hb)]
   ·rw[if_neg (by simpa using hn)]at hq
    rw[w64 (by omega) (by omega)]
    refine⟨⟨⟨by omega,by omega⟩,?_⟩,by omega⟩
    rw[hq,show(i+1).toNat=i.toNat+1 by omega]
  ·have hi:=of_decide_eq_false hi
   show Ge g=0
   rw[hq,List.drop_of_length_le (by omega)]
   rfl
end Go.VS
