import Derived.Test.YtfkfmokccekccaaGreatDoorKSm2
import Derived.Test.YtfkfmokccekccaaGreatDoorKSm1
/- Renamed files: the document's answer. -/
set_option linter.unusedVariables false
set_option linter.unusedSimpArgs false
namespace Go.VS
variable{P:Pg}
def Ao7(P:Pg):Prop:=∀x:List Aoc×(Bs×Bs),x.1.length≤100000000→Fn P AcI Aos x fun(d:Bool) _=>d=Aod x.1 (x.2.1,(x.2.2,0))
theorem ArQ{l:List Aoc}{k:Nat}(h:k<l.length)(r:Aoc):Aod (l.drop k) r=((decide ((l.getD k zR).1=r.1)||decide ((l.getD k zR).2.1=r.2.1))||Aod (l.drop (k+1)) r):=by
 rw[List.drop_eq_getElem_cons h,getD_eq h]
 rfl
theorem Asc(h:Has P AoJ):Ao7 P:=by
 rintro⟨l,p,q⟩ hl
 dsimp only at hl
 refine Ap9 h ?_
 unfold Apm
 dsimp only
 refine Ac.mid (fun _=>Aod l (p,(q,0))=false) ?_ fun _ hn=>hn.symm
 refine Au.of (fun s=>(0≤s.2∧s.2≤l.length)∧Aod l (p,(q,0))=Aod (l.drop s.2.toNat) (p,(q,0))) (fun s=>(l.length -s.2).toNat) ⟨⟨Int.le_refl _,Int.natCast_nonneg _⟩,rfl⟩ ?_
 rintro⟨s,i⟩ ⟨⟨i0,i1⟩,hs⟩
 dsimp only at i0 i1 hs⊢
 refine⟨fun hi=>?_,fun hi=>?_⟩
 ·have hi:=of_decide_eq_true hi
  have hi2:i.toNat<l.length:=by omega
  rw[ArQ hi2]at hs
  dsimp only at hs
  refine Ac.mid (fun _=>Aod l (p,(q,0))=Aod (l.drop (i.toNat+1)) (p,(q,0))) ⟨⟨i0,hi⟩,hi2,fun _=>⟨i0,hi⟩,fun _=>hi2,fun hb=>?_,fun hb=>?_⟩ fun s2 hs2=>by
   rw[w64 (by omega) (by omega)]
   exact⟨⟨⟨by omega,by omega⟩,by rw[show(i+1).toNat=i.toNat+1 by omega];exact hs2⟩,by omega⟩
  ·show true=_
   rw[hs]
   by_cases h1:(l.getD i.toNat zR).1=p
   ·rw[decide_eq_true h1];rfl
   ·have h2:((l.getD i.toNat AnV).1==p)=false:=beq_eq_false_iff_ne.2 h1
    rw[h2,cond_false]at hb
    rw[decide_eq_true (show(l.getD i.toNat zR).2.1=q from eq_of_beq hb)]
    simp
  ·have h1:((l.getD i.toNat AnV).1==p)=false:=by
    cases h1:((l.getD i.toNat AnV).1==p)with
    |false=>rfl
    |true=>rw[h1]at hb;cases hb
   rw[h1,cond_false]at hb
   rw[hs,decide_eq_false (show¬(l.getD i.toNat zR).1=p from beq_eq_false_iff_ne.1 h1),decide_eq_false (show¬(l.getD i.toNat zR).2.1=q from beq_eq_false_iff_ne.1 hb)]
   rfl
 ·have hi:=of_decide_eq_false hi
  rw[List.drop_eq_nil_of_le (by omega)]at hs
  exact hs
theorem Ao7.at(h:Ao7 P){l:List Aoc}{p q:Bs}(hl:l.length≤100000000){K:Bool→Unit→Prop}(hk:K (Aod l (p,(q,0))) ()):Fn P AcI Aos (l,(p,q)) K:=
 (h (l,(p,q)) hl).to fun(d:Bool) _ hd=>by
  have hd:d=Aod l (p,(q,0)):=hd
  rw[hd]
  exact hk
def Ao4(out L:List Aoc):List Aoc:=L.filter fun r=>!Aod out r
theorem Arw(out A B:List Aoc):Ao4 out (A++B)=Ao4 out A++Ao4 out B:=List.filter_append _ _
theorem ArS(out:List Aoc)(p q:Bs)(n m:Int):Aod out (p,(q,n))=Aod out (p,(q,m)):=rfl
def Ase(l:List Aoc):Prop:=l.Pairwise fun x y=>Op.bytesLess x.2.1 y.2.1=true
theorem Ap4{l:List Aoc}(h:Ase l):l.Nodup:=by
 rw[List.nodup_iff_pairwise_ne]
 refine h.imp fun{x y} hxy e=>?_
 rw[e,FV]at hxy
 cases hxy
theorem Asf{out:List Aoc}{r:Aoc}{k:Nat}(h:Ase out)(hk:k≤out.length)(hlo:∀j,j<k→Op.bytesLess (out.getD j zR).2.1 r.2.1=true)(hhi:∀j,k≤j→j<out.length→Op.bytesLess r.2.1 (out.getD j zR).2.1=true):Ase (out.take k++r::out.drop k):=by
 have hp:out=out.take k++out.drop k:=(List.take_append_drop k out).symm
 unfold Ase at h⊢
 rw[hp]at h
 obtain⟨h1,h2,h3⟩:=List.pairwise_append.1 h
 refine List.pairwise_append.2 ⟨h1,List.pairwise_cons.2 ⟨fun y hy=>?_,h2⟩,fun x hx y hy=>?_⟩
 ·obtain⟨j,hj,rfl⟩:=List.getElem_of_mem hy
  rw[List.length_drop]at hj
  rw[List.getElem_drop]
  have:=hhi (k+j) (by omega) (by omega)
  rwa [getD_eq (by omega)]at this
 ·rcases List.mem_cons.1 hy with rfl|hy
  ·obtain⟨j,hj,rfl⟩:=List.getElem_of_mem hx
   rw[List.length_take]at hj
   rw[List.getElem_take]
   have:=hlo j (by omega)
   rwa [getD_eq (by omega)]at this
  ·exact h3 x hx y hy
theorem Arp{out:List Aoc}{r:Aoc}{k:Nat}(t:Aoc):t∈out.take k++r::out.drop k↔t∈out∨t=r:=by
 rw[List.mem_append,List.mem_cons]
 constructor
 ·rintro(h|h|h)
  ·exact .inl (List.mem_of_mem_take h)
  ·exact .inr h
  ·exact .inl (List.mem_of_mem_drop h)
 ·rintro(h|h)
  ·rw[←List.take_append_drop k out]at h
   rcases List.mem_append.1 h with h|h
   ·exact .inl h
   ·exact .inr (.inr h)
  ·exact .inr (.inl h)
def Aq5(L out:List Aoc):Prop:=Ase out∧(∀t∈out,t∈L)∧∀S:List Aoc,S.Perm L→(S.Pairwise fun x y=>AoA x y=true)→∃G,(∀t,t∈out↔t∈G)∧Aov G S=Aov [] S
theorem AqU{L out:List Aoc}(h:Aq5 L out):out.length≤L.length:=by
 have:=G2 (Ap4 h.1) fun t ht=>h.2.1 t ht
 exact this
theorem Ar5{L out:List Aoc}(h:Aq5 L out)(hu:∀x∈L,Aod out x=true){S:List Aoc}(hp:S.Perm L)(hs:S.Pairwise fun x y=>AoA x y=true):ApE S out:=by
 obtain⟨G,hG,hg⟩:=h.2.2 S hp hs
 refine⟨h.1,fun t=>?_⟩
 rw[←hg,Apo fun r hr=>by rw[←Ap5 hG];exact hu r (hp.mem_iff.1 hr)]
 exact hG t
theorem ArI{L out:List Aoc}(h:Aq5 L out)(hL:L.Pairwise fun x y=>AoZ x y=true)(hpos:∀x∈L,0<x.2.2){r:Aoc}(hr:r=Aol (Ao4 out L))(h0:r.2.2≠0){k:Nat}(hk:k≤out.length)(hlo:∀j,j<k→Op.bytesLess (out.getD j zR).2.1 r.2.1=true)(hhi:∀j,k≤j→j<out.length→Op.bytesLess r.2.1 (out.getD j zR).2.1=true)(hm:r∈L):Aq5 L (out.take k++r::out.drop k):=by
 refine⟨Asf h.1 hk hlo hhi,fun t ht=>?_,fun S hp hs=>?_⟩
 ·rcases(Arp t).1 ht with ht|rfl
  ·exact h.2.1 t ht
  ·exact hm
 ·obtain⟨G,hG,hg⟩:=h.2.2 S hp hs
  have e:Ao4 out L=L.filter fun r=>!Aod G r:=by
   unfold Ao4
   congr 1
   funext r
   rw[Ap5 hG]
  rcases Aq8 (out:=G) hL hpos hp hs with⟨_,hz⟩|⟨A,r',B,hS,hA,hu,hb⟩
  ·rw[e,hz]at hr
   rw[hr]at h0
   exact absurd rfl h0
  ·rw[e,hb]at hr
   subst hr
   refine⟨G++[r],fun t=>?_,?_⟩
   ·rw[Arp,List.mem_append,List.mem_singleton,hG]
   ·rw[←hg,hS,←ArY hA (by rw[hu];decide)]
def Aqv(a b:List Ao)(least:Int)(d:List Aoc×Int):Prop:=(¬(1≤least∧least≤100)→d=([],3))∧(1≤least∧least≤100→d.2=0∧∃D,IsDiff a b D∧∀S:List Aoc,S.Perm (Aoi a b least D D)→(S.Pairwise fun x y=>AoA x y=true)→ApE S d.1)
theorem AqV{a b:List Ao}{least:Int}{d e:List Aoc×Int}(hd:AqI a b least d)(he:Aqv a b least e):d=e:=by
 by_cases h:1≤least∧least≤100
 ·obtain⟨d0,D,S,d1,d2,d3,d4⟩:=hd.2 h
  obtain⟨e0,E,e1,e2⟩:=he.2 h
  have:=Abe d1 e1
  subst this
  exact Prod.ext (Ard d4 (e2 S d2 d3)) (d0.trans e0.symm)
 ·rw[hd.1 h,he.1 h]
theorem Asp{a b:List Ao}{least:Int}(h:1≤least){l D:List Bz}:∀r∈Aoi a b least l D,0<r.2.2:=fun r hr=>by
 obtain⟨x,_,y,_,_,_,h3,rfl⟩:=Arq.1 hr
 dsimp only
 omega
theorem Aqm(n:Int):(cond (decide (n<1)) true (decide (n>100)))=true↔¬(1≤n∧n≤100):=by
 by_cases h:n<1
 ·rw[decide_eq_true h];exact⟨fun _ k=>by omega,fun _=>rfl⟩
 ·rw[decide_eq_false h,cond_false,decide_eq_true_eq]
  exact⟨fun k q=>by omega,fun k=>by omega⟩
def Aqx(P:Pg):Prop:=∀x:List Ao×(List Ao×Int),Du x.1→Du x.2.1→x.1.length≤1000→x.2.1.length≤1000→MH x.1 x.2.1=0→Fn P AcE Aog x fun(d:List Aoc×Int) _=>Aqv x.1 x.2.1 x.2.2 d
theorem Asu(h:Has P Aox)(hD:Pf P)(hF:Lm P)(hS:AoQ P)(hU:Ao7 P):Aqx P:=by
 rintro⟨a,b,least⟩ ha hb la lb h0
 dsimp only at ha hb la lb h0
 have ha1:=ha.1
 have hb1:=hb.1
 refine Apz h ?_
 unfold Ao5
 dsimp only
 refine(hD (a,b) ha hb).to ?_
 rintro(d:List Bz×Int) _ hd
 have hd:Rq a b d:=hd
 have hdl:=Pr hd
 have hd0:d.2=0:=hd.1.trans h0
 have hdd:=hd.2.2 hd0
 refine⟨fun hc=>absurd hd0 (by simpa using hc),fun _=>⟨fun hc=>⟨fun _=>rfl,fun k=>absurd k ((Aqm least).1 hc)⟩,fun hc=>?_⟩⟩
 have hle:1≤least∧least≤100:=Classical.byContradiction fun k=>by rw[(Aqm least).2 k]at hc;cases hc
 clear hc
 obtain⟨D,de⟩:=d
 dsimp only at hdl hd0 hdd⊢
 have hDl:D.length≤2000:=by omega
 have hlex:=Ars (a:=a) (b:=b) (least:=least) hdd.1
 have hpos:=Asp (a:=a) (b:=b) hle.1 (l:=D) (D:=D)
 have hLl:(Aoi a b least D D).length≤4000000:=Nat.le_trans Ao9 (Nat.le_trans (Nat.mul_le_mul hDl hDl) (by decide))
 clear hd hdl
 refine Ac.mid (fun o=>∀S:List Aoc,S.Perm (Aoi a b least D D)→(S.Pairwise fun x y=>AoA x y=true)→ApE S o) ?_ fun o ho=>⟨fun k=>absurd hle k,fun _=>⟨rfl,D,hdd,ho⟩⟩
 refine Au.of (fun o=>Aq5 (Aoi a b least D D) o) (fun o=>(Aoi a b least D D).length -o.length) ⟨.nil,fun t ht=>(nomatch ht),fun S _ _=>⟨[],fun t=>Iff.rfl,rfl⟩⟩ ?_
 intro out hout
 have hol:=AqU hout
 refine Ac.mid (fun o=>Aq5 (Aoi a b least D D) o∧(Aoi a b least D D).length -o.length<(Aoi a b least D D).length -out.length) ?_ fun _ h=>h
 refine Ac.mid (fun r=>r=Aol (Ao4 out (Aoi a b least D D))) ?_ ?_
 ·refine Au.of (fun q=>(0≤q.1∧q.1≤D.length)∧q.2=Aol (Ao4 out (Aoi a b least (D.take q.1.toNat) D))) (fun q=>(D.length -q.1).toNat) ⟨⟨Int.le_refl _,Int.natCast_nonneg _⟩,rfl⟩ ?_
  rintro⟨i,br⟩ ⟨⟨i0,i1⟩,hbr⟩
  dsimp only at i0 i1 hbr⊢
  refine⟨fun hi=>?_,fun hi=>?_⟩
  ·have hi:=of_decide_eq_true hi
   have hi2:i.toNat<D.length:=by omega
   refine Ac.mid (fun q=>q=Aol (Ao4 out (Aoi a b least (D.take (i.toNat+1)) D))) ?_ fun q hq=>by
    rw[w64 (by omega) (by omega)]
    exact⟨⟨⟨by omega,by omega⟩,by rw[show(i+1).toNat=i.toNat+1 by omega];exact hq⟩,by omega⟩
   refine Ac.mid (fun q=>q=Aol (Ao4 out (Aoi a b least (D.take (i.toNat+1)) D))) ?_ fun _ h=>h
   rw[ApC hi2]
   refine Au.of (fun q=>(0≤q.1∧q.1≤D.length)∧q.2=Aol (Ao4 out (Aoi a b least (D.take i.toNat) D++(if(D.getD i.toNat ([],0)).2=2 then Aoq a b least (D.getD i.toNat ([],0)) (D.take q.1.toNat)else[])))) (fun q=>(D.length -q.1).toNat) ⟨⟨Int.le_refl _,Int.natCast_nonneg _⟩,by dsimp only;rw[hbr];simp[Aoq]⟩ ?_
   rintro⟨j,bj⟩ ⟨⟨j0,j1⟩,hbj⟩
   dsimp only at j0 j1 hbj⊢
   refine⟨fun hj=>?_,fun hj=>?_⟩
   ·have hj:=of_decide_eq_true hj
    have hj2:j.toNat<D.length:=by omega
    refine Ac.mid (fun q=>q=Aol (Ao4 out (Aoi a b least (D.take i.toNat) D++(if(D.getD i.toNat ([],0)).2=2 then Aoq a b least (D.getD i.toNat ([],0)) (D.take (j.toNat+1))else[])))) ?_ fun q hq=>by
     rw[w64 (by omega) (by omega)]
     exact⟨⟨⟨by omega,by omega⟩,by rw[show(j+1).toNat=j.toNat+1 by omega];exact hq⟩,by omega⟩
    rw[Apa hj2]
    refine Ac.mid (fun e=>e=true↔¬((D.getD i.toNat ([],0)).2=2∧(D.getD j.toNat ([],0)).2=1∧Aod out ((D.getD i.toNat ([],0)).1,((D.getD j.toNat ([],0)).1,0))=false)) ⟨⟨i0,hi⟩,hi2,fun _=>⟨j0,hj⟩,fun _=>hj2,fun _=>⟨i0,hi⟩,fun _=>hi2,fun _=>⟨j0,hj⟩,fun _=>hj2,?_,trivial⟩ ?_
    ·by_cases k1:(D.getD i.toNat ([],0)).2=2
     ·have e1:((D.getD i.toNat ([],0)).2 !=2)=false:=by simpa using k1
      rw[e1,cond_false]
      by_cases k2:(D.getD j.toNat ([],0)).2=1
      ·have e2:((D.getD j.toNat ([],0)).2 !=1)=false:=by simpa using k2
       rw[e2]
       refine Ac.mid (fun e=>e=Aod out ((D.getD i.toNat ([],0)).1,((D.getD j.toNat ([],0)).1,0))) ⟨fun _=>hU.at (by omega) rfl,fun hb=>(nomatch hb),trivial⟩ ?_
       rintro e rfl
       rw[cond_false]
       exact⟨fun h k=>(by rw[k.2.2]at h;cases h),fun h=>Classical.byContradiction fun k=>h ⟨k1,k2,eq_false_of_ne_true k⟩⟩
      ·have e2:((D.getD j.toNat ([],0)).2 !=1)=true:=by simpa using k2
       rw[e2]
       refine Ac.mid (fun e=>True) ⟨fun hb=>(nomatch hb),fun _=>trivial,trivial⟩ fun e _=>?_
       rw[cond_true]
       exact⟨fun _ k=>k2 k.2.1,fun _=>rfl⟩
     ·have e1:((D.getD i.toNat ([],0)).2 !=2)=true:=by simpa using k1
      rw[e1,cond_true]
      refine Ac.mid (fun e=>True) ⟨fun hb=>(nomatch hb),fun _=>trivial,trivial⟩ fun e _=>?_
      rw[cond_true]
      exact⟨fun _ k=>k1 k.1,fun _=>rfl⟩
    intro e he
    refine⟨fun hq=>?_,fun hq=>?_⟩
    ·have hno:=he.1 hq
     rw[hbj]
     by_cases k1:(D.getD i.toNat ([],0)).2=2
     ·rw[if_pos k1,if_pos k1]
      by_cases k2:(D.getD j.toNat ([],0)).2=1∧least≤scR a b (D.getD i.toNat ([],0)) (D.getD j.toNat ([],0))
      ·rw[if_pos k2,←List.append_assoc,Arw (A:=_++_)]
       have hu:Aod out ((D.getD i.toNat ([],0)).1,((D.getD j.toNat ([],0)).1,scR a b (D.getD i.toNat ([],0)) (D.getD j.toNat ([],0))))=true:=by
        cases hu:Aod out ((D.getD i.toNat ([],0)).1,((D.getD j.toNat ([],0)).1,scR a b (D.getD i.toNat ([],0)) (D.getD j.toNat ([],0))))with
        |true=>rfl
        |false=>exact absurd ⟨k1,k2.1,hu⟩ hno
       have e3:Ao4 out [((D.getD i.toNat ([],0)).1,((D.getD j.toNat ([],0)).1,scR a b (D.getD i.toNat ([],0)) (D.getD j.toNat ([],0))))]=[]:=by
        unfold Ao4
        rw[List.filter_cons,hu]
        rfl
       rw[e3,List.append_nil]
      ·rw[if_neg k2,List.append_nil]
     ·rw[if_neg k1,if_neg k1]
    ·have hyes:(D.getD i.toNat ([],0)).2=2∧(D.getD j.toNat ([],0)).2=1∧Aod out ((D.getD i.toNat ([],0)).1,((D.getD j.toNat ([],0)).1,0))=false:=Classical.byContradiction fun k=>by rw[he.2 k]at hq;cases hq
     obtain⟨k1,k2,k3⟩:=hyes
     refine⟨⟨i0,hi⟩,hi2,hF.at ha1 ⟨⟨j0,hj⟩,hj2,hF.at hb1 (hS.at (AoS ha _) (AoS hb _) ?_)⟩⟩
     rw[if_pos k1]at hbj⊢
     have hsc:(Aor (findF a (D.getD i.toNat ([],0)).1).1 (findF b (D.getD j.toNat ([],0)).1).1).1=scR a b (D.getD i.toNat ([],0)) (D.getD j.toNat ([],0)):=rfl
     rw[hsc]
     refine Ac.mid (fun q=>q=Aol (Ao4 out (Aoi a b least (D.take i.toNat) D++(Aoq a b least (D.getD i.toNat ([],0)) (D.take j.toNat)++(if(D.getD j.toNat ([],0)).2=1∧least≤scR a b (D.getD i.toNat ([],0)) (D.getD j.toNat ([],0))then[((D.getD i.toNat ([],0)).1,((D.getD j.toNat ([],0)).1,scR a b (D.getD i.toNat ([],0)) (D.getD j.toNat ([],0))))]else[]))))) ?_ fun _ h=>h
     by_cases k4:least≤scR a b (D.getD i.toNat ([],0)) (D.getD j.toNat ([],0))
     ·rw[if_pos ⟨k2,k4⟩,←List.append_assoc,Arw (A:=_++_)]
      have e3:Ao4 out [((D.getD i.toNat ([],0)).1,((D.getD j.toNat ([],0)).1,scR a b (D.getD i.toNat ([],0)) (D.getD j.toNat ([],0))))]=[((D.getD i.toNat ([],0)).1,((D.getD j.toNat ([],0)).1,scR a b (D.getD i.toNat ([],0)) (D.getD j.toNat ([],0))))]:=by
       unfold Ao4
       rw[List.filter_cons,ArS out _ _ _ 0,k3]
       rfl
      rw[e3,Aqf,←hbj,decide_eq_true (show scR a b (D.getD i.toNat ([],0)) (D.getD j.toNat ([],0))≥least from k4),cond_true]
      refine⟨fun hg=>?_,fun hg=>?_⟩
      ·rw[if_pos (of_decide_eq_true hg)]
       refine Ac.mid (fun q=>q=((D.getD i.toNat ([],0)).1,((D.getD j.toNat ([],0)).1,scR a b (D.getD i.toNat ([],0)) (D.getD j.toNat ([],0))))) ⟨⟨i0,hi⟩,hi2,⟨j0,hj⟩,hj2,rfl,trivial⟩ fun _ h=>h
      ·rw[if_neg (of_decide_eq_false hg)]
     ·rw[if_neg fun k=>k4 k.2,List.append_nil,decide_eq_false (show¬scR a b (D.getD i.toNat ([],0)) (D.getD j.toNat ([],0))≥least from k4),cond_false]
      exact⟨fun hg=>(nomatch hg),fun _=>hbj⟩
   ·have hj:=of_decide_eq_false hj
    rw[List.take_of_length_le (l:=D) (i:=j.toNat) (by omega)]at hbj
    exact hbj
  ·have hi:=of_decide_eq_false hi
   rw[List.take_of_length_le (l:=D) (i:=i.toNat) (by omega)]at hbr
   exact hbr
 ·rintro r hr
  have hspec:=Aqg (Ao4 out (Aoi a b least D D)) (hlex.sublist List.filter_sublist) fun x hx=>hpos x (List.mem_filter.1 hx).1
  rw[←hr]at hspec
  refine⟨fun hz=>?_,fun hz=>?_⟩
  ·have hz:r.2.2=0:=by simpa using hz
   intro S hp hs
   refine Ar5 hout (fun x hx=>?_) hp hs
   rcases hspec with⟨hnil,_⟩|⟨hm,_⟩
   ·cases hu:Aod out x with
    |true=>rfl
    |false=>
     have:x∈Ao4 out (Aoi a b least D D):=List.mem_filter.2 ⟨hx,by rw[hu];rfl⟩
     rw[hnil]at this
     cases this
   ·have:=hpos r (List.mem_filter.1 hm).1
    omega
  ·have hz:r.2.2≠0:=by simpa using hz
   obtain⟨hrL,hru⟩:r∈Aoi a b least D D∧Aod out r=false:=by
    rcases hspec with⟨_,hz2⟩|⟨hm,_⟩
    ·rw[hz2]at hz;exact absurd rfl hz
    ·have:=List.mem_filter.1 hm
     exact⟨this.1,by simpa using this.2⟩
   have hne:∀j,j<out.length→(out.getD j zR).2.1≠r.2.1:=fun j hj e=>by
    have:Aod out r=true:=Apb.2 ⟨_,A7 hj,.inr e⟩
    rw[hru]at this
    cases this
   refine Ac.mid (fun k=>((0≤k∧k≤out.length)∧∀j:Nat,k≤(j:Int)→j<out.length→Op.bytesLess r.2.1 (out.getD j zR).2.1=true)∧(0<k→Op.bytesLess (out.getD (k -1).toNat zR).2.1 r.2.1=true)) ?_ ?_
   ·refine Au.of (fun k=>(0≤k∧k≤out.length)∧∀j:Nat,k≤(j:Int)→j<out.length→Op.bytesLess r.2.1 (out.getD j zR).2.1=true) (fun k=>k.toNat) ⟨⟨Int.natCast_nonneg _,Int.le_refl _⟩,fun j h1 h2=>by omega⟩ ?_
    rintro k ⟨⟨k0,k1⟩,hk⟩
    by_cases hk0:k>0
    ·rw[decide_eq_true hk0,cond_true,w64 (n:=k -1) (by omega) (by omega)]
     have hkl:(k -1).toNat<out.length:=by omega
     have hkn:=hne _ hkl
     refine⟨fun _=>⟨by omega,by omega⟩,fun _=>hkl,fun hb=>?_,fun hb=>?_⟩
     ·refine Ac.mid (fun q=>q=k -1) rfl ?_
      rintro q rfl
      refine⟨⟨⟨by omega,by omega⟩,fun j h1 h2=>?_⟩,by omega⟩
      by_cases e:j=(k -1).toNat
      ·subst e
       simp only[Bool.not_eq_true',Bool.or_eq_false_iff]at hb
       rcases Qo hkn with h3|h3
       ·exact absurd (h3.symm.trans hb.1) (by decide)
       ·exact h3
      ·exact hk j (by omega) h2
     ·refine⟨⟨⟨k0,k1⟩,hk⟩,fun _=>?_⟩
      simp only[Bool.not_eq_false',Bool.or_eq_true,beq_iff_eq]at hb
      rcases hb with h|h
      ·exact h
      ·exact absurd h hkn
    ·rw[decide_eq_false hk0]
     exact⟨fun hb=>(nomatch hb),fun hb=>(nomatch hb),fun hb=>(nomatch hb),fun _=>⟨⟨⟨k0,k1⟩,hk⟩,fun h=>absurd h hk0⟩⟩
   ·rintro k ⟨⟨⟨k0,k1⟩,hhi⟩,hlo⟩
    have hlo2:∀j,j<k.toNat→Op.bytesLess (out.getD j zR).2.1 r.2.1=true:=fun j hj=>by
     have h1:=hlo (by omega)
     by_cases e:j=(k -1).toNat
     ·rw[e];exact h1
     ·have hs:=List.pairwise_iff_getElem.1 hout.1 j (k -1).toNat (by omega) (by omega) (by omega)
      rw[getD_eq (by omega)]at h1⊢
      exact HN hs h1
    have hnew:Aq5 (Aoi a b least D D) (out.take k.toNat++r::out.drop k.toNat):=ArI hout hlex hpos hr hz (by omega) hlo2 (fun j h1 h2=>hhi j (by omega) h2) hrL
    have hlen:(out.take k.toNat++r::out.drop k.toNat).length=out.length+1:=by
     rw[List.length_append,List.length_cons,List.length_take,List.length_drop]
     omega
    have hnl:=AqU hnew
    rw[hlen]at hnl
    have e1:((([]:List Rename)++(out.drop 0).take k.toNat)++[r])++(out.drop k.toNat).take (out.length -k.toNat)=out.take k.toNat++r::out.drop k.toNat:=by
     rw[List.drop_zero,List.nil_append,List.take_of_length_le (l:=out.drop k.toNat) (by rw[List.length_drop];omega),List.append_assoc]
     rfl
    have o1:0+k.toNat≤out.length:=by omega
    have o2:(List.length ([]:List Rename)+((out.drop 0).take k.toNat).length)*40≤140737488355328:=by rw[List.length_take,List.length_drop,List.length_nil];omega
    have o3:((([]:List Rename)++(out.drop 0).take k.toNat).length+List.length ([r]:List Rename))*40≤140737488355328:=by rw[List.length_append,List.length_take,List.length_drop];simp only[List.length_nil,List.length_cons];omega
    have o4:k.toNat+(out.length -k.toNat)≤out.length:=by omega
    have o5:(((([]:List Rename)++(out.drop 0).take k.toNat)++[r]).length+((out.drop k.toNat).take (out.length -k.toNat)).length)*40≤140737488355328:=by simp only[List.length_append,List.length_take,List.length_drop,List.length_nil,List.length_cons];omega
    refine Ac.mid (fun o=>o=out.take k.toNat++r::out.drop k.toNat) ?_ ?_
    ·rw[e1]
     (repeat' apply And.intro)<;>first|exact trivial|exact k0|exact k1|exact o1|exact o2|exact o3|exact o4|exact o5|exact rfl
    ·rintro o rfl
     exact⟨hnew,by rw[hlen];omega⟩
end Go.VS

/- SimilarRenames. -/
set_option linter.unusedVariables false
set_option linter.unusedSimpArgs false
namespace Go.VS
variable{P:Pg}
def Apu(P:Pg):Prop:=∀l:List Aoc,l.length≤100000000→Fn P AcF Aom (l,l) fun(d:Bool) _=>d=true
theorem ArP(h:Has P AoH):Apu P:=by
 intro l hl
 refine Ap7 h ?_
 unfold Apk
 dsimp only
 refine⟨fun hc=>?_,fun _=>?_⟩
 ·rw[bne_self_eq_false]at hc;cases hc
 ·refine Ac.mid (fun _=>True) ?_ fun _ _=>rfl
  refine Au.of (fun s=>0≤s.2∧s.2≤l.length) (fun s=>(l.length -s.2).toNat) ⟨Int.le_refl _,Int.natCast_nonneg _⟩ ?_
  rintro⟨s,i⟩ ⟨i0,i1⟩
  dsimp only at i0 i1⊢
  refine⟨fun hi=>?_,fun hi=>trivial⟩
  have hi:=of_decide_eq_true hi
  refine Ac.mid (fun _=>True) ⟨⟨i0,hi⟩,by omega,⟨i0,hi⟩,by omega,fun hc=>?_,fun _=>trivial⟩ fun s2 _=>?_
  ·simp at hc
  ·rw[w64 (by omega) (by omega)]
   exact⟨⟨by omega,by omega⟩,by omega⟩
theorem ArC{S d:List Aoc}(h:ApE S d):d.length≤S.length:=by
 have h1:d.Nodup:=Ap4 h.1
 have h2:=G2 h1 (fun t ht=>(h.2 t).1 ht)
 have h3:=ApN [] S
 rw[List.length_nil]at h3
 omega
theorem AqG{a b:List Ao}{D:List Bz}(h:IsDiff a b D):D.length≤a.length+b.length:=by
 have hn:(D.map (·.1)).Nodup:=by
  rw[List.nodup_iff_pairwise_ne,List.pairwise_map]
  refine h.1.imp fun{x y} hxy e=>?_
  rw[e,FV]at hxy
  cases hxy
 have:=G2 (m:=a.map (·.1)++b.map (·.1)) hn fun p hp=>by
  obtain⟨t,ht,rfl⟩:=List.mem_map.1 hp
  rcases ApG h ht with⟨f,hf,e⟩|⟨f,hf,e⟩
  ·exact List.mem_append_left _ (List.mem_map.2 ⟨f,hf,e⟩)
  ·exact List.mem_append_right _ (List.mem_map.2 ⟨f,hf,e⟩)
 simpa using this
theorem Aqq{a b:List Ao}{least:Int}{d:List Aoc×Int}(h:AqI a b least d)(ha:a.length≤6)(hb:b.length≤6):d.1.length≤144:=by
 by_cases hl:1≤least∧least≤100
 ·obtain⟨_,D,S,h1,h2,_,h4⟩:=h.2 hl
  have k1:=ArC h4
  have k2:=h2.length_eq
  have k3:=Ao9 (a:=a) (b:=b) (least:=least) (l:=D) (D:=D)
  have k4:=AqG h1
  have k5:D.length*D.length≤12*12:=Nat.mul_le_mul (by omega) (by omega)
  omega
 ·rw[h.1 hl]
  exact Nat.zero_le _
theorem AsA{a b:List Ao}(ha:Dq a=0)(hb:Dq b=0):MH a b=0:=by
 unfold MH
 rw[ha,hb]
 rfl
theorem Apr(h:Has P Aoh)(hT:Aph P)(hR:Aq6 P)(hRR:Aqx P)(hM:LV P)(hS:Apu P)(hAw:AoK P)(x:List Int×Int):
  Fn P Alz Aoe x fun(d:Bool) _=>d=true:=by
 obtain⟨raw,least⟩:=x
 refine AoT h ?_
 unfold AoB
 dsimp only
 refine(hT raw).to ?_
 rintro⟨a,b⟩ _ hd
 obtain⟨h1,h2,h3,h4,_⟩:=hd
 obtain⟨ca,la,na⟩:=Arv (l:=a) h1 h3
 obtain⟨cb,lb,nb⟩:=Arv (l:=b) h2 h4
 have hz:=AsA ca cb
 clear h1 h2 h3 h4 ca cb
 have hM0:=EU (a:=least) (n:=100) (by decide) (by decide)
 refine(hR (a,(b,least)) la lb (by dsimp only;omega) (by dsimp only;omega) hz).to ?_
 rintro(r:List Aoc×Int) _ hr
 have hr:AqI a b least r:=hr
 refine(hRR (a,(b,least)) la lb (by dsimp only;omega) (by dsimp only;omega) hz).to ?_
 rintro(s:List Aoc×Int) _ hs
 have hs:Aqv a b least s:=hs
 refine hM.at (by decide) (by decide) ?_
 dsimp only
 refine(hR (a,(b,IntKind.i64.wrap (1+G1 least 100))) la lb (by dsimp only;omega) (by dsimp only;omega) hz).to ?_
 rintro(u:List Aoc×Int) _ hu
 have hu:AqI a b (IntKind.i64.wrap (1+G1 least 100)) u:=hu
 refine hM.at (by decide) (by decide) ?_
 refine(hRR (a,(b,IntKind.i64.wrap (1+G1 least 100))) la lb (by dsimp only;omega) (by dsimp only;omega) hz).to ?_
 rintro(v:List Aoc×Int) _ hv
 have hv:Aqv a b (IntKind.i64.wrap (1+G1 least 100)) v:=hv
 have e1:=AqV hr hs
 have e2:=AqV hu hv
 subst e1 e2
 have k1:=Aqq hr na nb
 have k2:=Aqq hu na nb
 refine(hS r.1 (by omega)).to ?_
 rintro(c:Bool) _ hc
 have hc:c=true:=hc
 subst hc
 rw[cond_true,beq_self_eq_true]
 refine Ac.mid (fun c=>c=true) ⟨fun _=>?_,(fun k=>by cases k),trivial⟩ ?_
 ·refine(hS u.1 (by omega)).to ?_
  exact fun(c:Bool) _ hc=>hc
 ·rintro c rfl
  rw[beq_self_eq_true]
  refine Ac.mid (fun c=>c=true) ⟨fun _=>hAw.at rfl,(fun k=>by cases k),trivial⟩ ?_
  rintro c rfl
  rfl
end Go.VS
