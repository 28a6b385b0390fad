/- Contracts of the functions. -/
import Derived.Test.YtfkfmokccekccaaGreatDoorKS0
set_option linter.unusedVariables false
set_option linter.unusedSimpArgs false
open Int renaming natCast_nonneg → Qa0, le_refl → Qa1, toNat → Qb5
open List renaming drop_eq_nil_of_le → Qa2, length_map → Qa3, length_cons → Qa4, length_drop → Qa5, length_nil → Qa6, take_of_length_le → Qa7, getD_eq_getElem?_getD → Qa9, drop_eq_getElem_cons → Qb0, length_take → Qb1, length_replicate → Qb3, mem_of_mem_take → Qb4
open Nat renaming zero_le → Qa8, le_refl → Qb2
namespace Go.VS
variable{P:Pg}
def MX(P:Pg):Prop:=∀n:Int,Fn P AcH EH n fun(d:Bool) _=>d=true↔(0≤n∧n≤4096)
theorem Aje(h:Has P LO):MX P:=by
 intro n;refine AaQ h ?_;unfold Ui
 by_cases h1:n≥0
 ·rw[decide_eq_true h1,cond_true];show decide (n≤4096)=true↔_;rw[decide_eq_true_eq];exact⟨fun h=>⟨h1,h⟩,fun h=>h.2⟩
 ·rw[decide_eq_false h1,cond_false];exact⟨fun h=>(nomatch h),fun h=>absurd h.1 h1⟩
theorem MX.at(h:MX P){n:Int}(h0:0≤n)(h1:n≤4096){K:Bool→Unit→Prop}(hk:K true ()):Fn P AcH EH n K:=
 (h n).to fun(d:Bool) _ hd=>by
  have hd:d=true:=hd.2 ⟨h0,h1⟩;rw[hd];exact hk
def T9(P:Pg):Prop:=∀l:List Cz,l.length≤1000000→(∀c∈l,(0≤c.2.1∧c.2.1≤4096)∧(0≤c.2.2.2∧c.2.2.2≤4096))→Fn P AjM Gg l fun(d:Int×Int) _=>d=(NL l,OA l)
theorem Ajg(h:Has P H9)(hC:MX P):T9 P:=by
 intro l hl hb;refine Wx h ?_;unfold Qd
 refine Ac.mid (fun d=>d=(NL l,OA l)) ?_ fun d hd=>hd
 refine Au.of (fun q=>(0≤q.2.2∧q.2.2≤l.length)∧q.1=NL (l.take q.2.2.toNat)∧q.2.1=OA (l.take q.2.2.toNat)) (fun q=>(l.length -q.2.2).toNat) ⟨⟨Qa1 _,Qa0 _⟩,rfl,rfl⟩ ?_;rintro⟨u,v,i⟩ ⟨⟨i0,i1⟩,hu,hv⟩;dsimp only at i0 i1 hu hv⊢;refine⟨fun hi=>?_,fun hi=>?_⟩
 ·have hi:=of_decide_eq_true hi
  have hi2:i.toNat<l.length:=by omega
  have hc:=hb _ (A7 (d:=ID) hi2);have ho:=Rh (f:=fun c:Cz=>c.2.1) (d:=ID) hi2;have hn:=Rh (f:=fun c:Cz=>c.2.2.2) (d:=ID) hi2
  have bo:=V5 (f:=fun c:Cz=>c.2.1) (B:=4096) (l:=l.take i.toNat) fun c hc=>(hb c (Qb4 hc)).1
  have bn:=V5 (f:=fun c:Cz=>c.2.2.2) (B:=4096) (l:=l.take i.toNat) fun c hc=>(hb c (Qb4 hc)).2
  have ltk:(l.take i.toNat).length=i.toNat:=by rw[Qb1];omega
  rw[ltk]at bo bn;have hu2:u=((l.take i.toNat).map fun c:Cz=>c.2.1).sum:=hu;have hv2:v=((l.take i.toNat).map fun c:Cz=>c.2.2.2).sum:=hv;rw[←hu2]at ho bo;rw[←hv2]at hn bn
  refine Ac.mid (fun d=>d=(NL (l.take (i.toNat+1)),OA (l.take (i.toNat+1)))) ⟨⟨i0,hi⟩,hi2,hC.at hc.1.1 hc.1.2 ?_⟩ fun d hd=>by
   rw[w64 (by omega) (by omega),hd];exact⟨⟨⟨by omega,by omega⟩,by rw[show(i+1).toNat=i.toNat+1 by omega],by rw[show(i+1).toNat=i.toNat+1 by omega]⟩,by omega⟩
  refine Ac.mid (fun d=>d=NL (l.take (i.toNat+1))) ⟨fun _=>⟨⟨i0,hi⟩,hi2,?_⟩,fun hb=>(nomatch hb)⟩ ?_
  ·rw[w64 (by omega) (by omega)];exact ho.symm
  rintro d rfl;refine⟨⟨i0,hi⟩,hi2,hC.at hc.2.1 hc.2.2 ?_⟩;refine Ac.mid (fun d=>d=OA (l.take (i.toNat+1))) ⟨fun _=>⟨⟨i0,hi⟩,hi2,?_⟩,fun hb=>(nomatch hb)⟩ ?_
  ·rw[w64 (by omega) (by omega)];exact hn.symm
  rintro d rfl;rfl
 ·have hi:=of_decide_eq_false hi;rw[Qa7 (by omega)]at hu hv;exact Prod.ext hu hv
def T8(P:Pg):Prop:=∀x:List (Int×Int)×(Int×Int),x.1.length≤4096→(0≤x.2.1∧x.2.1≤4096)→(0≤x.2.2∧x.2.2≤4096)→Pm (0,0) x.2.1 x.2.2 x.1→Fn P AjI Gf x fun(d:List Cz) _=>d=Cj x.2.1 x.2.2 x.1 0 0
theorem AeX(o w:Int)(s:Int×Int):(cond (decide (s.1>o)) true (decide (s.2>w)))=true↔(o<s.1∨w<s.2):=by
 by_cases h:s.1>o
 ·rw[decide_eq_true h];exact⟨fun _=>.inl h,fun _=>rfl⟩
 ·rw[decide_eq_false h,cond_false,decide_eq_true_eq];exact⟨fun k=>.inr k,fun k=>by omega⟩
theorem Ajf(h:Has P H8):T8 P:=by
 rintro⟨p,m,n⟩ hp ⟨m0,m1⟩ ⟨n0,n1⟩ ha;dsimp only at hp m0 m1 n0 n1 ha;refine Ww h ?_;unfold Qc;dsimp only
 refine Ac.mid (fun d=>d=Cj m n p 0 0) ?_ fun _ h=>h
 refine Au.of (fun q=>(0≤q.2.2.2∧q.2.2.2≤p.length+1)∧q.1.length≤q.2.2.2.toNat∧(q.2.2.2≤p.length→((0≤q.2.1∧q.2.1≤m)∧(0≤q.2.2.1∧q.2.2.1≤n))∧Pm (q.2.1,q.2.2.1) m n (p.drop q.2.2.2.toNat)∧q.1++Cj m n (p.drop q.2.2.2.toNat) q.2.1 q.2.2.1=Cj m n p 0 0)∧(¬q.2.2.2≤p.length→q.1=Cj m n p 0 0)) (fun q=>(p.length+1 -q.2.2.2).toNat) ⟨⟨Qa1 _,by dsimp only;omega⟩,Qa8 _,fun _=>⟨⟨⟨Qa1 _,m0⟩,⟨Qa1 _,n0⟩⟩,ha,rfl⟩,fun k=>absurd (Qa0 _) k⟩ ?_
 rintro⟨o,i,j,k⟩ ⟨⟨k0,k1⟩,hol,hin,hout⟩;dsimp only at k0 k1 hol hin hout⊢;refine⟨fun hk=>?_,fun hk=>hout (of_decide_eq_false hk)⟩;have hk:=of_decide_eq_true hk;obtain⟨⟨⟨i0,i1⟩,⟨j0,j1⟩⟩,hasc,heq⟩:=hin hk;clear hin hout
 refine Ac.mid (fun q=>q.1.length≤k.toNat+1∧(k+1≤p.length→((0≤q.2.1∧q.2.1≤m)∧(0≤q.2.2∧q.2.2≤n))∧Pm (q.2.1,q.2.2) m n (p.drop (k.toNat+1))∧q.1++Cj m n (p.drop (k.toNat+1)) q.2.1 q.2.2=Cj m n p 0 0)∧(¬k+1≤p.length→q.1=Cj m n p 0 0)) ?_ fun q hq=>by
  rw[w64 (by omega) (by omega)];refine⟨⟨⟨by omega,by omega⟩,by rw[show(k+1).toNat=k.toNat+1 by omega];exact hq.1,?_,hq.2.2⟩,by omega⟩
  rw[show(k+1).toNat=k.toNat+1 by omega];exact hq.2.1
 refine Ac.mid (fun s=>((i≤s.1∧s.1≤m)∧(j≤s.2∧s.2≤n))∧((k<p.length→(s.1<m∧s.2<n)∧Pm (s.1+1,s.2+1) m n (p.drop (k.toNat+1))∧Cj m n (p.drop k.toNat) i j=Ir i j s++Cj m n (p.drop (k.toNat+1)) (s.1+1) (s.2+1))∧(¬k<p.length→Cj m n (p.drop k.toNat) i j=Ir i j s))) ⟨fun hb=>?_,fun hb=>?_⟩ ?_
 ·have hb:=of_decide_eq_true hb
  have hb2:k.toNat<p.length:=by omega
  have hdr:p.drop k.toNat=p.getD k.toNat (0,0)::p.drop (k.toNat+1):=by rw[Qb0 hb2,getD_eq hb2]
  refine⟨⟨k0,hb⟩,hb2,?_⟩;rw[hdr]at hasc⊢;generalize p.getD k.toNat (0,0)=s at hasc⊢;obtain⟨⟨q1,q2,q3,q4⟩,q5⟩:=hasc;dsimp only at q1 q2;exact⟨⟨⟨q1,by omega⟩,⟨q2,by omega⟩⟩,fun _=>⟨⟨q3,q4⟩,q5,rfl⟩,fun h=>absurd hb h⟩
 ·have hb:=of_decide_eq_false hb;rw[Qa2 (show p.length≤k.toNat by omega)];exact⟨⟨⟨i1,Qa1 _⟩,⟨j1,Qa1 _⟩⟩,fun h=>absurd h hb,fun _=>rfl⟩
 rintro⟨s1,s2⟩ ⟨⟨⟨a1,a2⟩,⟨a3,a4⟩⟩,hlt,hge⟩;dsimp only at a1 a2 a3 a4 hlt hge⊢;rw[w64 (n:=s1 -i) (by omega) (by omega),w64 (n:=s2 -j) (by omega) (by omega),w64 (n:=s1+1) (by omega) (by omega),w64 (n:=s2+1) (by omega) (by omega)];refine Ac.mid (fun e=>e=o++Ir i j (s1,s2)) ⟨fun hb=>?_,fun hb=>?_⟩ ?_
 ·have hb:=(AeX i j (s1,s2)).1 hb;refine⟨by simp only[Qa4,Qa6];omega,?_⟩
  unfold Ir;rw[if_pos hb]
 ·have hb:¬(i<s1∨j<s2):=fun h=>by rw[(AeX i j (s1,s2)).2 h]at hb;cases hb
  unfold Ir;rw[if_neg hb,List.append_nil]
 rintro e rfl;refine Ac.mid (fun q=>q=(s1+1,s2+1)) (by simp only[and_self]) ?_;rintro q rfl;dsimp only
 have hgl:(Ir i j (s1,s2)).length≤1:=by unfold Ir;split<;>simp
 refine⟨by rw[List.length_append];omega,fun hk2=>?_,fun hk2=>?_⟩
 ·obtain⟨⟨b1,b2⟩,b3,b4⟩:=hlt (by omega);exact⟨⟨⟨by omega,by omega⟩,⟨by omega,by omega⟩⟩,b3,by rw[List.append_assoc,←b4];exact heq⟩
 ·rw[←hge (by omega)];exact heq
def Td(a b:List Int)(r:Nat)(j:Int)(w:List Int):Prop:=w.length=b.length+1∧∀c:Nat,j<(c:Int)→c≤b.length→w.getD c 0=((Dx (a.drop r) (b.drop c):Nat):Int)
def M3(a b:List Int)(i:Int)(D:List (List Int)):Prop:=D.length=a.length+1∧∀r:Nat,i<(r:Int)→r≤a.length→Td a b r (-1) (D.getD r [])
theorem Afw{a b:List Int}{i:Int}{D:List (List Int)}(h:M3 a b i D){k:Nat}(hk:(k:Int)≤i)(w:List Int):M3 a b i (D.set k w):=by
 refine⟨by rw[List.length_set];exact h.1,fun r h1 h2=>?_⟩
 rw[Qa9,List.getElem?_set_ne (by omega),←Qa9];exact h.2 r h1 h2
theorem AiZ{D:List (List Int)}{k:Nat}(hk:k<D.length)(w:List Int):(D.set k w).getD k []=w:=by
 rw[C8 hk,if_pos rfl]
theorem Ak9{a b:List Int}{r:Nat}{j:Int}{w:List Int}(h:Td a b r j w)(j0:0≤j)(j1:j≤b.length){v:Int}(hv:v=((Dx (a.drop r) (b.drop j.toNat):Nat):Int)):Td a b r (j -1) (w.set j.toNat v):=by
 refine⟨by rw[List.length_set];exact h.1,fun c h1 h2=>?_⟩
 rw[C8 (by rw[h.1];omega)]
 by_cases e:j.toNat=c
 ·rw[if_pos e,hv,e]
 ·rw[if_neg e];exact h.2 c (by omega) h2
theorem Adp(a b:List Int)(i j:Nat):Dx (a.drop i) (b.drop j)≤a.length+b.length:=by
 have h:=Ah2 _ (a.drop i) (b.drop j) (Qb2 _);rw[Qa5,Qa5]at h;omega
theorem Ke{α:Type}{l:List α}{k:Nat}{d:α}(h:k<l.length):l.drop k=l.getD k d::l.drop (k+1):=by rw[Qb0 h,getD_eq h]
def Rw(P:Pg):Prop:=∀x:List Int×List Int,x.1.length≤4096→x.2.length≤4096→Fn P AjH Fj x fun(d:List (List Int)) _=>M3 x.1 x.2 (-1) d
theorem AgZ(h:Has P Hj):Rw P:=by
 rintro⟨a,b⟩ ha hb;dsimp only at ha hb;refine UT h ?_;unfold ON;dsimp only;rw[w64 (n:=((a.length:Nat):Int)+1) (by omega) (by omega),w64 (n:=((b.length:Nat):Int)+1) (by omega) (by omega)];refine⟨⟨by omega,by omega,by omega⟩,?_⟩
 refine Ac.mid (fun D=>M3 a b (-1) D) ?_ fun _ h=>h
 refine Au.of (fun q=>(-1≤q.2∧q.2≤a.length)∧M3 a b q.2 q.1) (fun q=>(q.2+1).toNat) ⟨⟨by dsimp only;omega,Qa1 _⟩,⟨by rw[Qb3];omega,fun r h1 h2=>by dsimp only at h1;omega⟩⟩ ?_
 rintro⟨D,i⟩ ⟨⟨i0,i1⟩,hD⟩;dsimp only at i0 i1 hD⊢;refine⟨fun hi=>?_,fun hi=>?_⟩
 ·have hi:i≥0:=of_decide_eq_true hi;have hDl:=hD.1
  have hi2:i.toNat<D.length:=by omega
  refine Ac.mid (fun E=>M3 a b (i -1) E) ⟨⟨by omega,by omega,by omega⟩,⟨hi,by omega⟩,hi2,?_⟩ fun E hE=>by
   rw[w64 (by omega) (by omega)];exact⟨⟨⟨by omega,by omega⟩,hE⟩,by omega⟩
  refine Ac.mid (fun E=>M3 a b (i -1) E) ?_ fun _ h=>h
  refine Au.of (fun q=>(-1≤q.2∧q.2≤b.length)∧M3 a b i q.1∧Td a b i.toNat q.2 (q.1.getD i.toNat [])) (fun q=>(q.2+1).toNat) ⟨⟨by dsimp only;omega,Qa1 _⟩,Afw hD (by omega) _,?_⟩ ?_
  ·dsimp only;rw[AiZ hi2];exact⟨by rw[Qb3];omega,fun c h1 h2=>by omega⟩
  rintro⟨E,j⟩ ⟨⟨j0,j1⟩,hE,hR⟩;dsimp only at j0 j1 hE hR⊢;refine⟨fun hj=>?_,fun hj=>?_⟩
  ·have hj:j≥0:=of_decide_eq_true hj;have hEl:=hE.1;have hRl:=hR.1
   have hi3:i.toNat<E.length:=by omega
   have hj3:j.toNat<(E.getD i.toNat []).length:=by omega
   have bi:0≤i∧i<((E.length:Nat):Int):=by omega
   have bj:0≤j∧j<(((E.getD i.toNat []).length:Nat):Int):=by omega
   have key:∀v:Int,v=((Dx (a.drop i.toNat) (b.drop j.toNat):Nat):Int)→M3 a b i (E.set i.toNat ((E.getD i.toNat []).set j.toNat v))∧Td a b i.toNat (j -1) ((E.set i.toNat ((E.getD i.toNat []).set j.toNat v)).getD i.toNat []):=fun v hv=>⟨Afw hE (by omega) _,by rw[AiZ hi3];exact Ak9 hR hj j1 hv⟩
   refine Ac.mid (fun M=>M3 a b i M∧Td a b i.toNat (j -1) (M.getD i.toNat [])) ?_ fun M hM=>by
    rw[w64 (by omega) (by omega)];exact⟨⟨⟨by omega,by omega⟩,hM⟩,by omega⟩
   refine Ac.mid (fun M=>M3 a b i M∧Td a b i.toNat (j -1) (M.getD i.toNat [])) ?_ fun _ h=>h
   refine Ac.mid (fun M=>M3 a b i M∧Td a b i.toNat (j -1) (M.getD i.toNat [])) ⟨fun hc=>⟨bi,hi3,hi3,bj,hi3,hj3,key _ ?_⟩,fun hc=>?_⟩ fun _ h=>h
   ·have hc:i=((a.length:Nat):Int):=by simpa using hc
    rw[w64 (by omega) (by omega),Qa2 (show a.length≤i.toNat by omega),L0,Qa5];omega
   have hc:i≠((a.length:Nat):Int):=by simpa using hc
   refine Ac.mid (fun M=>M3 a b i M∧Td a b i.toNat (j -1) (M.getD i.toNat [])) ⟨fun hc2=>⟨bi,hi3,hi3,bj,hi3,hj3,key _ ?_⟩,fun hc2=>?_⟩ fun _ h=>h
   ·have hc2:j=((b.length:Nat):Int):=by simpa using hc2
    rw[w64 (by omega) (by omega),Qa2 (as:=b) (show b.length≤j.toNat by omega),I8,Qa5];omega
   have hc2:j≠((b.length:Nat):Int):=by simpa using hc2
   have ai:i.toNat<a.length:=by omega
   have bj2:j.toNat<b.length:=by omega
   refine Ac.mid (fun e=>e=(a.getD i.toNat 0==b.getD j.toNat 0)) ⟨⟨hi,by omega⟩,ai,⟨hj,by omega⟩,bj2,rfl,trivial⟩ ?_;rintro e rfl;have hn1:=hE.2 (i.toNat+1) (by omega) (by omega);have hn1l:=hn1.1
   have ei:(i+1).toNat=i.toNat+1:=by omega
   have ej:(j+1).toNat=j.toNat+1:=by omega
   have da:=Ke (d:=(0:Int)) ai;have db:=Ke (d:=(0:Int)) bj2;rw[w64 (n:=i+1) (by omega) (by omega),w64 (n:=j+1) (by omega) (by omega),ei,ej]
   refine Ac.mid (fun M=>M3 a b i M∧Td a b i.toNat (j -1) (M.getD i.toNat [])) ⟨fun hq=>?_,fun hq=>?_⟩ fun _ h=>h
   ·have hq:=eq_of_beq hq
    refine Ac.mid (fun M=>M3 a b i M∧Td a b i.toNat (j -1) (M.getD i.toNat [])) ⟨bi,hi3,⟨by omega,by omega⟩,by omega,by omega,⟨by omega,by rw[hn1l];omega⟩,by omega,by rw[hn1l];omega,hi3,bj,⟨hi3,hj3,key _ ?_⟩,trivial⟩ fun _ h=>h
    rw[hn1.2 (j.toNat+1) (by omega) (by omega),da,db,Uz hq]
   ·have hq:=beq_eq_false_iff_ne.1 hq;have v1:=hR.2 (j.toNat+1) (by omega) (by omega);have v2:=hn1.2 j.toNat (by omega) (by omega);have b1:=Adp a b i.toNat (j.toNat+1);have b2:=Adp a b (i.toNat+1) j.toNat
    refine Ac.mid (fun M=>M3 a b i M∧Td a b i.toNat (j -1) (M.getD i.toNat [])) ⟨bi,hi3,⟨by omega,by omega⟩,by omega,by omega,⟨hj,by rw[hn1l];omega⟩,by omega,by rw[hn1l];omega,bi,hi3,hi3,⟨by omega,by omega⟩,hi3,by omega,hi3,bj,⟨hi3,hj3,key _ ?_⟩,trivial⟩ fun _ h=>h
    rw[v1,v2]
    have hd:Dx (a.drop i.toNat) (b.drop j.toNat)=1+min (Dx (a.drop (i.toNat+1)) (b.drop j.toNat)) (Dx (a.drop i.toNat) (b.drop (j.toNat+1))):=by
     have:=UA hq (a.drop (i.toNat+1)) (b.drop (j.toNat+1));rw[←da,←db]at this;exact this
    rw[hd]
    split<;>rw[w64 (by omega) (by omega)]<;>omega
  ·have hj:=of_decide_eq_false hj;refine⟨hE.1,fun r h1 h2=>?_⟩
   by_cases e:r=i.toNat
   ·subst e;exact⟨hR.1,fun c h3 h4=>hR.2 c (by omega) h4⟩
   ·exact hE.2 r (by omega) h2
 ·have hi:=of_decide_eq_false hi;exact⟨hD.1,fun r h1 h2=>hD.2 r (by omega) h2⟩
def Ua(P:Pg):Prop:=∀x:List Int×List Int,x.1.length≤4096→x.2.length≤4096→Fn P AjJ Gh x fun(d:List Cz) _=>d=Cj x.1.length x.2.length (Cq x.1 x.2 0 0) 0 0
theorem Ajh(h:Has P Ia)(hT:Rw P)(hM:T8 P):Ua P:=by
 rintro⟨a,b⟩ ha hb;dsimp only at ha hb;refine Wy h ?_;unfold Qe;refine(hT (a,b) ha hb).to ?_;rintro(D:List (List Int)) _ hD;have hD:M3 a b (-1) D:=hD;have hDl:=hD.1;dsimp only;have hasc:=Aab _ a b 0 0 (Qb2 _);rw[Int.zero_add,Int.zero_add]at hasc;have hle:=TD hasc (Qa0 _) (Qa0 _)
 refine Ac.mid (fun p=>p=Cq a b 0 0) ?_ fun p hp=>?_
 ·refine Au.of (fun q=>((0≤q.2.1∧q.2.1≤a.length)∧(0≤q.2.2∧q.2.2≤b.length))∧q.1.length≤q.2.1.toNat∧q.1++Cq (a.drop q.2.1.toNat) (b.drop q.2.2.toNat) q.2.1 q.2.2=Cq a b 0 0) (fun q=>(a.length -q.2.1).toNat+(b.length -q.2.2).toNat) ⟨⟨⟨Qa1 _,Qa0 _⟩,⟨Qa1 _,Qa0 _⟩⟩,Qb2 _,rfl⟩ ?_
  rintro⟨p,i,j⟩ ⟨⟨⟨i0,i1⟩,⟨j0,j1⟩⟩,hpl,hp⟩;dsimp only at i0 i1 j0 j1 hpl hp⊢
  have hout:cond (decide (i<((a.length:Nat):Int))) true (decide (j<((b.length:Nat):Int)))=true↔(i<a.length∨j<b.length):=by
   by_cases h:i<((a.length:Nat):Int)
   ·rw[decide_eq_true h];exact⟨fun _=>.inl h,fun _=>rfl⟩
   ·rw[decide_eq_false h,cond_false,decide_eq_true_eq];exact⟨fun k=>.inr k,fun k=>by omega⟩
  refine⟨fun hc=>?_,fun hc=>?_⟩
  ·have hc:=hout.1 hc
   have e1:(i+1).toNat=i.toNat+1:=by omega
   have e2:(j+1).toNat=j.toNat+1:=by omega
   rw[w64 (n:=i+1) (by omega) (by omega),w64 (n:=j+1) (by omega) (by omega),e1]
   have hin:cond (decide (i<((a.length:Nat):Int))) (decide (j<((b.length:Nat):Int))) false=true↔(i<a.length∧j<b.length):=by
    by_cases h:i<((a.length:Nat):Int)
    ·rw[decide_eq_true h,cond_true,decide_eq_true_eq];exact⟨fun k=>⟨h,k⟩,fun k=>k.2⟩
    ·rw[decide_eq_false h];exact⟨fun k=>(nomatch k),fun k=>absurd k.1 h⟩
   refine Ac.mid (fun q=>(((0≤q.2.1∧q.2.1≤a.length)∧(0≤q.2.2∧q.2.2≤b.length))∧q.1.length≤q.2.1.toNat∧q.1++Cq (a.drop q.2.1.toNat) (b.drop q.2.2.toNat) q.2.1 q.2.2=Cq a b 0 0)∧(a.length -q.2.1).toNat+(b.length -q.2.2).toNat<(a.length -i).toNat+(b.length -j).toNat) ?_ fun _ h=>h
   refine Ac.mid (fun q=>(((0≤q.2.1∧q.2.1≤a.length)∧(0≤q.2.2∧q.2.2≤b.length))∧q.1.length≤q.2.1.toNat∧q.1++Cq (a.drop q.2.1.toNat) (b.drop q.2.2.toNat) q.2.1 q.2.2=Cq a b 0 0)∧(a.length -q.2.1).toNat+(b.length -q.2.2).toNat<(a.length -i).toNat+(b.length -j).toNat) ?_ fun _ h=>h
   refine Ac.mid (fun e=>e=true↔(i<a.length∧j<b.length)∧a.getD i.toNat 0=b.getD j.toNat 0) ⟨fun k=>⟨i0,(hin.1 k).1⟩,fun k=>by have:=(hin.1 k).1;omega,fun k=>⟨j0,(hin.1 k).2⟩,fun k=>by have:=(hin.1 k).2;omega,?_,trivial⟩ ?_
   ·by_cases h:i<a.length∧j<b.length
    ·dsimp only;rw[hin.2 h,cond_true,beq_iff_eq];exact⟨fun k=>⟨h,k⟩,fun k=>k.2⟩
    ·rw[show cond (decide (i<((a.length:Nat):Int))) (decide (j<((b.length:Nat):Int))) false=false from eq_false_of_ne_true fun k=>h (hin.1 k)];exact⟨fun k=>(nomatch k),fun k=>absurd k.1 h⟩
   intro e he
   refine Ac.mid (fun q=>(((0≤q.2.1∧q.2.1≤a.length)∧(0≤q.2.2∧q.2.2≤b.length))∧q.1.length≤q.2.1.toNat∧q.1++Cq (a.drop q.2.1.toNat) (b.drop q.2.2.toNat) q.2.1 q.2.2=Cq a b 0 0)∧(a.length -q.2.1).toNat+(b.length -q.2.2).toNat<(a.length -i).toNat+(b.length -j).toNat) ⟨fun hq=>?_,fun hq=>?_⟩ fun _ h=>h
   ·obtain⟨⟨q1,q2⟩,q3⟩:=he.1 hq
    have ai:i.toNat<a.length:=by omega
    have bj:j.toNat<b.length:=by omega
    refine⟨by simp only[Qa4,Qa6];omega,?_⟩
    dsimp only;refine⟨⟨⟨⟨by omega,by omega⟩,⟨by omega,by omega⟩⟩,by rw[List.length_append];simp only[Qa4,Qa6];omega,?_⟩,by omega⟩
    rw[Ke (d:=(0:Int)) ai,Ke (d:=(0:Int)) bj,Su q3]at hp;rw[e1,e2,List.append_assoc];exact hp
   ·have hno:¬((i<a.length∧j<b.length)∧a.getD i.toNat 0=b.getD j.toNat 0):=fun k=>by rw[he.2 k]at hq;cases hq
    have row:∀r:Nat,r≤a.length→(D.getD r []).length=b.length+1∧∀c:Nat,c≤b.length→(D.getD r []).getD c 0=((Dx (a.drop r) (b.drop c):Nat):Int):=fun r hr=>⟨(hD.2 r (by omega) hr).1,fun c hc=>(hD.2 r (by omega) hr).2 c (by omega) hc⟩
    refine Ac.mid (fun f=>f=true↔i<a.length∧Dx (a.drop (i.toNat+1)) (b.drop j.toNat)+1=Dx (a.drop i.toNat) (b.drop j.toNat)) ⟨fun k=>?_,fun k=>?_,fun k=>?_,fun k=>?_,fun k=>?_,fun k=>?_,fun k=>?_,fun k=>?_,?_,trivial⟩ ?_
    ·have k:=of_decide_eq_true k;omega
    ·have k:=of_decide_eq_true k;omega
    ·have k:=of_decide_eq_true k;have:=(row (i.toNat+1) (by omega)).1;omega
    ·have k:=of_decide_eq_true k;have:=(row (i.toNat+1) (by omega)).1;omega
    ·have k:=of_decide_eq_true k;omega
    ·have k:=of_decide_eq_true k;omega
    ·have k:=of_decide_eq_true k;have:=(row i.toNat (by omega)).1;omega
    ·have k:=of_decide_eq_true k;have:=(row i.toNat (by omega)).1;omega
    ·by_cases h:i<((a.length:Nat):Int)
     ·have r1:=(row (i.toNat+1) (by omega)).2 j.toNat (by omega);have r2:=(row i.toNat (by omega)).2 j.toNat (by omega);have b1:=Adp a b (i.toNat+1) j.toNat;dsimp only;rw[decide_eq_true h,cond_true,beq_iff_eq,r1,r2,w64 (by omega) (by omega)];exact⟨fun k=>⟨h,by omega⟩,fun k=>by omega⟩
     ·dsimp only;rw[decide_eq_false h];exact⟨fun k=>(nomatch k),fun k=>absurd k.1 h⟩
    intro f hf
    refine Ac.mid (fun q=>((0≤q.1∧q.1≤a.length)∧(0≤q.2∧q.2≤b.length))∧p.length≤q.1.toNat∧Cq (a.drop q.1.toNat) (b.drop q.2.toNat) q.1 q.2=Cq (a.drop i.toNat) (b.drop j.toNat) i j∧(a.length -q.1).toNat+(b.length -q.2).toNat<(a.length -i).toNat+(b.length -j).toNat) ⟨fun hf2=>?_,fun hf2=>?_⟩ fun q hq=>⟨⟨hq.1,hq.2.1,by dsimp only;rw[hq.2.2.1];exact hp⟩,hq.2.2.2⟩
    ·obtain⟨f1,f2⟩:=hf.1 hf2
     have ai:i.toNat<a.length:=by omega
     refine⟨⟨⟨by omega,by omega⟩,⟨j0,j1⟩⟩,by dsimp only;omega,?_,by dsimp only;omega⟩
     dsimp only;rw[e1]
     by_cases hj:j<b.length
     ·have bj:j.toNat<b.length:=by omega
      have hne:a.getD i.toNat 0≠b.getD j.toNat 0:=fun k=>hno ⟨⟨f1,hj⟩,k⟩
      rw[Ke (d:=(0:Int)) ai,Ke (d:=(0:Int)) bj]at f2⊢;rw[NY hne f2]
     ·rw[Qa2 (as:=b) (show b.length≤j.toNat by omega),HV,HV]
    ·have hnf:¬(i<a.length∧Dx (a.drop (i.toNat+1)) (b.drop j.toNat)+1=Dx (a.drop i.toNat) (b.drop j.toNat)):=fun k=>by rw[hf.2 k]at hf2;cases hf2
     have hj:j<b.length:=by
      refine Classical.byContradiction fun hj=>?_
      have hi:i<a.length:=by omega
      refine hnf ⟨hi,?_⟩;rw[Qa2 (as:=b) (show b.length≤j.toNat by omega),I8,I8,Qa5,Qa5];omega
     have bj:j.toNat<b.length:=by omega
     refine⟨⟨⟨i0,i1⟩,⟨by omega,by omega⟩⟩,hpl,?_,by dsimp only;omega⟩
     dsimp only;rw[e2]
     by_cases hi:i<a.length
     ·have ai:i.toNat<a.length:=by omega
      have hne:a.getD i.toNat 0≠b.getD j.toNat 0:=fun k=>hno ⟨⟨hi,hj⟩,k⟩
      have f2:¬Dx (a.drop (i.toNat+1)) (b.drop j.toNat)+1=Dx (a.drop i.toNat) (b.drop j.toNat):=fun k=>hnf ⟨hi,k⟩
      rw[Ke (d:=(0:Int)) ai,Ke (d:=(0:Int)) bj]at f2⊢;rw[LJ hne f2]
     ·rw[Qa2 (as:=a) (show a.length≤i.toNat by omega),FN,FN]
  ·have hc:¬(i<a.length∨j<b.length):=fun k=>by rw[hout.2 k]at hc;cases hc
   rw[Qa2 (as:=a) (show a.length≤i.toNat by omega),FN,List.append_nil]at hp;exact hp
 ·subst hp;refine(hM (Cq a b 0 0,(((a.length:Nat):Int),((b.length:Nat):Int))) (by have:=hle.1;dsimp only at this⊢;omega) ⟨Qa0 _,by dsimp only;omega⟩ ⟨Qa0 _,by dsimp only;omega⟩ hasc).to ?_
  rintro(d:List Cz) _ hd;exact hd
def MY(P:Pg):Prop:=∀x:List Bs×List Bs,x.1.length≤4096→x.2.length≤4096→Fn P AjK Fi x fun(d:List Cz) _=>d=Cj x.1.length x.2.length (Cq x.1 x.2 0 0) 0 0
theorem Acm(h:Has P Hi)(hI:YQ P)(hW:Ua P):MY P:=by
 rintro⟨a,b⟩ ha hb;dsimp only at ha hb;refine US h ?_;unfold OM;refine(hI [a,b] (by simp) fun l hl=>?_).to ?_
 ·simp only[List.mem_cons,List.not_mem_nil,or_false]at hl
  rcases hl with rfl|rfl
  ·exact ha
  ·exact hb
 rintro(d:List (List Int)) _ ⟨f,hf,hd⟩;have hd:d=[a.map f,b.map f]:=hd;subst hd
 have hmap:Cq (a.map f) (b.map f) 0 0=Cq a b 0 0:=AfA f _ _ _ 0 0 (Qb2 _) fun u hu v hv e=>hf u (by simp[hu]) v (by simp[hv]) e
 refine Ac.mid (fun d=>d=Cj a.length b.length (Cq a b 0 0) 0 0) ⟨by simp,by simp,by simp,by simp,⟨by simp,by simp,(hW (a.map f,b.map f) (by dsimp only;rw[Qa3];exact ha) (by dsimp only;rw[Qa3];exact hb)).to ?_⟩,trivial⟩ fun d hd=>hd
 rintro(d:List Cz) _ hd;refine⟨?_,trivial⟩;rw[show d=_ from hd];dsimp only;rw[hmap,Qa3,Qa3]
def MW(P:Pg):Prop:=∀x:Bs×Bs,x.1.length≤140737488351232→x.2.length≤140737488351232→Fn P AjL Fh x fun(d:List Cz×Int) _=>d=if B6 x.1=0∧B6 x.2=0 then(JH x.1 x.2,0)else([],1)
theorem Ack(h:Has P Hh)(hT:MZ P)(hL:MY P):MW P:=by
 rintro⟨a,b⟩ ha hb;dsimp only at ha hb;refine UR h ?_;unfold OL;dsimp only;refine(hT a ha).to ?_;rintro(d:List Bs×Int) _ hd
 have hd:d=if B6 a=0 then(lnF a,0)else([],1):=hd
 by_cases h1:B6 a=0
 ·rw[if_pos h1]at hd;subst hd;refine⟨fun hb=>absurd hb (by simp),fun _=>?_⟩;refine(hT b hb).to ?_;rintro(d:List Bs×Int) _ hd
  have hd:d=if B6 b=0 then(lnF b,0)else([],1):=hd
  by_cases h2:B6 b=0
  ·rw[if_pos h2]at hd;subst hd;rw[if_pos ⟨h1,h2⟩];refine⟨fun hb=>absurd hb (by simp),fun _=>?_⟩;refine(hL (lnF a,lnF b) (Pq h1).1 (Pq h2).1).to ?_;rintro(d:List Cz) _ hd;have hd:d=JH a b:=hd;rw[hd]
  ·rw[if_neg h2]at hd;subst hd;rw[if_neg fun k=>h2 k.2];exact⟨fun _=>rfl,fun hb=>absurd hb (by simp)⟩
 ·rw[if_neg h1]at hd;subst hd;rw[if_neg fun k=>h1 k.1];exact⟨fun _=>rfl,fun hb=>absurd hb (by simp)⟩
def FU(P:Pg):Prop:=∀x:Bs×Bs,x.1.length≤140737488351232→x.2.length≤140737488351232→Fn P AcI Di x fun(d:Int×(Int×Int)) _=>d=Wr x.1 x.2
theorem Acl(h:Has P Hq)(hB:MW P)(hS:T9 P):FU P:=by
 rintro⟨a,b⟩ ha hb;dsimp only at ha hb;refine U1 h ?_;unfold OU;dsimp only;refine(hB (a,b) ha hb).to ?_;rintro(d:List Cz×Int) _ hd
 have hd:d=if B6 a=0∧B6 b=0 then(JH a b,0)else([],1):=hd
 unfold Wr
 by_cases h1:B6 a=0∧B6 b=0
 ·rw[if_pos h1]at hd⊢;subst hd;obtain⟨s1,s2,s3,_⟩:=ZT h1.1 h1.2;refine(hS (JH a b) (Afq h1.1 h1.2) s3).to ?_;rintro(d:Int×Int) _ hd;have hd:d=(NL (JH a b),OA (JH a b)):=hd;rw[hd,s1,s2]
 ·rw[if_neg h1]at hd⊢;subst hd;refine(hS [] (Qa8 _) fun c hc=>nomatch hc).to ?_;rintro(d:Int×Int) _ hd;have hd:d=(0,0):=hd;rw[hd]
theorem Li.at(h:Li P){a b:Bs}(ha:a.length≤140737488351232)(hb:b.length≤140737488351232){K:Int×(Int×Int)→Unit→Prop}(hk:K (Wr a b) ()):Fn P AcF DE (a,b) K:=
 (h (a,b) ha hb).to fun(d:Int×(Int×Int)) _ hd=>by
  have hd:d=Wr a b:=hd;rw[hd];exact hk
theorem MU.at(h:MU P){a b:Bs}(ha:B6 a=0)(hb:B6 b=0)(la:a.length≤140737488351232)(lb:b.length≤140737488351232){K:List Cz×Int→Unit→Prop}(hk:K (JH a b,0) ()):Fn P Ahj Dk (a,b) K:=
 (h (a,b) la lb).to fun(d:List Cz×Int) _ hd=>by
  have hd:d=if B6 a=0∧B6 b=0 then(JH a b,0)else([],1):=hd
  rw[hd,if_pos ⟨ha,hb⟩];exact hk
def Lk(P:Pg):Prop:=∀x:List Stat×List Stat,x.1.length≤1000000000→Fn P AcM D0 x fun(d:Bool) _=>d=decide (x.1=x.2)
theorem AgU(h:Has P JP):Lk P:=by
 rintro⟨l,m⟩ hn;dsimp only at hn;refine Y6 h ?_;unfold Sy;dsimp only;refine⟨fun hc=>(Ami (by simpa using hc)).symm,fun hc=>?_⟩
 have hlm:l.length=m.length:=by
  have hc:((l.length:Nat):Int)=((m.length:Nat):Int):=by simpa using hc
  omega
 refine Ac.mid (fun _=>decide (l=m)=true) ?_ fun _ h=>h.symm
 refine Au.of (fun q=>(0≤q.2∧q.2≤l.length)∧∀j,j<q.2.toNat→l.getD j DN=m.getD j DN) (fun q=>(l.length -q.2).toNat) ⟨⟨Qa1 _,Qa0 _⟩,fun j hj=>absurd hj (by simp)⟩ ?_;rintro⟨q,i⟩ ⟨⟨i0,i1⟩,hq⟩;dsimp only at i0 i1 hq⊢;refine⟨fun hi=>?_,fun hi=>?_⟩
 ·have hi:=of_decide_eq_true hi
  have hi2:i.toNat<l.length:=by omega
  refine Ac.mid (fun _=>l.getD i.toNat DN=m.getD i.toNat DN) ⟨⟨i0,hi⟩,hi2,⟨i0,by omega⟩,by omega,fun hb=>?_,fun hb=>?_⟩ fun d hd=>?_
  ·exact(Anq i.toNat (d:=DN) fun e=>by rw[e]at hb;simp at hb).symm
  ·simp only[Bool.not_eq_false',Bool.and_true,Bool.and_eq_true,beq_iff_eq]at hb;exact Prod.ext hb.1 (Prod.ext hb.2.1 hb.2.2)
  ·rw[w64 (by omega) (by omega)];refine⟨⟨⟨by omega,by omega⟩,fun j hj=>?_⟩,by omega⟩
   by_cases hji:j=i.toNat
   ·subst hji;exact hd
   ·exact hq j (by omega)
 ·have hi:=of_decide_eq_false hi
  exact Akl hlm fun j hj=>hq j (by omega)
theorem Lk.at(h:Lk P){l m:List Stat}(hl:l.length≤1000000000){K:Bool→Unit→Prop}(hk:K (decide (l=m)) ()):Fn P AcM D0 (l,m) K:=
 (h (l,m) hl).to fun(d:Bool) _ hd=>by
  have hd:d=decide (l=m):=hd;subst hd;exact hk
theorem Lv:∀{l:List Ao},Du l→∀p,(findF l p).1.length≤140737488351232
 |[],_,p=>by unfold findF;exact Qa8 _
 |f::l,h,p=>by
  unfold findF;split
  ·exact(h.2 f (List.mem_cons_self ..)).2
  ·exact Lv (l:=l) ⟨by have:=h.1;simp only[Qa4]at this;omega,fun x hx=>h.2 x (List.mem_cons_of_mem _ hx)⟩ p
def stF(a b:List Ao)(t:Bz):Stat:=(t.1,((Wr (findF a t.1).1 (findF b t.1).1).1,(Wr (findF a t.1).1 (findF b t.1).1).2.1))
def M4(a b:List Ao)(d:List Stat×Int):Prop:=∃D:List Bz×Int,Rq a b D∧d=if D.2=0 then(D.1.map (stF a b),0)else([],D.2)
theorem Wj{a b:List Ao}{d e:List Stat×Int}(hd:M4 a b d)(he:M4 a b e):d=e:=by
 obtain⟨D,h1,h2⟩:=hd;obtain⟨E,h3,h4⟩:=he;have:=AfX h1 h3;subst this;rw[h2,h4]
theorem YF{a b:List Ao}{d:List Stat×Int}(h:M4 a b d):d.1.length≤a.length+b.length:=by
 obtain⟨D,h1,h2⟩:=h;have:=Pr h1;rw[h2];split
 ·show(D.1.map (stF a b)).length≤_;rw[Qa3];exact this
 ·exact Qa8 _
def N0(P:Pg):Prop:=∀x:List Ao×List Ao,Du x.1→Du x.2→Fn P zS7 CR x fun(d:List Stat×Int) _=>M4 x.1 x.2 d
theorem Ag0(h:Has P Ig)(hT:Ue P)(hF:M1 P)(hC:Li P):N0 P:=by
 rintro⟨a,b⟩ ha hb;dsimp only at ha hb;refine WD h ?_;unfold Qi;refine(hT (a,b) ha hb).to ?_;rintro(d:List Bz×Int) _ hd;have hd:Rq a b d:=hd;have hdl:=Pr hd;have ha1:=ha.1;have hb1:=hb.1;refine⟨fun hc=>⟨d,hd,by rw[if_neg (by simpa using hc)]⟩,fun hc=>?_⟩
 have h0:d.2=0:=by simpa using hc
 refine Ac.mid (fun o=>o=d.1.map (stF a b)) ?_ fun o ho=>⟨d,hd,by rw[if_pos h0,ho]⟩
 refine Au.of (fun q=>(0≤q.2∧q.2≤d.1.length)∧q.1=(d.1.take q.2.toNat).map (stF a b)) (fun q=>(d.1.length -q.2).toNat) ⟨⟨Qa1 _,Qa0 _⟩,rfl⟩ ?_;rintro⟨o,i⟩ ⟨⟨i0,i1⟩,ho⟩;dsimp only at i0 i1 ho⊢;refine⟨fun hi=>?_,fun hi=>?_⟩
 ·have hi:=of_decide_eq_true hi
  have hi2:i.toNat<d.1.length:=by omega
  have hol:o.length=i.toNat:=by rw[ho,Qa3,Qb1];omega
  refine Ac.mid (fun o=>o=(d.1.take (i.toNat+1)).map (stF a b)) ⟨⟨i0,hi⟩,hi2,hF.at ha1 (hF.at hb1 (hC.at (Lv ha _) (Lv hb _) ⟨by simp only[Qa4,Qa6];omega,?_⟩))⟩ fun o2 ho2=>by
   rw[w64 (by omega) (by omega)];exact⟨⟨⟨by omega,by omega⟩,by rw[show(i+1).toNat=i.toNat+1 by omega];exact ho2⟩,by omega⟩
  rw[JB (d:=(([],0):Bz)) hi2,List.map_append,ho];rfl
 ·have hi:=of_decide_eq_false hi;rw[Qa7 (by omega)]at ho;exact ho
theorem FU.at(h:FU P){a b:Bs}(ha:a.length≤140737488351232)(hb:b.length≤140737488351232){K:Int×(Int×Int)→Unit→Prop}(hk:K (Wr a b) ()):Fn P AcI Di (a,b) K:=
 (h (a,b) ha hb).to fun(d:Int×(Int×Int)) _ hd=>by
  have hd:d=Wr a b:=hd;rw[hd];exact hk
def JW(P:Pg):Prop:=∀x:List Ao×List Ao,Du x.1→Du x.2→Fn P zS8 Cr x fun(d:List Stat×Int) _=>M4 x.1 x.2 d
theorem Acp(h:Has P Hr)(hT:Pf P)(hF:Lm P)(hC:FU P):JW P:=by
 rintro⟨a,b⟩ ha hb;dsimp only at ha hb;refine U2 h ?_;unfold OV;refine(hT (a,b) ha hb).to ?_;rintro(d:List Bz×Int) _ hd;have hd:Rq a b d:=hd;have hdl:=Pr hd;have ha1:=ha.1;have hb1:=hb.1;refine⟨fun hc=>⟨d,hd,by rw[if_neg (by simpa using hc)]⟩,fun hc=>?_⟩
 have h0:d.2=0:=by simpa using hc
 refine Ac.mid (fun o=>o=d.1.map (stF a b)) ?_ fun o ho=>⟨d,hd,by rw[if_pos h0,ho]⟩
 refine Au.of (fun q=>(0≤q.2∧q.2≤d.1.length)∧q.1=(d.1.take q.2.toNat).map (stF a b)) (fun q=>(d.1.length -q.2).toNat) ⟨⟨Qa1 _,Qa0 _⟩,rfl⟩ ?_;rintro⟨o,i⟩ ⟨⟨i0,i1⟩,ho⟩;dsimp only at i0 i1 ho⊢;refine⟨fun hi=>?_,fun hi=>?_⟩
 ·have hi:=of_decide_eq_true hi
  have hi2:i.toNat<d.1.length:=by omega
  have hol:o.length=i.toNat:=by rw[ho,Qa3,Qb1];omega
  refine Ac.mid (fun o=>o=(d.1.take (i.toNat+1)).map (stF a b)) ⟨⟨i0,hi⟩,hi2,hF.at ha1 ⟨⟨i0,hi⟩,hi2,hF.at hb1 (hC.at (Lv ha _) (Lv hb _) ⟨⟨i0,hi⟩,hi2,by simp only[Qa4,Qa6];omega,?_⟩)⟩⟩ fun o2 ho2=>by
   rw[w64 (by omega) (by omega)];exact⟨⟨⟨by omega,by omega⟩,by rw[show(i+1).toNat=i.toNat+1 by omega];exact ho2⟩,by omega⟩
  rw[JB (d:=(([],0):Bz)) hi2,List.map_append,ho];rfl
 ·have hi:=of_decide_eq_false hi;rw[Qa7 (by omega)]at ho;exact ho
def XE(g:List Al)(c:Int)(d:List Stat×Int):Prop:=∃e,GK g e∧(e≠0→d=([],e))∧(e=0→¬inR g c→d=([],5))∧(e=0→inR g c→M4 ((De g c).getD 0 []) (Ed g c) d)
theorem Adj{g:List Al}{c:Int}{d e:List Stat×Int}(hd:XE g c d)(he:XE g c e):d=e:=by
 obtain⟨k,h1,h2,h3,h4⟩:=hd;obtain⟨k',h1',h2',h3',h4'⟩:=he;have:=AdF h1' h1;subst this
 by_cases hk:k'=0
 ·by_cases hc:inR g c
  ·exact Wj (h4 hk hc) (h4' hk hc)
  ·rw[h3 hk hc,h3' hk hc]
 ·rw[h2 hk,h2' hk]
theorem AfU{g:List Al}{c:Int}(hs:Z3 g){d:List Stat×Int}(h:XE g c d):d.1.length≤2000000:=by
 obtain⟨k,h1,h2,h3,h4⟩:=h
 by_cases hk:k=0
 ·by_cases hc:inR g c
  ·subst hk;have hl:=YF (h4 rfl hc);have hT:=(Sr h1 hs hc _ (A7 (d:=[]) (PZ (Kf (Je h1).1 _ hc)).2)).2.1;have hF:=(N9 h1 hs hc).2.1;omega
  ·rw[h3 hk hc];exact Qa8 _
 ·rw[h2 hk];exact Qa8 _
def Pj(P:Pg):Prop:=∀x:List Al×Int,Z3 x.1→Fn P AjV Fs x fun(d:List Stat×Int) _=>XE x.1 x.2 d
theorem Aeq(h:Has P Hu)(hI:Has P P4)(hD:MV P)(hP:Pd P)(hT:N0 P):Pj P:=by
 rintro⟨g,c⟩ hs;dsimp only at hs;refine U5 h ?_;unfold OY;dsimp only;refine(hD g hs).to ?_;rintro(e:Int) _ he;have he:GK g e:=he;refine⟨fun hb=>?_,fun hb=>?_⟩
 ·have hne:e≠0:=by simpa using hb
  exact⟨e,he,fun _=>rfl,fun h=>absurd h hne,fun h=>absurd h hne⟩
 have h0:e=0:=by simpa using hb
 subst h0;refine Af6 hI ?_;unfold Aai;dsimp only;have hi:=Amc g c;refine⟨fun hb=>?_,fun hb=>?_⟩
 ·have hno:¬inR g c:=fun k=>by rw[hi.2 k]at hb;cases hb
  exact⟨0,he,fun h=>absurd rfl h,fun _ _=>rfl,fun _ h=>absurd h hno⟩
 have hc:inR g c:=hi.1 (by simpa using hb)
 have hc2:c.toNat<g.length:=by have:=hc.1;have:=hc.2;omega
 have hz:=Je he;have hlen:=PZ (Kf hz.1 _ hc);simp only[and_true,and_self]
 have key:∀J:List Stat×Int→Prop,(∀d,M4 ((De g c).getD 0 []) (Ed g c) d→J d)→Fn P AcK Ca (g,c) fun(d:List (List Ao)) _=>((0:Int)≤0∧(0:Int)<((d.length:Nat):Int))∧(Qb5 0<d.length)∧(c.toNat<g.length)∧Fn P zS7 CR (d.getD (Qb5 0) [],(g.getD c.toNat Ag).2.2) fun(d:List Stat×Int) _=>J d:=fun J hJ=>by
  refine(hP (g,c) hc (HU hz.2.1) (Kf hz.1 _ hc)).to ?_;rintro(d:List (List Ao)) _ hd;have hd:d=De g c:=hd;subst hd;refine⟨⟨Qa1 _,by omega⟩,hlen.2,hc2,(hT ((De g c).getD 0 [],Ed g c) (Sr he hs hc _ (A7 hlen.2)).2 (N9 he hs hc).2).to ?_⟩;rintro(d:List Stat×Int) _ hd;exact hJ d hd
 refine Ac.mid (fun d=>M4 ((De g c).getD 0 []) (Ed g c) d) ⟨⟨hc.1,hc.2⟩,(key _ fun d hd=>hd),hc2,(key _ fun d hd=>hd).to ?_⟩ fun d hd=>⟨0,he,fun h=>absurd rfl h,fun _ h=>absurd hc h,fun _ _=>hd⟩
 rintro(d:List (List Ao)) _ ⟨h1,h2,_,h3⟩;exact⟨h1,h2,h3⟩
def LW(P:Pg):Prop:=∀x:List Al×Int,x.1.length≤1000000→Z3 x.1→Fn P Aj0 EJ x fun(d:List Stat×Int) _=>XE x.1 x.2 d
theorem ZZ(h:Has P F5)(hK:Sp_Known P)(hP:M0 P)(hT:JW P):LW P:=by
 rintro⟨g,c⟩ hgl hs;dsimp only at hs hgl;refine Ti h ?_;unfold M6;dsimp only;refine(hK (g,c) hgl hs).to ?_;rintro(d:Int) _ ⟨e,he,h1,h2⟩;have he:GK g e:=he
 by_cases hk:e=0
 ·subst hk
  by_cases hc:inR g c
  ·have hd:=(h2 rfl).1 hc;subst hd;refine⟨fun hb=>absurd hb (by simp),fun _=>?_⟩
   have hc2:c.toNat<g.length:=by have:=hc.1;have:=hc.2;omega
   have hz:=Je he;have hlen:=PZ (Kf hz.1 _ hc);simp only[and_true,and_self]
   have key:∀J:List Stat×Int→Prop,(∀d,M4 ((De g c).getD 0 []) (Ed g c) d→J d)→Fn P AcL Dh (g,c) fun(d:List (List Ao)) _=>((0:Int)≤0∧(0:Int)<((d.length:Nat):Int))∧(Qb5 0<d.length)∧(c.toNat<g.length)∧Fn P zS8 Cr (d.getD (Qb5 0) [],(g.getD c.toNat Ag).2.2) fun(d:List Stat×Int) _=>J d:=fun J hJ=>by
    refine(hP (g,c) hc (HU hz.2.1) (Kf hz.1 _ hc)).to ?_;rintro(d:List (List Ao)) _ hd;have hd:d=De g c:=hd;subst hd;refine⟨⟨Qa1 _,by omega⟩,hlen.2,hc2,(hT ((De g c).getD 0 [],Ed g c) (Sr he hs hc _ (A7 hlen.2)).2 (N9 he hs hc).2).to ?_⟩;rintro(d:List Stat×Int) _ hd;exact hJ d hd
   refine Ac.mid (fun d=>M4 ((De g c).getD 0 []) (Ed g c) d) ⟨⟨hc.1,hc.2⟩,(key _ fun d hd=>hd),hc2,(key _ fun d hd=>hd).to ?_⟩ fun d hd=>⟨0,he,fun h=>absurd rfl h,fun _ h=>absurd hc h,fun _ _=>hd⟩
   rintro(d:List (List Ao)) _ ⟨h1,h2,_,h3⟩;exact⟨h1,h2,h3⟩
  ·have hd:=(h2 rfl).2 hc;subst hd;exact⟨fun _=>⟨0,he,fun h=>absurd rfl h,fun _ _=>rfl,fun _ h=>absurd h hc⟩,fun hb=>absurd hb (by simp)⟩
 ·have hd:=h1 hk;subst hd;exact⟨fun _=>⟨_,he,fun _=>rfl,fun h=>absurd h hk,fun h=>absurd h hk⟩,fun hb=>absurd hb (by simpa using hk)⟩
theorem Xv(h:Has P D4)(hG:Rs P)(hM:LV P)(hC:Li P)(hRC:FU P)(hF:IU P)(hT:N0 P)(hRT:JW P)(hK:Pj P)(hRK:LW P)(hS:Lk P)(hAw:IX P)(x:List Int×(Bs×(Bs×(Int×Bool)))):
  Fn P Am3 Ck x fun(d:Bool) _=>d=true:=by
 obtain⟨raw,s,t,c,fit⟩:=x;refine Ow h ?_;unfold IZ;dsimp only;refine⟨fun _=>hAw.at rfl,fun hb=>?_⟩
 have hst:s.length≤40∧t.length≤40:=by
  by_cases h1:((s.length:Nat):Int)>40
  ·rw[decide_eq_true h1]at hb;cases hb
  ·rw[decide_eq_false h1,cond_false]at hb;have:=of_decide_eq_false hb;omega
 refine(hG (raw,(5,3)) (by decide:(0:Int)≤5) (by decide:(0:Int)≤3) (.inr ⟨(by decide:(3:Int).toNat+1≤5),(by decide:(5:Int).toNat≤8)⟩)).to ?_;rintro(g:List Al) _ hg;have hg:Aho 5 g:=hg;obtain⟨hgl,hg0,hgs,hgT⟩:=hg;refine Ac.mid (fun _=>True) ⟨fun hb=>?_,fun _=>trivial⟩ ?_
 ·have hpos:=of_decide_eq_true (Ux hb).2;exact hM.at (by omega) (by omega) trivial
 rintro c _;refine hC.at (by omega) (by omega) (hRC.at (by omega) (by omega) ?_);refine hF.at (by decide) (by decide) (by decide) (by decide) (hF.at (by decide) (by decide) (by decide) (by decide) ?_);have ha:=YC (Nh (raw:=raw) (fr:=0) (lines:=3) (by decide) (by decide));have hb:=YC (Nh (raw:=raw) (fr:=300) (lines:=3) (by decide) (by decide))
 refine(hT (ER raw 0 3,ER raw 300 3) ha hb).to ?_;rintro(x:List Stat×Int) _ hx;have hx:M4 (ER raw 0 3) (ER raw 300 3) x:=hx;refine hF.at (by decide) (by decide) (by decide) (by decide) (hF.at (by decide) (by decide) (by decide) (by decide) ?_);refine(hRT (ER raw 0 3,ER raw 300 3) ha hb).to ?_;rintro(y:List Stat×Int) _ hy;have e1:y=x:=Wj hy hx;subst e1;clear hy
 have hxl:=YF hx;have ha1:=ha.1;have hb1:=hb.1;refine(hK (g,c) hgs).to ?_;rintro(u:List Stat×Int) _ hu;have hu:XE g c u:=hu;refine(hRK (g,c) (by dsimp only;omega) hgs).to ?_
 rintro(v:List Stat×Int) _ hv;have e2:v=u:=Adj hv hu;subst e2;clear hv;have hul:=AfU hgs hu;simp only[beq_self_eq_true,cond_true];refine Ac.mid (fun d=>d=true) ⟨fun _=>hS.at (by omega) (by simp),fun h=>absurd h (by simp),trivial⟩ ?_;rintro d rfl;simp only[cond_true]
 refine Ac.mid (fun d=>d=true) ⟨fun _=>hS.at (by omega) (by simp),fun h=>absurd h (by simp),trivial⟩ ?_;rintro d rfl;simp only[cond_true];refine Ac.mid (fun d=>d=true) ⟨fun _=>hAw.at rfl,fun h=>absurd h (by simp),trivial⟩ ?_;rintro d rfl;rfl
end Go.VS
