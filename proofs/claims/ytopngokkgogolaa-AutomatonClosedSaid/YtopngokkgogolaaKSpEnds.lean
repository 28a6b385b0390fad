/- Where paths of an automaton end; the document's table. -/
import Derived.Test.YtopngokkgogolaaKSpClose
set_option linter.unusedVariables false
set_option linter.unusedSimpArgs false
set_option linter.unusedSectionVars false
namespace Go.VS
variable{P:Pg}
def rdR(A:List State)(c:UInt8)(i j:Nat):Prop:=(A.getD i Al).1=0∧SG (A.getD i Al).2.1 (c.toNat:Int)=true∧j=(A.getD i Al).2.2.1.toNat
inductive On (a:Auto) (s:List UInt8) (i:Nat):Nat→Nat→Prop
 |start:On a s i i a.2.toNat
 |eps {j p q:Nat} (h:On a s i j p) (e:Fw a.1 (j==0) (j==s.length) p q):On a s i j q
 |read {j p q:Nat} (h:On a s i j p) (hj:j<s.length) (r:rdR a.1 (s.getD j 0) p q):On a s i (j+1) q
def acc(a:Auto)(s:List UInt8)(i j:Nat):Prop:=∃q,On a s i j q∧(a.1.getD q Al).1=4
theorem Valid.okl{a:Auto}(v:Valid a):OkL a.1:=v.ok
theorem Zj{A:List State}(h:OkL A){c:UInt8}{i j:Nat}(hi:i<A.length)(r:rdR A c i j):j<A.length:=by
 obtain⟨k,_,rfl⟩:=r
 obtain⟨h1,h2,h3,h4⟩:=h i hi
 have:=h3 (by omega);omega
section
variable{a:Auto}{s:List UInt8}{i:Nat}
theorem On.lt(v:Valid a){j q:Nat}(h:On a s i j q):q<a.1.length:=by
 induction h with
 |start=>have:=v.s0;have:=v.s1;omega
 |eps _ e ih=>exact Sy v.okl ih e
 |read _ _ r ih=>exact Zj v.okl ih r
theorem On.le{j q:Nat}(h:On a s i j q):i≤j:=by
 induction h with
 |start=>exact Nat.le_refl _
 |eps _ _ ih=>exact ih
 |read _ _ _ ih=>omega
theorem On.SH{j q:Nat}(hi:i≤s.length)(h:On a s i j q):j≤s.length:=by
 induction h with
 |start=>exact hi
 |eps _ _ ih=>exact ih
 |read _ hj _ _=>omega
theorem acc.le{j:Nat}(h:acc a s i j):i≤j:=by obtain⟨q,h,_⟩:=h;exact h.le
theorem acc.SH{j:Nat}(hi:i≤s.length)(h:acc a s i j):j≤s.length:=by obtain⟨q,h,_⟩:=h;exact h.SH hi
def Seed(a:Auto)(s:List UInt8)(i j q:Nat):Prop:=(j=i∧q=a.2.toNat)∨∃j' p,j=j'+1∧On a s i j' p∧j'<s.length∧rdR a.1 (s.getD j' 0) p q
theorem Seed.on{j q:Nat}(h:Seed a s i j q):On a s i j q:=by
 rcases h with⟨rfl,rfl⟩|⟨j',p,rfl,h1,h2,h3⟩
 ·exact .start
 ·exact .read h1 h2 h3
theorem Seed.lt(v:Valid a){j q:Nat}(h:Seed a s i j q):q<a.1.length:=h.on.lt v
theorem Yt{j q:Nat}:On a s i j q↔∃p,Seed a s i j p∧Jm a.1 (j==0) (j==s.length) p q:=by
 constructor
 ·intro h
  induction h with
  |start=>exact⟨_,.inl ⟨rfl,rfl⟩,.refl _⟩
  |eps _ e ih=>obtain⟨p,h1,h2⟩:=ih;exact⟨p,h1,h2.tail e⟩
  |read h hj r _=>exact⟨_,.inr ⟨_,_,rfl,h,hj,r⟩,.refl _⟩
 ·rintro⟨p,h1,h2⟩
  induction h2 with
  |refl=>exact h1.on
  |tail _ e ih=>exact ih.eps e
end
def PN(P:Pg):Prop:=∀x:Auto×(List UInt8×Int),Valid x.1→x.2.1.length≤140737488351232→0≤x.2.2→x.2.2≤x.2.1.length→
 Fn P W7 Ex x fun(d:List Bool) _=>d.length=x.2.1.length+1∧∀j,d.getD j false=true↔acc x.1 x.2.1 x.2.2.toNat j
theorem XP(h:Has P FJ)(hClose:M7 P)(hHas:Sg P):PN P:=by
 rintro⟨a,s,i⟩ hv hs hi0 hi1
 dsimp only at hv hs hi0 hi1⊢
 refine OG h ?_
 unfold Ku
 dsimp only
 have hnl:=hv.hi
 have hs0:=hv.s0
 have hs1:=hv.s1
 have e1:IntKind.i64.wrap (((List.length s:Nat):Int)+1)=s.length+1:=w64 (by omega) (by omega)
 rw[e1]
 have e2:(Int.toNat ((List.length s:Nat)+1))=s.length+1:=by omega
 have e3:(Int.toNat ((List.length a.1:Nat):Int))=a.1.length:=by omega
 rw[e2,e3]
 refine⟨⟨by omega,by omega,by omega⟩,⟨by omega,by omega,by omega⟩,⟨hs0,by simp;omega⟩,by simp;omega,?_⟩
 refine Ak.mid (fun out=>out.length=s.length+1∧∀j,out.getD j false=true↔acc a s i.toNat j) ?_ fun d hd=>hd
 refine Bf.of (fun d=>d.1.length=s.length+1∧d.2.1.length=a.1.length∧i≤d.2.2∧d.2.2≤s.length+1∧(∀q,d.2.1.getD q false=true↔Seed a s i.toNat d.2.2.toNat q)∧∀t,d.1.getD t false=true↔(t:Int)<d.2.2∧acc a s i.toNat t) (fun d=>(s.length+1 -d.2.2).toNat) ?_ ?_
 ·refine⟨by simp,by simp,by dsimp only;omega,by dsimp only;omega,fun q=>?_,fun t=>?_⟩
  ·dsimp only
   rw[BK (by simp;omega)]
   constructor
   ·intro hq
    split at hq
    ·rename_i e;exact .inl ⟨rfl,e.symm⟩
    ·exfalso
     simp[List.getD_eq_getElem?_getD,List.getElem?_replicate]at hq
     split at hq<;>simp at hq
   ·rintro(⟨_,rfl⟩|⟨j',p,e,h1,_,_⟩)
    ·rw[if_pos rfl]
    ·have:=h1.le;omega
  ·dsimp only
   constructor
   ·intro hq
    exfalso
    simp[List.getD_eq_getElem?_getD,List.getElem?_replicate]at hq
    split at hq<;>simp at hq
   ·rintro⟨h1,h2⟩
    have:=h2.le;omega
 ·rintro⟨out,inp,j⟩ ⟨l1,l2,j0,j1,hin,hout⟩
  dsimp only at l1 l2 j0 j1 hin hout⊢
  refine⟨fun hj=>Ak.of ?_,fun hj=>?_⟩
  ·have hj:=of_decide_eq_true hj
   have ej:IntKind.i64.wrap (j+1)=j+1:=w64 (by omega) (by omega)
   rw[ej]
   refine(hClose (a,(inp,(j==0,j==(s.length:Nat)))) hv.okl hnl l2).to ?_
   rintro(d7:List Bool) _ ⟨l3,hd7⟩
   dsimp only at l3 hd7⊢
   have b1:(j==0)=(j.toNat==0):=by rw[Bool.eq_iff_iff];simp;omega
   have b2:(j==(s.length:Nat))=(j.toNat==s.length):=by rw[Bool.eq_iff_iff];simp;omega
   have hon:∀q,d7.getD q false=true↔On a s i.toNat j.toNat q:=by
    intro q
    rw[hd7,Yt,b1,b2]
    exact⟨fun⟨p,_,h1,h2⟩=>⟨p,(hin p).1 h1,h2⟩,fun⟨p,h1,h2⟩=>⟨p,h1.lt hv,(hin p).2 h1,h2⟩⟩
   have l4:d7.length=a.1.length:=by omega
   have e4:(Int.toNat ((List.length d7:Nat):Int))=a.1.length:=by omega
   rw[e4]
   refine⟨⟨by omega,by omega,by omega⟩,Ak.of ?_⟩
   refine Bf.of (fun d=>d.1.length=s.length+1∧d.2.1.length=a.1.length∧0≤d.2.2∧d.2.2≤a.1.length∧(∀q,d.2.1.getD q false=true↔∃p:Nat,(p:Int)<d.2.2∧On a s i.toNat j.toNat p∧j.toNat<s.length∧rdR a.1 (s.getD j.toNat 0) p q)∧
    ∀t,d.1.getD t false=true↔((t:Int)<j∧acc a s i.toNat t)∨((t:Int)=j∧∃p:Nat,(p:Int)<d.2.2∧On a s i.toNat j.toNat p∧(a.1.getD p Al).1=4)) (fun d=>(a.1.length -d.2.2).toNat) ?_ ?_
   ·refine⟨l1,by simp,Int.le_refl _,by dsimp only;omega,fun q=>?_,fun t=>?_⟩
    ·dsimp only
     constructor
     ·intro hq
      exfalso
      simp[List.getD_eq_getElem?_getD,List.getElem?_replicate]at hq
      split at hq<;>simp at hq
     ·rintro⟨p,hp,_⟩;omega
    ·dsimp only
     rw[hout]
     constructor
     ·exact .inl
     ·rintro(h|⟨_,p,hp,_⟩)
      ·exact h
      ·omega
   ·rintro⟨o,nx,k⟩ ⟨m1,m2,k0,k1,hnx,ho⟩
    dsimp only at m1 m2 k0 k1 hnx ho⊢
    have ek:k<(d7.length:Nat)→IntKind.i64.wrap (k+1)=k+1:=fun _=>w64 (by omega) (by omega)
    refine⟨fun hk=>Ak.of ?_,fun hk=>?_⟩
    ·have hk:=of_decide_eq_true hk
     rw[ek hk]
     have hkn:k.toNat<a.1.length:=by omega
     have hok:=hv.ok k.toNat hkn
     have hlast:∀{Q:Nat→Prop},(∃p:Nat,(p:Int)<k+1∧Q p)↔(∃p:Nat,(p:Int)<k∧Q p)∨Q k.toNat:=by
      intro Q
      constructor
      ·rintro⟨p,hp,hq⟩
       by_cases h:(p:Int)<k
       ·exact .inl ⟨p,h,hq⟩
       ·have:p=k.toNat:=by omega
        subst this;exact .inr hq
      ·rintro(⟨p,hp,hq⟩|hq)
       ·exact⟨p,by omega,hq⟩
       ·exact⟨k.toNat,by omega,hq⟩
     have hdk:=hon k.toNat
     have hrd:∀c q,rdR a.1 c k.toNat q↔(a.1.getD k.toNat Al).1=0∧SG (a.1.getD k.toNat Al).2.1 (c.toNat:Int)=true∧q=(a.1.getD k.toNat Al).2.2.1.toNat:=fun _ _=>Iff.rfl
     generalize hx:a.1.getD k.toNat Al=x at hok hrd⊢
     obtain⟨kd,set,nxt,oth⟩:=x
     obtain⟨q1,q2,q3,q4⟩:=hok
     dsimp only at q1 q2 q3 q4 hrd⊢
     refine⟨⟨k0,by omega⟩,by omega,⟨k0,by omega⟩,by omega,?_⟩
     refine Ak.mid (fun o1=>o1.length=s.length+1∧∀t,o1.getD t false=true↔o.getD t false=true∨((t:Int)=j∧d7.getD k.toNat false=true∧kd=4)) ?_ ?_
     ·refine⟨fun hb=>⟨⟨by omega,by omega⟩,by omega,by simp[m1],fun t=>?_⟩,fun hb=>⟨m1,fun t=>?_⟩⟩
      ·simp[-List.getD_eq_getElem?_getD]at hb
       rw[BK (by omega)]
       split
       ·rename_i e;exact⟨fun _=>.inr ⟨by omega,hb.1,hb.2⟩,fun _=>rfl⟩
       ·rename_i e
        exact⟨.inl,fun h=>h.elim id fun h=>by omega⟩
      ·simp[-List.getD_eq_getElem?_getD]at hb
       exact⟨.inl,fun h=>h.elim id fun h=>absurd h.2.2 (hb h.2.1)⟩
     rintro o1 ⟨ml,ho1⟩
     refine Ak.mid (fun g=>g=true↔d7.getD k.toNat false=true∧kd=0∧j.toNat<s.length∧SG set ((s.getD j.toNat 0).toNat:Int)=true) ?_ ?_
     ·refine⟨⟨k0,by omega⟩,by omega,fun hb=>?_,?_,trivial⟩
      ·simp[-List.getD_eq_getElem?_getD]at hb
       omega
      ·refine Ak.mid (fun g=>(cond (cond (d7.getD k.toNat false) (kd==0) false) (decide (j<(s.length:Nat))) false)=true→(g=true↔SG set ((s.getD j.toNat 0).toNat:Int)=true)) ?_ ?_
       ·refine⟨fun hb=>(hHas (set,_) (by dsimp only;omega) (by dsimp only;have:=(s.getD j.toNat 0).toNat_lt;omega)).to ?_,fun hb=>?_,trivial⟩
        ·rintro(g:Bool) _ hg _
         rw[hg]
        ·intro h;rw[hb]at h;cases h
       ·intro g hg
        simp[-List.getD_eq_getElem?_getD]at hg⊢
        constructor
        ·rintro⟨⟨⟨h1,h2⟩,h3⟩,h4⟩
         exact⟨h1,h2,by omega,(hg h1 h2 h3).symm.trans h4⟩
        ·rintro⟨h1,h2,h3,h4⟩
         exact⟨⟨⟨h1,h2⟩,by omega⟩,(hg h1 h2 (by omega)).trans h4⟩
     intro g hg
     refine Ak.mid (fun n1=>n1.length=a.1.length∧∀q,n1.getD q false=true↔nx.getD q false=true∨(g=true∧q=nxt.toNat)) ?_ ?_
     ·refine⟨fun hb=>?_,fun hb=>⟨m2,fun q=>?_⟩⟩
      ·have:=q3 (by have:=(hg.1 hb).2.1;omega)
       refine⟨⟨by omega,by omega⟩,by omega,by simp[m2],fun q=>?_⟩
       rw[BK (by omega)]
       split
       ·rename_i e;exact⟨fun _=>.inr ⟨hb,e.symm⟩,fun _=>rfl⟩
       ·rename_i e
        exact⟨.inl,fun h=>h.elim id fun h=>absurd h.2.symm e⟩
      ·exact⟨.inl,fun h=>h.elim id fun h=>by rw[hb]at h;cases h.1⟩
     rintro n1 ⟨nl,hn1⟩
     refine⟨⟨ml,nl,by omega,by omega,fun q=>?_,fun t=>?_⟩,by omega⟩
     ·rw[hn1,hnx,hlast (Q:=fun p=>On a s i.toNat j.toNat p∧j.toNat<s.length∧rdR a.1 (s.getD j.toNat 0) p q),hrd,hg,←hdk]
      exact or_congr Iff.rfl ⟨fun⟨⟨h1,h2,h3,h4⟩,h5⟩=>⟨h1,h3,h2,h4,h5⟩,fun⟨h1,h3,h2,h4,h5⟩=>⟨⟨h1,h2,h3,h4⟩,h5⟩⟩
     ·rw[ho1,ho,hlast (Q:=fun p=>On a s i.toNat j.toNat p∧(a.1.getD p Al).1=4),←hdk,hx]
      constructor
      ·rintro((h|⟨h1,h2⟩)|⟨h1,h2⟩)
       ·exact .inl h
       ·exact .inr ⟨h1,.inl h2⟩
       ·exact .inr ⟨h1,.inr h2⟩
      ·rintro(h|⟨h1,h2|h2⟩)
       ·exact .inl (.inl h)
       ·exact .inl (.inr ⟨h1,h2⟩)
       ·exact .inr ⟨h1,h2⟩
    ·have hk:=of_decide_eq_false hk
     have hke:k=a.1.length:=by omega
     refine⟨⟨m1,m2,by omega,by omega,fun q=>?_,fun t=>?_⟩,by omega⟩
     ·rw[hnx]
      constructor
      ·rintro⟨p,_,h1,h2,h3⟩
       exact .inr ⟨j.toNat,p,by omega,h1,h2,h3⟩
      ·rintro(⟨h1,_⟩|⟨j',p,e,h1,h2,h3⟩)
       ·omega
       ·have:j'=j.toNat:=by omega
        subst this
        exact⟨p,by have:=h1.lt hv;omega,h1,h2,h3⟩
     ·rw[ho]
      constructor
      ·rintro(⟨h1,h2⟩|⟨h1,p,_,h2,h3⟩)
       ·exact⟨by omega,h2⟩
       ·have:t=j.toNat:=by omega
        subst this
        exact⟨by omega,p,h2,h3⟩
      ·rintro⟨h1,h2⟩
       by_cases h:(t:Int)<j
       ·exact .inl ⟨h,h2⟩
       ·have:t=j.toNat:=by omega
        subst this
        obtain⟨p,h3,h4⟩:=h2
        exact .inr ⟨by omega,p,by have:=h3.lt hv;omega,h3,h4⟩
  ·have hj:=of_decide_eq_false hj
   refine⟨l1,fun t=>?_⟩
   rw[hout]
   constructor
   ·exact fun h=>h.2
   ·intro h
    have:=h.SH (by omega)
    exact⟨by omega,h⟩
end Go.VS
