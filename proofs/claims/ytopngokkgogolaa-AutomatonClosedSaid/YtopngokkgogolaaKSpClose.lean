/- Which states are reached without reading; the document's closure. -/
import Derived.Test.YtopngokkgogolaaKSpAut
set_option linter.unusedVariables false
set_option linter.unusedSimpArgs false
namespace Go.VS
variable{P:Pg}
def Fw(A:List State)(st en:Bool)(i j:Nat):Prop:=
 ((A.getD i Al).1=1∧(j=(A.getD i Al).2.2.1.toNat∨j=(A.getD i Al).2.2.2.toNat))∨((A.getD i Al).1=2∧st=true∧j=(A.getD i Al).2.2.1.toNat)∨((A.getD i Al).1=3∧en=true∧j=(A.getD i Al).2.2.1.toNat)
inductive Jm (A:List State) (st en:Bool):Nat→Nat→Prop
 |refl (i:Nat):Jm A st en i i
 |tail {i j k:Nat} (h:Jm A st en i j) (e:Fw A st en j k):Jm A st en i k
theorem Jm.trans{A:List State}{st en:Bool}{i j k:Nat}(h:Jm A st en i j)(h2:Jm A st en j k):Jm A st en i k:=by
 induction h2 with
 |refl=>exact h
 |tail _ e ih=>exact ih.tail e
def OkL(A:List State):Prop:=∀i,i<A.length→B2 A.length (A.getD i Al)
theorem Sy{A:List State}(h:OkL A){st en:Bool}{i j:Nat}(hi:i<A.length)(e:Fw A st en i j):j<A.length:=by
 obtain⟨h1,h2,h3,h4⟩:=h i hi
 rcases e with⟨k,rfl|rfl⟩|⟨k,_,rfl⟩|⟨k,_,rfl⟩
 ·have:=h3 (by omega);omega
 ·have:=h4 k;omega
 ·have:=h3 (by omega);omega
 ·have:=h3 (by omega);omega
theorem Ws{A:List State}(h:OkL A){st en:Bool}{i j:Nat}(hi:i<A.length)(r:Jm A st en i j):j<A.length:=by
 induction r with
 |refl=>exact hi
 |tail _ e ih=>exact Sy h ih e
theorem EC{l:List Bool}{i:Nat}(h:i<l.length)(hf:l.getD i false=false):(l.set i true).count false+1=l.count false:=by
 rw[getD_eq h]at hf
 have hpos:0<l.count false:=List.count_pos_iff.2 (hf▸List.getElem_mem h)
 rw[List.count_set h,hf]
 simp
 omega
def M7(P:Pg):Prop:=∀x:Auto×(List Bool×(Bool×Bool)),OkL x.1.1→x.1.1.length≤8000→x.2.1.length=x.1.1.length→
 Fn P WZ D8 x fun(d:List Bool) _=>d.length=x.2.1.length∧∀q,d.getD q false=true↔∃p,p<x.1.1.length∧x.2.1.getD p false=true∧Jm x.1.1 x.2.2.1 x.2.2.2 p q
theorem WC(h:Has P Fe):M7 P:=by
 rintro⟨⟨A,s0⟩,inp,st,en⟩ hA hn hin
 dsimp only at hA hn hin⊢
 refine Nw h ?_
 unfold Jw
 dsimp only
 refine⟨by simp;omega,?_⟩
 let Snd:List Bool→Prop:=fun out=>out.length=A.length∧(∀q,out.getD q false=true→∃p,p<A.length∧inp.getD p false=true∧Jm A st en p q)∧∀p,inp.getD p false=true→out.getD p false=true
 let Cl:List Bool→Nat→Prop:=fun out k=>out.getD k false=true→∀j,Fw A st en k j→out.getD j false=true
 refine Ak.mid (fun out=>Snd out∧∀k,k<A.length→Cl out k) ?_ ?_
 ·refine Bf.of (fun d=>Snd d.1∧(d.2=false→∀k,k<A.length→Cl d.1 k)) (fun d=>2*d.1.count false+d.2.toNat) ?_ ?_
  ·refine⟨⟨by simp[hin],fun q hq=>⟨q,?_,by simpa using hq,.refl _⟩,fun p hp=>by simpa using hp⟩,fun hh=>nomatch hh⟩
   rcases Nat.lt_or_ge q A.length with hlt|hge
   ·exact hlt
   ·simp[List.getD_eq_getElem?_getD,List.getElem?_eq_none (show inp.length≤q by omega)]at hq
  ·rintro⟨out,more⟩ ⟨hS,hC⟩
   dsimp only at hS hC⊢
   refine⟨fun hm=>?_,fun hm=>⟨hS,hC hm⟩⟩
   subst hm
   refine Ak.of (Ak.of ?_)
   refine Bf.of (fun d=>Snd d.1∧0≤d.2.2∧d.2.2≤A.length∧(d.2.1=false→d.1=out∧∀k:Nat,(k:Int)<d.2.2→Cl d.1 k)∧(d.2.1=true→d.1.count false<out.count false)) (fun d=>(A.length -d.2.2).toNat) ?_ ?_
   ·exact⟨hS,Int.le_refl _,by dsimp only;omega,fun _=>⟨rfl,fun k hk=>by dsimp only at hk;omega⟩,fun hh=>nomatch hh⟩
   ·rintro⟨o,m,i⟩ ⟨hS2,i0,i1,i2,i3⟩
    dsimp only at hS2 i0 i1 i2 i3⊢
    have hol:o.length=A.length:=hS2.1
    refine⟨fun hi=>Ak.of ?_,fun hi=>?_⟩
    ·have hi:=of_decide_eq_true hi
     have hiN:i.toNat<A.length:=by omega
     have hokS:=hA i.toNat hiN
     have step:∀{o:List Bool} {j:Nat},Snd o→o.getD i.toNat false=true→Fw A st en i.toNat j→Snd (o.set j true)∧(o.getD j false=false→(o.set j true).count false<o.count false):=by
      intro o j hs hoi he
      have hj:=Sy hA hiN he
      have hjo:j<o.length:=by rw[hs.1];exact hj
      refine⟨⟨by simp[hs.1],fun q hq=>?_,fun p hp=>?_⟩,fun hf=>by have:=EC hjo hf;omega⟩
      ·rw[BK hjo]at hq
       split at hq
       ·rename_i e;subst e
        obtain⟨p,p1,p2,p3⟩:=hs.2.1 _ hoi
        exact⟨p,p1,p2,p3.tail he⟩
       ·exact hs.2.1 q hq
      ·rw[BK hjo]
       split
       ·rfl
       ·exact hs.2.2 p hp
     have setge:∀{o:List Bool} {j:Nat},j<o.length→∀{k:Nat},o.getD k false=true→(o.set j true).getD k false=true:=by
      intro o j hj k hk
      rw[BK hj]
      split
      ·rfl
      ·exact hk
     generalize hx:A.getD i.toNat Al=x at hokS⊢
     obtain⟨k,set,nx,ot⟩:=x
     obtain⟨q1,q2,q3,q4⟩:=hokS
     dsimp only at q1 q2 q3 q4⊢
     generalize hg:(cond (o.getD i.toNat false) (cond (cond (k==1) true (cond (k==2) st false)) true (cond (k==3) en false)) false)=g
     have hgt:g=true→o.getD i.toNat false=true∧Fw A st en i.toNat nx.toNat∧0≤nx∧nx<A.length:=by
      intro hgt
      subst hg
      simp[-List.getD_eq_getElem?_getD]at hgt
      obtain⟨h1,h2⟩:=hgt
      have hnx:k≠4:=by rcases h2 with(h2|h2)|h2<;>omega
      refine⟨h1,?_,q3 hnx⟩
      unfold Fw
      rw[hx]
      rcases h2 with(h2|⟨h2,h3⟩)|⟨h2,h3⟩
      ·exact .inl ⟨h2,.inl rfl⟩
      ·exact .inr (.inl ⟨h2,h3,rfl⟩)
      ·exact .inr (.inr ⟨h2,h3,rfl⟩)
     refine⟨⟨i0,by omega⟩,by omega,⟨i0,by omega⟩,by omega,fun hgg=>?_,fun hgg=>?_,?_⟩
     ·have:=hgt hgg;omega
     ·have:=hgt hgg;omega
     refine Ak.mid (fun d=>Snd d.1∧(d.2=false→m=false∧d.1=o∧(g=true→o.getD nx.toNat false=true))∧(d.2=true→d.1.count false<out.count false)∧(o.getD i.toNat false=true→d.1.getD i.toNat false=true)) ?_ ?_
     ·refine⟨fun hb=>?_,fun hb=>?_⟩
      ·simp[-List.getD_eq_getElem?_getD]at hb
       obtain⟨hg1,hb2⟩:=hb
       obtain⟨h1,h2,h3,h4⟩:=hgt hg1
       obtain⟨s1,s2⟩:=step hS2 h1 h2
       have hlt:nx.toNat<o.length:=by omega
       refine⟨⟨h3,by omega⟩,hlt,s1,fun hh=>(nomatch hh),fun _=>?_,fun hh=>setge hlt hh⟩
       have hlt2:=s2 hb2
       cases m with
       |true=>exact Nat.lt_trans hlt2 (i3 rfl)
       |false=>rw[(i2 rfl).1]at hlt2⊢;exact hlt2
      ·refine⟨hS2,fun hm=>⟨hm,rfl,fun hg1=>?_⟩,i3,fun hh=>hh⟩
       simp[-List.getD_eq_getElem?_getD]at hb
       exact hb hg1
     ·rintro⟨o1,m1⟩ ⟨t1,t2,t3,t4⟩
      dsimp only at t1 t2 t3 t4⊢
      have ho1:o1.length=A.length:=t1.1
      have hst:o1.getD i.toNat false=true→k=1→Fw A st en i.toNat ot.toNat∧0≤ot∧ot<A.length:=by
       intro _ hk
       refine⟨?_,q4 hk⟩
       unfold Fw
       rw[hx]
       exact .inl ⟨hk,.inr rfl⟩
      refine⟨⟨i0,by omega⟩,by omega,fun hb=>?_,fun hb=>?_,?_⟩
      ·simp[-List.getD_eq_getElem?_getD]at hb
       have:=hst hb.1 hb.2;omega
      ·simp[-List.getD_eq_getElem?_getD]at hb
       have:=hst hb.1 hb.2;omega
      have e:IntKind.i64.wrap (i+1)=i+1:=w64 (by omega) (by omega)
      rw[e]
      refine Ak.of ⟨fun hb=>?_,fun hb=>?_⟩
      ·simp[-List.getD_eq_getElem?_getD]at hb
       obtain⟨⟨h1,h2⟩,h3⟩:=hb
       obtain⟨h4,h5,h6⟩:=hst h1 h2
       obtain⟨s1,s2⟩:=step t1 h1 h4
       refine⟨⟨h5,by omega⟩,by omega,⟨s1,by omega,by omega,fun hh=>(nomatch hh),fun _=>?_⟩,by omega⟩
       have hlt2:=s2 h3
       cases m1 with
       |true=>exact Nat.lt_trans hlt2 (t3 rfl)
       |false=>obtain⟨r1,r2,_⟩:=t2 rfl;rw[r2,(i2 r1).1]at hlt2⊢;exact hlt2
      ·simp[-List.getD_eq_getElem?_getD]at hb
       refine⟨⟨t1,by omega,by omega,fun hm=>?_,fun hm=>t3 hm⟩,by omega⟩
       obtain⟨r1,r2,r3⟩:=t2 hm
       obtain⟨r4,r5⟩:=i2 r1
       refine⟨r2.trans r4,fun k2 hk2=>?_⟩
       by_cases hk3:(k2:Int)<i
       ·rw[r2];exact r5 k2 hk3
       ·have:k2=i.toNat:=by omega
        subst this
        intro hon j he
        unfold Fw at he
        rw[hx]at he
        dsimp only at he
        have hon':o.getD i.toNat false=true:=by rw[←r2];exact hon
        have nxt:(k=1∨(k=2∧st=true)∨(k=3∧en=true))→o1.getD nx.toNat false=true:=by
         intro hh
         rw[r2]
         refine r3 ?_
         subst hg
         rw[hon']
         rcases hh with rfl|⟨rfl,rfl⟩|⟨rfl,rfl⟩<;>simp
        rcases he with⟨k1,rfl|rfl⟩|⟨k1,k2,rfl⟩|⟨k1,k2,rfl⟩
        ·exact nxt (.inl k1)
        ·exact hb hon k1
        ·exact nxt (.inr (.inl ⟨k1,k2⟩))
        ·exact nxt (.inr (.inr ⟨k1,k2⟩))
    ·have hi:=of_decide_eq_false hi
     have hei:i=A.length:=by omega
     refine⟨⟨hS2,fun hm k hk=>(i2 hm).2 k (by omega)⟩,?_⟩
     cases m with
     |true=>have:=i3 rfl;simp;omega
     |false=>rw[(i2 rfl).1];simp
 ·rintro out ⟨⟨h1,h2,h3⟩,hC⟩
  refine⟨by omega,fun q=>⟨fun hq=>h2 q hq,?_⟩⟩
  rintro⟨p,p1,p2,p3⟩
  induction p3 with
  |refl=>exact h3 _ p2
  |tail hr he ih=>exact hC _ (Ws hA p1 hr) ih _ he
end Go.VS
