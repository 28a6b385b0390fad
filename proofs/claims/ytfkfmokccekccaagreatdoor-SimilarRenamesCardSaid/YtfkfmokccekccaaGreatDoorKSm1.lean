import Derived.Test.YtfkfmokccekccaaGreatDoorKSm0
import Derived.Lib.ItoaNum
/- The document's trees. -/
set_option linter.unusedVariables false
set_option linter.unusedSimpArgs false
namespace Go.VS
variable{P:Pg}
def Rt(P:Pg):Prop:=∀x:Bs×Bs,x.1.length≤140737488351232→x.2.length≤140737488351232→Fn P AeE Fk x fun(d:Bool) _=>d=GV x.1 x.2
theorem AgW(h:Has P Hk):Rt P:=by
 rintro⟨a,b⟩ ha hb
 dsimp only at ha hb
 refine UU h ?_
 unfold OO
 dsimp only
 refine⟨fun hc=>?_,fun hc=>?_,rfl⟩
 ·have hc:=of_decide_eq_true hc
  exact⟨by omega,by omega⟩
 ·rw[Bool.cond_eq_ite]at hc
  split at hc
  ·rename_i h1
   have h1:=of_decide_eq_true h1
   exact⟨by omega,by omega⟩
  ·cases hc
def HB(P:Pg):Prop:=∀s:Bs,s.length≤140737488351232→Fn P AcC DO s fun(d:Int) _=>d=B6 s
theorem Xt(h:Has P Hc)(hL:IV P):HB P:=by
 intro s hs
 refine UM h ?_
 unfold OG
 refine⟨fun hc=>?_,fun hc=>?_⟩
 ·have hc:=of_decide_eq_true hc
  refine⟨fun _=>?_,fun h=>(nomatch h)⟩
  unfold B6
  rw[if_pos (.inl (by omega))]
 ·have hc:=of_decide_eq_false hc
  refine(hL s (by omega)).to ?_
  rintro(d:List Bs) _ hd
  have hd:d=lnF s:=hd
  subst hd
  simp only[cond_false]
  unfold B6
  refine⟨fun h1=>?_,fun h1=>?_⟩
  ·have h1:=of_decide_eq_true h1
   rw[if_pos (.inr (by omega))]
  ·have h1:=of_decide_eq_false h1
   rw[if_neg (by omega)]
theorem AaC{l:List Ao}{i:Nat}(hi:i<l.length)(hl:¬l.length>200)(h:CO (l.getD i ([],[])).1≠0):Dq l=210:=by
 unfold Dq
 rw[if_neg hl,if_pos]
 rw[List.all_eq_false]
 exact⟨_,A7 hi,by simpa using h⟩
theorem Ahw{α:Type}{l:List α}{p:α→Bool}{d:α}(h:∀j,j<l.length→p (l.getD j d)=true):l.all p=true:=by
 rw[List.all_eq_true]
 intro x hx
 obtain⟨j,hj⟩:=List.getElem?_of_mem hx
 have hl:j<l.length:=(List.getElem?_eq_some_iff.1 hj).1
 have:=h j hl
 rwa [List.getD_eq_getElem?_getD,hj,Option.getD_some]at this
def Ep(P:Pg):Prop:=∀l:List Ao,Du l→Fn P zS8 Cc l fun(d:Int) _=>d=Dq l
theorem Xu(h:Has P Fc)(hP:Ft P)(hA:Rt P)(hT:HB P):Ep P:=by
 intro l hl
 have hln:=hl.1
 refine Nk h ?_
 unfold Kl
 refine⟨fun hc=>?_,fun hc=>?_⟩
 ·have hc:=of_decide_eq_true hc
  unfold Dq
  rw[if_pos (by omega)]
 have hc:=of_decide_eq_false hc
 have hc2:¬l.length>200:=by omega
 refine Ac.mid (fun _=>∀j,j<l.length→CO (l.getD j ([],[])).1=0) ?_ ?_
 ·refine Au.of (fun q=>(0≤q.2∧q.2≤l.length)∧∀j,j<q.2.toNat→CO (l.getD j ([],[])).1=0) (fun q=>(l.length -q.2).toNat) ⟨⟨Int.le_refl _,by dsimp only;omega⟩,fun j hj=>absurd hj (by simp)⟩ ?_
  rintro⟨q,i⟩ ⟨⟨i0,i1⟩,hq⟩
  dsimp only at i0 i1 hq⊢
  refine⟨fun hi=>?_,fun hi=>?_⟩
  ·have hi:=of_decide_eq_true hi
   have hi2:i.toNat<l.length:=by omega
   refine Ac.mid (fun _=>CO (l.getD i.toNat ([],[])).1=0) ⟨⟨i0,hi⟩,hi2,hP.at (hl.at hi2).1 ⟨fun hb=>?_,fun hb=>?_⟩⟩ fun _ hn=>?_
   ·exact(AaC hi2 hc2 (by simpa using hb)).symm
   ·simpa using hb
   ·rw[w64 (by omega) (by omega)]
    refine⟨⟨⟨by omega,by omega⟩,fun j hj=>?_⟩,by omega⟩
    by_cases hji:j=i.toNat
    ·subst hji;exact hn
    ·exact hq j (by omega)
  ·have hi:=of_decide_eq_false hi
   exact fun j hj=>hq j (by omega)
 intro q hp
 have hpa:l.all (fun f=>CO f.1==0)=true:=Ahw (d:=([],[])) fun j hj=>by rw[hp j hj];rfl
 have hbad:∀i k,i<l.length→k<i→(Op.bytesLess (pth l k) (pth l i)=false∨GV (pth l k) (pth l i)=true)→(211:Int)=Dq l:=by
  intro i k hi hk hv
  unfold Dq
  rw[if_neg hc2,if_neg (by rw[hpa];simp),if_pos]
  rw[Bool.eq_false_iff]
  intro ho
  have:=(QX l).1 ho i hi k hk
  rcases hv with hv|hv
  ·rw[this.1]at hv;cases hv
  ·rw[this.2]at hv;cases hv
 clear hp
 refine Ac.mid (fun _=>Kq l) ?_ ?_
 ·refine Au.of (fun q=>(0≤q.2∧q.2≤l.length)∧∀i,i<q.2.toNat→∀k,k<i→Op.bytesLess (pth l k) (pth l i)=true∧GV (pth l k) (pth l i)=false) (fun q=>(l.length -q.2).toNat) ⟨⟨Int.le_refl _,by dsimp only;omega⟩,fun j hj=>absurd hj (by simp)⟩ ?_
  rintro⟨q',i⟩ ⟨⟨i0,i1⟩,hq⟩
  dsimp only at i0 i1 hq⊢
  refine⟨fun hi=>?_,fun hi=>?_⟩
  ·have hi:=of_decide_eq_true hi
   have hi2:i.toNat<l.length:=by omega
   refine Ac.mid (fun _=>∀k,k<i.toNat→Op.bytesLess (pth l k) (pth l i.toNat)=true∧GV (pth l k) (pth l i.toNat)=false) ?_ fun _ hn=>?_
   ·refine Ac.mid (fun _=>∀k,k<i.toNat→Op.bytesLess (pth l k) (pth l i.toNat)=true∧GV (pth l k) (pth l i.toNat)=false) ?_ fun _ h=>h
    refine Au.of (fun q=>(0≤q.2∧q.2≤i)∧∀k,k<q.2.toNat→Op.bytesLess (pth l k) (pth l i.toNat)=true∧GV (pth l k) (pth l i.toNat)=false) (fun q=>(i -q.2).toNat) ⟨⟨Int.le_refl _,i0⟩,fun j hj=>absurd hj (by simp)⟩ ?_
    rintro⟨q2,k⟩ ⟨⟨k0,k1⟩,hk⟩
    dsimp only at k0 k1 hk⊢
    refine⟨fun hki=>?_,fun hki=>?_⟩
    ·have hki:=of_decide_eq_true hki
     have hk2:k.toNat<l.length:=by omega
     refine Ac.mid (fun _=>Op.bytesLess (pth l k.toNat) (pth l i.toNat)=true∧GV (pth l k.toNat) (pth l i.toNat)=false) ?_ fun _ hn=>?_
     ·refine Ac.mid (fun d=>d=(!(Op.bytesLess (pth l k.toNat) (pth l i.toNat))||GV (pth l k.toNat) (pth l i.toNat))) ?_ ?_
      ·refine⟨⟨k0,by omega⟩,hk2,⟨i0,by omega⟩,hi2,fun _=>⟨k0,by omega⟩,fun _=>hk2,fun _=>⟨i0,by omega⟩,fun _=>hi2,?_,trivial⟩
       refine Ac.mid (fun d=>(!(Op.bytesLess (pth l k.toNat) (pth l i.toNat)))=false→d=GV (pth l k.toNat) (pth l i.toNat)) ⟨fun _=>(hA (pth l k.toNat,pth l i.toNat) (hl.at hk2).1 (hl.at hi2).1).to fun(d:Bool) _ hd _=>hd,(by intro hb hb2;rw[hb]at hb2;cases hb2),trivial⟩ ?_
       intro d hd
       cases hb:(!(Op.bytesLess (pth l k.toNat) (pth l i.toNat)))with
       |true=>rfl
       |false=>exact hd hb
      ·rintro d rfl
       refine⟨fun hb=>?_,fun hb=>?_⟩
       ·refine hbad i.toNat k.toNat hi2 (by omega) ?_
        simpa using hb
       ·simpa using hb
     ·rw[w64 (by omega) (by omega)]
      refine⟨⟨⟨by omega,by omega⟩,fun j hj=>?_⟩,by omega⟩
      by_cases hji:j=k.toNat
      ·subst hji;exact hn
      ·exact hk j (by omega)
    ·have hki:=of_decide_eq_false hki
     exact fun j hj=>hk j (by omega)
   ·rw[w64 (by omega) (by omega)]
    refine⟨⟨⟨by omega,by omega⟩,fun j hj=>?_⟩,by omega⟩
    by_cases hji:j=i.toNat
    ·subst hji;exact hn
    ·exact hq j (by omega)
  ·have hi:=of_decide_eq_false hi
   exact fun j hj=>hq j (by omega)
 intro q ho
 have hob:=(QX l).2 ho
 clear ho hbad
 refine Ac.mid (fun _=>Dq l=0) ?_ fun _ h=>h.symm
 refine Au.of (fun q=>(0≤q.2∧q.2≤l.length)∧∀j,j<q.2.toNat→B6 (l.getD j ([],[])).2=0) (fun q=>(l.length -q.2).toNat) ⟨⟨Int.le_refl _,by dsimp only;omega⟩,fun j hj=>absurd hj (by simp)⟩ ?_
 rintro⟨q',i⟩ ⟨⟨i0,i1⟩,hq⟩
 dsimp only at i0 i1 hq⊢
 refine⟨fun hi=>?_,fun hi=>?_⟩
 ·have hi:=of_decide_eq_true hi
  have hi2:i.toNat<l.length:=by omega
  refine Ac.mid (fun _=>B6 (l.getD i.toNat ([],[])).2=0) ⟨⟨i0,hi⟩,hi2,(hT _ (hl.at hi2).2).to ?_⟩ fun _ hn=>?_
  ·rintro(d:Int) _ hd
   have hd:d=B6 (l.getD i.toNat ([],[])).2:=hd
   subst hd
   refine⟨fun hb=>?_,fun hb=>?_⟩
   ·unfold Dq
    rw[if_neg hc2,if_neg (by rw[hpa];simp),if_neg (by rw[hob];simp),if_pos]
    rw[List.all_eq_false]
    exact⟨_,A7 (d:=([],[])) hi2,by simpa using hb⟩
   ·simpa using hb
  ·rw[w64 (by omega) (by omega)]
   refine⟨⟨⟨by omega,by omega⟩,fun j hj=>?_⟩,by omega⟩
   by_cases hji:j=i.toNat
   ·subst hji;exact hn
   ·exact hq j (by omega)
 ·have hi:=of_decide_eq_false hi
  unfold Dq
  rw[if_neg hc2,if_neg (by rw[hpa];simp),if_neg (by rw[hob];simp),if_neg]
  rw[Ahw (d:=([],[])) (p:=fun f:Ao=>B6 f.2==0) fun j hj=>by rw[hq j (by omega)];rfl]
  simp
theorem Ep.at(h:Ep P){l:List Ao}(hl:Du l){K:Int→Unit→Prop}(hk:K (Dq l) ()):Fn P zS8 Cc l K:=
 (h l hl).to fun(d:Int) _ hd=>by
  have hd:d=Dq l:=hd
  subst hd
  exact hk
def findF:List Ao→Bs→Bs×Bool
 |[],_=>([],false)
 |f::r,p=>if f.1=p then(f.2,true)else findF r p
theorem XV{l:List Ao}{i:Nat}(hi:i<l.length)(p:Bs):findF (l.drop i) p=if(l.getD i ([],[])).1=p then((l.getD i ([],[])).2,true)else findF (l.drop (i+1)) p:=by
 rw[List.drop_eq_getElem_cons hi,findF,getD_eq hi]
def M1(P:Pg):Prop:=∀x:List Ao×Bs,x.1.length≤1000000→Fn P XB D1 x fun(d:Bs×Bool) _=>d=findF x.1 x.2
theorem Ajk(h:Has P JS):M1 P:=by
 rintro⟨l,p⟩ hl
 dsimp only at hl
 refine Y9 h ?_
 unfold SB
 dsimp only
 refine Ac.mid (fun _=>findF l p=([],false)) ?_ fun _ h=>h.symm
 refine Au.of (fun q=>(0≤q.2.2∧q.2.2≤l.length)∧findF (l.drop q.2.2.toNat) p=findF l p) (fun q=>(l.length -q.2.2).toNat) ⟨⟨Int.le_refl _,by dsimp only;omega⟩,rfl⟩ ?_
 rintro⟨q1,q2,i⟩ ⟨⟨i0,i1⟩,hq⟩
 dsimp only at i0 i1 hq⊢
 refine⟨fun hi=>?_,fun hi=>?_⟩
 ·have hi:=of_decide_eq_true hi
  have hi2:i.toNat<l.length:=by omega
  rw[XV hi2]at hq
  refine Ac.mid (fun _=>(l.getD i.toNat ([],[])).1≠p) ⟨⟨i0,hi⟩,hi2,fun hb=>?_,fun hb=>beq_eq_false_iff_ne.1 hb⟩ fun _ hn=>?_
  ·rw[if_pos (eq_of_beq hb)]at hq
   exact hq
  ·rw[if_neg hn]at hq
   rw[w64 (by omega) (by omega),show(i+1).toNat=i.toNat+1 by omega]
   exact⟨⟨⟨by omega,by omega⟩,hq⟩,by omega⟩
 ·have hi:=of_decide_eq_false hi
  rw[List.drop_of_length_le (by omega)]at hq
  exact hq.symm
def Lm(P:Pg):Prop:=∀x:List Ao×Bs,x.1.length≤1000000→Fn P zS4 Ce x fun(d:Bs×Bool) _=>d=findF x.1 x.2
theorem Ajd(h:Has P Ic):Lm P:=by
 rintro⟨l,p⟩ hl
 dsimp only at hl
 refine WA h ?_
 unfold Qg
 dsimp only
 refine Ac.mid (fun _=>findF l p=([],false)) ?_ fun _ h=>h.symm
 refine Au.of (fun q=>(0≤q.2.2∧q.2.2≤l.length)∧findF (l.drop q.2.2.toNat) p=findF l p) (fun q=>(l.length -q.2.2).toNat) ⟨⟨Int.le_refl _,by dsimp only;omega⟩,rfl⟩ ?_
 rintro⟨q1,q2,i⟩ ⟨⟨i0,i1⟩,hq⟩
 dsimp only at i0 i1 hq⊢
 refine⟨fun hi=>?_,fun hi=>?_⟩
 ·have hi:=of_decide_eq_true hi
  have hi2:i.toNat<l.length:=by omega
  rw[XV hi2]at hq
  refine Ac.mid (fun _=>(l.getD i.toNat ([],[])).1≠p) ⟨⟨i0,hi⟩,hi2,fun hb=>⟨⟨i0,hi⟩,hi2,?_⟩,fun hb=>beq_eq_false_iff_ne.1 hb⟩ fun _ hn=>?_
  ·rw[if_pos (eq_of_beq hb)]at hq
   exact hq
  ·rw[if_neg hn]at hq
   rw[w64 (by omega) (by omega),show(i+1).toNat=i.toNat+1 by omega]
   exact⟨⟨⟨by omega,by omega⟩,hq⟩,by omega⟩
 ·have hi:=of_decide_eq_false hi
  rw[List.drop_of_length_le (by omega)]at hq
  exact hq.symm
theorem M1.at(h:M1 P){l:List Ao}{p:Bs}(hl:l.length≤1000000){K:Bs×Bool→Unit→Prop}(hk:K (findF l p) ()):Fn P XB D1 (l,p) K:=
 (h (l,p) hl).to fun(d:Bs×Bool) _ hd=>by
  have hd:d=findF l p:=hd
  subst hd
  exact hk
theorem Lm.at(h:Lm P){l:List Ao}{p:Bs}(hl:l.length≤1000000){K:Bs×Bool→Unit→Prop}(hk:K (findF l p) ()):Fn P zS4 Ce (l,p) K:=
 (h (l,p) hl).to fun(d:Bs×Bool) _ hd=>by
  have hd:d=findF l p:=hd
  subst hd
  exact hk
end Go.VS

/- The document's differences. -/
set_option linter.unusedVariables false
set_option linter.unusedSimpArgs false
namespace Go.VS
variable{P:Pg}
def Ud(P:Pg):Prop:=∀x:List Ao×List Ao,Du x.1→Du x.2→Fn P "mergelens/tree.both" JV x fun(d:Int) _=>d=MH x.1 x.2
theorem Ajj(h:Has P JT)(hT:EZ P):Ud P:=by
 rintro⟨a,b⟩ ha hb
 dsimp only at ha hb
 refine Za h ?_
 unfold SC MH
 dsimp only
 refine hT.at ha ⟨fun hc=>?_,fun hc=>?_⟩
 ·rw[if_pos (by simpa using hc)]
 ·rw[if_neg (by simpa using hc)]
  exact hT.at hb rfl
structure Gath(a b:List Ao)(o:List Bs)(i j:Nat):Prop where
 srt:o.Pairwise fun x y=>Op.bytesLess x y=true
 mem:∀t,t∈o↔(∃k,k<i∧k<a.length∧pth a k=t)∨∃k,k<j∧k<b.length∧pth b k=t
 la:∀t∈o,∀k,i≤k→k<a.length→Op.bytesLess t (pth a k)=true
 lb:∀t∈o,∀k,j≤k→k<b.length→Op.bytesLess t (pth b k)=true
 len:o.length≤i+j
theorem Kq.mono{l:List Ao}(h:Kq l){i k:Nat}(hk:k<l.length)(hi:i<k):Op.bytesLess (pth l i) (pth l k)=true:=(h k hk i hi).1
theorem Gath.push{a b:List Ao}{o:List Bs}{i j i' j':Nat}{t:Bs}(g:Gath a b o i j)(hlt:∀u∈o,Op.bytesLess u t=true)(hi:i≤i')(hj:j≤j')
  (hmem:∀u,(u=t∨(∃k,k<i∧k<a.length∧pth a k=u)∨∃k,k<j∧k<b.length∧pth b k=u)↔(∃k,k<i'∧k<a.length∧pth a k=u)∨∃k,k<j'∧k<b.length∧pth b k=u)
  (ha:∀k,i'≤k→k<a.length→Op.bytesLess t (pth a k)=true) (hb:∀k,j'≤k→k<b.length→Op.bytesLess t (pth b k)=true) (hl:i+j+1≤i'+j'):Gath a b (o++[t]) i' j' where
 srt:=List.pairwise_append.2 ⟨g.srt,List.pairwise_singleton ..,fun x hx y hy=>by rw[List.mem_singleton.1 hy];exact hlt x hx⟩
 mem u:=by
  rw[List.mem_append,List.mem_singleton,←hmem,g.mem]
  exact Or.comm
 la u hu k h1 h2:=by
  rcases List.mem_append.1 hu with hu|hu
  ·exact g.la u hu k (by omega) h2
  ·rw[List.mem_singleton.1 hu];exact ha k h1 h2
 lb u hu k h1 h2:=by
  rcases List.mem_append.1 hu with hu|hu
  ·exact g.lb u hu k (by omega) h2
  ·rw[List.mem_singleton.1 hu];exact hb k h1 h2
 len:=by rw[List.length_append];simp only[List.length_cons,List.length_nil];have:=g.len;omega
theorem exS{a:List Ao}{i:Nat}(hi:i<a.length)(u:Bs):(∃k,k<i+1∧k<a.length∧pth a k=u)↔u=pth a i∨∃k,k<i∧k<a.length∧pth a k=u:=by
 constructor
 ·rintro⟨k,h1,h2,h3⟩
  by_cases e:k=i
  ·subst e;exact .inl h3.symm
  ·exact .inr ⟨k,by omega,h2,h3⟩
 ·rintro(rfl|⟨k,h1,h2,h3⟩)
  ·exact⟨i,by omega,hi,rfl⟩
  ·exact⟨k,by omega,h2,h3⟩
def Rv(P:Pg):Prop:=∀x:List Ao×List Ao,Du x.1→Du x.2→Kq x.1→Kq x.2→Fn P Ajt Fl x fun(d:List Bs) _=>Gath x.1 x.2 d x.1.length x.2.length
theorem AgY(h:Has P Hl):Rv P:=by
 rintro⟨a,b⟩ ha hb oa ob
 dsimp only at ha hb oa ob
 have hna:=ha.1
 have hnb:=hb.1
 refine UW h ?_
 unfold OP
 dsimp only
 refine Ac.mid (fun d=>Gath a b d a.length b.length) ?_ fun _ h=>h
 refine Au.of (fun q=>(0≤q.2.1∧q.2.1≤a.length)∧(0≤q.2.2∧q.2.2≤b.length)∧Gath a b q.1 q.2.1.toNat q.2.2.toNat) (fun q=>(a.length -q.2.1).toNat+(b.length -q.2.2).toNat) ⟨⟨Int.le_refl _,Int.natCast_nonneg _⟩,⟨Int.le_refl _,Int.natCast_nonneg _⟩,⟨List.Pairwise.nil,fun t=>by simp,fun t h=>(nomatch h),fun t h=>(nomatch h),Nat.le_refl _⟩⟩ ?_
 rintro⟨o,i,j⟩ ⟨⟨i0,i1⟩,⟨j0,j1⟩,g⟩
 dsimp only at i0 i1 j0 j1 g⊢
 have hol:=g.len
 refine⟨fun hc=>?_,fun hc=>?_⟩
 ·refine Ac.mid (fun q=>((0≤q.2.1∧q.2.1≤a.length)∧(0≤q.2.2∧q.2.2≤b.length)∧Gath a b q.1 q.2.1.toNat q.2.2.toNat)∧(a.length -q.2.1).toNat+(b.length -q.2.2).toNat<(a.length -i).toNat+(b.length -j).toNat) ?_ fun q hq=>⟨hq.1,hq.2⟩
  refine Ac.mid (fun q=>((0≤q.2.1∧q.2.1≤a.length)∧(0≤q.2.2∧q.2.2≤b.length)∧Gath a b q.1 q.2.1.toNat q.2.2.toNat)∧(a.length -q.2.1).toNat+(b.length -q.2.2).toNat<(a.length -i).toNat+(b.length -j).toNat) ?_ fun _ h=>h
  have hij:i<a.length∨j<b.length:=by
   rw[Bool.cond_eq_ite]at hc
   split at hc
   ·rename_i h1;exact .inl (of_decide_eq_true h1)
   ·exact .inr (of_decide_eq_true hc)
  have hjn:(j==((b.length:Nat):Int))=false→j<b.length:=fun h=>by have:=beq_eq_false_iff_ne.1 h;omega
  have hin:(i==((a.length:Nat):Int))=false→i<a.length:=fun h=>by have:=beq_eq_false_iff_ne.1 h;omega
  refine Ac.mid (fun d=>d=(cond (j==((b.length:Nat):Int)) true (cond (decide (i<((a.length:Nat):Int))) (Op.bytesLess (pth a i.toNat) (pth b j.toNat)) false))) ⟨fun h1 _=>⟨i0,of_decide_eq_true h1⟩,fun h1 _=>by have:=of_decide_eq_true h1;omega,fun _ h2=>⟨j0,hjn h2⟩,fun _ h2=>by have:=hjn h2;omega,rfl,trivial⟩ ?_
  intro d hd
  have ea:(i+1).toNat=i.toNat+1:=by omega
  have eb:(j+1).toNat=j.toNat+1:=by omega
  refine Ac.mid (fun q=>((0≤q.2.1∧q.2.1≤a.length)∧(0≤q.2.2∧q.2.2≤b.length)∧Gath a b q.1 q.2.1.toNat q.2.2.toNat)∧(a.length -q.2.1).toNat+(b.length -q.2.2).toNat<(a.length -i).toNat+(b.length -j).toNat) ⟨fun ht=>?_,fun hf=>?_⟩ fun _ h=>h
  ·subst hd
   have hia:i<a.length:=by
    rcases hij with h|h
    ·exact h
    ·rw[beq_eq_false_iff_ne.2 (by omega:j≠((b.length:Nat):Int)),cond_false,Bool.cond_eq_ite]at ht
     split at ht
     ·rename_i h1;exact of_decide_eq_true h1
     ·cases ht
   have hia2:i.toNat<a.length:=by omega
   have hlb:∀k,j.toNat≤k→k<b.length→Op.bytesLess (pth a i.toNat) (pth b k)=true:=fun k h1 h2=>by
    rw[beq_eq_false_iff_ne.2 (by omega:j≠((b.length:Nat):Int)),cond_false,decide_eq_true hia,cond_true]at ht
    by_cases e:k=j.toNat
    ·rw[e];exact ht
    ·exact HN ht (ob.mono h2 (by omega))
   rw[w64 (by omega) (by omega)]
   refine⟨⟨i0,hia⟩,hia2,by simp only[List.length_cons,List.length_nil];omega,⟨⟨by dsimp only;omega,by dsimp only;omega⟩,⟨j0,j1⟩,?_⟩,by dsimp only;omega⟩
   dsimp only
   rw[ea]
   exact g.push (fun u hu=>g.la u hu _ (Nat.le_refl _) hia2) (by omega) (Nat.le_refl _) (fun u=>by rw[exS hia2,or_assoc]) (fun k h1 h2=>oa.mono h2 (by omega)) hlb (by omega)
  ·subst hd
   have hjb:j<b.length:=by
    rcases hij with h|h
    ·by_cases e:j=((b.length:Nat):Int)
     ·rw[beq_iff_eq.2 e]at hf;cases hf
     ·omega
    ·exact h
   have hjb2:j.toNat<b.length:=by omega
   rw[beq_eq_false_iff_ne.2 (by omega:j≠((b.length:Nat):Int)),cond_false]at hf
   refine Ac.mid (fun d=>d=(cond (i==((a.length:Nat):Int)) true (Op.bytesLess (pth b j.toNat) (pth a i.toNat)))) ⟨fun _=>⟨j0,hjb⟩,fun _=>hjb2,fun h2=>⟨i0,hin h2⟩,fun h2=>by have:=hin h2;omega,rfl,trivial⟩ ?_
   intro d hd
   refine Ac.mid (fun q=>((0≤q.2.1∧q.2.1≤a.length)∧(0≤q.2.2∧q.2.2≤b.length)∧Gath a b q.1 q.2.1.toNat q.2.2.toNat)∧(a.length -q.2.1).toNat+(b.length -q.2.2).toNat<(a.length -i).toNat+(b.length -j).toNat) ⟨fun ht=>?_,fun hf2=>?_⟩ fun _ h=>h
   ·subst hd
    have hla:∀k,i.toNat≤k→k<a.length→Op.bytesLess (pth b j.toNat) (pth a k)=true:=fun k h1 h2=>by
     rw[beq_eq_false_iff_ne.2 (by omega:i≠((a.length:Nat):Int)),cond_false]at ht
     by_cases e:k=i.toNat
     ·rw[e];exact ht
     ·exact HN ht (oa.mono h2 (by omega))
    rw[w64 (by omega) (by omega)]
    refine⟨⟨j0,hjb⟩,hjb2,by simp only[List.length_cons,List.length_nil];omega,⟨⟨i0,i1⟩,⟨by dsimp only;omega,by dsimp only;omega⟩,?_⟩,by dsimp only;omega⟩
    dsimp only
    rw[eb]
    exact g.push (fun u hu=>g.lb u hu _ (Nat.le_refl _) hjb2) (Nat.le_refl _) (by omega) (fun u=>by rw[exS hjb2,or_left_comm]) hla (fun k h1 h2=>ob.mono h2 (by omega)) (by omega)
   ·subst hd
    have hia:i<a.length:=by
     by_cases e:i=((a.length:Nat):Int)
     ·rw[beq_iff_eq.2 e]at hf2;cases hf2
     ·omega
    have hia2:i.toNat<a.length:=by omega
    rw[beq_eq_false_iff_ne.2 (by omega:i≠((a.length:Nat):Int)),cond_false]at hf2
    rw[decide_eq_true hia,cond_true]at hf
    have heq:pth a i.toNat=pth b j.toNat:=by
     by_cases e:pth a i.toNat=pth b j.toNat
     ·exact e
     ·rcases Qo e with h1|h1
      ·rw[h1]at hf;cases hf
      ·rw[h1]at hf2;cases hf2
    rw[w64 (n:=i+1) (by omega) (by omega),w64 (n:=j+1) (by omega) (by omega)]
    refine⟨⟨i0,hia⟩,hia2,by simp only[List.length_cons,List.length_nil];omega,⟨⟨by dsimp only;omega,by dsimp only;omega⟩,⟨by dsimp only;omega,by dsimp only;omega⟩,?_⟩,by dsimp only;omega⟩
    dsimp only
    rw[ea,eb]
    refine g.push (fun u hu=>g.la u hu _ (Nat.le_refl _) hia2) (by omega) (by omega) (fun u=>?_) (fun k h1 h2=>oa.mono h2 (by omega)) (fun k h1 h2=>?_) (by omega)
    ·rw[exS hia2,exS hjb2,←heq]
     constructor
     ·rintro(h|h|h)
      ·exact .inl (.inl h)
      ·exact .inl (.inr h)
      ·exact .inr (.inr h)
     ·rintro((h|h)|(h|h))
      ·exact .inl h
      ·exact .inr (.inl h)
      ·exact .inl h
      ·exact .inr (.inr h)
    ·show Op.bytesLess (pth a i.toNat) (pth b k)=true
     rw[heq]
     exact ob.mono h2 (by omega)
 ·have hi:¬i<a.length∧¬j<b.length:=by
   rw[Bool.cond_eq_ite]at hc
   split at hc
   ·cases hc
   ·rename_i h1
    exact⟨fun h=>h1 (decide_eq_true h),of_decide_eq_false hc⟩
  rw[show i.toNat=a.length by omega,show j.toNat=b.length by omega]at g
  exact g
end Go.VS

/- The document's list of differences. -/
set_option linter.unusedVariables false
set_option linter.unusedSimpArgs false
namespace Go.VS
variable{P:Pg}
theorem RQ:∀{l:List Ao},l.Pairwise (fun x y=>x.1≠y.1)→∀p,findF l p=match Bq l p with|some v=>(v,true)|none=>([],false)
 |[],_,p=>rfl
 |f::r,h,p=>by
  have h2:=List.pairwise_cons.1 h
  have ih:=RQ h2.2 p
  rw[findF,Bq]
  by_cases e:f.1=p
  ·rw[if_pos e]
   have hn:Bq r p=none:=by
    cases hb:Bq r p with
    |none=>rfl
    |some v=>
     obtain⟨g,hg,hgp⟩:=(DV r p).1 (by rw[hb];rfl)
     exact absurd (e.trans hgp.symm) (h2.1 g hg)
   rw[hn,if_pos e.symm]
  ·rw[if_neg e,ih]
   cases hb:Bq r p with
   |some v=>rfl
   |none=>rw[if_neg (fun h=>e h.symm)]
theorem Kq.ne{l:List Ao}(h:Kq l):l.Pairwise (fun x y=>x.1≠y.1):=by
 rw[List.pairwise_iff_getElem]
 intro i j hi hj hij e
 have h1:=(h j hj i hij).1
 have h2:pth l i=pth l j:=by
  unfold pth
  rw[getD_eq hi,getD_eq hj]
  exact e
 rw[h2,FV]at h1
 cases h1
def Jk(a b:List Ao)(p:Bs):Option Bz:=(QM a b p).map fun k=>(p,k)
theorem Agc{a b:List Ao}{l:List Bs}(h:Gath a b l a.length b.length):IsDiff a b (l.filterMap (Jk a b)):=by
 have hk:∀p t,Jk a b p=some t→t.1=p∧QM a b p=some t.2:=fun p t ht=>by
  unfold Jk at ht
  obtain⟨k,h1,rfl⟩:=Option.map_eq_some_iff.1 ht
  exact⟨rfl,h1⟩
 refine⟨?_,fun p k=>?_⟩
 ·refine List.Pairwise.filterMap _ (fun x y hxy t ht u hu=>?_) h.srt
  rw[(hk x t ht).1,(hk y u hu).1]
  exact hxy
 ·rw[List.mem_filterMap]
  constructor
  ·rintro⟨q,hq,ht⟩
   obtain⟨h1,h2⟩:=hk q _ ht
   have h1:p=q:=h1
   subst h1
   exact h2
  ·intro hp
   refine⟨p,(h.mem p).2 ?_,by unfold Jk;rw[hp];rfl⟩
   have hin:∀{l:List Ao} {v},Bq l p=some v→∃k,k<l.length∧k<l.length∧pth l k=p:=fun{l v} hb=>by
    obtain⟨f,hf,hfp⟩:=(DV l p).1 (by rw[hb];rfl)
    obtain⟨m,hm⟩:=List.getElem?_of_mem hf
    have hml:=(List.getElem?_eq_some_iff.1 hm).1
    refine⟨m,hml,hml,?_⟩
    unfold pth
    rw[List.getD_eq_getElem?_getD,hm]
    exact hfp
   unfold QM at hp
   cases ha:Bq a p with
   |some v=>exact .inl (hin ha)
   |none=>
    cases hb:Bq b p with
    |some v=>exact .inr (hin hb)
    |none=>rw[ha,hb]at hp;cases hp
end Go.VS

/- What tree.Diff gathers, and that it is the differences once sorted. -/
set_option linter.unusedVariables false
set_option linter.unusedSimpArgs false
namespace Go.VS
variable{P:Pg}
def Iz(b:List Ao)(f:Ao):Option Bz:=match Bq b f.1 with
 |none=>some (f.1,2)
 |some v=>if v=f.2 then none else some (f.1,3)
def Na(a:List Ao)(f:Ao):Option Bz:=match Bq a f.1 with
 |none=>some (f.1,1)
 |some _=>none
def O3(a b:List Ao):List Bz:=a.filterMap (Iz b)++b.filterMap (Na a)
theorem VN{b:List Ao}{f:Ao}{t:Bz}(h:Iz b f=some t):t.1=f.1:=by
 unfold Iz at h
 split at h
 ·cases h;rfl
 ·split at h
  ·cases h
  ·cases h;rfl
theorem Um{a:List Ao}{f:Ao}{t:Bz}(h:Na a f=some t):t.1=f.1∧Bq a f.1=none:=by
 unfold Na at h
 split at h
 ·rename_i h1;cases h;exact⟨rfl,h1⟩
 ·cases h
theorem Kq.blob{l:List Ao}(h:Kq l){f:Ao}(hf:f∈l):Bq l f.1=some f.2:=by
 have h1:=h.ne
 clear h
 induction l with
 |nil=>cases hf
 |cons g r ih=>
  have h2:=List.pairwise_cons.1 h1
  rw[Bq]
  rcases List.mem_cons.1 hf with rfl|hf
  ·cases hb:Bq r f.1 with
   |none=>dsimp only;rw[if_pos rfl]
   |some v=>
    obtain⟨g,hg,he⟩:=(DV r f.1).1 (by rw[hb];rfl)
    exact absurd he.symm (h2.1 g hg)
  ·rw[ih hf h2.2]
theorem Kq.Abu{l:List Ao}(h:Kq l){p v:Bs}:Bq l p=some v↔(p,v)∈l:=by
 constructor
 ·intro hb
  obtain⟨f,hf,rfl⟩:=(DV l p).1 (by rw[hb];rfl)
  have:=h.blob hf
  rw[this]at hb
  cases hb
  exact hf
 ·intro hf
  exact h.blob hf
theorem Aiy{a b:List Ao}(ha:Kq a)(hb:Kq b)(p:Bs)(k:Int):(p,k)∈O3 a b↔QM a b p=some k:=by
 unfold O3 QM
 rw[List.mem_append,List.mem_filterMap,List.mem_filterMap]
 constructor
 ·rintro(⟨f,hf,h⟩|⟨f,hf,h⟩)
  ·have h1:=VN h
   have h1:p=f.1:=h1
   subst h1
   rw[ha.blob hf]
   unfold Iz at h
   split at h
   ·rename_i h2;rw[h2];cases h;rfl
   ·rename_i v h2
    rw[h2]
    split at h
    ·cases h
    ·rename_i h3
     cases h
     dsimp only
     rw[if_neg (fun e=>h3 e.symm)]
  ·obtain⟨h1,h2⟩:=Um h
   have h1:p=f.1:=h1
   subst h1
   rw[h2,hb.blob hf]
   unfold Na at h
   rw[h2]at h
   cases h;rfl
 ·intro h
  cases h1:Bq a p with
  |none=>
   cases h2:Bq b p with
   |none=>rw[h1,h2]at h;cases h
   |some v=>
    rw[h1,h2]at h
    cases h
    exact .inr ⟨(p,v),hb.Abu.1 h2,by unfold Na;rw[h1]⟩
  |some u=>
   refine .inl ⟨(p,u),ha.Abu.1 h1,?_⟩
   unfold Iz
   cases h2:Bq b p with
   |none=>rw[h1,h2]at h;cases h;rfl
   |some v=>
    rw[h1,h2]at h
    dsimp only at h⊢
    split at h
    ·cases h
    ·rename_i h3
     cases h
     rw[if_neg (fun e=>h3 e.symm)]
theorem AbR{l:List Ao}(h:l.Pairwise fun x y=>x.1≠y.1){g:Ao→Option Bz}(hg:∀f t,g f=some t→t.1=f.1):(l.filterMap g).Pairwise fun x y=>x.1≠y.1:=
 h.filterMap g fun x y hxy t ht u hu=>by rw[hg x t ht,hg y u hu];exact hxy
theorem Ako{a b:List Ao}(ha:Kq a)(hb:Kq b):(O3 a b).Pairwise fun x y=>x.1≠y.1:=by
 unfold O3
 refine List.pairwise_append.2 ⟨AbR ha.ne fun _ _ h=>VN h,AbR hb.ne fun _ _ h=>(Um h).1,fun x hx y hy e=>?_⟩
 obtain⟨f,hf,h1⟩:=List.mem_filterMap.1 hx
 obtain⟨g,hg,h2⟩:=List.mem_filterMap.1 hy
 obtain⟨h3,h4⟩:=Um h2
 rw[←h3,←e,VN h1,ha.blob hf]at h4
 cases h4
theorem Aig(a b:List Ao):(O3 a b).length≤a.length+b.length:=by
 unfold O3
 rw[List.length_append]
 exact Nat.add_le_add (List.length_filterMap_le ..) (List.length_filterMap_le ..)
theorem Abd{a b:List Ao}(ha:Kq a)(hb:Kq b){d:List Bz}(hp:d.Perm (O3 a b))(hs:d.Pairwise fun x y=>Op.bytesLess y.1 x.1=false):IsDiff a b d:=by
 refine⟨?_,fun p k=>by rw[hp.mem_iff,Aiy ha hb]⟩
 have hn:d.Pairwise fun x y=>x.1≠y.1:=hp.symm.pairwise (Ako ha hb) fun h e=>h e.symm
 unfold Alo
 refine(hs.and hn).imp ?_
 rintro x y ⟨h1,h2⟩
 rcases Qo h2 with h3|h3
 ·exact h3
 ·rw[h3]at h1;cases h1
end Go.VS

/- What performing differences gives, and that it is one tree. -/
set_option linter.unusedVariables false
set_option linter.unusedSimpArgs false
namespace Go.VS
variable{P:Pg}
theorem G2{α:Type}[DecidableEq α]:∀{l m:List α},l.Nodup→(∀x∈l,x∈m)→l.length≤m.length
 |[],_,_,_=>Nat.zero_le _
 |a::l,m,hn,hs=>by
  have h2:=List.nodup_cons.1 hn
  have ha:=hs a (List.mem_cons_self ..)
  have ih:=G2 (m:=m.erase a) h2.2 fun x hx=>(List.mem_erase_of_ne (show x≠a from fun e=>h2.1 (by rw[←e];exact hx))).2 (hs x (List.mem_cons_of_mem _ hx))
  rw[List.length_erase_of_mem ha]at ih
  have:=List.length_pos_of_mem ha
  rw[List.length_cons]
  omega
end Go.VS

/- The document's Deltas. -/
set_option linter.unusedVariables false
set_option linter.unusedSimpArgs false
namespace Go.VS
variable{P:Pg}
def Pe(P:Pg):Prop:=∀x:List Ao×List Ao,Du x.1→Du x.2→Kq x.1→Kq x.2→Fn P Aju EI x fun(d:List Bz) _=>IsDiff x.1 x.2 d
theorem Aen(h:Has P F4)(hP:Rv P)(hF:Lm P):Pe P:=by
 rintro⟨a,b⟩ ha hb oa ob
 dsimp only at ha hb oa ob
 have hna:=ha.1
 have hnb:=hb.1
 refine Th h ?_
 unfold M5
 dsimp only
 refine(hP (a,b) ha hb oa ob).to ?_
 rintro(l:List Bs) _ hl
 have hl:Gath a b l a.length b.length:=hl
 have hll:=hl.len
 refine Ac.mid (fun d=>d=l.filterMap (Jk a b)) ?_ fun d hd=>by subst hd;exact Agc hl
 refine Au.of (fun q=>(0≤q.2∧q.2≤l.length)∧q.1=(l.take q.2.toNat).filterMap (Jk a b)) (fun q=>(l.length -q.2).toNat) ⟨⟨Int.le_refl _,Int.natCast_nonneg _⟩,rfl⟩ ?_
 rintro⟨o,i⟩ ⟨⟨i0,i1⟩,ho⟩
 dsimp only at i0 i1 ho⊢
 refine⟨fun hi=>?_,fun hi=>?_⟩
 ·have hi:=of_decide_eq_true hi
  have hi2:i.toNat<l.length:=by omega
  have hol:o.length≤l.length:=by rw[ho];exact Nat.le_trans (List.length_filterMap_le ..) (by rw[List.length_take];omega)
  have hnx:(l.take (i.toNat+1)).filterMap (Jk a b)=o++(Jk a b (l.getD i.toNat [])).toList:=by
   rw[ho,List.take_add_one,List.getElem?_eq_getElem hi2,List.filterMap_append,List.getD_eq_getElem?_getD,List.getElem?_eq_getElem hi2]
   simp only[Option.toList_some,Option.getD_some]
   cases hp:Jk a b l[i.toNat]with
   |none=>simp[hp]
   |some v=>simp[hp]
  have hin:(Bq a (l.getD i.toNat [])).isSome=true∨(Bq b (l.getD i.toNat [])).isSome=true:=by
   rcases(hl.mem _).1 (A7 (d:=[]) hi2)with⟨k,h1,h2,h3⟩|⟨k,h1,h2,h3⟩
   ·exact .inl ((DV a _).2 ⟨_,A7 (d:=([],[])) h2,h3⟩)
   ·exact .inr ((DV b _).2 ⟨_,A7 (d:=([],[])) h2,h3⟩)
  have hpd:Jk a b (l.getD i.toNat [])=(QM a b (l.getD i.toNat [])).map fun k=>(l.getD i.toNat [],k):=rfl
  have hsz:∀k:Int,(o.length+([(l.getD i.toNat [],k)]:List Bz).length)*24≤140737488355328:=fun k=>by
   simp only[List.length_cons,List.length_nil]
   omega
  rw[hpd]at hnx
  unfold QM at hnx
  refine Ac.mid (fun d=>d=(l.take (i.toNat+1)).filterMap (Jk a b)) ⟨⟨i0,hi⟩,hi2,(hF (a,l.getD i.toNat []) (by dsimp only;omega)).to ?_⟩ ?_
  ·rintro(da:Bs×Bool) _ hda
   have hda:da=_:=(show da=findF a (l.getD i.toNat [])from hda).trans (RQ oa.ne _)
   refine⟨⟨i0,hi⟩,hi2,(hF (b,l.getD i.toNat []) (by dsimp only;omega)).to ?_⟩
   rintro(db:Bs×Bool) _ hdb
   have hdb:db=_:=(show db=findF b (l.getD i.toNat [])from hdb).trans (RQ ob.ne _)
   refine Ac.mid (fun d=>d=(l.take (i.toNat+1)).filterMap (Jk a b)) ?_ fun _ h=>h
   refine Ac.mid (fun d=>d=(l.take (i.toNat+1)).filterMap (Jk a b)) ?_ fun _ h=>h
   cases hba:Bq a (l.getD i.toNat [])with
   |none=>
    cases hbb:Bq b (l.getD i.toNat [])with
    |none=>rw[hba,hbb]at hin;simp at hin
    |some v=>
     rw[hba]at hda
     rw[hba,hbb]at hnx
     subst hda
     exact⟨fun _=>⟨⟨i0,hi⟩,hi2,hsz 1,hnx.symm⟩,fun hc=>absurd hc (by simp)⟩
   |some u=>
    rw[hba]at hda
    subst hda
    refine⟨fun hc=>absurd hc (by simp),fun _=>?_⟩
    refine Ac.mid (fun d=>d=(l.take (i.toNat+1)).filterMap (Jk a b)) ?_ fun _ h=>h
    cases hbb:Bq b (l.getD i.toNat [])with
    |none=>
     rw[hbb]at hdb
     rw[hba,hbb]at hnx
     subst hdb
     exact⟨fun _=>⟨⟨i0,hi⟩,hi2,hsz 2,hnx.symm⟩,fun hc=>absurd hc (by simp)⟩
    |some v=>
     rw[hbb]at hdb
     rw[hba,hbb]at hnx
     subst hdb
     refine⟨fun hc=>absurd hc (by simp),fun _=>?_⟩
     refine Ac.mid (fun d=>d=(l.take (i.toNat+1)).filterMap (Jk a b)) ⟨fun hc=>⟨⟨i0,hi⟩,hi2,hsz 3,?_⟩,fun hc=>?_⟩ fun _ h=>h
     ·have hne:¬u=v:=by simpa using hc
      dsimp only at hnx
      rw[if_neg hne]at hnx
      exact hnx.symm
     ·have he:u=v:=by simpa using hc
      dsimp only at hnx
      rw[if_pos he]at hnx
      rw[hnx]
      exact(List.append_nil o).symm
  ·rintro d rfl
   rw[w64 (by omega) (by omega)]
   exact⟨⟨⟨by omega,by omega⟩,by rw[show(i+1).toNat=i.toNat+1 by omega]⟩,by omega⟩
 ·have hi:=of_decide_eq_false hi
  rw[ho,List.take_of_length_le (by omega)]
end Go.VS
namespace Go.VS
variable{P:Pg}
theorem TG{l:List Ao}(h:Dq l=0):Kq l:=by
 unfold Dq at h
 split at h
 ·cases h
 ·split at h
  ·cases h
  ·split at h
   ·cases h
   ·rename_i h3
    exact(QX l).1 (by simpa using h3)
def Pf(P:Pg):Prop:=∀x:List Ao×List Ao,Du x.1→Du x.2→Fn P AeF Gi x fun(d:List Bz×Int) _=>d.2=MH x.1 x.2∧(d.2≠0→d.1=[])∧(d.2=0→IsDiff x.1 x.2 d.1)
theorem Aeo(h:Has P Ib)(hC:Ep P)(hD:Pe P):Pf P:=by
 rintro⟨a,b⟩ ha hb
 dsimp only at ha hb
 refine Wz h ?_
 unfold Qf MH
 dsimp only
 refine hC.at ha ⟨fun hc=>?_,fun hc=>?_⟩
 ·have hc:Dq a≠0:=by simpa using hc
  rw[if_pos hc]
  exact⟨rfl,fun _=>rfl,fun h=>absurd h hc⟩
 ·have hc:Dq a=0:=by simpa using hc
  rw[if_neg (by simpa using hc)]
  refine hC.at hb ⟨fun hc2=>?_,fun hc2=>?_⟩
  ·have hc2:Dq b≠0:=by simpa using hc2
   exact⟨rfl,fun _=>rfl,fun h=>absurd h hc2⟩
  ·have hc2:Dq b=0:=by simpa using hc2
   refine(hD (a,b) ha hb (TG hc) (TG hc2)).to ?_
   rintro(d:List Bz) _ hd
   exact⟨hc2.symm,fun h=>absurd rfl h,fun _=>hd⟩
end Go.VS

/- Blobs and trees made of raw numbers: which they are. -/
set_option linter.unusedVariables false
set_option linter.unusedSimpArgs false
namespace Go.VS
variable{P:Pg}
theorem TN:∀(s acc:Bs),(lnN acc s).length≤s.length
 |[],acc=>by rw[lnN];exact Nat.le_refl _
 |b::r,acc=>by
  rw[lnN]
  split
  ·have:=TN r [];simp only[List.length_cons];omega
  ·have:=TN r (acc++[b]);simp only[List.length_cons];omega
theorem Adh{s:Bs}(h:s.length≤4000):B6 s=0:=by
 have h1:(lnF s).length≤s.length:=TN s []
 unfold B6
 rw[if_neg (by omega)]
end Go.VS

/- TreeDiffs. -/
set_option linter.unusedVariables false
set_option linter.unusedSimpArgs false
namespace Go.VS
variable{P:Pg}
def Rq(a b:List Ao)(d:List Bz×Int):Prop:=d.2=MH a b∧(d.2≠0→d.1=[])∧(d.2=0→IsDiff a b d.1)
theorem AdG{a b:List Ao}{d:List Bz}(h:IsDiff a b d):d.length≤a.length+b.length:=by
 have hn:(d.map (·.1)).Nodup:=by
  rw[List.nodup_iff_pairwise_ne,List.pairwise_map]
  refine h.1.imp fun{x y} hxy e=>?_
  rw[e,FV]at hxy
  cases hxy
 have hs:∀p∈d.map (·.1),p∈(a++b).map (·.1):=fun p hp=>by
  obtain⟨t,ht,rfl⟩:=List.mem_map.1 hp
  have:=(h.2 t.1 t.2).1 ht
  unfold QM at this
  rw[List.map_append,List.mem_append]
  cases h1:Bq a t.1 with
  |some v=>
   obtain⟨f,hf,e⟩:=(DV a t.1).1 (by rw[h1];rfl)
   exact .inl (List.mem_map.2 ⟨f,hf,e⟩)
  |none=>
   cases h2:Bq b t.1 with
   |some v=>
    obtain⟨f,hf,e⟩:=(DV b t.1).1 (by rw[h2];rfl)
    exact .inr (List.mem_map.2 ⟨f,hf,e⟩)
   |none=>rw[h1,h2]at this;cases this
 have:=G2 hn hs
 rw[List.length_map,List.length_map,List.length_append]at this
 exact this
theorem Pr{a b:List Ao}{d:List Bz×Int}(h:Rq a b d):d.1.length≤a.length+b.length:=by
 by_cases h0:d.2=0
 ·exact AdG (h.2.2 h0)
 ·rw[h.2.1 h0];exact Nat.zero_le _
end Go.VS

/- Words read back. -/
set_option linter.unusedVariables false
set_option linter.unusedSimpArgs false
namespace Go.VS
variable{P:Pg}
def up(l:Bs):List Int:=l.map fun b=>((b.toNat:Nat):Int)
end Go.VS

/- How alike two blobs are. -/
set_option linter.unusedVariables false
set_option linter.unusedSimpArgs false
namespace Go.VS
variable{P:Pg}
def Apc(l:List Bs)(s:Bs):Option Int:=if s∈l then some ((l.count s:Nat):Int)else none
theorem Arz(l:List Bs)(x:Bs)(s:Bs):Apc (l++[x]) s=if s=x then some ((((l.count x:Nat):Int))+1)else Apc l s:=by
 unfold Apc
 by_cases h:s=x
 ·subst h
  rw[if_pos (by simp),if_pos rfl,List.count_append,List.count_singleton_self]
  rfl
 ·rw[if_neg h,List.count_append,List.count_eq_zero_of_not_mem (by simpa using h:s∉[x])]
  simp[h]
theorem Apv(l:List Bs)(s:Bs):(Apc l s).getD 0=((l.count s:Nat):Int):=by
 unfold Apc
 by_cases h:s∈l
 ·rw[if_pos h];rfl
 ·rw[if_neg h,List.count_eq_zero_of_not_mem h];rfl
def ddF:List Bs→List Bs
 |[]=>[]
 |a::l=>if a∈l then ddF l else a::ddF l
theorem Ao8:∀(l:List Bs) (s:Bs),s∈ddF l↔s∈l
 |[],s=>Iff.rfl
 |a::l,s=>by
  rw[ddF]
  split
  ·rename_i h
   rw[Ao8 l s,List.mem_cons]
   exact⟨.inr,fun h2=>h2.elim (fun e=>e▸h) id⟩
  ·rw[List.mem_cons,List.mem_cons,Ao8 l s]
theorem Apq:∀l:List Bs,(ddF l).Nodup
 |[]=>List.nodup_nil
 |a::l=>by
  rw[ddF]
  split
  ·exact Apq l
  ·rename_i h
   exact List.nodup_cons.2 ⟨fun h2=>h ((Ao8 l a).1 h2),Apq l⟩
theorem Arb:∀l:List Bs,(ddF l).length≤l.length
 |[]=>Nat.le_refl _
 |a::l=>by
  rw[ddF]
  have:=Arb l
  split
  ·rw[List.length_cons];omega
  ·rw[List.length_cons,List.length_cons];omega
def Apg(x y:List Bs)(s:Bs):Int:=(if((y.count s:Nat):Int)<((x.count s:Nat):Int)then((y.count s:Nat):Int)else((x.count s:Nat):Int))*((s.length:Nat):Int)
def AoM(x y:List Bs):List Bs→Int
 |[]=>0
 |s::l=>Apg x y s+AoM x y l
theorem ApD(x y:List Bs):∀{l:List Bs} {s:Bs},s∈l→AoM x y l=Apg x y s+AoM x y (l.erase s)
 |a::l,s,h=>by
  by_cases e:a=s
  ·subst e;rw[List.erase_cons_head];rfl
  ·rw[List.erase_cons_tail (by simpa using e)]
   rcases List.mem_cons.1 h with h|h
   ·exact absurd h.symm e
   ·rw[AoM,AoM,ApD x y h];omega
theorem Api{x y:List Bs}{s:Bs}(hx:x.length≤4096)(hs:s.length≤1048576):0≤Apg x y s∧Apg x y s≤4294967296:=by
 unfold Apg
 have h1:x.count s≤x.length:=List.count_le_length
 have h2:(if((y.count s:Nat):Int)<((x.count s:Nat):Int)then((y.count s:Nat):Int)else((x.count s:Nat):Int))≤4096:=by split<;>omega
 have h3:0≤(if((y.count s:Nat):Int)<((x.count s:Nat):Int)then((y.count s:Nat):Int)else((x.count s:Nat):Int)):=by split<;>omega
 refine⟨Int.mul_nonneg h3 (Int.natCast_nonneg _),?_⟩
 exact Int.le_trans (Int.mul_le_mul h2 (show((s.length:Nat):Int)≤1048576 by omega) (Int.natCast_nonneg _) (by decide)) (by decide)
theorem AoV{x y:List Bs}(hx:x.length≤4096):∀{l:List Bs},(∀s∈l,s.length≤1048576)→0≤AoM x y l∧AoM x y l≤4294967296*(l.length:Int)
 |[],_=>⟨Int.le_refl _,Int.le_refl _⟩
 |s::l,h=>by
  have h1:=Api (y:=y) hx (h s (List.mem_cons_self ..))
  have h2:=AoV (y:=y) hx (l:=l) fun t ht=>h t (List.mem_cons_of_mem _ ht)
  rw[AoM,List.length_cons]
  omega
def AoX(x y:List Bs):Int:=AoM x y (ddF x)
theorem Aqi{x y:List Bs}(hx:x.length≤4096)(h:∀s∈x,s.length≤1048576):0≤AoX x y∧AoX x y≤17592186044416:=by
 have h1:=AoV (y:=y) hx (l:=ddF x) fun s hs=>h s ((Ao8 x s).1 hs)
 have h2:=Arb x
 unfold AoX
 omega
def ApL(a b:Bs):Int:=if((b.length:Nat):Int)>((a.length:Nat):Int)then((b.length:Nat):Int)else((a.length:Nat):Int)
def AqT(a b:Bs):Int:=Int.tdiv (100*AoX (lnF a) (lnF b)) (ApL a b)
def Aor(a b:Bs):Int×Int:=
 if B6 a≠0 then(0,1)else if B6 b≠0 then(0,1)else if a=b then(100,0)else(if 99<AqT a b then 99 else AqT a b,0)
theorem Zx:∀(s acc t:Bs),t∈lnN acc s→t.length≤acc.length+s.length
 |[],acc,t,h=>by rw[lnN]at h;cases h
 |b::r,acc,t,h=>by
  rw[lnN]at h
  split at h
  ·rcases List.mem_cons.1 h with rfl|h
   ·simp only[List.length_append,List.length_cons,List.length_nil];omega
   ·have:=Zx r [] t h
    simp only[List.length_cons,List.length_nil]at this⊢;omega
  ·have:=Zx r (acc++[b]) t h
   simp only[List.length_append,List.length_cons,List.length_nil]at this⊢;omega
theorem AkF{s t:Bs}(h:t∈lnF s):t.length≤s.length:=by
 have:=Zx s [] t h
 simp only[List.length_nil]at this
 omega
def AoR(P:Pg):Prop:=∀x:Bs×Bs,x.1.length≤140737488351232→x.2.length≤140737488351232→Fn P zS9 Aof x fun(d:Int×Int) _=>d=Aor x.1 x.2
end Go.VS
