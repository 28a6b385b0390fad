import Derived.Test.YtfkfmokccekccaaGreatDoorKSm0
/- The document's trees. -/
set_option linter.unusedVariables false
set_option linter.unusedSimpArgs false
namespace Go.VS
variable{P:Pg}
def OS(P:Pg):Prop:=∀x:Bs×Bs,x.1.length≤140737488351232→x.2.length≤140737488351232→Fn P AdS Ds x fun(d:Bool) _=>d=Gh x.1 x.2
theorem AbB(h:Has P GA):OS P:=by
 rintro⟨a,b⟩ ha hb
 dsimp only at ha hb
 refine Rq h ?_
 unfold Mw
 dsimp only
 refine⟨fun hc=>?_,fun hc=>?_,rfl⟩
 ·have hc:=of_decide_eq_true hc
  exact⟨by omega,by omega⟩
 ·rw[Bool.cond_eq_ite]at hc
  split at hc
  ·rename_i h1
   have h1:=of_decide_eq_true h1
   exact⟨by omega,by omega⟩
  ·cases hc
def IQ(P:Pg):Prop:=∀s:Bs,s.length≤140737488351232→Fn P AdT Dr s fun(d:Int) _=>d=G7 s
theorem Tz(h:Has P Gy)(hL:JR P):IQ P:=by
 intro s hs
 refine Ro h ?_
 unfold Mu
 refine⟨fun hc=>?_,fun hc=>?_⟩
 ·have hc:=of_decide_eq_true hc
  refine⟨fun _=>?_,fun h=>(nomatch h)⟩
  unfold G7
  rw[if_pos (.inl (by omega))]
 ·have hc:=of_decide_eq_false hc
  refine(hL s (by omega)).to ?_
  rintro(d:List Bs) _ hd
  have hd:d=lnF s:=hd
  subst hd
  simp only[cond_false]
  unfold G7
  refine⟨fun h1=>?_,fun h1=>?_⟩
  ·have h1:=of_decide_eq_true h1
   rw[if_pos (.inr (by omega))]
  ·have h1:=of_decide_eq_false h1
   rw[if_neg (by omega)]
theorem Wj{l:List AA}{i:Nat}(hi:i<l.length)(hl:¬l.length>200)(h:CT (l.getD i ([],[])).1≠0):Dl l=210:=by
 unfold Dl
 rw[if_neg hl,if_pos]
 rw[List.all_eq_false]
 exact⟨_,A6 hi,by simpa using h⟩
theorem AbZ{α:Type}{l:List α}{p:α→Bool}{d:α}(h:∀j,j<l.length→p (l.getD j d)=true):l.all p=true:=by
 rw[List.all_eq_true]
 intro x hx
 obtain⟨j,hj⟩:=List.getElem?_of_mem hx
 have hl:j<l.length:=(List.getElem?_eq_some_iff.1 hj).1
 have:=h j hl
 rwa [List.getD_eq_getElem?_getD,hj,Option.getD_some]at this
def Fi(P:Pg):Prop:=∀l:List AA,Ex l→Fn P ZJ Cy l fun(d:Int) _=>d=Dl l
theorem TA(h:Has P Fg)(hP:Fh P)(hA:OS P)(hT:IQ P):Fi P:=by
 intro l hl
 have hln:=hl.1
 refine Lg h ?_
 unfold IV
 refine⟨fun hc=>?_,fun hc=>?_⟩
 ·have hc:=of_decide_eq_true hc
  unfold Dl
  rw[if_pos (by omega)]
 have hc:=of_decide_eq_false hc
 have hc2:¬l.length>200:=by omega
 refine Ad.mid (fun _=>∀j,j<l.length→CT (l.getD j ([],[])).1=0) ?_ ?_
 ·refine AJ.of (fun q=>(0≤q.2∧q.2≤l.length)∧∀j,j<q.2.toNat→CT (l.getD j ([],[])).1=0) (fun q=>(l.length -q.2).toNat) ⟨⟨Int.le_refl _,by dsimp only;omega⟩,fun j hj=>absurd hj (by simp)⟩ ?_
  rintro⟨q,i⟩ ⟨⟨i0,i1⟩,hq⟩
  dsimp only at i0 i1 hq⊢
  refine⟨fun hi=>?_,fun hi=>?_⟩
  ·have hi:=of_decide_eq_true hi
   have hi2:i.toNat<l.length:=by omega
   refine Ad.mid (fun _=>CT (l.getD i.toNat ([],[])).1=0) ⟨⟨i0,hi⟩,hi2,hP.at (hl.at hi2).1 ⟨fun hb=>?_,fun hb=>?_⟩⟩ fun _ hn=>?_
   ·exact(Wj hi2 hc2 (by simpa using hb)).symm
   ·simpa using hb
   ·rw[w64 (by omega) (by omega)]
    refine⟨⟨⟨by omega,by omega⟩,fun j hj=>?_⟩,by omega⟩
    by_cases hji:j=i.toNat
    ·subst hji;exact hn
    ·exact hq j (by omega)
  ·have hi:=of_decide_eq_false hi
   exact fun j hj=>hq j (by omega)
 intro q hp
 have hpa:l.all (fun f=>CT f.1==0)=true:=AbZ (d:=([],[])) fun j hj=>by rw[hp j hj];rfl
 have hbad:∀i k,i<l.length→k<i→(Op.bytesLess (pth l k) (pth l i)=false∨Gh (pth l k) (pth l i)=true)→(211:Int)=Dl l:=by
  intro i k hi hk hv
  unfold Dl
  rw[if_neg hc2,if_neg (by rw[hpa];simp),if_pos]
  rw[Bool.eq_false_iff]
  intro ho
  have:=(Oj l).1 ho i hi k hk
  rcases hv with hv|hv
  ·rw[this.1]at hv;cases hv
  ·rw[this.2]at hv;cases hv
 clear hp
 refine Ad.mid (fun _=>I1 l) ?_ ?_
 ·refine AJ.of (fun q=>(0≤q.2∧q.2≤l.length)∧∀i,i<q.2.toNat→∀k,k<i→Op.bytesLess (pth l k) (pth l i)=true∧Gh (pth l k) (pth l i)=false) (fun q=>(l.length -q.2).toNat) ⟨⟨Int.le_refl _,by dsimp only;omega⟩,fun j hj=>absurd hj (by simp)⟩ ?_
  rintro⟨q',i⟩ ⟨⟨i0,i1⟩,hq⟩
  dsimp only at i0 i1 hq⊢
  refine⟨fun hi=>?_,fun hi=>?_⟩
  ·have hi:=of_decide_eq_true hi
   have hi2:i.toNat<l.length:=by omega
   refine Ad.mid (fun _=>∀k,k<i.toNat→Op.bytesLess (pth l k) (pth l i.toNat)=true∧Gh (pth l k) (pth l i.toNat)=false) ?_ fun _ hn=>?_
   ·refine Ad.mid (fun _=>∀k,k<i.toNat→Op.bytesLess (pth l k) (pth l i.toNat)=true∧Gh (pth l k) (pth l i.toNat)=false) ?_ fun _ h=>h
    refine AJ.of (fun q=>(0≤q.2∧q.2≤i)∧∀k,k<q.2.toNat→Op.bytesLess (pth l k) (pth l i.toNat)=true∧Gh (pth l k) (pth l i.toNat)=false) (fun q=>(i -q.2).toNat) ⟨⟨Int.le_refl _,i0⟩,fun j hj=>absurd hj (by simp)⟩ ?_
    rintro⟨q2,k⟩ ⟨⟨k0,k1⟩,hk⟩
    dsimp only at k0 k1 hk⊢
    refine⟨fun hki=>?_,fun hki=>?_⟩
    ·have hki:=of_decide_eq_true hki
     have hk2:k.toNat<l.length:=by omega
     refine Ad.mid (fun _=>Op.bytesLess (pth l k.toNat) (pth l i.toNat)=true∧Gh (pth l k.toNat) (pth l i.toNat)=false) ?_ fun _ hn=>?_
     ·refine Ad.mid (fun d=>d=(!(Op.bytesLess (pth l k.toNat) (pth l i.toNat))||Gh (pth l k.toNat) (pth l i.toNat))) ?_ ?_
      ·refine⟨⟨k0,by omega⟩,hk2,⟨i0,by omega⟩,hi2,fun _=>⟨k0,by omega⟩,fun _=>hk2,fun _=>⟨i0,by omega⟩,fun _=>hi2,?_,trivial⟩
       refine Ad.mid (fun d=>(!(Op.bytesLess (pth l k.toNat) (pth l i.toNat)))=false→d=Gh (pth l k.toNat) (pth l i.toNat)) ⟨fun _=>(hA (pth l k.toNat,pth l i.toNat) (hl.at hk2).1 (hl.at hi2).1).to fun(d:Bool) _ hd _=>hd,(by intro hb hb2;rw[hb]at hb2;cases hb2),trivial⟩ ?_
       intro d hd
       cases hb:(!(Op.bytesLess (pth l k.toNat) (pth l i.toNat)))with
       |true=>rfl
       |false=>exact hd hb
      ·rintro d rfl
       refine⟨fun hb=>?_,fun hb=>?_⟩
       ·refine hbad i.toNat k.toNat hi2 (by omega) ?_
        simpa using hb
       ·simpa using hb
     ·rw[w64 (by omega) (by omega)]
      refine⟨⟨⟨by omega,by omega⟩,fun j hj=>?_⟩,by omega⟩
      by_cases hji:j=k.toNat
      ·subst hji;exact hn
      ·exact hk j (by omega)
    ·have hki:=of_decide_eq_false hki
     exact fun j hj=>hk j (by omega)
   ·rw[w64 (by omega) (by omega)]
    refine⟨⟨⟨by omega,by omega⟩,fun j hj=>?_⟩,by omega⟩
    by_cases hji:j=i.toNat
    ·subst hji;exact hn
    ·exact hq j (by omega)
  ·have hi:=of_decide_eq_false hi
   exact fun j hj=>hq j (by omega)
 intro q ho
 have hob:=(Oj l).2 ho
 clear ho hbad
 refine Ad.mid (fun _=>Dl l=0) ?_ fun _ h=>h.symm
 refine AJ.of (fun q=>(0≤q.2∧q.2≤l.length)∧∀j,j<q.2.toNat→G7 (l.getD j ([],[])).2=0) (fun q=>(l.length -q.2).toNat) ⟨⟨Int.le_refl _,by dsimp only;omega⟩,fun j hj=>absurd hj (by simp)⟩ ?_
 rintro⟨q',i⟩ ⟨⟨i0,i1⟩,hq⟩
 dsimp only at i0 i1 hq⊢
 refine⟨fun hi=>?_,fun hi=>?_⟩
 ·have hi:=of_decide_eq_true hi
  have hi2:i.toNat<l.length:=by omega
  refine Ad.mid (fun _=>G7 (l.getD i.toNat ([],[])).2=0) ⟨⟨i0,hi⟩,hi2,(hT _ (hl.at hi2).2).to ?_⟩ fun _ hn=>?_
  ·rintro(d:Int) _ hd
   have hd:d=G7 (l.getD i.toNat ([],[])).2:=hd
   subst hd
   refine⟨fun hb=>?_,fun hb=>?_⟩
   ·unfold Dl
    rw[if_neg hc2,if_neg (by rw[hpa];simp),if_neg (by rw[hob];simp),if_pos]
    rw[List.all_eq_false]
    exact⟨_,A6 (d:=([],[])) hi2,by simpa using hb⟩
   ·simpa using hb
  ·rw[w64 (by omega) (by omega)]
   refine⟨⟨⟨by omega,by omega⟩,fun j hj=>?_⟩,by omega⟩
   by_cases hji:j=i.toNat
   ·subst hji;exact hn
   ·exact hq j (by omega)
 ·have hi:=of_decide_eq_false hi
  unfold Dl
  rw[if_neg hc2,if_neg (by rw[hpa];simp),if_neg (by rw[hob];simp),if_neg]
  rw[AbZ (d:=([],[])) (p:=fun f:AA=>G7 f.2==0) fun j hj=>by rw[hq j (by omega)];rfl]
  simp
theorem Fi.at(h:Fi P){l:List AA}(hl:Ex l){K:Int→Unit→Prop}(hk:K (Dl l) ()):Fn P ZJ Cy l K:=
 (h l hl).to fun(d:Int) _ hd=>by
  have hd:d=Dl l:=hd
  subst hd
  exact hk
def findF:List AA→Bs→Bs×Bool
 |[],_=>([],false)
 |f::r,p=>if f.1=p then(f.2,true)else findF r p
theorem TY{l:List AA}{i:Nat}(hi:i<l.length)(p:Bs):findF (l.drop i) p=if(l.getD i ([],[])).1=p then((l.getD i ([],[])).2,true)else findF (l.drop (i+1)) p:=by
 rw[List.drop_eq_getElem_cons hi,findF,getD_eq hi]
def Jq(P:Pg):Prop:=∀x:List AA×Bs,x.1.length≤1000000→Fn P zS9 C3 x fun(d:Bs×Bool) _=>d=findF x.1 x.2
theorem AdA(h:Has P Iz):Jq P:=by
 rintro⟨l,p⟩ hl
 dsimp only at hl
 refine U8 h ?_
 unfold PF
 dsimp only
 refine Ad.mid (fun _=>findF l p=([],false)) ?_ fun _ h=>h.symm
 refine AJ.of (fun q=>(0≤q.2.2∧q.2.2≤l.length)∧findF (l.drop q.2.2.toNat) p=findF l p) (fun q=>(l.length -q.2.2).toNat) ⟨⟨Int.le_refl _,by dsimp only;omega⟩,rfl⟩ ?_
 rintro⟨q1,q2,i⟩ ⟨⟨i0,i1⟩,hq⟩
 dsimp only at i0 i1 hq⊢
 refine⟨fun hi=>?_,fun hi=>?_⟩
 ·have hi:=of_decide_eq_true hi
  have hi2:i.toNat<l.length:=by omega
  rw[TY hi2]at hq
  refine Ad.mid (fun _=>(l.getD i.toNat ([],[])).1≠p) ⟨⟨i0,hi⟩,hi2,fun hb=>?_,fun hb=>beq_eq_false_iff_ne.1 hb⟩ fun _ hn=>?_
  ·rw[if_pos (eq_of_beq hb)]at hq
   exact hq
  ·rw[if_neg hn]at hq
   rw[w64 (by omega) (by omega),show(i+1).toNat=i.toNat+1 by omega]
   exact⟨⟨⟨by omega,by omega⟩,hq⟩,by omega⟩
 ·have hi:=of_decide_eq_false hi
  rw[List.drop_of_length_le (by omega)]at hq
  exact hq.symm
def Jp(P:Pg):Prop:=∀x:List AA×Bs,x.1.length≤1000000→Fn P zS2 BU x fun(d:Bs×Bool) _=>d=findF x.1 x.2
theorem Adw(h:Has P Hi):Jp P:=by
 rintro⟨l,p⟩ hl
 dsimp only at hl
 refine S0 h ?_
 unfold NH
 dsimp only
 refine Ad.mid (fun _=>findF l p=([],false)) ?_ fun _ h=>h.symm
 refine AJ.of (fun q=>(0≤q.2.2∧q.2.2≤l.length)∧findF (l.drop q.2.2.toNat) p=findF l p) (fun q=>(l.length -q.2.2).toNat) ⟨⟨Int.le_refl _,by dsimp only;omega⟩,rfl⟩ ?_
 rintro⟨q1,q2,i⟩ ⟨⟨i0,i1⟩,hq⟩
 dsimp only at i0 i1 hq⊢
 refine⟨fun hi=>?_,fun hi=>?_⟩
 ·have hi:=of_decide_eq_true hi
  have hi2:i.toNat<l.length:=by omega
  rw[TY hi2]at hq
  refine Ad.mid (fun _=>(l.getD i.toNat ([],[])).1≠p) ⟨⟨i0,hi⟩,hi2,fun hb=>⟨⟨i0,hi⟩,hi2,?_⟩,fun hb=>beq_eq_false_iff_ne.1 hb⟩ fun _ hn=>?_
  ·rw[if_pos (eq_of_beq hb)]at hq
   exact hq
  ·rw[if_neg hn]at hq
   rw[w64 (by omega) (by omega),show(i+1).toNat=i.toNat+1 by omega]
   exact⟨⟨⟨by omega,by omega⟩,hq⟩,by omega⟩
 ·have hi:=of_decide_eq_false hi
  rw[List.drop_of_length_le (by omega)]at hq
  exact hq.symm
theorem Jq.at(h:Jq P){l:List AA}{p:Bs}(hl:l.length≤1000000){K:Bs×Bool→Unit→Prop}(hk:K (findF l p) ()):Fn P zS9 C3 (l,p) K:=
 (h (l,p) hl).to fun(d:Bs×Bool) _ hd=>by
  have hd:d=findF l p:=hd
  subst hd
  exact hk
theorem Jp.at(h:Jp P){l:List AA}{p:Bs}(hl:l.length≤1000000){K:Bs×Bool→Unit→Prop}(hk:K (findF l p) ()):Fn P zS2 BU (l,p) K:=
 (h (l,p) hl).to fun(d:Bs×Bool) _ hd=>by
  have hd:d=findF l p:=hd
  subst hd
  exact hk
end Go.VS

/- The document's differences. -/
set_option linter.unusedVariables false
set_option linter.unusedSimpArgs false
namespace Go.VS
variable{P:Pg}
def QQ(P:Pg):Prop:=∀x:List AA×List AA,Ex x.1→Ex x.2→Fn P "mergelens/tree.both" EW x fun(d:Int) _=>d=GW x.1 x.2
theorem Adz(h:Has P IA)(hT:E6 P):QQ P:=by
 rintro⟨a,b⟩ ha hb
 dsimp only at ha hb
 refine U9 h ?_
 unfold PG GW
 dsimp only
 refine hT.at ha ⟨fun hc=>?_,fun hc=>?_⟩
 ·rw[if_pos (by simpa using hc)]
 ·rw[if_neg (by simpa using hc)]
  exact hT.at hb rfl
structure Gath(a b:List AA)(o:List Bs)(i j:Nat):Prop where
 srt:o.Pairwise fun x y=>Op.bytesLess x y=true
 mem:∀t,t∈o↔(∃k,k<i∧k<a.length∧pth a k=t)∨∃k,k<j∧k<b.length∧pth b k=t
 la:∀t∈o,∀k,i≤k→k<a.length→Op.bytesLess t (pth a k)=true
 lb:∀t∈o,∀k,j≤k→k<b.length→Op.bytesLess t (pth b k)=true
 len:o.length≤i+j
theorem I1.mono{l:List AA}(h:I1 l){i k:Nat}(hk:k<l.length)(hi:i<k):Op.bytesLess (pth l i) (pth l k)=true:=(h k hk i hi).1
theorem Gath.push{a b:List AA}{o:List Bs}{i j i' j':Nat}{t:Bs}(g:Gath a b o i j)(hlt:∀u∈o,Op.bytesLess u t=true)(hi:i≤i')(hj:j≤j')
  (hmem:∀u,(u=t∨(∃k,k<i∧k<a.length∧pth a k=u)∨∃k,k<j∧k<b.length∧pth b k=u)↔(∃k,k<i'∧k<a.length∧pth a k=u)∨∃k,k<j'∧k<b.length∧pth b k=u)
  (ha:∀k,i'≤k→k<a.length→Op.bytesLess t (pth a k)=true) (hb:∀k,j'≤k→k<b.length→Op.bytesLess t (pth b k)=true) (hl:i+j+1≤i'+j'):Gath a b (o++[t]) i' j' where
 srt:=List.pairwise_append.2 ⟨g.srt,List.pairwise_singleton ..,fun x hx y hy=>by rw[List.mem_singleton.1 hy];exact hlt x hx⟩
 mem u:=by
  rw[List.mem_append,List.mem_singleton,←hmem,g.mem]
  exact Or.comm
 la u hu k h1 h2:=by
  rcases List.mem_append.1 hu with hu|hu
  ·exact g.la u hu k (by omega) h2
  ·rw[List.mem_singleton.1 hu];exact ha k h1 h2
 lb u hu k h1 h2:=by
  rcases List.mem_append.1 hu with hu|hu
  ·exact g.lb u hu k (by omega) h2
  ·rw[List.mem_singleton.1 hu];exact hb k h1 h2
 len:=by rw[List.length_append];simp only[List.length_cons,List.length_nil];have:=g.len;omega
theorem exS{a:List AA}{i:Nat}(hi:i<a.length)(u:Bs):(∃k,k<i+1∧k<a.length∧pth a k=u)↔u=pth a i∨∃k,k<i∧k<a.length∧pth a k=u:=by
 constructor
 ·rintro⟨k,h1,h2,h3⟩
  by_cases e:k=i
  ·subst e;exact .inl h3.symm
  ·exact .inr ⟨k,by omega,h2,h3⟩
 ·rintro(rfl|⟨k,h1,h2,h3⟩)
  ·exact⟨i,by omega,hi,rfl⟩
  ·exact⟨k,by omega,h2,h3⟩
def OT(P:Pg):Prop:=∀x:List AA×List AA,Ex x.1→Ex x.2→I1 x.1→I1 x.2→Fn P AdX Dt x fun(d:List Bs) _=>Gath x.1 x.2 d x.1.length x.2.length
theorem AbD(h:Has P GB):OT P:=by
 rintro⟨a,b⟩ ha hb oa ob
 dsimp only at ha hb oa ob
 have hna:=ha.1
 have hnb:=hb.1
 refine Rr h ?_
 unfold Mx
 dsimp only
 refine Ad.mid (fun d=>Gath a b d a.length b.length) ?_ fun _ h=>h
 refine AJ.of (fun q=>(0≤q.2.1∧q.2.1≤a.length)∧(0≤q.2.2∧q.2.2≤b.length)∧Gath a b q.1 q.2.1.toNat q.2.2.toNat) (fun q=>(a.length -q.2.1).toNat+(b.length -q.2.2).toNat) ⟨⟨Int.le_refl _,Int.natCast_nonneg _⟩,⟨Int.le_refl _,Int.natCast_nonneg _⟩,⟨List.Pairwise.nil,fun t=>by simp,fun t h=>(nomatch h),fun t h=>(nomatch h),Nat.le_refl _⟩⟩ ?_
 rintro⟨o,i,j⟩ ⟨⟨i0,i1⟩,⟨j0,j1⟩,g⟩
 dsimp only at i0 i1 j0 j1 g⊢
 have hol:=g.len
 refine⟨fun hc=>?_,fun hc=>?_⟩
 ·refine Ad.mid (fun q=>((0≤q.2.1∧q.2.1≤a.length)∧(0≤q.2.2∧q.2.2≤b.length)∧Gath a b q.1 q.2.1.toNat q.2.2.toNat)∧(a.length -q.2.1).toNat+(b.length -q.2.2).toNat<(a.length -i).toNat+(b.length -j).toNat) ?_ fun q hq=>⟨hq.1,hq.2⟩
  refine Ad.mid (fun q=>((0≤q.2.1∧q.2.1≤a.length)∧(0≤q.2.2∧q.2.2≤b.length)∧Gath a b q.1 q.2.1.toNat q.2.2.toNat)∧(a.length -q.2.1).toNat+(b.length -q.2.2).toNat<(a.length -i).toNat+(b.length -j).toNat) ?_ fun _ h=>h
  have hij:i<a.length∨j<b.length:=by
   rw[Bool.cond_eq_ite]at hc
   split at hc
   ·rename_i h1;exact .inl (of_decide_eq_true h1)
   ·exact .inr (of_decide_eq_true hc)
  have hjn:(j==((b.length:Nat):Int))=false→j<b.length:=fun h=>by have:=beq_eq_false_iff_ne.1 h;omega
  have hin:(i==((a.length:Nat):Int))=false→i<a.length:=fun h=>by have:=beq_eq_false_iff_ne.1 h;omega
  refine Ad.mid (fun d=>d=(cond (j==((b.length:Nat):Int)) true (cond (decide (i<((a.length:Nat):Int))) (Op.bytesLess (pth a i.toNat) (pth b j.toNat)) false))) ⟨fun h1 _=>⟨i0,of_decide_eq_true h1⟩,fun h1 _=>by have:=of_decide_eq_true h1;omega,fun _ h2=>⟨j0,hjn h2⟩,fun _ h2=>by have:=hjn h2;omega,rfl,trivial⟩ ?_
  intro d hd
  have ea:(i+1).toNat=i.toNat+1:=by omega
  have eb:(j+1).toNat=j.toNat+1:=by omega
  refine Ad.mid (fun q=>((0≤q.2.1∧q.2.1≤a.length)∧(0≤q.2.2∧q.2.2≤b.length)∧Gath a b q.1 q.2.1.toNat q.2.2.toNat)∧(a.length -q.2.1).toNat+(b.length -q.2.2).toNat<(a.length -i).toNat+(b.length -j).toNat) ⟨fun ht=>?_,fun hf=>?_⟩ fun _ h=>h
  ·subst hd
   have hia:i<a.length:=by
    rcases hij with h|h
    ·exact h
    ·rw[beq_eq_false_iff_ne.2 (by omega:j≠((b.length:Nat):Int)),cond_false,Bool.cond_eq_ite]at ht
     split at ht
     ·rename_i h1;exact of_decide_eq_true h1
     ·cases ht
   have hia2:i.toNat<a.length:=by omega
   have hlb:∀k,j.toNat≤k→k<b.length→Op.bytesLess (pth a i.toNat) (pth b k)=true:=fun k h1 h2=>by
    rw[beq_eq_false_iff_ne.2 (by omega:j≠((b.length:Nat):Int)),cond_false,decide_eq_true hia,cond_true]at ht
    by_cases e:k=j.toNat
    ·rw[e];exact ht
    ·exact GS ht (ob.mono h2 (by omega))
   rw[w64 (by omega) (by omega)]
   refine⟨⟨i0,hia⟩,hia2,by simp only[List.length_cons,List.length_nil];omega,⟨⟨by dsimp only;omega,by dsimp only;omega⟩,⟨j0,j1⟩,?_⟩,by dsimp only;omega⟩
   dsimp only
   rw[ea]
   exact g.push (fun u hu=>g.la u hu _ (Nat.le_refl _) hia2) (by omega) (Nat.le_refl _) (fun u=>by rw[exS hia2,or_assoc]) (fun k h1 h2=>oa.mono h2 (by omega)) hlb (by omega)
  ·subst hd
   have hjb:j<b.length:=by
    rcases hij with h|h
    ·by_cases e:j=((b.length:Nat):Int)
     ·rw[beq_iff_eq.2 e]at hf;cases hf
     ·omega
    ·exact h
   have hjb2:j.toNat<b.length:=by omega
   rw[beq_eq_false_iff_ne.2 (by omega:j≠((b.length:Nat):Int)),cond_false]at hf
   refine Ad.mid (fun d=>d=(cond (i==((a.length:Nat):Int)) true (Op.bytesLess (pth b j.toNat) (pth a i.toNat)))) ⟨fun _=>⟨j0,hjb⟩,fun _=>hjb2,fun h2=>⟨i0,hin h2⟩,fun h2=>by have:=hin h2;omega,rfl,trivial⟩ ?_
   intro d hd
   refine Ad.mid (fun q=>((0≤q.2.1∧q.2.1≤a.length)∧(0≤q.2.2∧q.2.2≤b.length)∧Gath a b q.1 q.2.1.toNat q.2.2.toNat)∧(a.length -q.2.1).toNat+(b.length -q.2.2).toNat<(a.length -i).toNat+(b.length -j).toNat) ⟨fun ht=>?_,fun hf2=>?_⟩ fun _ h=>h
   ·subst hd
    have hla:∀k,i.toNat≤k→k<a.length→Op.bytesLess (pth b j.toNat) (pth a k)=true:=fun k h1 h2=>by
     rw[beq_eq_false_iff_ne.2 (by omega:i≠((a.length:Nat):Int)),cond_false]at ht
     by_cases e:k=i.toNat
     ·rw[e];exact ht
     ·exact GS ht (oa.mono h2 (by omega))
    rw[w64 (by omega) (by omega)]
    refine⟨⟨j0,hjb⟩,hjb2,by simp only[List.length_cons,List.length_nil];omega,⟨⟨i0,i1⟩,⟨by dsimp only;omega,by dsimp only;omega⟩,?_⟩,by dsimp only;omega⟩
    dsimp only
    rw[eb]
    exact g.push (fun u hu=>g.lb u hu _ (Nat.le_refl _) hjb2) (Nat.le_refl _) (by omega) (fun u=>by rw[exS hjb2,or_left_comm]) hla (fun k h1 h2=>ob.mono h2 (by omega)) (by omega)
   ·subst hd
    have hia:i<a.length:=by
     by_cases e:i=((a.length:Nat):Int)
     ·rw[beq_iff_eq.2 e]at hf2;cases hf2
     ·omega
    have hia2:i.toNat<a.length:=by omega
    rw[beq_eq_false_iff_ne.2 (by omega:i≠((a.length:Nat):Int)),cond_false]at hf2
    rw[decide_eq_true hia,cond_true]at hf
    have heq:pth a i.toNat=pth b j.toNat:=by
     by_cases e:pth a i.toNat=pth b j.toNat
     ·exact e
     ·rcases NM e with h1|h1
      ·rw[h1]at hf;cases hf
      ·rw[h1]at hf2;cases hf2
    rw[w64 (n:=i+1) (by omega) (by omega),w64 (n:=j+1) (by omega) (by omega)]
    refine⟨⟨i0,hia⟩,hia2,by simp only[List.length_cons,List.length_nil];omega,⟨⟨by dsimp only;omega,by dsimp only;omega⟩,⟨by dsimp only;omega,by dsimp only;omega⟩,?_⟩,by dsimp only;omega⟩
    dsimp only
    rw[ea,eb]
    refine g.push (fun u hu=>g.la u hu _ (Nat.le_refl _) hia2) (by omega) (by omega) (fun u=>?_) (fun k h1 h2=>oa.mono h2 (by omega)) (fun k h1 h2=>?_) (by omega)
    ·rw[exS hia2,exS hjb2,←heq]
     constructor
     ·rintro(h|h|h)
      ·exact .inl (.inl h)
      ·exact .inl (.inr h)
      ·exact .inr (.inr h)
     ·rintro((h|h)|(h|h))
      ·exact .inl h
      ·exact .inr (.inl h)
      ·exact .inl h
      ·exact .inr (.inr h)
    ·show Op.bytesLess (pth a i.toNat) (pth b k)=true
     rw[heq]
     exact ob.mono h2 (by omega)
 ·have hi:¬i<a.length∧¬j<b.length:=by
   rw[Bool.cond_eq_ite]at hc
   split at hc
   ·cases hc
   ·rename_i h1
    exact⟨fun h=>h1 (decide_eq_true h),of_decide_eq_false hc⟩
  rw[show i.toNat=a.length by omega,show j.toNat=b.length by omega]at g
  exact g
end Go.VS

/- The document's list of differences. -/
set_option linter.unusedVariables false
set_option linter.unusedSimpArgs false
namespace Go.VS
variable{P:Pg}
theorem O9:∀{l:List AA},l.Pairwise (fun x y=>x.1≠y.1)→∀p,findF l p=match Br l p with|some v=>(v,true)|none=>([],false)
 |[],_,p=>rfl
 |f::r,h,p=>by
  have h2:=List.pairwise_cons.1 h
  have ih:=O9 h2.2 p
  rw[findF,Br]
  by_cases e:f.1=p
  ·rw[if_pos e]
   have hn:Br r p=none:=by
    cases hb:Br r p with
    |none=>rfl
    |some v=>
     obtain⟨g,hg,hgp⟩:=(Dy r p).1 (by rw[hb];rfl)
     exact absurd (e.trans hgp.symm) (h2.1 g hg)
   rw[hn,if_pos e.symm]
  ·rw[if_neg e,ih]
   cases hb:Br r p with
   |some v=>rfl
   |none=>rw[if_neg (fun h=>e h.symm)]
theorem I1.ne{l:List AA}(h:I1 l):l.Pairwise (fun x y=>x.1≠y.1):=by
 rw[List.pairwise_iff_getElem]
 intro i j hi hj hij e
 have h1:=(h j hj i hij).1
 have h2:pth l i=pth l j:=by
  unfold pth
  rw[getD_eq hi,getD_eq hj]
  exact e
 rw[h2,FA]at h1
 cases h1
def H4(a b:List AA)(p:Bs):Option AD:=(MM a b p).map fun k=>(p,k)
theorem AaY{a b:List AA}{l:List Bs}(h:Gath a b l a.length b.length):G4 a b (l.filterMap (H4 a b)):=by
 have hk:∀p t,H4 a b p=some t→t.1=p∧MM a b p=some t.2:=fun p t ht=>by
  unfold H4 at ht
  obtain⟨k,h1,rfl⟩:=Option.map_eq_some_iff.1 ht
  exact⟨rfl,h1⟩
 refine⟨?_,fun p k=>?_⟩
 ·refine List.Pairwise.filterMap _ (fun x y hxy t ht u hu=>?_) h.srt
  rw[(hk x t ht).1,(hk y u hu).1]
  exact hxy
 ·rw[List.mem_filterMap]
  constructor
  ·rintro⟨q,hq,ht⟩
   obtain⟨h1,h2⟩:=hk q _ ht
   have h1:p=q:=h1
   subst h1
   exact h2
  ·intro hp
   refine⟨p,(h.mem p).2 ?_,by unfold H4;rw[hp];rfl⟩
   have hin:∀{l:List AA} {v},Br l p=some v→∃k,k<l.length∧k<l.length∧pth l k=p:=fun{l v} hb=>by
    obtain⟨f,hf,hfp⟩:=(Dy l p).1 (by rw[hb];rfl)
    obtain⟨m,hm⟩:=List.getElem?_of_mem hf
    have hml:=(List.getElem?_eq_some_iff.1 hm).1
    refine⟨m,hml,hml,?_⟩
    unfold pth
    rw[List.getD_eq_getElem?_getD,hm]
    exact hfp
   unfold MM at hp
   cases ha:Br a p with
   |some v=>exact .inl (hin ha)
   |none=>
    cases hb:Br b p with
    |some v=>exact .inr (hin hb)
    |none=>rw[ha,hb]at hp;cases hp
end Go.VS

/- What tree.Diff gathers, and that it is the differences once sorted. -/
set_option linter.unusedVariables false
set_option linter.unusedSimpArgs false
namespace Go.VS
variable{P:Pg}
def Ht(b:List AA)(f:AA):Option AD:=match Br b f.1 with
 |none=>some (f.1,2)
 |some v=>if v=f.2 then none else some (f.1,3)
def K6(a:List AA)(f:AA):Option AD:=match Br a f.1 with
 |none=>some (f.1,1)
 |some _=>none
def MK(a b:List AA):List AD:=a.filterMap (Ht b)++b.filterMap (K6 a)
theorem Sj{b:List AA}{f:AA}{t:AD}(h:Ht b f=some t):t.1=f.1:=by
 unfold Ht at h
 split at h
 ·cases h;rfl
 ·split at h
  ·cases h
  ·cases h;rfl
theorem QW{a:List AA}{f:AA}{t:AD}(h:K6 a f=some t):t.1=f.1∧Br a f.1=none:=by
 unfold K6 at h
 split at h
 ·rename_i h1;cases h;exact⟨rfl,h1⟩
 ·cases h
theorem I1.blob{l:List AA}(h:I1 l){f:AA}(hf:f∈l):Br l f.1=some f.2:=by
 have h1:=h.ne
 clear h
 induction l with
 |nil=>cases hf
 |cons g r ih=>
  have h2:=List.pairwise_cons.1 h1
  rw[Br]
  rcases List.mem_cons.1 hf with rfl|hf
  ·cases hb:Br r f.1 with
   |none=>dsimp only;rw[if_pos rfl]
   |some v=>
    obtain⟨g,hg,he⟩:=(Dy r f.1).1 (by rw[hb];rfl)
    exact absurd he.symm (h2.1 g hg)
  ·rw[ih hf h2.2]
theorem I1.Xh{l:List AA}(h:I1 l){p v:Bs}:Br l p=some v↔(p,v)∈l:=by
 constructor
 ·intro hb
  obtain⟨f,hf,rfl⟩:=(Dy l p).1 (by rw[hb];rfl)
  have:=h.blob hf
  rw[this]at hb
  cases hb
  exact hf
 ·intro hf
  exact h.blob hf
theorem Ac2{a b:List AA}(ha:I1 a)(hb:I1 b)(p:Bs)(k:Int):(p,k)∈MK a b↔MM a b p=some k:=by
 unfold MK MM
 rw[List.mem_append,List.mem_filterMap,List.mem_filterMap]
 constructor
 ·rintro(⟨f,hf,h⟩|⟨f,hf,h⟩)
  ·have h1:=Sj h
   have h1:p=f.1:=h1
   subst h1
   rw[ha.blob hf]
   unfold Ht at h
   split at h
   ·rename_i h2;rw[h2];cases h;rfl
   ·rename_i v h2
    rw[h2]
    split at h
    ·cases h
    ·rename_i h3
     cases h
     dsimp only
     rw[if_neg (fun e=>h3 e.symm)]
  ·obtain⟨h1,h2⟩:=QW h
   have h1:p=f.1:=h1
   subst h1
   rw[h2,hb.blob hf]
   unfold K6 at h
   rw[h2]at h
   cases h;rfl
 ·intro h
  cases h1:Br a p with
  |none=>
   cases h2:Br b p with
   |none=>rw[h1,h2]at h;cases h
   |some v=>
    rw[h1,h2]at h
    cases h
    exact .inr ⟨(p,v),hb.Xh.1 h2,by unfold K6;rw[h1]⟩
  |some u=>
   refine .inl ⟨(p,u),ha.Xh.1 h1,?_⟩
   unfold Ht
   cases h2:Br b p with
   |none=>rw[h1,h2]at h;cases h;rfl
   |some v=>
    rw[h1,h2]at h
    dsimp only at h⊢
    split at h
    ·cases h
    ·rename_i h3
     cases h
     rw[if_neg (fun e=>h3 e.symm)]
theorem XB{l:List AA}(h:l.Pairwise fun x y=>x.1≠y.1){g:AA→Option AD}(hg:∀f t,g f=some t→t.1=f.1):(l.filterMap g).Pairwise fun x y=>x.1≠y.1:=
 h.filterMap g fun x y hxy t ht u hu=>by rw[hg x t ht,hg y u hu];exact hxy
theorem Aev{a b:List AA}(ha:I1 a)(hb:I1 b):(MK a b).Pairwise fun x y=>x.1≠y.1:=by
 unfold MK
 refine List.pairwise_append.2 ⟨XB ha.ne fun _ _ h=>Sj h,XB hb.ne fun _ _ h=>(QW h).1,fun x hx y hy e=>?_⟩
 obtain⟨f,hf,h1⟩:=List.mem_filterMap.1 hx
 obtain⟨g,hg,h2⟩:=List.mem_filterMap.1 hy
 obtain⟨h3,h4⟩:=QW h2
 rw[←h3,←e,Sj h1,ha.blob hf]at h4
 cases h4
theorem AcL(a b:List AA):(MK a b).length≤a.length+b.length:=by
 unfold MK
 rw[List.length_append]
 exact Nat.add_le_add (List.length_filterMap_le ..) (List.length_filterMap_le ..)
theorem PU{a b:List AA}(ha:I1 a)(hb:I1 b){d:List AD}(hp:d.Perm (MK a b))(hs:d.Pairwise fun x y=>Op.bytesLess y.1 x.1=false):G4 a b d:=by
 refine⟨?_,fun p k=>by rw[hp.mem_iff,Ac2 ha hb]⟩
 have hn:d.Pairwise fun x y=>x.1≠y.1:=hp.symm.pairwise (Aev ha hb) fun h e=>h e.symm
 unfold Afc
 refine(hs.and hn).imp ?_
 rintro x y ⟨h1,h2⟩
 rcases NM h2 with h3|h3
 ·exact h3
 ·rw[h3]at h1;cases h1
end Go.VS

/- What performing differences gives, and that it is one tree. -/
set_option linter.unusedVariables false
set_option linter.unusedSimpArgs false
namespace Go.VS
variable{P:Pg}
theorem Gp{α:Type}[DecidableEq α]:∀{l m:List α},l.Nodup→(∀x∈l,x∈m)→l.length≤m.length
 |[],_,_,_=>Nat.zero_le _
 |a::l,m,hn,hs=>by
  have h2:=List.nodup_cons.1 hn
  have ha:=hs a (List.mem_cons_self ..)
  have ih:=Gp (m:=m.erase a) h2.2 fun x hx=>(List.mem_erase_of_ne (show x≠a from fun e=>h2.1 (by rw[←e];exact hx))).2 (hs x (List.mem_cons_of_mem _ hx))
  rw[List.length_erase_of_mem ha]at ih
  have:=List.length_pos_of_mem ha
  rw[List.length_cons]
  omega
end Go.VS

/- Graphs: who reaches whom; the document's marking. -/
set_option linter.unusedVariables false
set_option linter.unusedSimpArgs false
namespace Go.VS
variable{P:Pg}
abbrev Ak:=List Int×(Int×List AA)
def Bq(g:List Ak)(c:Int):List Int:=(g.getD c.toNat ([],(0,[]))).1
def inR(g:List Ak)(c:Int):Prop:=0≤c∧c<g.length
def SO(g:List Ak):Prop:=∀c,inR g c→∀p∈Bq g c,inR g p
inductive Rch (g:List Ak):Int→Int→Prop
 |refl (c:Int):Rch g c c
 |step {c p x:Int} (h:p∈Bq g c) (t:Rch g p x):Rch g c x
theorem Rch.trans{g:List Ak}{a b c:Int}(h:Rch g a b)(k:Rch g b c):Rch g a c:=by
 induction h with
 |refl=>exact k
 |step h _ ih=>exact .step h (ih k)
theorem Rch.snoc{g:List Ak}{a b p:Int}(h:Rch g a b)(k:p∈Bq g b):Rch g a p:=h.trans (.step k (.refl p))
theorem Rch.inR{g:List Ak}(hv:SO g){a b:Int}(h:Rch g a b)(ha:inR g a):Go.VS.inR g b:=by
 induction h with
 |refl=>exact ha
 |step h _ ih=>exact ih (hv _ ha _ h)
def inS(s:List Bool)(x:Int):Prop:=s.getD x.toNat false=true
def Qp(s t:List Bool):Prop:=s.length=t.length∧∀i,s.getD i false=true→t.getD i false=true
theorem Qp.refl(s:List Bool):Qp s s:=⟨rfl,fun _ h=>h⟩
theorem Qp.trans{s t u:List Bool}(h:Qp s t)(k:Qp t u):Qp s u:=⟨h.1.trans k.1,fun i hi=>k.2 i (h.2 i hi)⟩
theorem X0:∀{s t:List Bool},Qp s t→s.count true≤t.count true∧(s.count true=t.count true→s=t)
 |[],[],_=>⟨Nat.le_refl _,fun _=>rfl⟩
 |[],_::_,h=>by cases h.1
 |_::_,[],h=>by cases h.1
 |a::s,b::t,h=>by
  have hr:Qp s t:=⟨by have:=h.1;simpa using this,fun i hi=>by have:=h.2 (i+1);simp only[List.getD_cons_succ]at this;exact this hi⟩
  have h0:=h.2 0
  simp only[List.getD_cons_zero]at h0
  obtain⟨h1,h2⟩:=X0 hr
  rw[List.count_cons,List.count_cons]
  cases a<;>cases b<;>simp at h0⊢
  ·exact⟨h1,h2⟩
  ·exact⟨by omega,by omega⟩
  ·exact⟨h1,h2⟩
theorem Wn:∀{s:List Bool},s.length≤s.count true→∀i,i<s.length→s.getD i false=true
 |[],_,i,hi=>absurd hi (Nat.not_lt_zero _)
 |a::s,h,i,hi=>by
  rw[List.count_cons]at h
  have hc:=List.count_le_length (a:=true) (l:=s)
  rw[List.length_cons]at h
  cases a with
  |false=>simp at h;omega
  |true=>
   cases i with
   |zero=>rfl
   |succ i=>
    simp only[beq_self_eq_true,if_true]at h
    rw[List.getD_cons_succ]
    exact Wn (by omega) i (by simpa using hi)
theorem Adj{s:List Bool}{i:Nat}(h:s.getD i false=true):s.set i true=s:=by
 refine Ws false (by rw[List.length_set]) fun j hj=>?_
 rw[List.length_set]at hj
 by_cases hi:i<s.length
 ·rw[HV hi]
  split
  ·rename_i e;subst e;exact h.symm
  ·rfl
 ·rw[List.set_eq_of_length_le (by omega)]
theorem QC{s:List Bool}{i:Nat}:Qp s (s.set i true):=by
 refine⟨by rw[List.length_set],fun j hj=>?_⟩
 by_cases hi:i<s.length
 ·rw[HV hi]
  split
  ·rfl
  ·exact hj
 ·rw[List.set_eq_of_length_le (by omega)];exact hj
theorem Vy{s:List Bool}{p x:Int}(hp:p.toNat<s.length)(h0:0≤p)(hx:0≤x):inS (s.set p.toNat true) x↔x=p∨inS s x:=by
 unfold inS
 rw[HV hp]
 split
 ·rename_i e
  exact⟨fun _=>.inl (by omega),fun _=>rfl⟩
 ·rename_i e
  exact⟨.inr,fun h=>h.elim (fun h=>absurd (by rw[h]) e) id⟩
theorem AfU{s:List Bool}{x:Int}(h:inS s x):x.toNat<s.length:=by
 unfold inS at h
 by_cases hl:x.toNat<s.length
 ·exact hl
 ·rw[List.getD_eq_getElem?_getD,List.getElem?_eq_none (by omega)]at h
  cases h
def Acq(g:List Ak)(s:List Bool):Prop:=∀c,inR g c→inS s c→∀p∈Bq g c,inS s p
theorem Aej{g:List Ak}{s:List Bool}(hv:SO g)(hc:Acq g s){a b:Int}(h:Rch g a b)(ha:inR g a)(hs:inS s a):inS s b:=by
 induction h with
 |refl=>exact hs
 |step h _ ih=>exact ih (hv _ ha _ h) (hc _ ha hs _ h)
def AbU(g:List Ak)(fr:List Int)(s:List Bool):Prop:=s.length=g.length∧∀x,inR g x→(inS s x↔∃f∈fr,Rch g f x)
def Agk(g:List Ak)(fr:List Int)(s:List Bool):Prop:=∀x,0≤x→inS s x→∃f∈fr,Rch g f x
def bsG(fr:List Int)(s:List Bool):Prop:=∀f∈fr,inS s f
theorem bsG.mono{fr:List Int}{s t:List Bool}(h:bsG fr s)(k:Qp s t):bsG fr t:=fun f hf=>k.2 _ (h f hf)
structure Aau(g:List Ak)(fr:List Int)(S:List Bool)(c:Int)(s:List Bool):Prop where
 sub:Qp S s
 snd:Agk g fr s
 done:∀c',inR g c'→c'<c→inS S c'→∀p∈Bq g c',inS s p
 same:Acq g S→s=S
structure Ahq(g:List Ak)(fr:List Int)(S:List Bool)(c p:Int)(s:List Bool):Prop where
 rnd:Aau g fr S c s
 par:inS S c→∀q∈(Bq g c).take p.toNat,inS s q
def QP(P:Pg):Prop:=∀x:List Ak×List Int,x.1.length≤1000000→x.2.length≤1000000→SO x.1→(∀c,inR x.1 c→(Bq x.1 c).length≤1000000)→(∀f∈x.2,inR x.1 f)→Fn P AdV Dv x fun(d:List Bool) _=>AbU x.1 x.2 d
theorem Ady(h:Has P GD):QP P:=by
 rintro⟨g,fr⟩ hn hm hv hpl hf
 dsimp only at hn hm hv hpl hf
 refine Rt h ?_
 unfold Mz
 dsimp only
 refine⟨⟨Int.natCast_nonneg _,Int.le_refl _,by omega⟩,?_⟩
 refine Ad.mid (fun s=>s.length=g.length∧bsG fr s∧Agk g fr s) ?_ ?_
 ·refine AJ.of (fun q=>(0≤q.2∧q.2≤fr.length)∧q.1.length=g.length∧(∀j,j<q.2.toNat→inS q.1 (fr.getD j 0))∧∀x,0≤x→inS q.1 x→x∈fr) (fun q=>(fr.length -q.2).toNat) ⟨⟨Int.le_refl _,Int.natCast_nonneg _⟩,by simp,fun j hj=>absurd hj (by simp),fun x h0 hx=>by
   have hl:=AfU hx
   unfold inS at hx
   rw[Lk (by simpa using hl)]at hx
   cases hx⟩ ?_
  rintro⟨s,i⟩ ⟨⟨i0,i1⟩,hsl,hb,hs⟩
  dsimp only at i0 i1 hsl hb hs⊢
  refine⟨fun hi=>?_,fun hi=>?_⟩
  ·have hi:=of_decide_eq_true hi
   have hi2:i.toNat<fr.length:=by omega
   have hfi:=hf _ (A6 (d:=0) hi2)
   have hfl:(fr.getD i.toNat 0).toNat<s.length:=by have:=hfi.1;have:=hfi.2;omega
   refine Ad.mid (fun t=>t=s.set (fr.getD i.toNat 0).toNat true) ⟨⟨i0,hi⟩,hi2,⟨hfi.1,by have:=hfi.2;omega⟩,hfl,rfl⟩ ?_
   rintro t rfl
   rw[w64 (by omega) (by omega)]
   refine⟨⟨⟨by omega,by omega⟩,by rw[List.length_set];exact hsl,fun j hj=>?_,fun x h0 hx=>?_⟩,by omega⟩
   ·by_cases e:j=i.toNat
    ·subst e
     exact(Vy hfl hfi.1 hfi.1).2 (.inl rfl)
    ·exact QC.2 _ (hb j (by omega))
   ·rcases(Vy hfl hfi.1 h0).1 hx with rfl|hx
    ·exact A6 hi2
    ·exact hs x h0 hx
  ·have hi:=of_decide_eq_false hi
   refine⟨hsl,fun f hf=>?_,fun x h0 hx=>⟨x,hs x h0 hx,.refl x⟩⟩
   obtain⟨j,hj⟩:=List.getElem?_of_mem hf
   obtain⟨hl,he⟩:=List.getElem?_eq_some_iff.1 hj
   have:=hb j (by omega)
   rwa [getD_eq hl,he]at this
 rintro s0 ⟨hl0,hb0,hs0⟩
 refine Ad.mid (fun s=>AbU g fr s) ?_ fun _ h=>h
 refine AJ.of (fun q=>(0≤q.2∧q.2≤g.length)∧q.1.length=g.length∧bsG fr q.1∧Agk g fr q.1∧(Acq g q.1∨q.2.toNat≤q.1.count true)) (fun q=>(g.length -q.2).toNat) ⟨⟨Int.le_refl _,Int.natCast_nonneg _⟩,hl0,hb0,hs0,.inr (Nat.zero_le _)⟩ ?_
 rintro⟨S,r⟩ ⟨⟨r0,r1⟩,hSl,hSb,hSs,hSc⟩
 dsimp only at r0 r1 hSl hSb hSs hSc⊢
 refine⟨fun hr=>?_,fun hr=>?_⟩
 ·have hr:=of_decide_eq_true hr
  refine Ad.mid (fun s=>Aau g fr S g.length s) ?_ fun s hs=>?_
  ·refine Ad.mid (fun s=>Aau g fr S g.length s) ?_ fun _ h=>h
   refine AJ.of (fun q=>(0≤q.2∧q.2≤g.length)∧Aau g fr S q.2 q.1) (fun q=>(g.length -q.2).toNat) ⟨⟨Int.le_refl _,Int.natCast_nonneg _⟩,⟨Qp.refl S,hSs,fun c' h1 h2=>absurd h2 (by have:=h1.1;omega),fun _=>rfl⟩⟩ ?_
   rintro⟨s,c⟩ ⟨⟨c0,c1⟩,hs⟩
   dsimp only at c0 c1 hs⊢
   refine⟨fun hc=>?_,fun hc=>?_⟩
   ·have hc:=of_decide_eq_true hc
    have hc2:c.toNat<g.length:=by omega
    have hcr:inR g c:=⟨c0,hc⟩
    have hpc:=hpl c hcr
    refine Ad.mid (fun s=>Aau g fr S (c+1) s) ?_ fun s hs=>?_
    ·refine Ad.mid (fun s=>Aau g fr S (c+1) s) ?_ fun _ h=>h
     show AJ _ _
     have hpe:(g.getD c.toNat ([],(0,[]))).1=Bq g c:=rfl
     refine AJ.of (fun q=>(0≤q.2∧q.2≤(Bq g c).length)∧Ahq g fr S c q.2 q.1) (fun q=>((Bq g c).length -q.2).toNat) ⟨⟨Int.le_refl _,Int.natCast_nonneg _⟩,hs,fun _ q hq=>by simp at hq⟩ ?_
     rintro⟨s,p⟩ ⟨⟨p0,p1⟩,hs⟩
     dsimp only at p0 p1 hs⊢
     have hsl:s.length=g.length:=hs.rnd.sub.1.symm.trans hSl
     refine⟨⟨c0,hc⟩,hc2,fun _=>⟨c0,by omega⟩,fun _=>by omega,fun hb=>?_,fun hb=>?_⟩
     ·rw[Bool.cond_eq_ite]at hb
      split at hb
      ·rename_i h1
       have h1:=of_decide_eq_true h1
       have h1:p<(Bq g c).length:=h1
       have h2:inS s c:=hb
       have hp2:p.toNat<(Bq g c).length:=by omega
       have hpm:(Bq g c).getD p.toNat 0∈Bq g c:=A6 hp2
       have hpr:=hv c hcr _ hpm
       have hpl2:((Bq g c).getD p.toNat 0).toNat<s.length:=by have:=hpr.1;have:=hpr.2;omega
       have hlt:(Bq g c).getD p.toNat 0<((s.length:Nat):Int):=by have:=hpr.2;omega
       refine Ad.mid (fun t=>t=s.set ((Bq g c).getD p.toNat 0).toNat true) ⟨⟨c0,hc⟩,hc2,⟨p0,h1⟩,hp2,⟨hpr.1,hlt⟩,hpl2,rfl⟩ ?_
       rintro t rfl
       rw[w64 (by omega) (by omega)]
       refine⟨⟨⟨by omega,by omega⟩,⟨hs.rnd.sub.trans QC,fun x h0 hx=>?_,fun c' h3 h4 h5 q hq=>QC.2 _ (hs.rnd.done c' h3 h4 h5 q hq),fun hcl=>?_⟩,fun hSc q hq=>?_⟩,by omega⟩
       ·rcases(Vy hpl2 hpr.1 h0).1 hx with rfl|hx
        ·obtain⟨f,hf,hfc⟩:=hs.rnd.snd c c0 h2
         exact⟨f,hf,hfc.snoc hpm⟩
        ·exact hs.rnd.snd x h0 hx
       ·have he:=hs.rnd.same hcl
        subst he
        exact Adj (hcl c hcr h2 _ hpm)
       ·rw[show(p+1).toNat=p.toNat+1 by omega,List.take_add_one,List.getElem?_eq_getElem hp2]at hq
        rcases List.mem_append.1 hq with hq|hq
        ·exact QC.2 _ (hs.par hSc q hq)
        ·have:q=(Bq g c).getD p.toNat 0:=by rw[getD_eq hp2];simpa using hq
         rw[this]
         exact(Vy hpl2 hpr.1 hpr.1).2 (.inl rfl)
      ·cases hb
     ·refine⟨hs.rnd.sub,hs.rnd.snd,fun c' h1 h2 h3 q hq=>?_,hs.rnd.same⟩
      by_cases e:c'=c
      ·subst e
       have hin:inS s c':=hs.rnd.sub.2 _ h3
       have hpe:¬p<(Bq g c').length:=fun h4=>by
        have h5:(decide (p<(((Bq g c').length:Nat):Int)))=true:=decide_eq_true h4
        have hb:(cond (decide (p<(((Bq g c').length:Nat):Int))) (s.getD c'.toNat false) false)=false:=hb
        rw[h5,cond_true]at hb
        unfold inS at hin
        rw[hin]at hb
        cases hb
       have:=hs.par h3
       rw[List.take_of_length_le (by omega)]at this
       exact this q hq
      ·exact hs.rnd.done c' h1 (by omega) h3 q hq
    ·rw[w64 (by omega) (by omega)]
     exact⟨⟨⟨by omega,by omega⟩,hs⟩,by omega⟩
   ·have hc:=of_decide_eq_false hc
    rw[show((g.length:Nat):Int)=c by omega]
    exact hs
  ·rw[w64 (by omega) (by omega)]
   refine⟨⟨⟨by omega,by omega⟩,hs.sub.1.symm.trans hSl,hSb.mono hs.sub,hs.snd,?_⟩,by omega⟩
   have hclo:s=S→Acq g s:=fun e c hc hin p hp=>hs.done c hc hc.2 (by rw[←e];exact hin) p hp
   obtain⟨h1,h2⟩:=X0 hs.sub
   rcases hSc with h|h
   ·exact .inl (hclo (hs.same h))
   ·by_cases e:S.count true=s.count true
    ·exact .inl (hclo (h2 e).symm)
    ·exact .inr (by omega)
 ·have hr:=of_decide_eq_false hr
  have hcl:Acq g S:=by
   rcases hSc with h|h
   ·exact h
   ·intro c hc hin p hp
    have hpr:=hv c hc p hp
    exact Wn (by omega) _ (by have:=hpr.1;have:=hpr.2;omega)
  refine⟨hSl,fun x hx=>⟨fun h=>hSs x hx.1 h,?_⟩⟩
  rintro⟨f,hfm,hr⟩
  exact Aej hv hcl hr (hf f hfm) (hSb f hfm)
end Go.VS
