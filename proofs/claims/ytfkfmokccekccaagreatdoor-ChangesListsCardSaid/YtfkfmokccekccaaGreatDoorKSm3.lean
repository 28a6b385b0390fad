import Derived.Test.YtfkfmokccekccaaGreatDoorKSm2
import Derived.Test.YtfkfmokccekccaaGreatDoorKSm1
import Derived.Test.YtfkfmokccekccaaGreatDoorKSm0
/- Graphs: the document's check. -/
set_option linter.unusedVariables false
set_option linter.unusedSimpArgs false
namespace Go.VS
variable{P:Pg}
theorem AfQ{g:List Ak}{c:Int}(hc:inR g c){s:List Bool}(hs:AbU g (Bq g c) s)(h:s.getD c.toNat false=true):Ml g:=by
 obtain⟨f,hf,hr⟩:=(hs.2 c hc).1 h
 exact⟨c,hc,f,hf,hr⟩
theorem Abb{g:List Ak}{c:Int}(hc:inR g c){s:List Bool}(hs:AbU g (Bq g c) s)(h:s.getD c.toNat false=false):¬∃p∈Bq g c,Rch g p c:=by
 rintro hr
 have:=(hs.2 c hc).2 hr
 unfold inS at this
 rw[h]at this
 cases this
def JT(P:Pg):Prop:=∀g:List Ak,g.length≤1000000→Hv g→Fn P AdW Du g fun(d:Int) _=>DC g d
theorem VJ(h:Has P GC)(hH:US P)(hR:QP P)(hT:HG P):JT P:=by
 intro g hgl hs
 refine Rs h ?_
 unfold My
 refine⟨fun hc=>YS fun k=>absurd k.1 (by have:=of_decide_eq_true hc;omega),fun hc=>?_⟩
 have hg:g.length≤300:=by have:=of_decide_eq_false hc;omega
 clear hc
 refine Ad.mid (fun _=>∀c∈g,c.1.length≤32) ?_ fun d2 hlim=>?_
 ·refine AJ.of (fun q=>(0≤q.2∧q.2≤g.length)∧∀j,j<q.2.toNat→(g.getD j ([],(0,[]))).1.length≤32) (fun q=>(g.length -q.2).toNat) ⟨⟨Int.le_refl _,by dsimp only;omega⟩,fun j hj=>absurd hj (by simp)⟩ ?_
  rintro⟨q,i⟩ ⟨⟨i0,i1⟩,hq⟩
  dsimp only at i0 i1 hq⊢
  refine⟨fun hi=>?_,fun hi=>?_⟩
  ·have hi:=of_decide_eq_true hi
   have hi2:i.toNat<g.length:=by omega
   refine Ad.mid (fun _=>(g.getD i.toNat ([],(0,[]))).1.length≤32) ⟨⟨i0,hi⟩,hi2,fun hb=>?_,fun hb=>?_⟩ fun _ hn=>?_
   ·have hb:=of_decide_eq_true hb
    have hb:(((g.getD i.toNat ([],(0,[]))).1.length:Nat):Int)>32:=hb
    exact YS fun k=>absurd (k.2 _ (Eb hi2)) (by omega)
   ·have hb:=of_decide_eq_false hb
    have hb:¬((((g.getD i.toNat ([],(0,[]))).1.length:Nat):Int)>32):=hb
    show(g.getD i.toNat ([],(0,[]))).1.length≤32
    omega
   ·rw[w64 (by omega) (by omega)]
    refine⟨⟨⟨by omega,by omega⟩,fun j hj=>?_⟩,by omega⟩
    by_cases hji:j=i.toNat
    ·subst hji;exact hn
    ·exact hq j (by omega)
  ·have hi:=of_decide_eq_false hi
   exact CH (d:=([],(0,[]))) (p:=fun c=>c.1.length≤32) fun j hj=>hq j (by omega)
 have k1:IZ g:=⟨hg,hlim⟩
 clear hlim
 refine Ad.mid (fun _=>H5 g) ?_ fun d8 k2=>?_
 ·refine AJ.of (fun q=>(0≤q.2∧q.2≤g.length)∧∀j,j<q.2.toNat→Qk g.length (g.getD j ([],(0,[]))).1) (fun q=>(g.length -q.2).toNat) ⟨⟨Int.le_refl _,by dsimp only;omega⟩,fun j hj=>absurd hj (by simp)⟩ ?_
  rintro⟨q,i⟩ ⟨⟨i0,i1⟩,hq⟩
  dsimp only at i0 i1 hq⊢
  refine⟨fun hi=>?_,fun hi=>?_⟩
  ·have hi:=of_decide_eq_true hi
   have hi2:i.toNat<g.length:=by omega
   have hl:(g.getD i.toNat ([],(0,[]))).1.length≤32:=k1.2 _ (Eb hi2)
   have hbad:∀j,j<(g.getD i.toNat ([],(0,[]))).1.length→¬P4 g.length (g.getD i.toNat ([],(0,[]))).1 j→¬H5 g:=fun j hj=>XK hi2 hj
   refine Ad.mid (fun _=>Qk g.length (g.getD i.toNat ([],(0,[]))).1) ?_ fun _ hn=>?_
   ·have ez:g.getD i.toNat Ah=g.getD i.toNat ([],(0,[])):=rfl
    rw[ez]
    generalize(g.getD i.toNat ([],(0,[]))).1=l at hl hbad⊢
    refine Ad.mid (fun _=>Qk g.length l) ?_ fun _ h=>h
    refine AJ.of (fun q=>(0≤q.2∧q.2≤l.length)∧∀j,j<q.2.toNat→P4 g.length l j) (fun q=>(l.length -q.2).toNat) ⟨⟨Int.le_refl _,by dsimp only;omega⟩,fun j hj=>absurd hj (by simp)⟩ ?_
    rintro⟨r,k⟩ ⟨⟨k0,kk1⟩,hk⟩
    dsimp only at k0 kk1 hk⊢
    refine⟨⟨i0,hi⟩,hi2,fun hki=>?_,fun hki=>?_⟩
    ·have hki:=of_decide_eq_true hki
     have hk2:k.toNat<l.length:=by omega
     have hou:=Mc (l.getD k.toNat 0) g.length
     generalize(cond (decide (l.getD k.toNat 0<0)) true (decide (l.getD k.toNat 0≥(g.length:Int))))=b at hou⊢
     refine Ad.mid (fun _=>P4 g.length l k.toNat) ⟨⟨i0,hi⟩,hi2,⟨k0,hki⟩,hk2,fun _=>⟨i0,hi⟩,fun _=>hi2,fun _=>⟨k0,by omega⟩,?_⟩ fun _ hn=>?_
     ·refine Ad.mid (fun d=>b=false→(d=true↔l.getD k.toNat 0∈l.take k.toNat)) ⟨fun hc=>?_,fun hc h=>(by rw[hc]at h;cases h),trivial⟩ fun d hd=>⟨fun hb=>?_,fun hb=>?_⟩
      ·exact(hH (l.take k.toNat,l.getD k.toNat 0) (by rw[List.length_take];omega)).to fun(d:Bool) _ hd _=>hd
      ·refine AcW k1 (hbad k.toNat hk2 fun ha=>?_)
       have hbf:=hou.2 ha.1
       rw[hbf]at hb
       exact ha.2 ((hd hbf).1 hb)
      ·cases b with
       |true=>cases hb
       |false=>exact⟨hou.1 rfl,fun hm=>(by have:=(hd rfl).2 hm;rw[this]at hb;cases hb)⟩
     ·rw[w64 (by omega) (by omega)]
      refine⟨⟨⟨by omega,by omega⟩,fun j hj=>?_⟩,by omega⟩
      by_cases hji:j=k.toNat
      ·subst hji;exact hn
      ·exact hk j (by omega)
    ·have hki:=of_decide_eq_false hki
     exact fun j hj=>hk j (by omega)
   ·rw[w64 (by omega) (by omega)]
    refine⟨⟨⟨by omega,by omega⟩,fun j hj=>?_⟩,by omega⟩
    by_cases hji:j=i.toNat
    ·subst hji;exact hn
    ·exact hq j (by omega)
  ·have hi:=of_decide_eq_false hi
   exact CH (d:=([],(0,[]))) (p:=fun c=>Qk g.length c.1) fun j hj=>hq j (by omega)
 refine Ad.mid (fun _=>¬Ml g) ?_ fun d23 k3=>?_
 ·refine AJ.of (fun q=>(0≤q.2∧q.2≤g.length)∧∀c:Int,0≤c→c<q.2→¬∃p∈Bq g c,Rch g p c) (fun q=>(g.length -q.2).toNat) ⟨⟨Int.le_refl _,by dsimp only;omega⟩,fun c h1 h2=>absurd h2 (by dsimp only;omega)⟩ ?_
  rintro⟨q,i⟩ ⟨⟨i0,i1⟩,hq⟩
  dsimp only at i0 i1 hq⊢
  refine⟨fun hi=>?_,fun hi=>?_⟩
  ·have hi:=of_decide_eq_true hi
   have hi2:i.toNat<g.length:=by omega
   refine Ad.mid (fun _=>¬∃p∈Bq g i,Rch g p i) ⟨⟨i0,hi⟩,hi2,fun hp=>⟨⟨i0,hi⟩,hi2,?_⟩,fun hp=>⟨fun k=>(by cases k),fun _=>?_⟩⟩ fun _ hn=>?_
   ·refine(hR (g,Bq g i) (by dsimp only;omega) (FT k1 i ⟨i0,hi⟩) (Ec k2) (FT k1) (fun f hf=>Ec k2 i ⟨i0,hi⟩ f hf)).to ?_
    rintro(s:List Bool) _ hsr
    have hsr:AbU g (Bq g i) s:=hsr
    have hsl:=hsr.1
    refine⟨⟨i0,by rw[hsl];exact hi⟩,by rw[hsl];exact hi2,fun hb=>AcX k1 k2 (AfQ ⟨i0,hi⟩ hsr hb),fun hb=>Abb ⟨i0,hi⟩ hsr hb⟩
   ·rintro⟨p,hm,_⟩
    have hp:=of_decide_eq_false hp
    have hp:¬(((Bq g i).length:Nat):Int)>0:=hp
    have:=List.length_pos_of_mem hm
    omega
   ·rw[w64 (by omega) (by omega)]
    refine⟨⟨⟨by omega,by omega⟩,fun c h1 h2=>?_⟩,by omega⟩
    by_cases hji:c=i
    ·subst hji;exact hn
    ·exact hq c h1 (by omega)
  ·have hi:=of_decide_eq_false hi
   rintro⟨c,hc,hp⟩
   exact hq c hc.1 (by have:=hc.2;omega) hp
 refine Ad.mid (fun _=>O3 g) ?_ fun d31 k4=>?_
 ·refine AJ.of (fun q=>(0≤q.2∧q.2≤g.length)∧∀j,j<q.2.toNat→0≤(g.getD j ([],(0,[]))).2.1∧(g.getD j ([],(0,[]))).2.1≤2147483647) (fun q=>(g.length -q.2).toNat) ⟨⟨Int.le_refl _,by dsimp only;omega⟩,fun j hj=>absurd hj (by simp)⟩ ?_
  rintro⟨q,i⟩ ⟨⟨i0,i1⟩,hq⟩
  dsimp only at i0 i1 hq⊢
  refine⟨fun hi=>?_,fun hi=>?_⟩
  ·have hi:=of_decide_eq_true hi
   have hi2:i.toNat<g.length:=by omega
   refine Ad.mid (fun _=>0≤(g.getD i.toNat ([],(0,[]))).2.1∧(g.getD i.toNat ([],(0,[]))).2.1≤2147483647) ⟨⟨i0,hi⟩,hi2,fun _=>⟨i0,hi⟩,fun _=>hi2,fun hb=>?_,fun hb=>?_⟩ fun _ hn=>?_
   ·refine AcY k1 k2 k3 fun k=>?_
    have:=(QA _).2 (k _ (Eb hi2))
    exact absurd (this.symm.trans hb) (by simp)
   ·exact(QA _).1 hb
   ·rw[w64 (by omega) (by omega)]
    refine⟨⟨⟨by omega,by omega⟩,fun j hj=>?_⟩,by omega⟩
    by_cases hji:j=i.toNat
    ·subst hji;exact hn
    ·exact hq j (by omega)
  ·have hi:=of_decide_eq_false hi
   exact CH (d:=([],(0,[]))) (p:=fun c=>0≤c.2.1∧c.2.1≤2147483647) fun j hj=>hq j (by omega)
 refine Ad.mid (fun _=>Ge g=0) ?_ fun _ h=>Pl k1 k2 k3 k4 h.symm
 refine AJ.of (fun q=>(0≤q.2∧q.2≤g.length)∧Ge g=Ge (g.drop q.2.toNat)) (fun q=>(g.length -q.2).toNat) ⟨⟨Int.le_refl _,by dsimp only;omega⟩,rfl⟩ ?_
 rintro⟨q,i⟩ ⟨⟨i0,i1⟩,hq⟩
 dsimp only at i0 i1 hq⊢
 refine⟨fun hi=>?_,fun hi=>?_⟩
 ·have hi:=of_decide_eq_true hi
  have hi2:i.toNat<g.length:=by omega
  rw[SK hi2]at hq
  refine Ad.mid (fun _=>Dl (g.getD i.toNat ([],(0,[]))).2.2=0) ⟨⟨i0,hi⟩,hi2,(hT _ (hs _ (Eb hi2))).to ?_⟩ fun _ hn=>?_
  ·rintro(d:Int) _ hd
   have hd:d=Dl (g.getD i.toNat ([],(0,[]))).2.2:=hd
   rw[←hd]at hq⊢
   refine⟨fun hb=>Pl k1 k2 k3 k4 ?_,fun hb=>by simpa using hb⟩
   rw[hq,if_pos (by simpa using hb)]
  ·rw[if_neg (by simpa using hn)]at hq
   rw[w64 (by omega) (by omega)]
   refine⟨⟨⟨by omega,by omega⟩,?_⟩,by omega⟩
   rw[hq,show(i+1).toNat=i.toNat+1 by omega]
 ·have hi:=of_decide_eq_false hi
  show Ge g=0
  rw[hq,List.drop_of_length_le (by omega)]
  rfl
end Go.VS

/- The document's Deltas. -/
set_option linter.unusedVariables false
set_option linter.unusedSimpArgs false
namespace Go.VS
variable{P:Pg}
def MT(P:Pg):Prop:=∀x:List AA×List AA,Ex x.1→Ex x.2→I1 x.1→I1 x.2→Fn P AdY CX x fun(d:List AD) _=>G4 x.1 x.2 d
theorem Zu(h:Has P FF)(hP:OT P)(hF:Jp P):MT P:=by
 rintro⟨a,b⟩ ha hb oa ob
 dsimp only at ha hb oa ob
 have hna:=ha.1
 have hnb:=hb.1
 refine Qa h ?_
 unfold K3
 dsimp only
 refine(hP (a,b) ha hb oa ob).to ?_
 rintro(l:List Bs) _ hl
 have hl:Gath a b l a.length b.length:=hl
 have hll:=hl.len
 refine Ad.mid (fun d=>d=l.filterMap (H4 a b)) ?_ fun d hd=>by subst hd;exact AaY hl
 refine AJ.of (fun q=>(0≤q.2∧q.2≤l.length)∧q.1=(l.take q.2.toNat).filterMap (H4 a b)) (fun q=>(l.length -q.2).toNat) ⟨⟨Int.le_refl _,Int.natCast_nonneg _⟩,rfl⟩ ?_
 rintro⟨o,i⟩ ⟨⟨i0,i1⟩,ho⟩
 dsimp only at i0 i1 ho⊢
 refine⟨fun hi=>?_,fun hi=>?_⟩
 ·have hi:=of_decide_eq_true hi
  have hi2:i.toNat<l.length:=by omega
  have hol:o.length≤l.length:=by rw[ho];exact Nat.le_trans (List.length_filterMap_le ..) (by rw[List.length_take];omega)
  have hnx:(l.take (i.toNat+1)).filterMap (H4 a b)=o++(H4 a b (l.getD i.toNat [])).toList:=by
   rw[ho,List.take_add_one,List.getElem?_eq_getElem hi2,List.filterMap_append,List.getD_eq_getElem?_getD,List.getElem?_eq_getElem hi2]
   simp only[Option.toList_some,Option.getD_some]
   cases hp:H4 a b l[i.toNat]with
   |none=>simp[hp]
   |some v=>simp[hp]
  have hin:(Br a (l.getD i.toNat [])).isSome=true∨(Br b (l.getD i.toNat [])).isSome=true:=by
   rcases(hl.mem _).1 (A6 (d:=[]) hi2)with⟨k,h1,h2,h3⟩|⟨k,h1,h2,h3⟩
   ·exact .inl ((Dy a _).2 ⟨_,A6 (d:=([],[])) h2,h3⟩)
   ·exact .inr ((Dy b _).2 ⟨_,A6 (d:=([],[])) h2,h3⟩)
  have hpd:H4 a b (l.getD i.toNat [])=(MM a b (l.getD i.toNat [])).map fun k=>(l.getD i.toNat [],k):=rfl
  have hsz:∀k:Int,(o.length+([(l.getD i.toNat [],k)]:List AD).length)*24≤140737488355328:=fun k=>by
   simp only[List.length_cons,List.length_nil]
   omega
  rw[hpd]at hnx
  unfold MM at hnx
  refine Ad.mid (fun d=>d=(l.take (i.toNat+1)).filterMap (H4 a b)) ⟨⟨i0,hi⟩,hi2,(hF (a,l.getD i.toNat []) (by dsimp only;omega)).to ?_⟩ ?_
  ·rintro(da:Bs×Bool) _ hda
   have hda:da=_:=(show da=findF a (l.getD i.toNat [])from hda).trans (O9 oa.ne _)
   refine⟨⟨i0,hi⟩,hi2,(hF (b,l.getD i.toNat []) (by dsimp only;omega)).to ?_⟩
   rintro(db:Bs×Bool) _ hdb
   have hdb:db=_:=(show db=findF b (l.getD i.toNat [])from hdb).trans (O9 ob.ne _)
   refine Ad.mid (fun d=>d=(l.take (i.toNat+1)).filterMap (H4 a b)) ?_ fun _ h=>h
   refine Ad.mid (fun d=>d=(l.take (i.toNat+1)).filterMap (H4 a b)) ?_ fun _ h=>h
   cases hba:Br a (l.getD i.toNat [])with
   |none=>
    cases hbb:Br b (l.getD i.toNat [])with
    |none=>rw[hba,hbb]at hin;simp at hin
    |some v=>
     rw[hba]at hda
     rw[hba,hbb]at hnx
     subst hda
     exact⟨fun _=>⟨⟨i0,hi⟩,hi2,hsz 1,hnx.symm⟩,fun hc=>absurd hc (by simp)⟩
   |some u=>
    rw[hba]at hda
    subst hda
    refine⟨fun hc=>absurd hc (by simp),fun _=>?_⟩
    refine Ad.mid (fun d=>d=(l.take (i.toNat+1)).filterMap (H4 a b)) ?_ fun _ h=>h
    cases hbb:Br b (l.getD i.toNat [])with
    |none=>
     rw[hbb]at hdb
     rw[hba,hbb]at hnx
     subst hdb
     exact⟨fun _=>⟨⟨i0,hi⟩,hi2,hsz 2,hnx.symm⟩,fun hc=>absurd hc (by simp)⟩
    |some v=>
     rw[hbb]at hdb
     rw[hba,hbb]at hnx
     subst hdb
     refine⟨fun hc=>absurd hc (by simp),fun _=>?_⟩
     refine Ad.mid (fun d=>d=(l.take (i.toNat+1)).filterMap (H4 a b)) ⟨fun hc=>⟨⟨i0,hi⟩,hi2,hsz 3,?_⟩,fun hc=>?_⟩ fun _ h=>h
     ·have hne:¬u=v:=by simpa using hc
      dsimp only at hnx
      rw[if_neg hne]at hnx
      exact hnx.symm
     ·have he:u=v:=by simpa using hc
      dsimp only at hnx
      rw[if_pos he]at hnx
      rw[hnx]
      exact(List.append_nil o).symm
  ·rintro d rfl
   rw[w64 (by omega) (by omega)]
   exact⟨⟨⟨by omega,by omega⟩,by rw[show(i+1).toNat=i.toNat+1 by omega]⟩,by omega⟩
 ·have hi:=of_decide_eq_false hi
  rw[ho,List.take_of_length_le (by omega)]
end Go.VS
namespace Go.VS
variable{P:Pg}
theorem LZ{l:List AA}(h:Dl l=0):I1 l:=by
 unfold Dl at h
 split at h
 ·cases h
 ·split at h
  ·cases h
  ·split at h
   ·cases h
   ·rename_i h3
    exact(Oj l).1 (by simpa using h3)
end Go.VS

/- Blobs and trees made of raw numbers: which they are. -/
set_option linter.unusedVariables false
set_option linter.unusedSimpArgs false
namespace Go.VS
variable{P:Pg}
abbrev Afj:List Bs:=[([97]:List UInt8),([98]:List UInt8),([99]:List UInt8),([97,98]:List UInt8),([98,97]:List UInt8),([]:List UInt8),([97,97]:List UInt8),([98,32,97]:List UInt8),([120,43,121]:List UInt8),([92]:List UInt8)]
def PX(k:Int):Bs:=Afj.getD (Ga k 10).toNat []
theorem Pm(k:Int):(PX k).length≤3:=by
 have hr:=Em (a:=k) (n:=10) (by decide) (by decide)
 unfold PX
 generalize Ga k 10=m at*
 have:m=0∨m=1∨m=2∨m=3∨m=4∨m=5∨m=6∨m=7∨m=8∨m=9:=by omega
 rcases this with rfl|rfl|rfl|rfl|rfl|rfl|rfl|rfl|rfl|rfl<;>decide
def NA(P:Pg):Prop:=∀k:Int,Fn P ZH D2 k fun(d:Bs) _=>d=PX k
theorem Adr(h:Has P JN)(hM:JS P):NA P:=by
 intro k
 refine WA h ?_
 unfold QT
 refine hM.at (by decide) (by decide) ?_
 have hr:=Em (a:=k) (n:=10) (by decide) (by decide)
 exact⟨⟨by omega,by simp;omega⟩,by simp;omega,rfl⟩
def GV(raw:List Int)(fr kinds:Int):Nat→Bs
 |0=>[]
 |k+1=>(GV raw fr kinds k++PX (Ga (atF raw (fr+1+(k:Int))) kinds))++[10]
theorem Jt(raw:List Int)(fr kinds:Int):∀k,(GV raw fr kinds k).length≤4*k
 |0=>Nat.le_refl _
 |k+1=>by
  have h1:=Jt raw fr kinds k
  have h2:=Pm (Ga (atF raw (fr+1+(k:Int))) kinds)
  rw[GV,List.length_append,List.length_append]
  simp only[List.length_cons,List.length_nil]
  omega
def TP(s:Bs)(z:Int):Bool:=cond (cond ((Int.tmod z (4:Int))==(0:Int)) (decide (((List.length s:Nat):Int)>(1:Int))) false) (((UInt8.toNat (List.getD s (Int.toNat (IntKind.i64.wrap (((List.length s:Nat):Int) -(2:Int)))) 0):Nat):Int) !=(10:Int)) false
def NN(raw:List Int)(fr mx kinds:Int):Bs:=
 if TP (GV raw fr kinds (Ga (atF raw fr) (mx+1)).toNat) (atF raw (fr+90))=true then(GV raw fr kinds (Ga (atF raw fr) (mx+1)).toNat).take ((GV raw fr kinds (Ga (atF raw fr) (mx+1)).toNat).length -1)else GV raw fr kinds (Ga (atF raw fr) (mx+1)).toNat
theorem AaG{raw:List Int}{fr mx kinds:Int}(h0:0≤mx)(h1:mx≤100):(NN raw fr mx kinds).length≤400:=by
 have hr:=Em (a:=atF raw fr) (n:=mx+1) (by omega) (by omega)
 have h2:=Jt raw fr kinds (Ga (atF raw fr) (mx+1)).toNat
 unfold NN
 split
 ·rw[List.length_take];omega
 ·omega
def QG(P:Pg):Prop:=∀x:List Int×(Int×(Int×Int)),(0≤x.2.1∧x.2.1≤1000000)→(0≤x.2.2.1∧x.2.2.1≤100)→(1≤x.2.2.2∧x.2.2.2≤100000)→Fn P Yb DD x fun(d:Bs) _=>d=NN x.1 x.2.1 x.2.2.1 x.2.2.2
theorem Adm(h:Has P JM)(hA:Mo P)(hM:JS P)(hL:NA P):QG P:=by
 rintro⟨raw,fr,mx,kinds⟩ ⟨f0,f1⟩ ⟨m0,m1⟩ ⟨k0,k1⟩
 dsimp only at f0 f1 m0 m1 k0 k1
 refine Wz h ?_
 unfold QS
 dsimp only
 rw[w64 (n:=mx+1) (by omega) (by omega),w64 (n:=fr+1) (by omega) (by omega),w64 (n:=fr+90) (by omega) (by omega)]
 refine hA.at f0 (hM.at (by omega) (by omega) ?_)
 unfold NN
 have hr:=Em (a:=atF raw fr) (n:=mx+1) (by omega) (by omega)
 generalize Ga (atF raw fr) (mx+1)=m at hr⊢
 refine Ad.mid (fun d=>d=GV raw fr kinds m.toNat) ?_ fun d hd=>?_
 ·refine AJ.of (fun q=>(0≤q.2∧q.2≤m)∧q.1=GV raw fr kinds q.2.toNat) (fun q=>(m -q.2).toNat) ⟨⟨Int.le_refl _,hr.1⟩,rfl⟩ ?_
  rintro⟨s,i⟩ ⟨⟨i0,i1⟩,hs⟩
  dsimp only at i0 i1 hs⊢
  have hsl:=Jt raw fr kinds i.toNat
  rw[←hs]at hsl
  refine⟨fun hi=>?_,fun hi=>by have hi:=of_decide_eq_false hi;rw[hs,show i=m by omega]⟩
  have hi:=of_decide_eq_true hi
  have hnx:GV raw fr kinds (i.toNat+1)=(s++PX (Ga (atF raw (fr+1+i)) kinds))++[10]:=by
   rw[GV,←hs,show((i.toNat:Nat):Int)=i by omega]
  have hll:=Pm (Ga (atF raw (fr+1+i)) kinds)
  refine Ad.mid (fun d=>d=GV raw fr kinds (i.toNat+1)) ?_ fun d hd=>?_
  ·rw[w64 (by omega) (by omega)]
   refine hA.at (by omega) (hM.at k0 (by omega) ((hL _).to ?_))
   rintro(ln:Bs) _ hln
   have hln:ln=_:=hln
   subst hln
   refine⟨by omega,by rw[List.length_append];simp only[List.length_cons,List.length_nil];omega,hnx.symm⟩
  ·rw[w64 (by omega) (by omega)]
   exact⟨⟨⟨by omega,by omega⟩,by rw[hd,show(i+1).toNat=i.toNat+1 by omega]⟩,by omega⟩
 ·subst hd
  have hbl:=Jt raw fr kinds m.toNat
  generalize GV raw fr kinds m.toNat=d at hbl⊢
  refine hA.at (by omega) ⟨by decide,fun hc=>?_,?_⟩
  ·rw[Bool.cond_eq_ite]at hc
   split at hc
   ·have h1:=of_decide_eq_true hc
    rw[w64 (by omega) (by omega)]
    omega
   ·cases hc
  ·refine Ad.mid (fun e=>e=if TP d (atF raw (fr+90))=true then d.take (d.length -1)else d) ⟨fun hc=>?_,fun hc=>?_⟩ fun _ h=>h
   ·have h1:1<d.length:=by
     rw[Bool.cond_eq_ite]at hc
     split at hc
     ·rename_i h2
      rw[Bool.cond_eq_ite]at h2
      split at h2
      ·have:=of_decide_eq_true h2;omega
      ·cases h2
     ·cases hc
    rw[w64 (by omega) (by omega)]
    refine⟨⟨by omega,by omega⟩,?_⟩
    have hc:TP d (atF raw (fr+90))=true:=by unfold TP;exact hc
    rw[if_pos hc,show(((d.length:Nat):Int) -1).toNat=d.length -1 by omega]
   ·have hc:TP d (atF raw (fr+90))=false:=by unfold TP;exact hc
    rw[if_neg (by rw[hc];exact Bool.false_ne_true)]
theorem Qx:∀(s acc:Bs),(lnN acc s).length≤s.length
 |[],acc=>by rw[lnN];exact Nat.le_refl _
 |b::r,acc=>by
  rw[lnN]
  split
  ·have:=Qx r [];simp only[List.length_cons];omega
  ·have:=Qx r (acc++[b]);simp only[List.length_cons];omega
theorem YC{s:Bs}(h:s.length≤4000):G7 s=0:=by
 have h1:(lnF s).length≤s.length:=Qx s []
 unfold G7
 rw[if_neg (by omega)]
abbrev EI:List Bs:=[([97]:List UInt8),([98,47,120]:List UInt8),([98,47,121]:List UInt8),([99,32,100]:List UInt8)]
def AaO(raw:List Int)(fr lines:Int)(i:Nat):Option AA:=if atF raw (fr+(i:Int))%3>0 then some (EI.getD i [],NN raw (fr+10+20*(i:Int)) lines 4)else none
def P9(raw:List Int)(fr lines:Int)(k:Nat):List AA:=(List.range k).filterMap (AaO raw fr lines)
def HR(raw:List Int)(fr lines:Int):List AA:=P9 raw fr lines 4
theorem AaP(raw:List Int)(fr lines:Int)(k:Nat):P9 raw fr lines (k+1)=P9 raw fr lines k++(AaO raw fr lines k).toList:=by
 unfold P9
 rw[List.range_succ,List.filterMap_append]
 cases h:AaO raw fr lines k with
 |none=>simp[h]
 |some v=>simp[h]
def Afr(l:List AA):Prop:=∃q:Nat→Option Bs,(∀i v,q i=some v→v.length≤4000)∧l=(List.range 4).filterMap fun i=>(q i).map fun v=>(EI.getD i [],v)
theorem Wu{raw:List Int}{fr lines:Int}(h0:0≤lines)(h1:lines≤100):Afr (HR raw fr lines):=by
 refine⟨fun i=>if atF raw (fr+(i:Int))%3>0 then some (NN raw (fr+10+20*(i:Int)) lines 4)else none,fun i v hv=>?_,?_⟩
 ·dsimp only at hv
  split at hv
  ·cases hv;have:=AaG (raw:=raw) (fr:=fr+10+20*(i:Int)) (kinds:=4) h0 h1;omega
  ·cases hv
 ·unfold HR P9
  congr 1
  funext i
  unfold AaO
  dsimp only
  split<;>rfl
theorem X4{l:List AA}(h:Afr l):∃a b c d:Option Bs,(∀v,a=some v∨b=some v∨c=some v∨d=some v→v.length≤4000)∧l=(a.map fun v=>(EI.getD 0 [],v)).toList++((b.map fun v=>(EI.getD 1 [],v)).toList++((c.map fun v=>(EI.getD 2 [],v)).toList++(d.map fun v=>(EI.getD 3 [],v)).toList)):=by
 obtain⟨q,hq,rfl⟩:=h
 refine⟨q 0,q 1,q 2,q 3,fun v hv=>?_,?_⟩
 ·rcases hv with h|h|h|h
  ·exact hq _ _ h
  ·exact hq _ _ h
  ·exact hq _ _ h
  ·exact hq _ _ h
 ·show(List.range 4).filterMap _=_
  rw[show List.range 4=[0,1,2,3]from rfl]
  cases h0:q 0<;>cases h1:q 1<;>cases h2:q 2<;>cases h3:q 3<;>simp[h0,h1,h2,h3,List.filterMap]
end Go.VS

/- Trees made of raw numbers; lists that are compared. -/
set_option linter.unusedVariables false
set_option linter.unusedSimpArgs false
namespace Go.VS
variable{P:Pg}
def Jo(P:Pg):Prop:=∀x:List Int×(Int×Int),(0≤x.2.1∧x.2.1≤100000)→(0≤x.2.2∧x.2.2≤100)→Fn P Yc CW x fun(d:List AA) _=>d=HR x.1 x.2.1 x.2.2
theorem Ado(h:Has P Iv)(hA:Mo P)(hB:QG P):Jo P:=by
 rintro⟨raw,fr,lines⟩ ⟨f0,f1⟩ ⟨l0,l1⟩
 dsimp only at f0 f1 l0 l1
 refine U5 h ?_
 unfold PC
 dsimp only
 refine Ad.mid (fun d=>d=HR raw fr lines) ?_ fun _ h=>h
 have hlen4:(EI:List Bs).length=4:=rfl
 unfold HR
 have hsl:∀k,(P9 raw fr lines k).length≤k:=fun k=>by unfold P9;exact Nat.le_trans (List.length_filterMap_le ..) (by rw[List.length_range];exact Nat.le_refl _)
 refine AJ.of (fun q=>(0≤q.2∧q.2≤4)∧q.1=P9 raw fr lines q.2.toNat) (fun q=>(4 -q.2).toNat) ⟨⟨Int.le_refl _,by decide⟩,rfl⟩ ?_
 rintro⟨o,i⟩ ⟨⟨i0,i1⟩,ho⟩
 dsimp only at i0 i1 ho⊢
 refine⟨fun hi=>?_,fun hi=>by have hi:=of_decide_eq_false hi;rw[ho,show i=4 by omega];rfl⟩
 have hi:=of_decide_eq_true hi
 have hnx:=AaP raw fr lines i.toNat
 have hol:=hsl i.toNat
 rw[←ho]at hnx hol
 unfold AaO at hnx
 rw[show((i.toNat:Nat):Int)=i by omega]at hnx
 have hr:=Aax raw (fr+i)
 have hi4:i<((List.length (EI:List Bs):Nat):Int):=by rw[hlen4];omega
 have hi5:i.toNat<List.length (EI:List Bs):=by rw[hlen4];omega
 have hsz:∀v:Bs,(o.length+([(EI.getD i.toNat [],v)]:List AA).length)*32≤140737488355328:=fun v=>by
  simp only[List.length_cons,List.length_nil];omega
 refine Ad.mid (fun d=>d=P9 raw fr lines (i.toNat+1)) ?_ fun d hd=>?_
 ·rw[w64 (n:=fr+i) (by omega) (by omega),w64 (n:=fr+10) (by omega) (by omega),w64 (n:=20*i) (by omega) (by omega),w64 (n:=fr+10+20*i) (by omega) (by omega)]
  refine hA.at (by omega) ⟨by decide,?_⟩
  rw[Int.tmod_eq_emod_of_nonneg hr.1]
  refine Ad.mid (fun d=>d=P9 raw fr lines (i.toNat+1)) ⟨fun hc=>?_,fun hc=>?_⟩ fun _ h=>h
  ·have hc:=of_decide_eq_true hc
   rw[if_pos hc]at hnx
   have hbl:∀{K:Bs→Unit→Prop},K (NN raw (fr+10+20*i) lines 4) ()→Fn P Yb DD (raw,(fr+10+20*i,(lines,(4:Int)))) K:=fun{K} hk=>(hB (raw,(fr+10+20*i,(lines,(4:Int)))) ⟨by dsimp only;omega,by dsimp only;omega⟩ ⟨l0,l1⟩ ⟨(by decide:(1:Int)≤4),(by decide:(4:Int)≤100000)⟩).to fun(d:Bs) _ hd=>by
    have hd:d=_:=hd
    subst hd
    exact hk
   refine Ad.mid (fun d=>d=P9 raw fr lines (i.toNat+1)) (by repeat' (first|exact trivial|exact i0|exact hi4|exact hi5|exact hsz _|exact hnx.symm|apply And.intro|(refine hbl ?_))) fun _ h=>h
  ·have hc:=of_decide_eq_false hc
   rw[if_neg hc]at hnx
   rw[hnx]
   exact(List.append_nil o).symm
 ·subst hd
  rw[w64 (by omega) (by omega)]
  exact⟨⟨⟨by omega,by omega⟩,by rw[show(i+1).toNat=i.toNat+1 by omega]⟩,by omega⟩
theorem Jo.at(h:Jo P){raw:List Int}{fr lines:Int}(f0:0≤fr)(f1:fr≤100000)(l0:0≤lines)(l1:lines≤100){K:List AA→Unit→Prop}(hk:K (HR raw fr lines) ()):Fn P Yc CW (raw,(fr,lines)) K:=
 (h (raw,(fr,lines)) ⟨f0,f1⟩ ⟨l0,l1⟩).to fun(d:List AA) _ hd=>by
  have hd:d=HR raw fr lines:=hd
  subst hd
  exact hk
theorem Aep{α:Type}[DecidableEq α]{l m:List α}{d:α}(hl:l.length=m.length)(h:∀j,j<l.length→l.getD j d=m.getD j d):decide (l=m)=true:=
 decide_eq_true (Ws d hl h)
theorem AgS{α:Type}[DecidableEq α]{l m:List α}{d:α}(j:Nat)(h:l.getD j d≠m.getD j d):decide (l=m)=false:=
 decide_eq_false fun e=>h (by rw[e])
theorem Af2{α:Type}[DecidableEq α]{l m:List α}(h:((l.length:Nat):Int)≠((m.length:Nat):Int)):decide (l=m)=false:=
 decide_eq_false fun e=>h (by rw[e])
def Gg(P:Pg):Prop:=∀x:List AD×List AD,x.1.length≤1000000000→Fn P X9 CD x fun(d:Bool) _=>d=decide (x.1=x.2)
theorem Zq(h:Has P Hf):Gg P:=by
 rintro⟨l,m⟩ hn
 dsimp only at hn
 refine SX h ?_
 unfold ND
 dsimp only
 refine⟨fun hc=>(Af2 (by simpa using hc)).symm,fun hc=>?_⟩
 have hlm:l.length=m.length:=by
  have hc:((l.length:Nat):Int)=((m.length:Nat):Int):=by simpa using hc
  omega
 refine Ad.mid (fun _=>decide (l=m)=true) ?_ fun _ h=>h.symm
 refine AJ.of (fun q=>(0≤q.2∧q.2≤l.length)∧∀j,j<q.2.toNat→l.getD j ([],0)=m.getD j ([],0)) (fun q=>(l.length -q.2).toNat) ⟨⟨Int.le_refl _,Int.natCast_nonneg _⟩,fun j hj=>absurd hj (by simp)⟩ ?_
 rintro⟨q,i⟩ ⟨⟨i0,i1⟩,hq⟩
 dsimp only at i0 i1 hq⊢
 refine⟨fun hi=>?_,fun hi=>?_⟩
 ·have hi:=of_decide_eq_true hi
  have hi2:i.toNat<l.length:=by omega
  refine Ad.mid (fun _=>l.getD i.toNat ([],0)=m.getD i.toNat ([],0)) ⟨⟨i0,hi⟩,hi2,⟨i0,by omega⟩,by omega,fun hb=>?_,fun hb=>?_⟩ fun d hd=>?_
  ·exact(AgS i.toNat (d:=([],0)) fun e=>by rw[e]at hb;simp at hb).symm
  ·simp only[Bool.not_eq_false',Bool.and_true,Bool.and_eq_true,beq_iff_eq]at hb
   exact Prod.ext hb.1 hb.2
  ·rw[w64 (by omega) (by omega)]
   refine⟨⟨⟨by omega,by omega⟩,fun j hj=>?_⟩,by omega⟩
   by_cases hji:j=i.toNat
   ·subst hji;exact hd
   ·exact hq j (by omega)
 ·have hi:=of_decide_eq_false hi
  exact Aep hlm fun j hj=>hq j (by omega)
theorem Gg.at(h:Gg P){l m:List AD}(hl:l.length≤1000000000){K:Bool→Unit→Prop}(hk:K (decide (l=m)) ()):Fn P X9 CD (l,m) K:=
 (h (l,m) hl).to fun(d:Bool) _ hd=>by
  have hd:d=decide (l=m):=hd
  subst hd
  exact hk
end Go.VS

/- TreeDiffs. -/
set_option linter.unusedVariables false
set_option linter.unusedSimpArgs false
namespace Go.VS
variable{P:Pg}
def IP(a b:List AA)(d:List AD×Int):Prop:=d.2=GW a b∧(d.2≠0→d.1=[])∧(d.2=0→G4 a b d.1)
theorem YT{a b:List AA}{d:List AD}(h:G4 a b d):d.length≤a.length+b.length:=by
 have hn:(d.map (·.1)).Nodup:=by
  rw[List.nodup_iff_pairwise_ne,List.pairwise_map]
  refine h.1.imp fun{x y} hxy e=>?_
  rw[e,FA]at hxy
  cases hxy
 have hs:∀p∈d.map (·.1),p∈(a++b).map (·.1):=fun p hp=>by
  obtain⟨t,ht,rfl⟩:=List.mem_map.1 hp
  have:=(h.2 t.1 t.2).1 ht
  unfold MM at this
  rw[List.map_append,List.mem_append]
  cases h1:Br a t.1 with
  |some v=>
   obtain⟨f,hf,e⟩:=(Dy a t.1).1 (by rw[h1];rfl)
   exact .inl (List.mem_map.2 ⟨f,hf,e⟩)
  |none=>
   cases h2:Br b t.1 with
   |some v=>
    obtain⟨f,hf,e⟩:=(Dy b t.1).1 (by rw[h2];rfl)
    exact .inr (List.mem_map.2 ⟨f,hf,e⟩)
   |none=>rw[h1,h2]at this;cases this
 have:=Gp hn hs
 rw[List.length_map,List.length_map,List.length_append]at this
 exact this
end Go.VS

/- changes: the lists of a commit. -/
set_option linter.unusedVariables false
set_option linter.unusedSimpArgs false
namespace Go.VS
variable{P:Pg}
def Cm(g:List Ak)(c:Int):List AA:=(g.getD c.toNat ([],(0,[]))).2.2
def BH(g:List Ak)(c:Int):List (List AA):=if(Bq g c).length=0 then[[]]else(Bq g c).map fun p=>Cm g p
theorem D4{g:List Ak}(h:DC g 0):IZ g∧H5 g∧¬Ml g∧O3 g∧Ge g=0:=by
 have k1:IZ g:=Classical.byContradiction fun k=>by have:=h.1 k;omega
 have k2:H5 g:=Classical.byContradiction fun k=>by have:=h.2.1 k1 k;omega
 have k3:¬Ml g:=fun k=>by have:=h.2.2.1 k1 k2 k;omega
 have k4:O3 g:=Classical.byContradiction fun k=>by have:=h.2.2.2.1 k1 k2 k3 k;omega
 exact⟨k1,k2,k3,k4,(h.2.2.2.2 k1 k2 k3 k4).symm⟩
theorem AfW(g:List Ak)(c:Int):(cond (decide (c≥(0:Int))) (decide (c<((List.length g:Nat):Int))) false)=true↔inR g c:=by
 unfold inR
 rw[Bool.cond_eq_ite]
 by_cases h:c≥0
 ·rw[if_pos (decide_eq_true h)]
  exact⟨fun k=>⟨h,of_decide_eq_true k⟩,fun k=>decide_eq_true k.2⟩
 ·rw[if_neg (by simpa using h)]
  exact⟨fun k=>(by cases k),fun k=>absurd k.1 h⟩
def EX(P:Pg):Prop:=∀x:List Ak×Int,Hv x.1→Fn P ZF BI x fun(d:Int) _=>∃e,DC x.1 e∧(e≠0→d=e)∧(e=0→(inR x.1 x.2→d=0)∧(¬inR x.1 x.2→d=5))
theorem Zp(h:Has P Fs)(hI:Has P Nw)(hD:K2 P):EX P:=by
 rintro⟨g,c⟩ hs
 refine Pc h ?_
 unfold KE
 dsimp only at hs⊢
 refine(hD g hs).to ?_
 rintro(e:Int) _ he
 have he:DC g e:=he
 refine⟨fun hb=>⟨e,he,fun _=>rfl,fun h0=>absurd h0 (by simpa using hb)⟩,fun hb=>?_⟩
 have h0:e=0:=by simpa using hb
 refine AaR hI ?_
 unfold VZ
 dsimp only
 have hi:=AfW g c
 refine⟨fun hb=>⟨e,he,fun k=>absurd h0 k,fun _=>⟨fun k=>?_,fun _=>rfl⟩⟩,fun hb=>⟨e,he,fun k=>absurd h0 k,fun _=>⟨fun _=>rfl,fun k=>?_⟩⟩⟩
 ·rw[hi.2 k]at hb;cases hb
 ·refine absurd (hi.1 ?_) k
  simpa using hb
def AbV(P:Pg):Prop:=∀x:List Ak×Int,Hv x.1→¬DC x.1 0→Fn P Afo DO x fun(d:List Bs×Int) _=>d.1=[]∧DC x.1 d.2
theorem JG{α:Type}{l:List α}{k:Nat}{d:α}(h:k<l.length):l.take (k+1)=l.take k++[l.getD k d]:=by
 rw[List.take_add_one,List.getD_eq_getElem?_getD,List.getElem?_eq_getElem h]
 rfl
def HF(P:Pg):Prop:=∀x:List Ak×Int,inR x.1 x.2→SO x.1→(Bq x.1 x.2).length≤1000000→Fn P ZG BL x fun(d:List (List AA)) _=>d=BH x.1 x.2
theorem Zt(h:Has P EM):HF P:=by
 rintro⟨g,c⟩ hc hv hl
 dsimp only at hc hv hl
 refine M3 h ?_
 unfold ID
 dsimp only
 have hc2:c.toNat<g.length:=by have:=hc.1;have:=hc.2;omega
 have ez:(g.getD c.toNat Ah).1=Bq g c:=rfl
 have hv2:=hv c hc
 rw[ez]
 refine⟨⟨hc.1,hc.2⟩,hc2,fun hb=>?_,fun hb=>⟨⟨hc.1,hc.2⟩,hc2,?_⟩⟩
 ·show[[]]=BH g c
  have hb:((Bq g c).length:Int)=0:=by simpa using hb
  unfold BH
  rw[if_pos (by omega)]
 ·have hb:¬((Bq g c).length:Int)=0:=by simpa using hb
  have et:BH g c=(Bq g c).map fun p=>Cm g p:=by unfold BH;rw[if_neg (by omega)]
  rw[et]
  generalize Bq g c=l at hl hv2 hb⊢
  refine Ad.mid (fun d=>d=l.map fun p=>Cm g p) ?_ fun _ h=>h
  refine AJ.of (fun q=>(0≤q.2∧q.2≤l.length)∧q.1=(l.take q.2.toNat).map fun p=>Cm g p) (fun q=>(l.length -q.2).toNat) ⟨⟨Int.le_refl _,by dsimp only;omega⟩,rfl⟩ ?_
  rintro⟨q,i⟩ ⟨⟨i0,i1⟩,hq⟩
  dsimp only at i0 i1 hq⊢
  refine⟨fun hi=>?_,fun hi=>?_⟩
  ·have hi:=of_decide_eq_true hi
   have hi2:i.toNat<l.length:=by omega
   have hp:=hv2 _ (A6 (d:=0) hi2)
   have hql:q.length=i.toNat:=by rw[hq,List.length_map,List.length_take];omega
   refine Ad.mid (fun d=>d=(l.take (i.toNat+1)).map fun p=>Cm g p) ⟨⟨i0,hi⟩,hi2,⟨hp.1,hp.2⟩,by have:=hp.1;have:=hp.2;omega,by simp only[List.length_cons,List.length_nil];omega,?_⟩ fun d hn=>?_
   ·rw[JG (d:=0) hi2,List.map_append,hq]
    rfl
   ·rw[w64 (by omega) (by omega)]
    refine⟨⟨⟨by omega,by omega⟩,?_⟩,by omega⟩
    rw[hn,show(i+1).toNat=i.toNat+1 by omega]
  ·have hi:=of_decide_eq_false hi
   show q=_
   rw[hq,List.take_of_length_le (by omega)]
theorem AcM{α:Type}{q r:List α}{k:Nat}{d:α}(h:k<q.length):(q++r).getD k d=q.getD k d:=by
 rw[List.getD_eq_getElem?_getD,List.getElem?_append_left h,←List.getD_eq_getElem?_getD]
theorem AcN{α:Type}{q:List α}{v d:α}:(q++[v]).getD q.length d=v:=by
 rw[List.getD_eq_getElem?_getD,List.getElem?_append_right (Nat.le_refl _),Nat.sub_self]
 rfl
def Ny(g:List Ak)(c:Int)(d:List (List AD)):Prop:=d.length=(BH g c).length∧∀k,k<d.length→∃e,IP ((BH g c).getD k []) (Cm g c) (d.getD k [],e)
theorem Nt{g:List Ak}{c:Int}(hl:(Bq g c).length≤1000000):(BH g c).length≤1000000∧0<(BH g c).length:=by
 unfold BH
 split
 ·simp
 ·rw[List.length_map];omega
def VY(P:Pg):Prop:=∀x:List Ak×Int,inR x.1 x.2→SO x.1→(Bq x.1 x.2).length≤1000000→(∀t∈BH x.1 x.2,Ex t)→Ex (Cm x.1 x.2)→Fn P AdO Dk x fun(d:List (List AD)) _=>Ny x.1 x.2 d
theorem Ahc(h:Has P Hd)(hP:HF P)(hT:QR P):VY P:=by
 rintro⟨g,c⟩ hc hv hl ht hf
 dsimp only at hc hv hl ht hf
 refine SS h ?_
 unfold NB
 refine(hP (g,c) hc hv hl).to ?_
 rintro(d:List (List AA)) _ hd
 have hd:d=BH g c:=hd
 subst hd
 dsimp only
 have hc2:c.toNat<g.length:=by have:=hc.1;have:=hc.2;omega
 have htl:=(Nt hl).1
 unfold Ny
 generalize BH g c=T at ht htl⊢
 refine Ad.mid (fun d=>d.length=T.length∧∀k,k<d.length→∃e,IP (T.getD k []) (Cm g c) (d.getD k [],e)) ?_ fun _ h=>h
 refine AJ.of (fun q=>(0≤q.2∧q.2≤T.length)∧q.1.length=q.2.toNat∧∀k,k<q.1.length→∃e,IP (T.getD k []) (Cm g c) (q.1.getD k [],e)) (fun q=>(T.length -q.2).toNat) ⟨⟨Int.le_refl _,by dsimp only;omega⟩,rfl,fun k hk=>absurd hk (by simp)⟩ ?_
 rintro⟨q,i⟩ ⟨⟨i0,i1⟩,hql,hq⟩
 dsimp only at i0 i1 hql hq⊢
 refine⟨fun hi=>?_,fun hi=>?_⟩
 ·have hi:=of_decide_eq_true hi
  have hi2:i.toNat<T.length:=by omega
  refine Ad.mid (fun d=>d.length=i.toNat+1∧∀k,k<d.length→∃e,IP (T.getD k []) (Cm g c) (d.getD k [],e)) ⟨⟨i0,hi⟩,hi2,⟨hc.1,hc.2⟩,hc2,(hT (T.getD i.toNat [],Cm g c) (ht _ (A6 hi2)) hf).to ?_⟩ fun d hn=>?_
  ·rintro(d:List AD×Int) _ hd
   have hd:IP (T.getD i.toNat []) (Cm g c) d:=hd
   refine⟨by simp only[List.length_cons,List.length_nil];omega,?_,fun k hk=>?_⟩
   ·rw[List.length_append,hql];rfl
   ·rw[List.length_append,List.length_singleton]at hk
    by_cases hki:k<q.length
    ·obtain⟨e,he⟩:=hq k hki
     refine⟨e,?_⟩
     rw[AcM hki]
     exact he
    ·have e1:k=q.length:=by omega
     refine⟨d.2,?_⟩
     rw[e1,AcN,hql]
     exact hd
  ·rw[w64 (by omega) (by omega)]
   exact⟨⟨⟨by omega,by omega⟩,by rw[hn.1];omega,hn.2⟩,by omega⟩
 ·have hi:=of_decide_eq_false hi
  exact⟨by omega,hq⟩
theorem UJ:∀{g:List Ak},Ge g=0→∀c∈g,Dl c.2.2=0
 |[],_,c,hc=>(nomatch hc)
 |x::g,h,c,hc=>by
  rw[Ge]at h
  by_cases hx:Dl x.2.2=0
  ·rw[if_neg (by simpa using hx)]at h
   rcases List.mem_cons.1 hc with rfl|hc
   ·exact hx
   ·exact UJ h c hc
  ·rw[if_pos hx]at h
   exact absurd h hx
theorem Acp{l:List AA}(h:Dl l=0):l.length≤200:=by
 unfold Dl at h
 split at h
 ·cases h
 ·omega
theorem D9{g:List Ak}(h0:DC g 0)(hs:Hv g){c:Int}(hc:inR g c):Dl (Cm g c)=0∧Ex (Cm g c):=by
 have hm:=Eb (g:=g) (i:=c.toNat) (by have:=hc.1;have:=hc.2;omega)
 have h1:=UJ (D4 h0).2.2.2.2 _ hm
 refine⟨h1,?_,hs _ hm⟩
 have:=Acp h1
 have:(Cm g c).length≤200:=this
 omega
theorem EF{g:List Ak}(h0:DC g 0)(hs:Hv g){c:Int}(hc:inR g c):∀t∈BH g c,Dl t=0∧Ex t:=by
 intro t ht
 unfold BH at ht
 split at ht
 ·have:t=[]:=by simpa using ht
  subst this
  exact⟨by decide,Nat.zero_le _,fun f hf=>nomatch hf⟩
 ·obtain⟨p,hp,rfl⟩:=List.mem_map.1 ht
  exact D9 h0 hs (Ec (D4 h0).2.1 c hc p hp)
def OR(P:Pg):Prop:=∀x:List Ak×Int,Hv x.1→DC x.1 0→inR x.1 x.2→Fn P zS8 BZ x fun(d:List (List AD)×Int) _=>Ny x.1 x.2 d.1∧d.2=0
theorem AbA(h:Has P Ev)(hC:EX P)(hO:VY P):OR P:=by
 intro x hs h0 hc
 refine Jw h ?_
 unfold G6
 refine(hC x hs).to ?_
 rintro(d:Int) _ ⟨e,he,_,h1⟩
 have hd:=(h1 (Gm he h0)).1 hc
 subst hd
 refine⟨fun hb=>absurd hb (by simp),fun hb=>?_⟩
 have k:=D4 h0
 refine(hO x hc (Ec k.2.1) (FT k.1 _ hc) (fun t ht=>(EF h0 hs hc t ht).2) (D9 h0 hs hc).2).to ?_
 rintro(d:List (List AD)) _ hd
 exact⟨hd,rfl⟩
def QM(P:Pg):Prop:=∀x:List Ak×(Int×(Int×Bs)),Hv x.1→DC x.1 0→inR x.1 x.2.1→0≤x.2.2.1→x.2.2.1<(BH x.1 x.2.1).length→Fn P X8 B8 x fun(d:Bs×(Bs×Int)) _=>d=((findF ((BH x.1 x.2.1).getD x.2.2.1.toNat []) x.2.2.2).1,((findF (Cm x.1 x.2.1) x.2.2.2).1,0))
theorem Adu(h:Has P ET)(hC:EX P)(hP:HF P)(hF:Jq P):QM P:=by
 rintro⟨g,c,p,w⟩ hs h0 hc hp0 hp1
 dsimp only at hs h0 hc hp0 hp1
 refine KJ h ?_
 unfold HJ
 dsimp only
 refine(hC (g,c) hs).to ?_
 rintro(d:Int) _ ⟨e,he,_,h1⟩
 have hd:=(h1 (Gm he h0)).1 hc
 subst hd
 refine⟨fun hb=>absurd hb (by simp),fun hb=>?_⟩
 have k:=D4 h0
 refine(hP (g,c) hc (Ec k.2.1) (FT k.1 _ hc)).to ?_
 rintro(d:List (List AA)) _ hd
 have hd:d=BH g c:=hd
 subst hd
 have hp2:p.toNat<(BH g c).length:=by omega
 have hb2:=(Mc p (BH g c).length).2 ⟨hp0,hp1⟩
 refine⟨fun hb=>(by rw[hb2]at hb;cases hb),fun hb=>⟨⟨hp0,hp1⟩,hp2,?_⟩⟩
 refine hF.at (EF h0 hs hc _ (A6 hp2)).2.1 ⟨⟨hc.1,hc.2⟩,by have:=hc.1;have:=hc.2;omega,?_⟩
 exact hF.at (D9 h0 hs hc).2.1 rfl
end Go.VS

/- Near: how long a changed text is, and how many lines it has. -/
set_option linter.unusedVariables false
set_option linter.unusedSimpArgs false
namespace Go.VS
variable{P:Pg}
theorem Pn:∀(s acc:Bs),s≠[]→(lnN acc s).flatten=acc++s
 |[],_,h=>absurd rfl h
 |b::r,acc,_=>by
  rw[lnN]
  split
  ·by_cases hr:r=[]
   ·subst hr;simp[lnN]
   ·rw[List.flatten_cons,Pn r [] hr];simp
  ·rename_i h
   have hr:r≠[]:=fun e=>h (Or.inr e)
   rw[Pn r (acc++[b]) hr];simp
theorem Aa5(s:Bs):(lnF s).flatten=s:=by
 by_cases h:s=[]
 ·subst h;rfl
 ·exact Pn s [] h
theorem Xc(k:Int):(PX k).count 10=0:=by
 have hr:=Em (a:=k) (n:=10) (by decide) (by decide)
 unfold PX
 generalize Ga k 10=m at*
 have:m=0∨m=1∨m=2∨m=3∨m=4∨m=5∨m=6∨m=7∨m=8∨m=9:=by omega
 rcases this with rfl|rfl|rfl|rfl|rfl|rfl|rfl|rfl|rfl|rfl<;>decide
def QK(P:Pg):Prop:=∀x:Bs×(List Int×Int),x.1.length≤4000→(0≤x.2.2∧x.2.2≤1000000)→Fn P AdP EU x fun(d:Bs) _=>d.length≤x.1.length+4*(x.1.count 10+1)∧d.count 10≤2*x.1.count 10+1
theorem Ads(h:Has P JO)(hA:Mo P)(hL:NA P)(hN:JR P):QK P:=by
 rintro⟨s,raw,fr⟩ hs ⟨f0,f1⟩
 dsimp only at hs f0 f1
 refine WC h ?_
 unfold QU
 dsimp only
 refine(hN s (by omega)).to ?_
 rintro(l:List Bs) _ hl
 have hl:l=lnF s:=hl
 have hlen:l.length≤s.count 10+1:=by
  have:=Z8 s
  rw[hl]
  split at this<;>omega
 have hlen2:l.length≤s.length:=by rw[hl];exact Qx s []
 have hfl:l.flatten=s:=by rw[hl];exact Aa5 s
 clear hl
 have hpre:∀k,k<l.length→(l.take (k+1)).flatten=(l.take k).flatten++l.getD k []:=fun k hk=>by
  rw[List.take_add_one,List.getElem?_eq_getElem hk,List.flatten_append,List.getD_eq_getElem?_getD,List.getElem?_eq_getElem hk]
  simp
 have hle:∀k,(l.take k).flatten.length≤s.length∧(l.take k).flatten.count 10≤s.count 10:=fun k=>by
  have:l.flatten=(l.take k).flatten++(l.drop k).flatten:=by rw[←List.flatten_append,List.take_append_drop]
  rw[hfl]at this
  have h1:=congrArg List.length this
  have h2:=congrArg (List.count (10:UInt8)) this
  rw[List.length_append]at h1
  rw[List.count_append]at h2
  omega
 rw[w64 (n:=fr+40) (by omega) (by omega)]
 refine Ad.mid (fun d=>d.length≤s.length+4*(s.count 10+1)∧d.count 10≤2*s.count 10+1) ?_ fun _ h=>h
 refine AJ.of (fun q=>(0≤q.2∧q.2≤l.length)∧(q.1.length:Int)≤4*q.2+((l.take q.2.toNat).flatten.length:Nat)∧(q.1.count 10:Int)≤q.2+((l.take q.2.toNat).flatten.count 10:Nat)) (fun q=>(l.length -q.2).toNat) ⟨⟨Int.le_refl _,Int.natCast_nonneg _⟩,by simp,by simp⟩ ?_
 rintro⟨d,i⟩ ⟨⟨i0,i1⟩,hd,hc⟩
 dsimp only at i0 i1 hd hc⊢
 have hti:=hle i.toNat
 refine⟨fun hi=>?_,fun hi=>by have hi:=of_decide_eq_false hi;omega⟩
 have hi:=of_decide_eq_true hi
 have hi2:i.toNat<l.length:=by omega
 have hp:=congrArg List.length (hpre i.toNat hi2)
 have hp2:=congrArg (List.count (10:UInt8)) (hpre i.toNat hi2)
 rw[List.length_append]at hp
 rw[List.count_append]at hp2
 have htj:=hle (i.toNat+1)
 refine Ad.mid (fun d=>(d.length:Int)≤4*(i+1)+((l.take (i.toNat+1)).flatten.length:Nat)∧(d.count 10:Int)≤i+1+((l.take (i.toNat+1)).flatten.count 10:Nat)) ?_ fun d hd=>?_
 ·rw[w64 (n:=fr+i) (by omega) (by omega),w64 (n:=fr+40+i) (by omega) (by omega)]
  refine hA.at (by omega) ⟨by decide,?_⟩
  refine Ad.mid (fun e=>(e.length:Int)≤4*i+((l.take i.toNat).flatten.length:Nat)+4∧(e.count 10:Int)≤i+((l.take i.toNat).flatten.count 10:Nat)+1) ⟨fun _=>by omega,fun _=>?_⟩ fun e he=>?_
  ·refine Ad.mid (fun e=>(e.length:Int)≤4*i+((l.take i.toNat).flatten.length:Nat)+4∧(e.count 10:Int)≤i+((l.take i.toNat).flatten.count 10:Nat)+1) ⟨fun _=>?_,fun _=>by omega⟩ fun _ h=>h
   refine hA.at (by omega) ((hL _).to ?_)
   rintro(ln:Bs) _ hln
   have hln:ln=PX _:=hln
   have hl1:=Pm (atF raw (fr+40+i))
   have hl2:=Xc (atF raw (fr+40+i))
   rw[←hln]at hl1 hl2
   refine⟨by omega,by rw[List.length_append];simp only[List.length_cons,List.length_nil];omega,?_⟩
   try dsimp only
   rw[List.length_append,List.length_append,List.count_append,List.count_append,hl2]
   simp only[List.length_cons,List.length_nil,List.count_singleton_self]
   omega
  ·refine⟨⟨i0,hi⟩,hi2,by omega,?_⟩
   try dsimp only
   rw[List.length_append,List.count_append]
   omega
 ·rw[w64 (by omega) (by omega),show(i+1).toNat=i.toNat+1 by omega]
  exact⟨⟨⟨by omega,by omega⟩,hd.1,hd.2⟩,by omega⟩
end Go.VS
