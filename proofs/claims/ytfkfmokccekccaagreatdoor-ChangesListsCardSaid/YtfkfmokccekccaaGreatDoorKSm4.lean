import Derived.Test.YtfkfmokccekccaaGreatDoorKSm3
import Derived.Test.YtfkfmokccekccaaGreatDoorKSm1
/- Trees made of raw numbers, and changed ones. -/
set_option linter.unusedVariables false
set_option linter.unusedSimpArgs false
namespace Go.VS
variable{P:Pg}
def Q5(B:Nat)(v:Bs):Prop:=v.count 10+1≤B∧v.length+4≤4*B
def HI(B:Nat)(l:List AA):Prop:=(l.map (·.1)).Sublist EI∧∀f∈l,Q5 B f.2
theorem HI.mono{B C:Nat}{l:List AA}(h:HI B l)(hB:B≤C):HI C l:=⟨h.1,fun f hf=>by have:=h.2 f hf;unfold Q5 at*;omega⟩
theorem YW:∀p∈EI,CT p=0:=by decide
theorem Aa9:EI.Pairwise fun p q=>Op.bytesLess p q=true∧Gh p q=false:=by decide
theorem Ns{B:Nat}{l:List AA}(h:HI B l):l.length≤4:=by
 have:=h.1.length_le
 rw[List.length_map]at this
 exact this
theorem AbN{B:Nat}{l:List AA}(h:HI B l)(hB:B≤1000):Dl l=0:=by
 have hl:=Ns h
 have hp:l.all (fun f=>CT f.1==0)=true:=by
  rw[List.all_eq_true]
  intro f hf
  rw[YW f.1 (h.1.subset (List.mem_map.2 ⟨f,hf,rfl⟩))]
  rfl
 have ho:RZ l=true:=by
  rw[Oj]
  have hpw:=Aa9.sublist h.1
  rw[List.pairwise_map,List.pairwise_iff_getElem]at hpw
  intro i hi k hk
  have:=hpw k i (by omega) hi hk
  unfold pth
  rw[List.getD_eq_getElem?_getD,List.getD_eq_getElem?_getD,List.getElem?_eq_getElem hi,List.getElem?_eq_getElem (Nat.lt_trans hk hi)]
  exact this
 have hc:l.all (fun f=>G7 f.2==0)=true:=by
  rw[List.all_eq_true]
  intro f hf
  have:=(h.2 f hf).2
  rw[YC (by omega)]
  rfl
 unfold Dl
 rw[if_neg (by omega),if_neg (by rw[hp];simp),if_neg (by rw[ho];simp),if_neg (by rw[hc];simp)]
theorem Aa8:∀p∈EI,p.length≤3:=by decide
theorem AdE{B:Nat}{l:List AA}(h:HI B l)(hB:B≤1000):Ex l:=⟨by have:=Ns h;omega,fun f hf=>by
 have h1:=Aa8 f.1 (h.1.subset (List.mem_map.2 ⟨f,hf,rfl⟩))
 have h2:=(h.2 f hf).2
 omega⟩
theorem Wa(raw:List Int)(fr kinds:Int):∀k,(GV raw fr kinds k).count 10=k
 |0=>rfl
 |k+1=>by
  rw[GV,List.count_append,List.count_append,Wa raw fr kinds k,Xc]
  rfl
theorem Aef{raw:List Int}{fr mx kinds:Int}(h0:0≤mx)(h1:mx≤100):Q5 (mx.toNat+1) (NN raw fr mx kinds):=by
 have hr:=Em (a:=atF raw fr) (n:=mx+1) (by omega) (by omega)
 have h2:=Jt raw fr kinds (Ga (atF raw fr) (mx+1)).toNat
 have h3:=Wa raw fr kinds (Ga (atF raw fr) (mx+1)).toNat
 unfold NN Q5
 split
 ·have h4:=(List.take_sublist ((GV raw fr kinds (Ga (atF raw fr) (mx+1)).toNat).length -1) (GV raw fr kinds (Ga (atF raw fr) (mx+1)).toNat)).count_le (10:UInt8)
  rw[List.length_take]
  omega
 ·omega
theorem Qz(p:Bs)(o:Option Bs):(((o.map fun v=>(p,v)).toList).map (·.1)).Sublist [p]:=by cases o<;>simp
theorem Wt{raw:List Int}{fr lines:Int}(h0:0≤lines)(h1:lines≤100):HI (lines.toNat+1) (HR raw fr lines):=by
 refine⟨?_,fun f hf=>?_⟩
 ·obtain⟨a,b,c,d,_,hl⟩:=X4 (Wu (raw:=raw) (fr:=fr) h0 h1)
  rw[hl,List.map_append,List.map_append,List.map_append]
  exact(Qz (EI.getD 0 []) a).append ((Qz (EI.getD 1 []) b).append ((Qz (EI.getD 2 []) c).append (Qz (EI.getD 3 []) d)))
 ·unfold HR P9 at hf
  obtain⟨i,_,hi⟩:=List.mem_filterMap.1 hf
  unfold AaO at hi
  split at hi
  ·have:=Option.some.inj hi
   rw[←this]
   exact Aef h0 h1
  ·cases hi
theorem Xg{l:List AA}{i:Nat}(h:i<l.length):(l.take (i+1)).map (·.1)=(l.take i).map (·.1)++[(l.getD i ([],[])).1]:=by
 rw[JG (d:=([],[])) h,List.map_append]
 rfl
def VW(B:Nat)(l:List AA)(i:Nat)(d:List AA):Prop:=(d.map (·.1)).Sublist ((l.take i).map (·.1))∧∀f∈d,Q5 B f.2
theorem AaJ{B:Nat}{l d:List AA}{i:Nat}(h:VW B l i d)(hi:i<l.length):VW B l (i+1) d:=⟨by rw[Xg hi];exact h.1.trans (List.sublist_append_left _ _),h.2⟩
theorem Acn{B:Nat}{l d:List AA}{i:Nat}{v:Bs}(h:VW B l i d)(hi:i<l.length)(hv:Q5 B v):VW B l (i+1) (d++[((l.getD i ([],[])).1,v)]):=by
 refine⟨?_,fun f hf=>?_⟩
 ·rw[Xg hi,List.map_append]
  exact h.1.append (List.Sublist.refl _)
 ·rcases List.mem_append.1 hf with hf|hf
  ·exact h.2 f hf
  ·rw[List.mem_singleton.1 hf]
   exact hv
theorem Aco{B:Nat}{l d:List AA}{i:Nat}(h:VW B l i d)(hl:l.length≤4):d.length≤4:=by
 have:=h.1.length_le
 rw[List.length_map,List.length_map,List.length_take]at this
 omega
def OO(P:Pg):Prop:=∀(B:Nat) (x:List AA×(List Int×(Int×Int))),HI B x.1→x.2.2.2.toNat+1≤B→B≤900→(0≤x.2.2.1∧x.2.2.1≤90000)→(0≤x.2.2.2∧x.2.2.2≤100)→Fn P AdQ DT x fun(d:List AA) _=>HI (2*B) d
theorem Abx(h:Has P Hh)(hA:Mo P)(hM:JS P)(hN:QK P)(hF:Jo P):OO P:=by
 rintro B ⟨l,raw,fr,lines⟩ hl hB hB2 ⟨f0,f1⟩ ⟨l0,l1⟩
 dsimp only at hl hB f0 f1 l0 l1
 have hl4:=Ns hl
 refine SZ h ?_
 unfold NG
 dsimp only
 rw[w64 (n:=fr+3) (by omega) (by omega),w64 (n:=fr+5) (by omega) (by omega),w64 (n:=fr+7) (by omega) (by omega)]
 refine hA.at (by omega) (hM.at (by decide) (by decide) ?_)
 generalize Ga (atF raw (fr+3)) 4=k
 refine Ad.mid (fun d=>VW (2*B) l l.length d) ?_ fun d hd=>⟨fun _=>?_,fun _=>?_⟩
 ·refine AJ.of (fun q=>(0≤q.2∧q.2≤l.length)∧VW (2*B) l q.2.toNat q.1) (fun q=>(l.length -q.2).toNat) ⟨⟨Int.le_refl _,Int.natCast_nonneg _⟩,by exact⟨by simp,fun f hf=>nomatch hf⟩⟩ ?_
  rintro⟨d,i⟩ ⟨⟨i0,i1⟩,hd⟩
  dsimp only at i0 i1 hd⊢
  refine⟨fun hi=>?_,fun hi=>by have hi:=of_decide_eq_false hi;rw[show i.toNat=l.length by omega]at hd;exact hd⟩
  have hi:=of_decide_eq_true hi
  have hi2:i.toNat<l.length:=by omega
  have hb:=hl.2 _ (A6 (d:=([],[])) hi2)
  have hb0:=hb
  unfold Q5 at hb0
  have hdl:=Aco hd hl4
  refine Ad.mid (fun d=>VW (2*B) l (i.toNat+1) d) ⟨⟨i0,hi⟩,hi2,?_⟩ fun d hn=>?_
  ·refine Ad.mid (fun f=>f.1=(l.getD i.toNat ([],[])).1∧Q5 (2*B) f.2) ⟨fun _=>?_,fun _=>⟨rfl,by unfold Q5;omega⟩⟩ fun f hf=>⟨by simp only[List.length_cons,List.length_nil];omega,?_⟩
   ·refine(hN ((l.getD i.toNat ([],[])).2,(raw,fr+7)) (by dsimp only;omega) ⟨by dsimp only;omega,by dsimp only;omega⟩).to ?_
    rintro(v:Bs) _ hv
    have hv:v.length≤(l.getD i.toNat ([],[])).2.length+4*((l.getD i.toNat ([],[])).2.count 10+1)∧v.count 10≤2*(l.getD i.toNat ([],[])).2.count 10+1:=hv
    have hvb:Q5 (2*B) v:=by unfold Q5;omega
    exact hA.at (by omega) ⟨by decide,fun _=>AaJ hd hi2,fun _=>⟨rfl,hvb⟩⟩
   ·obtain⟨a,b⟩:=f
    have e:a=(l.getD i.toNat ([],[])).1:=hf.1
    subst e
    exact Acn hd hi2 hf.2
  ·rw[w64 (by omega) (by omega)]
   exact⟨⟨⟨by omega,by omega⟩,by rw[show(i+1).toNat=i.toNat+1 by omega];exact hn⟩,by omega⟩
 ·refine(hF (raw,(fr,lines)) ⟨by dsimp only;omega,by dsimp only;omega⟩ ⟨l0,l1⟩).to ?_
  rintro(e:List AA) _ he
  have he:e=HR raw fr lines:=he
  rw[he]
  exact(Wt l0 l1).mono (by omega)
 ·refine⟨?_,hd.2⟩
  have:=hd.1
  rw[List.take_length]at this
  exact this.trans hl.1
end Go.VS

/- Graphs made of raw numbers: commits after their parents, and turned ones. -/
set_option linter.unusedVariables false
set_option linter.unusedSimpArgs false
namespace Go.VS
variable{P:Pg}
def Jn(i:Int)(l:List Int):Prop:=l.length≤3∧l.Nodup∧∀p∈l,0≤p∧p<i
def OkC(B:Nat)(i:Nat)(c:Ak):Prop:=Jn (i:Int) c.1∧(0≤c.2.1∧c.2.1<5)∧HI (B*2^i) c.2.2
def GU(B:Nat)(g:List Ak):Prop:=∀j,j<g.length→OkC B j (g.getD j ([],(0,[])))
theorem Jn.mono{i k:Int}{l:List Int}(h:Jn i l)(hk:i≤k):Jn k l:=⟨h.1,h.2.1,fun p hp=>by have:=h.2.2 p hp;omega⟩
theorem Jn.app{i:Int}{l:List Int}(h:Jn i l)(h0:0≤i)(hl:l.length<3):Jn (i+1) (l++[i]):=by
 refine⟨by rw[List.length_append];simp only[List.length_cons,List.length_nil];omega,?_,fun p hp=>?_⟩
 ·rw[List.nodup_append]
  refine⟨h.2.1,by simp,fun a ha b hb=>?_⟩
  rw[List.mem_singleton.1 hb]
  have:=h.2.2 a ha
  omega
 ·rcases List.mem_append.1 hp with hp|hp
  ·have:=h.2.2 p hp
   omega
  ·rw[List.mem_singleton.1 hp]
   omega
theorem GU.app{B:Nat}{g:List Ak}{c:Ak}(h:GU B g)(hc:OkC B g.length c):GU B (g++[c]):=by
 intro j hj
 rw[List.length_append,List.length_singleton]at hj
 by_cases hjg:j<g.length
 ·rw[AcM hjg];exact h j hjg
 ·have e:j=g.length:=by omega
  subst e
  rw[AcN];exact hc
theorem AgX{B i:Nat}(hB:B≤3)(hi:i≤8):B*2^i≤768:=Nat.mul_le_mul hB (Nat.pow_le_pow_right (by decide) hi:2^i≤2^8)
theorem Af7{B i p:Nat}(h:p<i):2*(B*2^p)≤B*2^i:=by
 have h1:2^(p+1)≤2^i:=Nat.pow_le_pow_right (by decide) h
 have h2:2*(B*2^p)=B*2^(p+1):=by rw[Nat.pow_succ,Nat.mul_comm 2,Nat.mul_assoc]
 rw[h2]
 exact Nat.mul_le_mul_left _ h1
theorem pow_one(B i:Nat):B≤B*2^i:=Nat.le_mul_of_pos_right _ (Nat.pow_pos (by decide))
theorem Q9{a b:Bool}(h:(cond a b false)=true):a=true∧b=true:=by cases a<;>simp_all
def SN(n:Nat)(c:Ak):Ak:=(c.1.map fun p=>(n:Int) -1 -p,c.2)
def AbW(g d:List Ak):Prop:=d=g∨(d.length=g.length∧∀c,c<g.length→d.getD (g.length -1 -c) ([],(0,[]))=SN g.length (g.getD c ([],(0,[]))))
theorem WL{α:Type}{l:List α}{i:Nat}{v d:α}(h:i<l.length):(l.set i v).getD i d=v:=by
 rw[List.getD_eq_getElem?_getD,List.getElem?_set_self h]
 rfl
theorem getD_set_ne{α:Type}{l:List α}{i j:Nat}{v d:α}(h:i≠j):(l.set i v).getD j d=l.getD j d:=by
 rw[List.getD_eq_getElem?_getD,List.getElem?_set_ne h,←List.getD_eq_getElem?_getD]
def OW(P:Pg):Prop:=∀x:List Ak×List Int,x.1.length≤1000→(∀j,j<x.1.length→(x.1.getD j ([],(0,[]))).1.length≤1000∧∀p∈(x.1.getD j ([],(0,[]))).1,0≤p∧p<(x.1.length:Int))→Fn P AdR DS x fun(d:List Ak) _=>AbW x.1 d
theorem AbG(h:Has P Hg)(hA:Mo P):OW P:=by
 rintro⟨g,raw⟩ hg hp
 dsimp only at hg hp
 refine SY h ?_
 unfold NF
 dsimp only
 refine hA.at (by decide) ⟨by decide,fun _=>Or.inl rfl,fun _=>⟨⟨by omega,by omega,by omega⟩,?_⟩⟩
 refine Ad.mid (fun d=>d.length=g.length∧∀c,c<g.length→d.getD (g.length -1 -c) ([],(0,[]))=SN g.length (g.getD c ([],(0,[])))) ?_ fun _ h=>Or.inr h
 refine AJ.of (fun q=>(0≤q.2∧q.2≤g.length)∧q.1.length=g.length∧∀c,c<q.2.toNat→q.1.getD (g.length -1 -c) ([],(0,[]))=SN g.length (g.getD c ([],(0,[])))) (fun q=>(g.length -q.2).toNat) ⟨⟨Int.le_refl _,Int.natCast_nonneg _⟩,by simp,fun c hc=>absurd hc (by simp)⟩ ?_
 rintro⟨d,i⟩ ⟨⟨i0,i1⟩,hdl,hd⟩
 dsimp only at i0 i1 hdl hd⊢
 refine⟨fun hi=>?_,fun hi=>by have hi:=of_decide_eq_false hi;exact⟨hdl,fun c hc=>hd c (by omega)⟩⟩
 have hi:=of_decide_eq_true hi
 have hi2:i.toNat<g.length:=by omega
 obtain⟨hpl,hpp⟩:=hp i.toNat hi2
 refine Ad.mid (fun d=>d.length=g.length∧∀c,c<i.toNat+1→d.getD (g.length -1 -c) ([],(0,[]))=SN g.length (g.getD c ([],(0,[])))) ⟨⟨i0,hi⟩,hi2,?_⟩ fun d2 hn=>?_
 ·have ez:g.getD i.toNat Ah=g.getD i.toNat ([],(0,[])):=rfl
  rw[ez]
  refine Ad.mid (fun y=>y=SN g.length (g.getD i.toNat ([],(0,[])))) ?_ fun y hy=>?_
  ·generalize g.getD i.toNat ([],(0,[]))=cm at hpl hpp⊢
   obtain⟨l,r⟩:=cm
   dsimp only at hpl hpp⊢
   refine AJ.of (fun q=>(0≤q.1∧q.1≤l.length)∧q.2=((l.take q.1.toNat).map (fun p=>(g.length:Int) -1 -p),r)) (fun q=>(l.length -q.1).toNat) ⟨⟨Int.le_refl _,Int.natCast_nonneg _⟩,rfl⟩ ?_
   rintro⟨k,x⟩ ⟨⟨k0,k1⟩,hx⟩
   dsimp only at k0 k1 hx⊢
   subst hx
   refine⟨⟨i0,hi⟩,hi2,fun hk=>?_,fun hk=>?_⟩
   ·have hk:=of_decide_eq_true hk
    have hk2:k.toNat<l.length:=by omega
    have hb:=hpp _ (A6 (d:=0) hk2)
    have hnx:(l.take (k.toNat+1)).map (fun p=>(g.length:Int) -1 -p)=(l.take k.toNat).map (fun p=>(g.length:Int) -1 -p)++[(g.length:Int) -1 -l.getD k.toNat 0]:=by
     rw[JG (d:=0) hk2,List.map_append]
     rfl
    have hsz:(((l.take k.toNat).map (fun p=>(g.length:Int) -1 -p)).length+([(g.length:Int) -1 -l.getD k.toNat 0]:List Int).length)*8≤140737488355328:=by
     rw[List.length_map,List.length_take]
     simp only[List.length_cons,List.length_nil]
     omega
    rw[w64 (n:=(g.length:Int) -1) (by omega) (by omega),w64 (n:=(g.length:Int) -1 -l.getD k.toNat 0) (by omega) (by omega)]
    refine Ad.mid (fun y=>y=((l.take (k.toNat+1)).map (fun p=>(g.length:Int) -1 -p),r)) ?_ fun y hy=>?_
    ·refine Ad.mid (fun y=>y=((l.take (k.toNat+1)).map (fun p=>(g.length:Int) -1 -p),r)) ?_ fun y hy=>hy
     have hj:(((l.take k.toNat).map (fun p=>(g.length:Int) -1 -p)++([(g.length:Int) -1 -l.getD k.toNat 0]:List Int),r):Ak)=((l.take (k.toNat+1)).map (fun p=>(g.length:Int) -1 -p),r):=by rw[hnx]
     exact⟨⟨i0,hi⟩,hi2,⟨k0,hk⟩,hk2,⟨⟨⟨hsz,hj,trivial⟩,trivial⟩,trivial⟩,⟨⟨hsz,hj,trivial⟩,trivial⟩,trivial⟩
    ·subst hy
     rw[w64 (by omega) (by omega)]
     exact⟨⟨⟨by omega,by omega⟩,by rw[show(k+1).toNat=k.toNat+1 by omega]⟩,by omega⟩
   ·have hk:=of_decide_eq_false hk
    show((l.take k.toNat).map _,r)=SN g.length (l,r)
    rw[List.take_of_length_le (by omega)]
    rfl
  ·rw[w64 (n:=(g.length:Int) -1) (by omega) (by omega),w64 (n:=(g.length:Int) -1 -i) (by omega) (by omega)]
   have e:((g.length:Int) -1 -i).toNat=g.length -1 -i.toNat:=by omega
   rw[e]
   refine⟨⟨by omega,by omega⟩,by omega,?_,fun c hc=>?_⟩
   ·rw[List.length_set];exact hdl
   ·by_cases hci:c=i.toNat
    ·subst hci
     rw[WL (by omega)]
     exact hy
    ·rw[getD_set_ne (by omega)]
     exact hd c (by omega)
 ·rw[w64 (by omega) (by omega)]
  exact⟨⟨⟨by omega,by omega⟩,hn.1,by rw[show(i+1).toNat=i.toNat+1 by omega];exact hn.2⟩,by omega⟩
end Go.VS

/- Graphs made of raw numbers are valid. -/
set_option linter.unusedVariables false
set_option linter.unusedSimpArgs false
namespace Go.VS
variable{P:Pg}
theorem Ada{g:List Ak}(hv:SO g)(f:Int→Int)(h:∀c,inR g c→∀p∈Bq g c,f p<f c){a b:Int}(hr:Rch g a b):inR g a→f b≤f a:=by
 induction hr with
 |refl c=>exact fun _=>Int.le_refl _
 |step hm t ih=>
  intro ha
  have h1:=h _ ha _ hm
  have h2:=ih (hv _ ha _ hm)
  omega
theorem Af3{g:List Ak}(hv:SO g)(f:Int→Int)(h:∀c,inR g c→∀p∈Bq g c,f p<f c):¬Ml g:=by
 rintro⟨c,hc,p,hp,hr⟩
 have h1:=h c hc p hp
 have h2:=Ada hv f h hr (hv c hc p hp)
 omega
theorem AeW{n:Nat}{l:List Int}(hn:l.Nodup)(h:∀p∈l,0≤p∧p<(n:Int)):Qk n l:=by
 intro j hj
 refine⟨h _ (A6 hj),fun hm=>?_⟩
 obtain⟨i,hi⟩:=List.getElem?_of_mem hm
 have hi2:i<(l.take j).length:=(List.getElem?_eq_some_iff.1 hi).1
 rw[List.length_take]at hi2
 rw[List.getElem?_take_of_lt (by omega),List.getElem?_eq_getElem (by omega),List.getD_eq_getElem?_getD,List.getElem?_eq_getElem hj,Option.getD_some]at hi
 rw[List.nodup_iff_pairwise_ne,List.pairwise_iff_getElem]at hn
 exact hn i j (by omega) hj (by omega) (Option.some.inj hi)
def Aat(n:Nat)(g:List Ak):Prop:=g.length≤n∧DC g 0∧Hv g∧∀c∈g,HI 768 c.2.2∧c.1.length≤3
theorem SL:∀{g:List Ak},(∀c∈g,Dl c.2.2=0)→Ge g=0
 |[],_=>rfl
 |c::g,h=>by
  rw[Ge,if_neg (by simpa using h c (List.mem_cons_self ..))]
  exact SL fun x hx=>h x (List.mem_cons_of_mem _ hx)
theorem Z0{n:Nat}{g:List Ak}(hn:g.length≤n)(hn2:n≤9)(f:Int→Int)(h:∀j,j<g.length→(g.getD j ([],(0,[]))).1.length≤3∧(g.getD j ([],(0,[]))).1.Nodup∧(∀p∈(g.getD j ([],(0,[]))).1,(0≤p∧p<(g.length:Int))∧f p<f j)∧(0≤(g.getD j ([],(0,[]))).2.1∧(g.getD j ([],(0,[]))).2.1<5)∧HI 768 (g.getD j ([],(0,[]))).2.2):Aat n g:=by
 have hT:∀c∈g,HI 768 c.2.2∧c.1.length≤3:=CH (d:=([],(0,[]))) fun j hj=>⟨(h j hj).2.2.2.2,(h j hj).1⟩
 have hrel:H5 g:=CH (d:=([],(0,[]))) (p:=fun c=>Qk g.length c.1) fun j hj=>AeW (h j hj).2.1 fun p hp=>((h j hj).2.2.1 p hp).1
 have hv:=Ec hrel
 refine⟨hn,Pl ⟨by omega,fun c hc=>Nat.le_trans (hT c hc).2 (by decide)⟩ hrel (Af3 hv f fun c hc p hp=>?_) (CH (d:=([],(0,[]))) (p:=fun c=>0≤c.2.1∧c.2.1≤2147483647) fun j hj=>by have:=(h j hj).2.2.2.1;omega) (SL fun c hc=>AbN (hT c hc).1 (by decide)).symm,fun c hc=>(AdE (hT c hc).1 (by decide)).2,hT⟩
 have h0:=hc.1
 have h1:=hc.2
 have:=((h c.toNat (by omega)).2.2.1 p hp).2
 rw[show((c.toNat:Nat):Int)=c by omega]at this
 exact this
def okB(B n:Nat):Prop:=(B≤3∧n≤9)∨(B≤5∧n≤8)
theorem Y4{B n i:Nat}(h:okB B n)(hi:i<n):B*2^i≤768:=by
 rcases h with⟨h1,h2⟩|⟨h1,h2⟩
 ·exact AgX h1 (by omega)
 ·exact Nat.le_trans (Nat.mul_le_mul h1 (Nat.pow_le_pow_right (by decide) (show i≤7 by omega):2^i≤2^7)) (by decide)
theorem AgP{B n:Nat}{g:List Ak}(hB:okB B n)(hn:g.length≤n)(hn2:n≤9)(h:GU B g):Aat n g:=Z0 hn hn2 (fun x=>x) fun j hj=>by
 obtain⟨⟨h1,h2,h3⟩,h4,h5⟩:=h j hj
 exact⟨h1,h2,fun p hp=>⟨by have:=h3 p hp;omega,(h3 p hp).2⟩,h4,h5.mono (Y4 hB (by omega))⟩
theorem Abc{α β:Type}{f:α→β}(hf:∀a b,f a=f b→a=b){l:List α}(h:l.Nodup):(l.map f).Nodup:=by
 rw[List.nodup_iff_pairwise_ne]at*
 rw[List.pairwise_map]
 exact h.imp fun hne e=>hne (hf _ _ e)
theorem Aff{B n:Nat}{g d:List Ak}(hB:okB B n)(hn:g.length≤n)(hn2:n≤9)(h:GU B g)(ht:AbW g d):Aat n d:=by
 rcases ht with rfl|⟨hl,ht⟩
 ·exact AgP hB hn hn2 h
 ·refine Z0 (by omega) hn2 (fun x=>-x) fun j hj=>?_
  have e:=ht (g.length -1 -j) (by omega)
  rw[show g.length -1 -(g.length -1 -j)=j by omega]at e
  rw[e]
  obtain⟨⟨h1,h2,h3⟩,h4,h5⟩:=h (g.length -1 -j) (by omega)
  refine⟨by unfold SN;rw[List.length_map];exact h1,Abc (fun a b e=>by omega) h2,fun p hp=>?_,h4,h5.mono (Y4 hB (by omega))⟩
  obtain⟨q,hq,rfl⟩:=List.mem_map.1 hp
  have:=h3 q hq
  omega
def OP(P:Pg):Prop:=∀x:List Int×(Int×Int),0≤x.2.1→0≤x.2.2→okB (x.2.2.toNat+1) x.2.1.toNat→Fn P AbQ DR x fun(d:List Ak) _=>Aat x.2.1.toNat d
theorem Aby(h:Has P Iw)(hA:Mo P)(hM:JS P)(hF:Jo P)(hC:OO P)(hT:OW P):OP P:=by
 rintro⟨raw,n,lines⟩ n0 l0 hB
 dsimp only at n0 l0 hB
 have n1:n≤9:=by rcases hB with h|h<;>omega
 have l1:lines≤4:=by rcases hB with h|h<;>omega
 refine U6 h ?_
 unfold PD
 dsimp only
 rw[w64 (n:=n+1) (by omega) (by omega)]
 refine hA.at (by decide) (hM.at (by omega) (by omega) ?_)
 have hr:=Em (a:=atF raw 0) (n:=n+1) (by omega) (by omega)
 generalize Ga (atF raw 0) (n+1)=m at hr⊢
 refine Ad.mid (fun g=>g.length=m.toNat∧GU (lines.toNat+1) g) ?_ fun g hg=>?_
 ·refine AJ.of (fun q=>(0≤q.2∧q.2≤m)∧q.1.length=q.2.toNat∧GU (lines.toNat+1) q.1) (fun q=>(m -q.2).toNat) ⟨⟨Int.le_refl _,hr.1⟩,rfl,fun j hj=>absurd hj (by simp)⟩ ?_
  rintro⟨g,i⟩ ⟨⟨i0,i1⟩,hgl,hg⟩
  dsimp only at i0 i1 hgl hg⊢
  refine⟨fun hi=>?_,fun hi=>by have hi:=of_decide_eq_false hi;exact⟨by omega,hg⟩⟩
  have hi:=of_decide_eq_true hi
  refine Ad.mid (fun g=>g.length=i.toNat+1∧GU (lines.toNat+1) g) ?_ fun g2 hn=>?_
  ·rw[w64 (n:=1000+i) (by omega) (by omega),w64 (n:=40*i) (by omega) (by omega),w64 (n:=1100+40*i) (by omega) (by omega),w64 (n:=1500+i) (by omega) (by omega),w64 (n:=200*i) (by omega) (by omega),w64 (n:=2000+200*i) (by omega) (by omega),w64 (n:=1600+i) (by omega) (by omega),w64 (n:=i -1) (by omega) (by omega)]
   refine hA.at (by omega) (hM.at (by decide) (by decide) ?_)
   have hdr:=Em (a:=atF raw (1000+i)) (n:=5) (by decide) (by decide)
   generalize Ga (atF raw (1000+i)) 5=dt at hdr⊢
   refine Ad.mid (fun x=>Jn i x.1∧x.2=(dt,[])) ?_ fun x hx=>?_
   ·refine AJ.of (fun q=>(0≤q.1∧q.1≤i)∧Jn q.1 q.2.1∧q.2.2=(dt,[])) (fun q=>(i -q.1).toNat) ⟨⟨Int.le_refl _,i0⟩,⟨Nat.zero_le _,List.nodup_nil,fun p hp=>nomatch hp⟩,rfl⟩ ?_
    rintro⟨p,⟨l,r⟩⟩ ⟨⟨p0,p1⟩,hl,hrr⟩
    dsimp only at p0 p1 hl hrr⊢
    refine⟨fun hp=>?_,fun hp=>by have hp:=of_decide_eq_false hp;exact⟨hl.mono (by omega),hrr⟩⟩
    have hp:=of_decide_eq_true hp
    refine Ad.mid (fun x=>Jn (p+1) x.1∧x.2=(dt,[])) ?_ fun x hx=>?_
    ·rw[w64 (n:=1100+40*i+p) (by omega) (by omega)]
     refine hA.at (by omega) ⟨by decide,?_⟩
     refine Ad.mid (fun x=>Jn (p+1) x.1∧x.2=(dt,[])) ⟨fun hb=>?_,fun _=>⟨hl.mono (by omega),hrr⟩⟩ fun _ h=>h
     have hb2:=of_decide_eq_true (Q9 hb).2
     exact⟨by simp only[List.length_cons,List.length_nil];omega,hl.app p0 (by omega),hrr⟩
    ·rw[w64 (by omega) (by omega)]
     exact⟨⟨⟨by omega,by omega⟩,hx.1,hx.2⟩,by omega⟩
   ·refine Ad.mid (fun _=>True) ⟨fun _=>hA.at (by omega) trivial,fun _=>trivial,trivial⟩ fun d27 _=>⟨fun _=>by decide,?_⟩
    refine Ad.mid (fun y=>Jn i y.1∧y.2=(dt,[])) ⟨fun hb=>?_,fun _=>hx⟩ fun y hy=>?_
    ·have hi0:=of_decide_eq_true (Q9 (Q9 hb).1).2
     exact⟨⟨Nat.succ_le_succ (Nat.zero_le _),by simp,fun p hp=>by rw[List.mem_singleton.1 hp];omega⟩,hx.2⟩
    ·obtain⟨hy1,hy2⟩:=hy
     refine(hF (raw,(2000+200*i,lines)) ⟨by dsimp only;omega,by dsimp only;omega⟩ ⟨l0,by dsimp only;omega⟩).to ?_
     rintro(fl:List AA) _ hfl
     have hfl:fl=HR raw (2000+200*i) lines:=hfl
     have hfs:HI (lines.toNat+1) fl:=by rw[hfl];exact Wt l0 (by omega)
     refine Ad.mid (fun _=>True) ⟨fun _=>hA.at (by omega) trivial,fun _=>trivial,trivial⟩ fun d34 _=>⟨fun _=>by decide,?_⟩
     have hii:((i.toNat:Nat):Int)=i:=by omega
     have hy1':Jn ((i.toNat:Nat):Int) y.1:=by rw[hii];exact hy1
     have hdt:0≤y.2.1∧y.2.1<5:=by rw[hy2];exact hdr
     refine Ad.mid (fun z=>OkC (lines.toNat+1) i.toNat z) ⟨fun hb=>?_,fun _=>?_⟩ fun z hz=>⟨by simp only[List.length_cons,List.length_nil];omega,?_,hg.app (by rw[hgl];exact hz)⟩
     ·have hpos:=of_decide_eq_true (Q9 hb).1
      have hpos2:0<y.1.length:=by omega
      have hp:=hy1.2.2 _ (A6 (d:=0) hpos2)
      refine⟨⟨by decide,by omega⟩,hpos2,⟨hp.1,by rw[hgl];exact(show y.1.getD 0 0<((i.toNat:Nat):Int)by rw[hii];exact hp.2)⟩,by have:=hp.1;have:=hp.2;show(y.1.getD 0 0).toNat<g.length;omega,?_⟩
      have hpn:(y.1.getD 0 0).toNat<i.toNat:=by omega
      have hog:=hg (y.1.getD 0 0).toNat (by omega)
      have hpb:=Y4 (i:=(y.1.getD 0 0).toNat) hB (by omega)
      have hpo:=pow_one (lines.toNat+1) (y.1.getD 0 0).toNat
      have hup:=Af7 (B:=lines.toNat+1) hpn
      refine(hC ((lines.toNat+1)*2^(y.1.getD 0 0).toNat) ((g.getD (y.1.getD 0 0).toNat ([],(0,[]))).2.2,(raw,(2000+200*i,lines))) hog.2.2 hpo (by omega) ⟨by dsimp only;omega,by dsimp only;omega⟩ ⟨l0,by dsimp only;omega⟩).to ?_
      rintro(fl2:List AA) _ hfl2
      exact⟨hy1',hdt,HI.mono hfl2 hup⟩
     ·exact⟨hy1',hdt,hfs.mono (pow_one _ _)⟩
     ·rw[List.length_append,hgl];rfl
  ·rw[w64 (by omega) (by omega)]
   exact⟨⟨⟨by omega,by omega⟩,by rw[hn.1];omega,hn.2⟩,by omega⟩
 ·refine(hT (g,raw) (by dsimp only;omega) fun j hj=>?_).to ?_
  ·have:=(hg.2 j hj).1
   exact⟨Nat.le_trans this.1 (by decide),fun p hp=>by have h3:=this.2.2 p hp;have hj:j<g.length:=hj;dsimp only;omega⟩
  ·rintro(d:List Ak) _ hd
   exact Aff hB (by omega) (by omega) hg.2 hd
def QJ(P:Pg):Prop:=∀x:List Int×(Int×Int),(0≤x.2.1∧x.2.1≤9)→(0≤x.2.2∧x.2.2≤2)→Fn P AbQ DR x fun(d:List Ak) _=>Aat x.2.1.toNat d
theorem Adp(hG:OP P):QJ P:=fun x h1 h2=>hG x h1.1 h2.1 (.inl ⟨by have:=h2.2;omega,by have:=h1.2;omega⟩)
end Go.VS

/- The document's performing of differences. -/
set_option linter.unusedVariables false
set_option linter.unusedSimpArgs false
namespace Go.VS
variable{P:Pg}
theorem ZR{l:List AA}(h:Dl l=0):l.length≤200:=by
 unfold Dl at h
 split at h
 ·cases h
 ·omega
end Go.VS

/- TreeApplies. -/
set_option linter.unusedVariables false
set_option linter.unusedSimpArgs false
namespace Go.VS
variable{P:Pg}
theorem Vn{a b:List AA}{d:List AD}(h:G4 a b d){t:AD}(ht:t∈d):(∃f∈a,f.1=t.1)∨∃f∈b,f.1=t.1:=by
 have h1:=(h.2 t.1 t.2).1 ht
 unfold MM at h1
 cases h2:Br a t.1 with
 |some v=>exact .inl ((Dy a t.1).1 (by rw[h2];rfl))
 |none=>
  cases h3:Br b t.1 with
  |some v=>exact .inr ((Dy b t.1).1 (by rw[h3];rfl))
  |none=>rw[h2,h3]at h1;cases h1
end Go.VS

/- TreeRestores. -/
set_option linter.unusedVariables false
set_option linter.unusedSimpArgs false
namespace Go.VS
variable{P:Pg}
theorem Qs{a b:List AA}(ha:Dl a=0)(hb:Dl b=0):GW a b=0:=by
 unfold GW
 rw[if_neg (by simpa using ha)]
 exact hb
end Go.VS

/- changes: what both the program and the document answer. -/
set_option linter.unusedVariables false
set_option linter.unusedSimpArgs false
namespace Go.VS
variable{P:Pg}
theorem Uk{g:List Ak}{c:Int}(h0:DC g 0)(hs:Hv g)(hc:inR g c){l m:List (List AD)}(hl:Ny g c l)(hm:Ny g c m):l=m:=by
 have hlen:l.length=m.length:=hl.1.trans hm.1.symm
 refine List.ext_getElem hlen fun k h1 h2=>?_
 have hkT:k<(BH g c).length:=by rw[←hl.1];exact h1
 have hT:=EF h0 hs hc _ (A6 (d:=[]) hkT)
 have hF:=D9 h0 hs hc
 have hb:GW ((BH g c).getD k []) (Cm g c)=0:=Qs hT.1 hF.1
 obtain⟨e1,d1⟩:=hl.2 k h1
 obtain⟨e2,d2⟩:=hm.2 k h2
 have i1:=d1.2.2 (d1.1.trans hb)
 have i2:=d2.2.2 (d2.1.trans hb)
 have:=PV i1 i2
 dsimp only at this
 rw[getD_eq h1,getD_eq h2]at this
 exact this
def JQ(g:List Ak)(c:Int)(d:List (List AD)×Int):Prop:=∃e,DC g e∧(e≠0→d=([],e))∧(e=0→¬inR g c→d=([],5))∧(e=0→inR g c→Ny g c d.1∧d.2=0)
theorem Vp{g:List Ak}{c:Int}(hs:Hv g){d e:List (List AD)×Int}(hd:JQ g c d)(he:JQ g c e):d=e:=by
 obtain⟨k,h1,h2,h3,h4⟩:=hd
 obtain⟨k',h1',h2',h3',h4'⟩:=he
 have:=Gm h1' h1
 subst this
 by_cases hk:k'=0
 ·by_cases hc:inR g c
  ·have a:=h4 hk hc
   have b:=h4' hk hc
   subst hk
   exact Prod.ext (Uk h1 hs hc a.1 b.1) (a.2.trans b.2.symm)
  ·rw[h3 hk hc,h3' hk hc]
 ·rw[h2 hk,h2' hk]
def OQ(P:Pg):Prop:=∀x:List Ak×Int,Hv x.1→Fn P zS8 BZ x fun(d:List (List AD)×Int) _=>JQ x.1 x.2 d
theorem Abz(h:Has P Ev)(hC:EX P)(hO:VY P):OQ P:=by
 intro x hs
 refine Jw h ?_
 unfold G6
 refine(hC x hs).to ?_
 rintro(d:Int) _ ⟨e,he,h1,h2⟩
 by_cases hk:e=0
 ·subst hk
  by_cases hc:inR x.1 x.2
  ·have hd:=(h2 rfl).1 hc
   subst hd
   have k:=D4 he
   refine⟨fun hb=>absurd hb (by simp),fun hb=>(hO x hc (Ec k.2.1) (FT k.1 _ hc) (fun t ht=>(EF he hs hc t ht).2) (D9 he hs hc).2).to ?_⟩
   rintro(d:List (List AD)) _ hd
   exact⟨0,he,fun h=>absurd rfl h,fun _ h=>absurd hc h,fun _ _=>⟨hd,rfl⟩⟩
  ·have hd:=(h2 rfl).2 hc
   subst hd
   exact⟨fun hb=>⟨0,he,fun h=>absurd rfl h,fun _ _=>rfl,fun _ h=>absurd h hc⟩,fun hb=>absurd hb (by simp)⟩
 ·have hd:=h1 hk
  subst hd
  exact⟨fun hb=>⟨_,he,fun _=>rfl,fun h=>absurd h hk,fun h=>absurd h hk⟩,fun hb=>absurd hb (by simpa using hk)⟩
def Nz(P:Pg):Prop:=∀x:List Ak×Int,x.1.length≤1000000→Hv x.1→Fn P ZK Cz x fun(d:Int) _=>∃e,DC x.1 e∧(e≠0→d=e)∧(e=0→(inR x.1 x.2→d=0)∧(¬inR x.1 x.2→d=5))
theorem Adq(h:Has P GF)(hR:JT P):Nz P:=by
 rintro⟨g,c⟩ hg hs
 refine Ru h ?_
 unfold MA
 dsimp only at hg hs⊢
 refine(hR g hg hs).to ?_
 rintro(e:Int) _ he
 have he:DC g e:=he
 have ho:=Mc c g.length
 refine⟨fun hb=>⟨e,he,fun _=>rfl,fun h0=>absurd h0 (by simpa using hb)⟩,fun hb=>?_⟩
 have h0:e=0:=by simpa using hb
 refine⟨fun hb=>⟨e,he,fun k=>absurd h0 k,fun _=>⟨fun k=>?_,fun _=>rfl⟩⟩,fun hb=>⟨e,he,fun k=>absurd h0 k,fun _=>⟨fun _=>rfl,fun k=>absurd (ho.1 hb) k⟩⟩⟩
 rw[ho.2 k]at hb
 cases hb
def IC(P:Pg):Prop:=∀x:List Ak×Int,inR x.1 x.2→SO x.1→(Bq x.1 x.2).length≤1000000→Fn P ZL CB x fun(d:List (List AA)) _=>d=BH x.1 x.2
theorem XW(h:Has P GH):IC P:=by
 rintro⟨g,c⟩ hc hv hl
 dsimp only at hc hv hl
 refine Rw h ?_
 unfold ME
 dsimp only
 have hc2:c.toNat<g.length:=by have:=hc.1;have:=hc.2;omega
 have ez:(g.getD c.toNat Ah).1=Bq g c:=rfl
 have hv2:=hv c hc
 rw[ez]
 refine⟨⟨hc.1,hc.2⟩,hc2,fun hb=>?_,fun hb=>?_⟩
 ·show[[]]=BH g c
  have hb:((Bq g c).length:Int)=0:=by simpa using hb
  unfold BH
  rw[if_pos (by omega)]
 ·have hb:¬((Bq g c).length:Int)=0:=by simpa using hb
  have et:BH g c=(Bq g c).map fun p=>Cm g p:=by unfold BH;rw[if_neg (by omega)]
  rw[et]
  generalize Bq g c=l at hl hv2 hb⊢
  refine Ad.mid (fun d=>d=l.map fun p=>Cm g p) ?_ fun _ h=>h
  refine AJ.of (fun q=>(0≤q.2∧q.2≤l.length)∧q.1=(l.take q.2.toNat).map fun p=>Cm g p) (fun q=>(l.length -q.2).toNat) ⟨⟨Int.le_refl _,by dsimp only;omega⟩,rfl⟩ ?_
  rintro⟨q,i⟩ ⟨⟨i0,i1⟩,hq⟩
  dsimp only at i0 i1 hq⊢
  refine⟨⟨hc.1,hc.2⟩,hc2,fun hi=>?_,fun hi=>?_⟩
  ·have hi:=of_decide_eq_true hi
   have hi2:i.toNat<l.length:=by omega
   have hp:=hv2 _ (A6 (d:=0) hi2)
   have hql:q.length=i.toNat:=by rw[hq,List.length_map,List.length_take];omega
   refine Ad.mid (fun d=>d=(l.take (i.toNat+1)).map fun p=>Cm g p) ⟨⟨hc.1,hc.2⟩,hc2,⟨i0,hi⟩,hi2,⟨hp.1,hp.2⟩,by have:=hp.1;have:=hp.2;omega,by simp only[List.length_cons,List.length_nil];omega,?_⟩ fun d hn=>?_
   ·rw[JG (d:=0) hi2,List.map_append,hq]
    rfl
   ·rw[w64 (by omega) (by omega)]
    refine⟨⟨⟨by omega,by omega⟩,?_⟩,by omega⟩
    rw[hn,show(i+1).toNat=i.toNat+1 by omega]
  ·have hi:=of_decide_eq_false hi
   show q=_
   rw[hq,List.take_of_length_le (by omega)]
end Go.VS

/- changes: the document's lists, pairs and common paths. -/
set_option linter.unusedVariables false
set_option linter.unusedSimpArgs false
namespace Go.VS
variable{P:Pg}
def LS(P:Pg):Prop:=∀x:List Ak×Int,x.1.length≤1000000→Hv x.1→Fn P ZM CA x fun(d:List (List AD)×Int) _=>JQ x.1 x.2 d
theorem AbC(h:Has P GG)(hK:Nz P)(hT:IC P)(hD:MT P):LS P:=by
 rintro⟨g,c⟩ hg hs
 dsimp only at hg hs
 refine Rv h ?_
 unfold MD
 refine(hK (g,c) hg hs).to ?_
 rintro(d:Int) _ ⟨e,he,h1,h2⟩
 by_cases hk:e=0
 ·subst hk
  by_cases hc:inR g c
  ·have hd:=(h2 rfl).1 hc
   subst hd
   have k:=D4 he
   refine⟨fun hb=>absurd hb (by simp),fun hb=>?_⟩
   have hl:=FT k.1 _ hc
   refine(hT (g,c) hc (Ec k.2.1) hl).to ?_
   rintro(T:List (List AA)) _ hTe
   have hTe:T=BH g c:=hTe
   have hTo:=EF he hs hc
   have hF:=D9 he hs hc
   have htl:=(Nt (g:=g) (c:=c) hl).1
   have hc2:c.toNat<g.length:=by have:=hc.1;have:=hc.2;omega
   refine Ad.mid (fun d=>Ny g c d) ?_ fun d hd=>⟨0,he,fun h=>absurd rfl h,fun _ h=>absurd hc h,fun _ _=>⟨hd,rfl⟩⟩
   unfold Ny
   rw[←hTe]at hTo htl⊢
   clear hTe
   refine AJ.of (fun q=>(0≤q.2∧q.2≤T.length)∧q.1.length=q.2.toNat∧∀k,k<q.1.length→∃e,IP (T.getD k []) (Cm g c) (q.1.getD k [],e)) (fun q=>(T.length -q.2).toNat) ⟨⟨Int.le_refl _,by dsimp only;omega⟩,rfl,fun k hk=>absurd hk (by simp)⟩ ?_
   rintro⟨q,i⟩ ⟨⟨i0,i1⟩,hql,hq⟩
   dsimp only at i0 i1 hql hq⊢
   refine⟨fun hi=>?_,fun hi=>by have hi:=of_decide_eq_false hi;exact⟨by omega,hq⟩⟩
   have hi:=of_decide_eq_true hi
   have hi2:i.toNat<T.length:=by omega
   have ht:=hTo _ (A6 (d:=[]) hi2)
   refine Ad.mid (fun d=>d.length=i.toNat+1∧∀k,k<d.length→∃e,IP (T.getD k []) (Cm g c) (d.getD k [],e)) ?_ fun d hn=>?_
   ·refine Ad.mid (fun d=>d.length=i.toNat+1∧∀k,k<d.length→∃e,IP (T.getD k []) (Cm g c) (d.getD k [],e)) ⟨⟨i0,hi⟩,hi2,⟨hc.1,hc.2⟩,hc2,(hD (T.getD i.toNat [],Cm g c) ht.2 hF.2 (LZ ht.1) (LZ hF.1)).to ?_,trivial⟩ fun _ h=>h
    rintro(d:List AD) _ hd
    have hd:G4 (T.getD i.toNat []) (Cm g c) d:=hd
    have hb:GW (T.getD i.toNat []) (Cm g c)=0:=Qs ht.1 hF.1
    have hdo:IP (T.getD i.toNat []) (Cm g c) (d,0):=⟨hb.symm,fun h=>absurd rfl h,fun _=>hd⟩
    refine⟨⟨⟨by simp only[List.length_cons,List.length_nil];omega,?_,trivial⟩,trivial⟩,trivial⟩
    refine⟨by rw[List.length_append,hql];rfl,fun k hk=>?_⟩
    rw[List.length_append,List.length_singleton]at hk
    by_cases hki:k<q.length
    ·obtain⟨e,he⟩:=hq k hki
     refine⟨e,?_⟩
     rw[AcM hki]
     exact he
    ·have e1:k=q.length:=by omega
     refine⟨0,?_⟩
     rw[e1,AcN,hql]
     exact hdo
   ·rw[w64 (by omega) (by omega)]
    exact⟨⟨⟨by omega,by omega⟩,by rw[hn.1];omega,hn.2⟩,by omega⟩
  ·have hd:=(h2 rfl).2 hc
   subst hd
   exact⟨fun hb=>⟨0,he,fun h=>absurd rfl h,fun _ _=>rfl,fun _ h=>absurd h hc⟩,fun hb=>absurd hb (by simp)⟩
 ·have hd:=h1 hk
  subst hd
  exact⟨fun hb=>⟨_,he,fun _=>rfl,fun h=>absurd h hk,fun h=>absurd h hk⟩,fun hb=>absurd hb (by simpa using hk)⟩
def QF(g:List Ak)(c p:Int)(w:Bs)(d:Bs×(Bs×Int)):Prop:=∃e,DC g e∧(e≠0→d=([],([],e)))∧(e=0→¬inR g c→d=([],([],5)))∧(e=0→inR g c→(0≤p∧p<((BH g c).length:Int)→d=((findF ((BH g c).getD p.toNat []) w).1,((findF (Cm g c) w).1,0)))∧(¬(0≤p∧p<((BH g c).length:Int))→d=([],([],3))))
theorem Xs{g:List Ak}{c p:Int}{w:Bs}{d e:Bs×(Bs×Int)}(hd:QF g c p w d)(he:QF g c p w e):d=e:=by
 obtain⟨k,h1,h2,h3,h4⟩:=hd
 obtain⟨k',h1',h2',h3',h4'⟩:=he
 have:=Gm h1' h1
 subst this
 by_cases hk:k'=0
 ·by_cases hc:inR g c
  ·by_cases hp:0≤p∧p<((BH g c).length:Int)
   ·rw[(h4 hk hc).1 hp,(h4' hk hc).1 hp]
   ·rw[(h4 hk hc).2 hp,(h4' hk hc).2 hp]
  ·rw[h3 hk hc,h3' hk hc]
 ·rw[h2 hk,h2' hk]
end Go.VS

/- changes: pairs, and the paths that differ from all parents. -/
set_option linter.unusedVariables false
set_option linter.unusedSimpArgs false
namespace Go.VS
variable{P:Pg}
def QL(P:Pg):Prop:=∀x:List Ak×(Int×(Int×Bs)),Hv x.1→Fn P X8 B8 x fun(d:Bs×(Bs×Int)) _=>QF x.1 x.2.1 x.2.2.1 x.2.2.2 d
theorem Adt(h:Has P ET)(hC:EX P)(hP:HF P)(hF:Jq P):QL P:=by
 rintro⟨g,c,p,w⟩ hs
 dsimp only at hs
 refine KJ h ?_
 unfold HJ
 dsimp only
 refine(hC (g,c) hs).to ?_
 rintro(d:Int) _ ⟨e,he,h1,h2⟩
 by_cases hk:e=0
 ·subst hk
  by_cases hc:inR g c
  ·have hd:=(h2 rfl).1 hc
   subst hd
   have k:=D4 he
   refine⟨fun hb=>absurd hb (by simp),fun hb=>(hP (g,c) hc (Ec k.2.1) (FT k.1 _ hc)).to ?_⟩
   rintro(T:List (List AA)) _ hT
   have hT:T=BH g c:=hT
   subst hT
   have ho:=Mc p (BH g c).length
   refine⟨fun hb=>⟨0,he,fun h=>absurd rfl h,fun _ h=>absurd hc h,fun _ _=>⟨fun hp=>?_,fun _=>rfl⟩⟩,fun hb=>?_⟩
   ·rw[ho.2 hp]at hb;cases hb
   ·have hp:=ho.1 hb
    have hp2:p.toNat<(BH g c).length:=by omega
    refine⟨hp,hp2,hF.at (EF he hs hc _ (A6 hp2)).2.1 ⟨⟨hc.1,hc.2⟩,by have:=hc.1;have:=hc.2;omega,?_⟩⟩
    exact hF.at (D9 he hs hc).2.1 ⟨0,he,fun h=>absurd rfl h,fun _ h=>absurd hc h,fun _ _=>⟨fun _=>rfl,fun h=>absurd hp h⟩⟩
  ·have hd:=(h2 rfl).2 hc
   subst hd
   exact⟨fun hb=>⟨0,he,fun h=>absurd rfl h,fun _ _=>rfl,fun _ h=>absurd h hc⟩,fun hb=>absurd hb (by simp)⟩
 ·have hd:=h1 hk
  subst hd
  exact⟨fun hb=>⟨_,he,fun _=>rfl,fun h=>absurd h hk,fun h=>absurd h hk⟩,fun hb=>absurd hb (by simpa using hk)⟩
def QO(P:Pg):Prop:=∀x:List Ak×(Int×(Int×Bs)),x.1.length≤1000000→Hv x.1→Fn P Ad1 DU x fun(d:Bs×(Bs×Int)) _=>QF x.1 x.2.1 x.2.2.1 x.2.2.2 d
theorem Adx(h:Has P Hj)(hK:Nz P)(hP:IC P)(hF:Jp P):QO P:=by
 rintro⟨g,c,p,w⟩ hg hs
 dsimp only at hg hs
 refine S8 h ?_
 unfold NI
 dsimp only
 refine(hK (g,c) hg hs).to ?_
 rintro(d:Int) _ ⟨e,he,h1,h2⟩
 by_cases hk:e=0
 ·subst hk
  by_cases hc:inR g c
  ·have hd:=(h2 rfl).1 hc
   subst hd
   have k:=D4 he
   refine⟨fun hb=>absurd hb (by simp),fun hb=>(hP (g,c) hc (Ec k.2.1) (FT k.1 _ hc)).to ?_⟩
   rintro(T:List (List AA)) _ hT
   have hT:T=BH g c:=hT
   subst hT
   have ho:=Mc p (BH g c).length
   refine⟨fun hb=>⟨0,he,fun h=>absurd rfl h,fun _ h=>absurd hc h,fun _ _=>⟨fun hp=>?_,fun _=>rfl⟩⟩,fun hb=>?_⟩
   ·rw[ho.2 hp]at hb;cases hb
   ·have hp:=ho.1 hb
    have hp2:p.toNat<(BH g c).length:=by omega
    refine⟨hp,hp2,hF.at (EF he hs hc _ (A6 hp2)).2.1 ⟨⟨hc.1,hc.2⟩,by have:=hc.1;have:=hc.2;omega,?_⟩⟩
    exact hF.at (D9 he hs hc).2.1 ⟨0,he,fun h=>absurd rfl h,fun _ h=>absurd hc h,fun _ _=>⟨fun _=>rfl,fun h=>absurd hp h⟩⟩
  ·have hd:=(h2 rfl).2 hc
   subst hd
   exact⟨fun hb=>⟨0,he,fun h=>absurd rfl h,fun _ _=>rfl,fun _ h=>absurd h hc⟩,fun hb=>absurd hb (by simp)⟩
 ·have hd:=h1 hk
  subst hd
  exact⟨fun hb=>⟨_,he,fun _=>rfl,fun h=>absurd h hk,fun h=>absurd h hk⟩,fun hb=>absurd hb (by simpa using hk)⟩
def Ln(d:List AD)(p:Bs):Bool:=d.any fun u=>u.1==p
def Jr(L:List (List AD))(p:Bs):Bool:=L.all fun d=>Ln d p
def G0(L:List (List AD))(ds:List AD):List Bs:=(ds.filter fun t=>Jr L t.1).map (·.1)
def Lc(L:List (List AD)):List Bs:=G0 L (L.getD 0 [])
theorem Rc(L:List (List AD)){ds:List AD}{i:Nat}(h:i<ds.length):G0 L (ds.take (i+1))=G0 L (ds.take i)++(if Jr L (ds.getD i ([],0)).1=true then[(ds.getD i ([],0)).1]else[]):=by
 unfold G0
 rw[JG (d:=([],0)) h,List.filter_append,List.map_append]
 by_cases hb:Jr L (ds.getD i ([],0)).1=true
 ·rw[if_pos hb,List.filter_cons_of_pos (by exact hb)];rfl
 ·rw[if_neg hb,List.filter_cons_of_neg (by exact hb)];rfl
def MR(g:List Ak)(c:Int)(d:List Bs×Int):Prop:=∃e,DC g e∧(e≠0→d=([],e))∧(e=0→¬inR g c→d=([],5))∧(e=0→inR g c→∃L,Ny g c L∧d=(Lc L,0))
theorem Wq{g:List Ak}{c:Int}(hs:Hv g){d e:List Bs×Int}(hd:MR g c d)(he:MR g c e):d=e:=by
 obtain⟨k,h1,h2,h3,h4⟩:=hd
 obtain⟨k',h1',h2',h3',h4'⟩:=he
 have:=Gm h1' h1
 subst this
 by_cases hk:k'=0
 ·by_cases hc:inR g c
  ·obtain⟨L,hL,hd⟩:=h4 hk hc
   obtain⟨M,hM,he⟩:=h4' hk hc
   subst hk
   rw[hd,he,Uk h1 hs hc hL hM]
  ·rw[h3 hk hc,h3' hk hc]
 ·rw[h2 hk,h2' hk]
end Go.VS

/- changes: the document's paths that differ from all parents. -/
set_option linter.unusedVariables false
set_option linter.unusedSimpArgs false
namespace Go.VS
variable{P:Pg}
def UR(P:Pg):Prop:=∀x:List AD×Bs,x.1.length≤1000000→Fn P AdZ EV x fun(d:Bool) _=>d=Ln x.1 x.2
theorem Afa(h:Has P JP):UR P:=by
 rintro⟨l,v⟩ hl
 dsimp only at hl
 refine WD h ?_
 unfold QV
 dsimp only
 refine Ad.mid (fun _=>Ln l v=false) ?_ fun _ h=>h.symm
 refine AJ.of (fun q=>(0≤q.2∧q.2≤l.length)∧∀j,j<q.2.toNat→((l.getD j ([],0)).1==v)=false) (fun q=>(l.length -q.2).toNat) ⟨⟨Int.le_refl _,by dsimp only;omega⟩,fun j hj=>absurd hj (by simp)⟩ ?_
 rintro⟨q,i⟩ ⟨⟨i0,i1⟩,hq⟩
 dsimp only at i0 i1 hq⊢
 refine⟨fun hi=>?_,fun hi=>?_⟩
 ·have hi:=of_decide_eq_true hi
  have hi2:i.toNat<l.length:=by omega
  refine Ad.mid (fun _=>((l.getD i.toNat ([],0)).1==v)=false) ⟨⟨i0,hi⟩,hi2,fun hb=>?_,fun hb=>hb⟩ fun _ hn=>?_
  ·exact(List.any_eq_true.2 ⟨_,A6 hi2,hb⟩).symm
  ·rw[w64 (by omega) (by omega)]
   refine⟨⟨⟨by omega,by omega⟩,fun j hj=>?_⟩,by omega⟩
   by_cases hji:j=i.toNat
   ·subst hji;exact hn
   ·exact hq j (by omega)
 ·have hi:=of_decide_eq_false hi
  show Ln l v=false
  unfold Ln
  rw[List.any_eq_false]
  have:=CH (d:=([],0)) (p:=fun x:AD=>(x.1==v)=false) (l:=l) fun j hj=>hq j (by omega)
  intro x hx
  rw[this x hx]
  simp
theorem TK(L:List (List AD))(p:Bs){k:Nat}(h:k<L.length):Jr (L.take (k+1)) p=(Jr (L.take k) p&&Ln (L.getD k []) p):=by
 unfold Jr
 rw[JG (d:=[]) h,List.all_append]
 simp
def QN(P:Pg):Prop:=∀x:List Ak×Int,x.1.length≤1000000→Hv x.1→Fn P Ad0 Ca x fun(d:List Bs×Int) _=>MR x.1 x.2 d
theorem Og{g:List Ak}{c:Int}(h0:DC g 0)(hs:Hv g)(hc:inR g c){L:List (List AD)}(hO:Ny g c L):0<L.length∧L.length≤1000000∧∀k,k<L.length→(L.getD k []).length≤400:=by
 have k0:=D4 h0
 have htl:=Nt (FT k0.1 c hc)
 have hl:=hO.1
 refine⟨by omega,by omega,fun k hk=>?_⟩
 obtain⟨e,he⟩:=hO.2 k hk
 have hT:=EF h0 hs hc _ (A6 (d:=[]) (show k<(BH g c).length by omega))
 have hF:=D9 h0 hs hc
 have hb:GW ((BH g c).getD k []) (Cm g c)=0:=Qs hT.1 hF.1
 have h1:=YT (he.2.2 (he.1.trans hb))
 have h2:=ZR hT.1
 have h3:=ZR hF.1
 dsimp only at h1
 omega
theorem Adv(h:Has P Ej)(hL:LS P)(hI:UR P):QN P:=by
 rintro⟨g,c⟩ hg hs
 dsimp only at hg hs
 refine Mm h ?_
 unfold HK
 refine(hL (g,c) hg hs).to ?_
 rintro(d:List (List AD)×Int) _ hd
 obtain⟨L,e1⟩:=d
 obtain⟨e,he,h2,h3,h4⟩:=(show JQ g c (L,e1)from hd)
 clear hd
 by_cases hk:e=0
 ·subst hk
  by_cases hc:inR g c
  ·obtain⟨hO,he1⟩:=h4 rfl hc
   have he1:e1=0:=he1
   have hO:Ny g c L:=hO
   subst he1
   refine⟨fun hb=>absurd hb (by simp),fun _=>?_⟩
   have hlen3:0<L.length∧L.length≤1000000∧∀k,k<L.length→(L.getD k []).length≤400:=Og he hs hc hO
   obtain⟨hpos,hLm,hlb⟩:=hlen3
   have hds:=hlb 0 hpos
   refine Ad.mid (fun d=>d=Lc L) ?_ fun d hd=>⟨0,he,fun h=>absurd rfl h,fun _ h=>absurd hc h,fun _ _=>⟨L,hO,by rw[hd]⟩⟩
   unfold Lc
   refine AJ.of (fun q=>(0≤q.2∧q.2≤(L.getD 0 []).length)∧q.1=G0 L ((L.getD 0 []).take q.2.toNat)) (fun q=>((L.getD 0 []).length -q.2).toNat) ⟨⟨Int.le_refl _,Int.natCast_nonneg _⟩,rfl⟩ ?_
   rintro⟨o,i⟩ ⟨⟨i0,i1⟩,ho⟩
   dsimp only at i0 i1 ho⊢
   refine⟨⟨by decide,by omega⟩,hpos,hpos,fun hi=>?_,fun hi=>?_⟩
   ·have hi:=of_decide_eq_true hi
    have hi:i<(((L.getD 0 []).length:Nat):Int):=hi
    have hi2:i.toNat<(L.getD 0 []).length:=by omega
    have hol:o.length≤(L.getD 0 []).length:=by
     rw[ho]
     unfold G0
     rw[List.length_map]
     refine Nat.le_trans (List.length_filter_le _ _) ?_
     rw[List.length_take]
     omega
    refine Ad.mid (fun o=>o=G0 L ((L.getD 0 []).take (i.toNat+1))) ?_ fun o hn=>by rw[w64 (by omega) (by omega)];exact⟨⟨⟨by omega,by omega⟩,by rw[show(i+1).toNat=i.toNat+1 by omega];exact hn⟩,by omega⟩
    refine Ad.mid (fun b=>b=Jr L ((L.getD 0 []).getD i.toNat ([],0)).1) ?_ fun b hb=>?_
    ·refine AJ.of (fun q=>(0≤q.2∧q.2≤L.length)∧q.1=Jr (L.take q.2.toNat) ((L.getD 0 []).getD i.toNat ([],0)).1) (fun q=>(L.length -q.2).toNat) ⟨⟨Int.le_refl _,Int.natCast_nonneg _⟩,rfl⟩ ?_
     rintro⟨b,k⟩ ⟨⟨k0,k1⟩,hb⟩
     dsimp only at k0 k1 hb⊢
     refine⟨fun hk=>?_,fun hk=>?_⟩
     ·have hk:=of_decide_eq_true hk
      have hk2:k.toNat<L.length:=by omega
      have hkb:=hlb k.toNat hk2
      have hnx:=TK L ((L.getD 0 []).getD i.toNat ([],0)).1 hk2
      rw[←hb]at hnx
      refine Ad.mid (fun b=>b=Jr (L.take (k.toNat+1)) ((L.getD 0 []).getD i.toNat ([],0)).1) ?_ fun b hn=>by rw[w64 (by omega) (by omega)];exact⟨⟨⟨by omega,by omega⟩,by rw[show(k+1).toNat=k.toNat+1 by omega];exact hn⟩,by omega⟩
      refine Ad.mid (fun b=>b=Jr (L.take (k.toNat+1)) ((L.getD 0 []).getD i.toNat ([],0)).1) ⟨fun _=>⟨k0,hk⟩,fun _=>hk2,fun _=>⟨by decide,by omega⟩,fun _=>hpos,hpos,fun _=>⟨i0,hi⟩,hpos,fun _=>hi2,?_,trivial⟩ fun _ h=>h
      refine Ad.mid (fun e=>b=true→e=Ln (L.getD k.toNat []) ((L.getD 0 []).getD i.toNat ([],0)).1) ⟨⟨hk2,fun _=>(hI (L.getD k.toNat [],((L.getD 0 []).getD i.toNat ([],0)).1) (by dsimp only;omega)).to fun(d:Bool) _ hd _=>hd⟩,fun hc h=>(by rw[hc]at h;cases h),trivial⟩ fun e hhe=>⟨?_,trivial⟩
      show cond b e false=_
      rw[hnx]
      cases b with
      |false=>rfl
      |true=>rw[hhe rfl];rfl
     ·have hk:=of_decide_eq_false hk
      show b=_
      rw[hb,List.take_of_length_le (by omega)]
    ·refine Ad.mid (fun o=>o=G0 L ((L.getD 0 []).take (i.toNat+1))) ⟨fun hbt=>⟨⟨by decide,by omega⟩,hpos,hpos,⟨i0,hi⟩,hpos,hi2,by simp only[List.length_cons,List.length_nil];omega,?_⟩,fun hbf=>?_⟩ fun _ h=>h
     ·rw[Rc L hi2,if_pos (by rw[←hb];exact hbt),ho]
      rfl
     ·rw[Rc L hi2,if_neg (by rw[←hb,hbf];simp),List.append_nil,ho]
   ·have hi:=of_decide_eq_false hi
    have hi:¬i<(((L.getD 0 []).length:Nat):Int):=hi
    show o=_
    rw[ho,List.take_of_length_le (by omega)]
  ·have hd:=h3 rfl hc
   have h5:L=[]:=congrArg Prod.fst hd
   have h6:e1=5:=congrArg Prod.snd hd
   subst h5 h6
   exact⟨fun _=>⟨0,he,fun h=>absurd rfl h,fun _ _=>rfl,fun _ h=>absurd h hc⟩,fun hb=>absurd hb (by simp)⟩
 ·have hd:=h2 hk
  have h5:L=[]:=congrArg Prod.fst hd
  have h6:e1=e:=congrArg Prod.snd hd
  subst h5 h6
  exact⟨fun _=>⟨_,he,fun _=>rfl,fun h=>absurd h hk,fun h=>absurd h hk⟩,fun hb=>absurd hb (by simpa using hk)⟩
end Go.VS

/- ChangesRefuses. -/
set_option linter.unusedVariables false
set_option linter.unusedSimpArgs false
namespace Go.VS
variable{P:Pg}
def gA:List Ak:=[([],(0,[([120],[97])]))]
theorem AgO{c:Int}(h:inR gA c):c=0:=by
 have h1:=h.1
 have h2:c<1:=h.2
 omega
theorem AfS:∀{c:Int},inR gA c→Bq gA c=[]:=fun{c} h=>by rw[AgO h];rfl
theorem AcJ:DC gA 0:=by
 have hm:∀c∈gA,c=([],(0,[([120],[97])])):=fun c hc=>List.mem_singleton.1 hc
 refine Pl ⟨by decide,fun c hc=>?_⟩ (fun c hc j hj=>?_) ?_ (fun c hc=>?_) ?_
 ·rw[hm c hc];decide
 ·rw[hm c hc]at hj;exact absurd hj (by simp)
 ·rintro⟨c,hc,p,hp,_⟩
  rw[AfS hc]at hp
  cases hp
 ·rw[hm c hc];decide
 ·have:Dl [(([120]:List UInt8),([97]:List UInt8))]=0:=by decide
  show 0=if Dl [(([120]:List UInt8),([97]:List UInt8))]≠0 then _ else _
  rw[if_neg (by simpa using this)]
  rfl
theorem AcK:Hv gA:=fun c hc f hf=>by
 have hc:c=([],(0,[([120],[97])])):=List.mem_singleton.1 hc
 rw[hc]at hf
 have hf:f=([120],[97]):=List.mem_singleton.1 hf
 rw[hf]
 decide
theorem Aeu:G4 [] [(([120]:List UInt8),([97]:List UInt8))] [([120],1)]:=by
 refine PU (LZ (by decide)) (LZ (by decide)) ?_ (List.pairwise_singleton _ _)
 exact List.Perm.of_eq (by decide)
def HH(P:Pg):Prop:=Fn P Ya Ck () fun(d:Bool) _=>d=true
theorem Zx(h:Has P Gx)(hL:OR P)(hP:QM P)(hG:Gg P):HH P:=by
 refine Rn h ?_
 unfold Mt
 have h0:inR gA 0:=⟨Int.le_refl _,by decide⟩
 refine(hL (gA,0) AcK AcJ h0).to ?_
 rintro(d:List (List AD)×Int) _ hd
 obtain⟨l,e⟩:=d
 have hd:Ny gA 0 l∧e=0:=hd
 obtain⟨⟨hl,hk⟩,rfl⟩:=hd
 have hl:l.length=1:=hl
 have hd0:l.getD 0 []=[(([120]:List UInt8),(1:Int))]:=by
  obtain⟨e,he⟩:=hk 0 (by omega)
  have he:IP [] [(([120]:List UInt8),([97]:List UInt8))] (l.getD 0 [],e):=he
  have h1:e=GW [] [(([120]:List UInt8),([97]:List UInt8))]:=he.1
  have h2:GW [] [(([120]:List UInt8),([97]:List UInt8))]=0:=by decide
  exact PV (he.2.2 (h1.trans h2)) Aeu
 refine(hP (gA,(0,(0,[120]))) AcK AcJ h0 (Int.le_refl _) (by decide)).to ?_
 rintro(d:Bs×(Bs×Int)) _ hd
 have hd:d=(([]:List UInt8),(([97]:List UInt8),(0:Int))):=hd.trans (by decide)
 subst hd
 dsimp only
 rw[hl]
 refine⟨fun _=>⟨by decide,by decide,by decide,?_⟩,fun h=>absurd h (by decide)⟩
 have h9:(l.getD 0 []).length≤1000000000:=by rw[hd0];decide
 refine(hG (l.getD 0 [],[([120],1)]) h9).to ?_
 rintro(d:Bool) _ hd
 have hd:d=decide (l.getD 0 []=[(([120]:List UInt8),(1:Int))]):=hd
 rw[hd0]at hd
 have hd:d=true:=hd.trans (by decide)
 subst hd
 rfl
theorem HH.at(h:HH P){K:Bool→Unit→Prop}(hk:K true ()):Fn P Ya Ck () K:=
 Fn.to h fun(d:Bool) _ hd=>by
  have hd:d=true:=hd
  subst hd
  exact hk
end Go.VS
