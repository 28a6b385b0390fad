/- Weights: both computations. -/
import Derived.Test.YtopngokkgogolaaKSpNode
set_option linter.unusedVariables false
set_option linter.unusedSimpArgs false
namespace Go.VS
variable{P:Pg}
theorem Wc{a b:Int}(h1:0≤a)(h2:a≤100)(h3:0≤b)(h4:b≤4002):0≤a*b∧a*b≤400200:=
 ⟨Int.mul_nonneg h1 h3,Int.le_trans (Int.mul_le_mul_of_nonneg_right h2 h3) (by omega)⟩
theorem EU{l:List Int}{i:Int}(h0:0≤i)(h:i<(l.length:Int)):l.take (i+1).toNat=l.take i.toNat++[l.getD i.toNat 0]:=by
 rw[show(i+1).toNat=i.toNat+1 by omega,List.take_succ_eq_append_getElem (by omega),getD_eq (by omega)]
theorem Tp{l:List Node}{i:Int}(h0:0≤i)(h:i<(l.length:Int)):l.take (i+1).toNat=l.take i.toNat++[l.getD i.toNat BC]:=by
 rw[show(i+1).toNat=i.toNat+1 by omega,List.take_succ_eq_append_getElem (by omega),getD_eq (by omega)]
theorem WK{n:Node}{i:Nat}(ho:Em n i){w:List Int}(hw:InW w)(hl:n.2.2.2.2.length≤140737488351232):
  0≤DX w n.2.2.2.2∧DX w n.2.2.2.2≤4001∧(n.1=6→0≤n.2.2.1∧n.2.2.1≤100∧0≤n.2.2.1*DX w n.2.2.2.2∧n.2.2.1*DX w n.2.2.2.2≤400200∧(0≤n.2.2.2.1→0≤n.2.2.2.1 -n.2.2.1∧n.2.2.2.1 -n.2.2.1≤100∧0≤(n.2.2.2.1 -n.2.2.1)*(DX w n.2.2.2.2+1)∧(n.2.2.2.1 -n.2.2.1)*(DX w n.2.2.2.2+1)≤400200)):=by
 have hs:=GA hw n.2.2.2.2
 refine⟨hs.1,hs.2,fun h6=>?_⟩
 obtain⟨_,h1,h2,h3⟩:=ho.2.2.2.2.2 h6
 have:=Wc h1 h2 hs.1 (by omega)
 refine⟨h1,h2,this.1,this.2,fun h0=>?_⟩
 have:=Wc (a:=n.2.2.2.1 -n.2.2.1) (b:=DX w n.2.2.2.2+1) (by omega) (by omega) (by omega) (by omega)
 exact⟨by omega,by omega,this.1,this.2⟩
def JO(P:Pg):Prop:=∀x:Node×List Int,InW x.2→Em x.1 x.2.length→x.1.2.2.2.2.length≤140737488351232→Fn P WQ DD x fun(d:Int) _=>d=BZ x.1 x.2
theorem Tj(h:Has P Ew):JO P:=by
 rintro⟨⟨k,st,mn,mx,kids⟩,w⟩ hw ho hl
 have hc:=WK ho hw hl
 dsimp only at hw ho hl hc
 refine MO h ?_
 unfold Ie
 dsimp only
 refine Ak.mid (fun d=>d=DX w kids) ?_ ?_
 ·refine Bf.of (fun d=>0≤d.2∧d.2≤kids.length∧d.1=DX w (kids.take d.2.toNat)) (fun d=>(kids.length -d.2).toNat) ⟨Int.le_refl _,by dsimp only;omega,rfl⟩ ?_
  rintro⟨n,i⟩ ⟨i0,i1,hi⟩
  dsimp only at i0 i1 hi⊢
  refine⟨fun hb=>Ak.of ?_,fun hb=>?_⟩
  ·have hb:=of_decide_eq_true hb
   have hk:=ho.1 i.toNat (by dsimp only;omega)
   dsimp only at hk
   have hn:=GA hw (kids.take i.toNat)
   have hg:=hw (kids.getD i.toNat 0).toNat
   have e1:IntKind.i64.wrap (i+1)=i+1:=w64 (by omega) (by omega)
   rw[e1]
   refine⟨⟨i0,hb⟩,by omega,hk,by omega,⟨by omega,by omega,?_⟩,by omega⟩
   rw[EU i0 hb,U9,←hi,w64 (by omega) (by omega)]
   rfl
  ·have hb:=of_decide_eq_false hb
   rw[hi,List.take_of_length_le (by omega)]
 ·rintro d rfl
  generalize hS:DX w kids=S at hc⊢
  unfold BZ
  dsimp only
  rw[hS]
  refine Ak.of ⟨fun h4=>?_,fun h4=>⟨fun h5=>?_,fun h5=>⟨fun h6=>?_,fun h6=>?_⟩⟩⟩
  ·simp at h4;rw[if_pos h4]
  ·simp at h4 h5
   rw[if_neg h4,if_pos h5,w64 (n:=S+_) (by omega) (by omega),w64 (by omega) (by omega)]
   rfl
  ·simp at h4 h5 h6
   rw[if_neg h4,if_neg h5,if_pos h6]
   obtain⟨c1,c2,c3,c4,c5⟩:=hc.2.2 h6
   refine⟨fun hm=>?_,fun hm=>?_⟩
   ·have hm:=of_decide_eq_true hm
    rw[if_pos hm,w64 (n:=mn*S) (by omega) (by omega),w64 (n:=mn*S+S) (by omega) (by omega),w64 (by omega) (by omega)]
    rfl
   ·have hm:=of_decide_eq_false hm
    obtain⟨e1,e2,e3,e4⟩:=c5 (by omega)
    rw[if_neg hm,w64 (n:=mn*S) (by omega) (by omega),w64 (n:=mx -mn) (by omega) (by omega),w64 (n:=S+1) (by omega) (by omega),w64 (n:=(mx -mn)*(S+1)) (by omega) (by omega),w64 (by omega) (by omega)]
    rfl
  ·simp at h4 h5 h6
   rw[if_neg h4,if_neg h5,if_neg h6]
theorem JE(l:List Node){i j:Nat}(h:j<i)(hi:i≤l.length):(wts (l.take i)).getD j 0=(wts l).getD j 0:=by
 have:∀(m:List Node) (l:List Node),j<l.length→(wts (l++m)).getD j 0=(wts l).getD j 0:=by
  intro m
  induction m with
  |nil=>intro l _;rw[List.append_nil]
  |cons n m ih=>
   intro l hl
   have:=ih (l++[n]) (by simp;omega)
   rw[List.append_assoc]at this
   rw[show l++n::m=l++([n]++m)from rfl,this,LG,Bx (by rw[GJ];exact hl)]
 have:=this (l.drop i) (l.take i) (by simp;omega)
 rw[List.take_append_drop]at this
 exact this.symm
theorem Cq.inW{l:List Node}(v:Cq l):InW (wts l):=TM v.ok
theorem Cq.ZG{l:List Node}(v:Cq l)(i:Nat):InW (wts (l.take i)):=TM fun j hj=>by
 have h1:j<l.length:=by simp at hj;omega
 have:=v.ok j h1
 rw[getD_eq h1]at this
 rw[getD_eq hj]
 simpa using this
theorem WM{l:List Node}(v:Cq l){i:Nat}(h:i<l.length):(wts l).getD i 0=BZ (l.getD i BC) (wts l):=by
 have e:l.take (i+1)=l.take i++[l.getD i BC]:=by rw[List.take_succ_eq_append_getElem h,getD_eq h]
 rw[←JE l (Nat.lt_succ_self i) (by omega),e,LG]
 have hlen:(wts (l.take i)).length=i:=by rw[GJ];simp;omega
 have:(wts (l.take i)++[BZ (l.getD i BC) (wts (l.take i))]).getD i 0=BZ (l.getD i BC) (wts (l.take i)):=by
  have:=@DK _ (wts (l.take i)) (BZ (l.getD i BC) (wts (l.take i))) 0
  rwa [hlen]at this
 rw[this]
 have hs:DX (wts (l.take i)) (l.getD i BC).2.2.2.2=DX (wts l) (l.getD i BC).2.2.2.2:=by
  have hk:=(v.ok i h).1
  have:∀(kids:List Int) (n:Int),(∀k,k<kids.length→0≤kids.getD k 0∧kids.getD k 0<(i:Int))→kids.foldl (fun n k=>Fz (n+(wts (l.take i)).getD k.toNat 0)) n=kids.foldl (fun n k=>Fz (n+(wts l).getD k.toNat 0)) n:=by
   intro kids
   induction kids with
   |nil=>intros;rfl
   |cons k kids ih=>
    intro n hk
    have h0:=hk 0 (by simp)
    simp only[List.getD_cons_zero]at h0
    simp only[List.foldl_cons]
    rw[JE l (by omega) (by omega)]
    exact ih _ fun k' hk'=>by have:=hk (k'+1) (by simp;omega);simpa using this
  exact this _ 0 hk
 unfold BZ
 rw[hs]
def GS(P:Pg):Prop:=∀x:List Node,Cq x→KB x→Fn P Tw Cf x fun(d:List Int) _=>d=wts x
theorem RX(h:Has P Ef)(hW:JO P):GS P:=by
 intro x v hK
 have:=v.lo;have:=v.hi
 refine L4 h ?_
 unfold H3
 refine⟨⟨by omega,by omega,by omega⟩,Ak.mid (fun d=>d=wts x) ?_ fun d hd=>hd⟩
 refine Bf.of (fun d=>0≤d.2∧d.2≤x.length∧d.1=wts (x.take d.2.toNat)++List.replicate (x.length -d.2.toNat) 0) (fun d=>(x.length -d.2).toNat) ⟨Int.le_refl _,by dsimp only;omega,by simp[wts]⟩ ?_
 rintro⟨w,i⟩ ⟨i0,i1,hi⟩
 dsimp only at i0 i1 hi⊢
 refine⟨fun hb=>Ak.of ?_,fun hb=>?_⟩
 ·have hb:=of_decide_eq_true hb
  refine⟨⟨i0,hb⟩,by omega,?_⟩
  have hlen:(wts (x.take i.toNat)).length=i.toNat:=by rw[GJ];simp;omega
  have hg:∀j,w.getD j 0=(wts (x.take i.toNat)).getD j 0:=by
   intro j
   rw[hi]
   rcases Nat.lt_or_ge j i.toNat with hj|hj
   ·rw[Bx (by omega)]
   ·rw[List.getD_eq_getElem?_getD,List.getElem?_append_right (by omega),List.getD_eq_getElem?_getD,List.getElem?_eq_none (l:=wts _) (by omega)]
    rw[List.getElem?_replicate]
    split<;>rfl
  have hwl:w.length=x.length:=by rw[hi];simp[hlen];omega
  refine(hW (x.getD i.toNat BC,w) ?_ ?_ (hK _)).to ?_
  ·intro j;dsimp only;rw[hg];exact v.ZG _ j
  ·have:=v.ok i.toNat (by omega)
   exact⟨fun k hk=>by have:=this.1 k hk;dsimp only;omega,this.2⟩
  ·rintro(d:Int) _ rfl
   dsimp only
   rw[w64 (by omega) (by omega)]
   have e:BZ (x.getD i.toNat BC) w=BZ (x.getD i.toNat BC) (wts (x.take i.toNat)):=by
    have:∀kids,DX w kids=DX (wts (x.take i.toNat)) kids:=fun kids=>by unfold DX;simp only[hg]
    unfold BZ;simp only[this]
   refine⟨⟨i0,by omega⟩,by omega,⟨by omega,by omega,?_⟩,by omega⟩
   have:x.length -i.toNat=(x.length -(i+1).toNat)+1:=by omega
   rw[Tp i0 hb,LG,e,hi,this,List.replicate_succ,List.set_append_right _ _ (by omega),hlen,Nat.sub_self,List.set_cons_zero,List.append_assoc]
   rfl
 ·have hb:=of_decide_eq_false hb
  rw[hi,List.take_of_length_le (by omega),show x.length -i.toNat=0 by omega]
  simp
def JI(P:Pg):Prop:=∀x:List Node,KB x→x.length≤140737488351232→Fn P WV DC x fun(d:Int×Int) _=>(Cq x→d=((wts x).getD (x.length -1) 0,0))∧(¬Cq x→d=(0,2))
theorem Tf(h:Has P Ev)(hC:LH P)(hW:GS P):JI P:=by
 intro x hK hl
 refine MN h ?_
 unfold Ic
 refine(hC x hK hl).to ?_
 rintro(d:Int) _ hd
 refine⟨fun hc=>⟨fun v=>?_,fun nv=>?_⟩,fun hc=>?_⟩
 ·rw[hd.1 v]at hc;simp at hc
 ·rw[hd.2 nv]
 ·have v:Cq x:=by
   apply Classical.byContradiction
   intro nv
   rw[hd.2 nv]at hc;simp at hc
  have:=v.lo
  refine(hW x v hK).to ?_
  rintro(w:List Int) _ rfl
  have hlen:=GJ x
  rw[w64 (by omega) (by omega)]
  refine⟨⟨by omega,by omega⟩,by omega,fun _=>?_,fun nv=>(nv v).elim⟩
  rw[show(((x.length:Nat):Int) -1).toNat=x.length -1 by omega]
end Go.VS
