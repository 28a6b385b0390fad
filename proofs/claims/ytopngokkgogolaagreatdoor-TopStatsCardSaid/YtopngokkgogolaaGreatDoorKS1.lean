/- Contracts of the functions. -/
import Derived.Test.YtopngokkgogolaaGreatDoorKS0
set_option linter.unusedVariables false
set_option linter.unusedSimpArgs false
open Int renaming le_refl → Qa0
namespace Go.VS
variable{P:Pg}
def QW:List Bs→Bs→Nat
 |[],_=>0
 |x::l,s=>if x=s then 0 else QW l s+1
theorem Ahb:∀{l:List Bs} {s:Bs} {k:Nat},k<l.length→l.getD k []=s→(∀j,j<k→l.getD j []≠s)→QW l s=k
 |[],_,k,h,_,_=>absurd h (Nat.not_lt_zero _)
 |x::l,s,0,_,h,_=>by rw[QW,if_pos (show x=s from h)]
 |x::l,s,k+1,h1,h2,h3=>by
  rw[QW,if_neg (show¬x=s from h3 0 (Nat.zero_lt_succ _)),Ahb (l:=l) (k:=k) zg h2 fun j hj=>h3 (j+1) zm]
theorem Xm:∀{l:List Bs} {s:Bs},s∈l→l.getD (QW l s) []=s
 |x::l,s,h=>by
  rw[QW];split
  ·grind
  ·rename_i e
   rcases List.mem_cons.1 h with rfl|h
   ·grind
   ·exact Xm (l:=l) h
def We(P:Pg):Prop:=∀x:List Bs×List Bs,x.1.length≤4096→x.2.length≤4096→Fn P AoE I4 x fun(d:List Int×List Int) _=>d=(x.1.map (fun s=>((QW (x.1++x.2) s:Nat):Int)),x.2.map (fun s=>((QW (x.1++x.2) s:Nat):Int)))
theorem AlP(h:Hq P Lq):We P:=by
 rintro⟨x,y⟩ hx hy;dsimp only at hx hy;refine AaX h ?_;unfold UG;dsimp only;rw[List.nil_append];have hal:(x++y).length=x.length+y.length:=List.length_append;refine⟨zg,zm,?_⟩;refine Ac.mid (fun d=>d=(x++y).map fun s=>((QW (x++y) s:Nat):Int)) ?_ ?_
 ·generalize x++y=A at hal⊢;refine AJ.of (fun q=>(0≤q.2∧q.2≤A.length)∧q.1=(A.take q.2.toNat).map fun s=>((QW A s:Nat):Int)) (fun q=>(A.length -q.2).toNat) ⟨⟨Qa0 _,Int.natCast_nonneg _⟩,rfl⟩ ?_;rintro⟨o,i⟩ ⟨⟨i0,i1⟩,ho⟩;dsimp only at i0 i1 ho⊢;refine⟨fun hi=>?_,fun hi=>?_⟩
  ·have hi:=of_decide_eq_true hi
   have hi2:i.toNat<A.length:=zm
   have ht:=H6 (d:=([]:Bs)) hi2;refine Ac.mid (fun o=>o=(A.take (i.toNat+1)).map fun s=>((QW A s:Nat):Int)) ?_ ?_
   ·refine Ac.mid (fun k=>k=((QW A (A.getD i.toNat []):Nat):Int)) ?_ ?_
    ·refine AJ.of (fun k=>(0≤k∧k≤i)∧∀j,j<k.toNat→A.getD j []≠A.getD i.toNat []) (fun k=>(i -k).toNat) ⟨⟨Qa0 _,i0⟩,fun j hj=>absurd hj zsz⟩ ?_;rintro(k:Int) ⟨⟨k0,k1⟩,hk⟩
     have hk2:k.toNat<A.length:=zm
     refine⟨⟨k0,zm⟩,hk2,⟨i0,hi⟩,hi2,fun hc=>?_,fun hc=>?_⟩
     ·have hne:A.getD k.toNat []≠A.getD i.toNat []:=by
       grind
      have hki:k≠i:=fun e=>hne (by rw[e])
      refine Ac.mid (fun q=>q=k+1) (w64 zm zm) ?_<;>grind
     grind [Ahb]
    grind
   grind [w64]
  grind [of_decide_eq_false,List.take_of_length_le]
 ·rintro _ rfl;have hl:(x.length:Int).toNat=x.length:=Int.toNat_natCast _
  refine Ac.mid (fun d=>d=(x.map (fun s=>((QW (x++y) s:Nat):Int)),y.map (fun s=>((QW (x++y) s:Nat):Int)))) ?_ fun d hd=>hd<;>grind
theorem ZA{B:Nat}{s:Bs}(h:Nk B s):s.length≤4*B∧(lnF s).length≤B:=by
 grind [Nk,Abf]
theorem WR{B:Nat}(hB:1≤B):∀{T:List Av},(∀f∈T,Nk B f.2)→∀p,Nk B (findF T p).1
 |[],_,p=>by show Nk B [];grind [Nk]
 |f::T,h,p=>by
  unfold findF;split
  ·grind
  ·exact WR hB (T:=T) (fun x hx=>h x (List.mem_cons_of_mem _ hx)) p
theorem ZF{s:Bs}(h:s.length≤3072∧(lnF s).length≤768):DC s=0:=by
 grind [DC]
def Ot(P:Pg):Prop:=Fn P AgM EU () fun(d:Bool) _=>d=true
theorem Ot.at(h:Ot P){K:Bool→Unit→Prop}(hk:K true ()):Fn P AgM EU () K:=
 Fn.to h fun(d:Bool) _ hd=>by
  have hd:d=true:=hd;subst hd;exact hk
theorem Al1{g:List Al}{c:Int}(h0:Gy g 0)(hs:Yq g)(hc:inR g c){st:List Stat×Int}{li:List (List BF)×Int}(h1:AoH g c st)(h2:AgQ g c li):
  st.2=0∧li.2=0∧0<li.1.length∧st.1.length≤1000000∧st.1=(li.1.getD 0 []).map (stF ((Cx g c).getD 0 []) (D4 g c)):=by
 have hpl:(Bf g c).length≤1000000:=Nat.le_trans ((E0 h0).1.2 _ (GK (by have:=hc.1;have:=hc.2;omega))) zdz
 have htl:=(NK hpl).2;have hT:=PW h0 hs hc _ (Be (d:=[]) htl);have hF:=ME h0 hs hc;obtain⟨e,he,-,-,h1⟩:=h1;have:=Nv he h0;subst this;obtain⟨D,hD,hst⟩:=h1 rfl hc;obtain⟨e,he,-,-,h2⟩:=h2;have:=Nv he h0;subst this;obtain⟨⟨h3,h4⟩,h5⟩:=h2 rfl hc
 have hl0:0<li.1.length:=zg
 obtain⟨e2,h6⟩:=h4 0 hl0;have hE:=Aig h6 hD
 have hz:D.2=0:=by
  rw[hD.1]<;>grind [OI]
 rw[if_pos hz]at hst
 have hD1:D.1=li.1.getD 0 []:=zg
 have hdl:=XD (hD.2.2 hz)
 grind [Acm]
theorem Aee(h:Hq P Hx)(hG:Tp P)(hM:Ng P)(hC:QH P)(hL:Tq P)(hP:Wi P)(hU:Wo P)(hN:Tw P)(hR:Nf P)(hF:We P)(hT:Ts P)(hS:Ot P)(x:List Int×(Int×(Int×Bool))):
  Fn P AqD D0 x fun(d:Bool) _=>d=true:=by
 obtain⟨raw,c,ctx,down⟩:=x;refine Vp h ?_;unfold Oy;dsimp only;refine(hG (raw,(5,4)) (show(0:Int)≤5 by decide) (show(0:Int)≤4 by decide) (.inr ⟨show(4:Int).toNat+1≤5 by decide,show(5:Int).toNat≤8 by decide⟩)).to ?_;rintro(g:List Al) _ hg;have hg:AjL 5 g:=hg;obtain⟨hgl,h0,hs,hgT⟩:=hg;refine⟨fun _=>hS.at rfl,fun hb=>?_⟩
 have hgn:¬((g.length:Nat):Int)=0:=zg
 refine hM.at zm zm ?_;have hcr:=Ew (a:=c) (n:=(g.length:Int)) zm zm;generalize HU c (g.length:Int)=c at hcr⊢;have hin:inR g c:=hcr;refine(hC (g,c) hs).to ?_;rintro⟨(st:List Stat),(e1:Int)⟩ _ hst;refine(hL (g,c) hs).to ?_;rintro⟨(li:List (List BF)),(e2:Int)⟩ _ hli;obtain⟨he1,he2,hl0,hsl,hste⟩:=Al1 h0 hs hin hst hli
 dsimp only at he1 he2 hl0 hsl hste⊢;subst he1 he2
 have hT0:∀f∈(Cx g c).getD 0 [],Nk 768 f.2:=by
  unfold Cx;split
  ·grind
  ·rename_i hp;intro f hf;rw[getD_eq zg,List.getElem_map]at hf;have hv:=HZ (E0 h0).2.1 c hin _ (List.getElem_mem (l:=Bf g c) (n:=0) zm);exact(hgT _ (Be (d:=([],(0,[]))) (by have:=hv.1;have:=hv.2;omega))).1.2 f hf
 have hT1:∀f∈D4 g c,Nk 768 f.2:=(hgT _ (Be (d:=([],(0,[]))) zg)).1.2;have hst':=hst;generalize hta:(Cx g c).getD 0 []=ta at hste hT0;generalize htb:D4 g c=tb at hste hT1
 have hlen:st.length=(li.getD 0 []).length:=zg
 have z0:Int.toNat (0:Int)=0:=rfl;rw[z0];refine⟨fun _=>⟨Qa0 _,zm⟩,fun _=>hl0,hl0,fun k=>?_,fun _=>?_⟩
 ·grind
 refine Ac.mid (fun _=>True) ?_ fun _ _=>hS.at rfl
 refine AJ.of (fun q=>0≤q.2∧q.2≤st.length) (fun q=>(st.length -q.2).toNat) ⟨Qa0 _,Int.natCast_nonneg _⟩ ?_;rintro⟨z,i⟩ ⟨i0,i1⟩;dsimp only at i0 i1⊢;refine⟨fun hi=>?_,fun _=>trivial⟩;have hi:=of_decide_eq_true hi
 have hi2:i.toNat<st.length:=zm
 have hi3:i.toNat<(li.getD 0 []).length:=zm
 have hsi:st.getD i.toNat LV=stF ta tb ((li.getD 0 []).getD i.toNat ([],(0:Int))):=by
  grind
 rw[hsi];generalize(li.getD 0 []).getD i.toNat ([],(0:Int))=t
 refine Ac.mid (fun _=>True) ⟨⟨i0,hi⟩,hi2,(hP (g,(c,(0,(stF ta tb t).1))) hs).to ?_⟩ fun _ _=>?_
 ·rintro(pr:Bs×(Bs×Int)) _ ⟨e,he,-,-,hpr⟩;have:=Nv he h0;subst this;have hpl:(Bf g c).length≤1000000:=Nat.le_trans ((E0 h0).1.2 _ (GK zg)) zdz;have htl:=(NK hpl).2;have hpr:=(hpr rfl hin).1 ⟨Qa0 _,show(0:Int)<((Cx g c).length:Int)by omega⟩
  have hpr:pr=((findF ta t.1).1,((findF tb t.1).1,0)):=by rw[hpr,←hta,←htb];rfl
  subst hpr;have bA:=ZA (WR zdz hT0 t.1);have bB:=ZA (WR zdz hT1 t.1);have hstt:stF ta tb t=(t.1,((YO (findF ta t.1).1 (findF tb t.1).1).1,(YO (findF ta t.1).1 (findF tb t.1).1).2.1)):=rfl;rw[hstt];dsimp only;generalize(findF ta t.1).1=A at bA⊢;generalize(findF tb t.1).1=B at bB⊢;have cA:=ZF bA;have cB:=ZF bB;obtain⟨s1,s2,-,s4,s5⟩:=V6 cA cB
  have hcnt:YO A B=(Gx (Gw A B),(Hn (Gw A B),0)):=by
   grind [YO]
  rw[hcnt];dsimp only;refine hM.at zdz zdz ?_;have hcx:=Ew (a:=ctx) (n:=(4:Int)) zdz zdz;generalize HU ctx 4=cx at hcx⊢;refine(hU A B cx down cA cB bA bB ⟨hcx.1,zg⟩).to ?_;rintro⟨(p:Patch),(e:Int)⟩ _ ⟨p1,p2,p3,p4,p5⟩;dsimp only at p1 p2 p3 p4 p5⊢;subst p1;refine(hN p p2 p3).to ?_;rintro(cn:Int×Int) _ hcn
  have hcn:cn=(Hn (Gw A B),Gx (Gw A B)):=zg
  subst hcn;dsimp only;refine(hR A zm).to ?_;rintro(u:List Bs) _ hu;have hu:u=lnF A:=hu;subst hu;refine(hR B zm).to ?_;rintro(v:List Bs) _ hv;have hv:v=lnF B:=hv;subst hv;refine(hF (lnF A,lnF B) zg zg).to ?_;rintro(fs:List Int×List Int) _ hfs;have hfs:fs=_:=hfs;dsimp only at hfs
  generalize hf:(fun s=>((QW (lnF A++lnF B) s:Nat):Int))=f at hfs;subst hfs;refine(hT ((lnF A).map f,(lnF B).map f) zg zg).to ?_;rintro(tb:List (List Int)) _ ⟨t1,t2⟩;dsimp only at t1 t2;obtain⟨r1,r2⟩:=t2 0 zdz (Nat.zero_le _);have r2:=r2 0 zdz (Nat.zero_le _)
  have hinj:∀u∈lnF A,∀v∈lnF B,f u=f v→u=v:=fun u hu v hv e=>by
   rw[←hf]at e;dsimp only at e;have g1:=Xm (l:=lnF A++lnF B) (List.mem_append.2 (.inl hu));have g2:=Xm (l:=lnF A++lnF B) (List.mem_append.2 (.inr hv))
   grind [Int.ofNat.inj]
  have hd:(EK ((lnF A).map f) ((lnF B).map f):Int)=Hn (Gw A B)+Gx (Gw A B):=by
   rw[AaP f _ _ _ (Nat.le_refl _) hinj,s1,s2];have hw:=Aoa _ (lnF A) (lnF B) 0 0 (Nat.le_refl _)
   grind [Dk,lnF,Abu]
  have r3:(tb.getD 0 []).getD 0 0=Hn (Gw A B)+Gx (Gw A B):=zg
  rw[r3,w64 (n:=Hn (Gw A B)+Gx (Gw A B)) zm zm]<;>simp_all
 grind [w64]
theorem AlV(h:Mn P):Ot P:=h
end Go.VS
