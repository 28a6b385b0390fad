/- The language of a node; automata that are built state by state. -/
import Derived.Test.YtopngokkgogolaaKSpLang
import Derived.Test.YtopngokkgogolaaKSpWt
set_option linter.unusedVariables false
set_option linter.unusedSimpArgs false
namespace Go.VS
def Uu:B3:=fun _ _ _=>False
def Qp(R:Nat→B3):List Int→B3
 |[]=>idR
 |k::ks=>Mu (R k.toNat) (Qp R ks)
def Nd(R:Nat→B3):List Int→B3
 |[]=>Uu
 |k::ks=>Vd (R k.toNat) (Nd R ks)
def RQ(R:B3)(mn mx:Int):B3:=fun s i j=>∃r:Nat,mn≤r∧(mx<0∨(r:Int)≤mx)∧OP R r s i j
def DO(n:Node)(R:Nat→B3):B3:=
 if n.1=1 then YH n.2.1 else if n.1=2 then stR else if n.1=3 then enR
 else if n.1=4 then Qp R n.2.2.2.2 else if n.1=5 then Nd R n.2.2.2.2
 else if n.1=6 then RQ (R (n.2.2.2.2.getD 0 0).toNat) n.2.2.1 n.2.2.2.1 else idR
def langs(l:List Node):List B3:=l.foldl (fun L n=>L++[DO n fun k=>L.getD k Uu]) []
def Lang(l:List Node)(k:Nat):B3:=(langs l).getD k Uu
theorem NI(l:List Node)(n:Node):langs (l++[n])=langs l++[DO n (Lang l)]:=by simp only[langs,List.foldl_append];rfl
theorem K5(l:List Node):(langs l).length=l.length:=by
 have:∀(l:List Node) (w:List B3),(l.foldl (fun L n=>L++[DO n fun k=>L.getD k Uu]) w).length=w.length+l.length:=by
  intro l
  induction l with
  |nil=>intro w;rfl
  |cons n l ih=>intro w;simp only[List.foldl_cons,ih,List.length_append,List.length_cons,List.length_nil];omega
 have:=this l []
 rw[langs,this];simp
theorem My(l m:List Node){k:Nat}(h:k<l.length):Lang (l++m) k=Lang l k:=by
 induction m generalizing l with
 |nil=>rw[List.append_nil]
 |cons n m ih=>
  rw[show l++n::m=(l++[n])++m by simp,ih _ (by simp;omega)]
  unfold Lang
  rw[NI,Bx (by rw[K5];exact h)]
theorem Tc{R S:Nat→B3}{l:List Int}(h:∀k∈l,R k.toNat=S k.toNat):Qp R l=Qp S l:=by
 induction l with
 |nil=>rfl
 |cons k l ih=>simp only[Qp];rw[h k (by simp),ih fun k' hk'=>h k' (by simp[hk'])]
theorem Sl{R S:Nat→B3}{l:List Int}(h:∀k∈l,R k.toNat=S k.toNat):Nd R l=Nd S l:=by
 induction l with
 |nil=>rfl
 |cons k l ih=>simp only[Nd];rw[h k (by simp),ih fun k' hk'=>h k' (by simp[hk'])]
theorem Em.mem{n:Node}{i:Nat}(h:Em n i){k:Int}(hk:k∈n.2.2.2.2):0≤k∧k<(i:Int):=by
 obtain⟨j,hj,rfl⟩:=List.getElem_of_mem hk
 have:=h.1 j hj
 rwa [getD_eq hj]at this
theorem Rs{n:Node}{i:Nat}(ho:Em n i){R S:Nat→B3}(h:∀k,k<i→R k=S k):DO n R=DO n S:=by
 have hm:∀k∈n.2.2.2.2,R k.toNat=S k.toNat:=fun k hk=>h _ (by have:=ho.mem hk;omega)
 unfold DO
 rw[Tc hm,Sl hm]
 by_cases h6:n.1=6
 ·have:=ho.2.2.2.2.2 h6
  have:=ho.1 0 (by omega)
  rw[h (n.2.2.2.2.getD 0 0).toNat (by omega)]
 ·simp only[if_neg h6]
theorem TP{l:List Node}(v:Cq l){k:Nat}(h:k<l.length):Lang l k=DO (l.getD k BC) (Lang l):=by
 have e:l.take (k+1)=l.take k++[l.getD k BC]:=by rw[List.take_succ_eq_append_getElem h,getD_eq h]
 have e2:Lang l k=Lang (l.take (k+1)) k:=by
  conv=>lhs;rw[←List.take_append_drop (k+1) l]
  exact My _ _ (by simp;omega)
 rw[e2,e]
 unfold Lang
 rw[NI]
 have hlen:(langs (l.take k)).length=k:=by rw[K5];simp;omega
 have:=@DK _ (langs (l.take k)) (DO (l.getD k BC) (Lang (l.take k))) Uu
 rw[hlen]at this
 rw[this]
 refine Rs (v.ok k h) fun m hm=>?_
 show Lang (l.take k) m=Lang l m
 conv=>rhs;rw[←List.take_append_drop k l]
 exact(My _ _ (by simp;omega)).symm
def En(w:List Int):List Int→Int
 |[]=>0
 |k::ks=>w.getD k.toNat 0+En w ks
theorem G5{w:List Int}(h:InW w)(l:List Int):0≤En w l:=by
 induction l with
 |nil=>exact Int.le_refl _
 |cons k l ih=>have:=(h k.toNat).1;simp only[En];omega
theorem HR{w:List Int}(h:InW w)(kids:List Int)(hs:DX w kids≤4000):DX w kids=En w kids:=by
 have key:∀(kids:List Int) (n:Int),0≤n→kids.foldl (fun n k=>Fz (n+w.getD k.toNat 0)) n≤4000→kids.foldl (fun n k=>Fz (n+w.getD k.toNat 0)) n=n+En w kids:=by
  intro kids
  induction kids with
  |nil=>intro n hn hs;simp[En]
  |cons k kids ih=>
   intro n hn hs
   have hk:=(h k.toNat).1
   have hcap:0≤Fz (n+w.getD k.toNat 0):=(Ge (by omega)).1
   have:=ih _ hcap hs
   simp only[List.foldl_cons]at hs⊢
   rw[this]at hs⊢
   have hx:=G5 h kids
   have:Fz (n+w.getD k.toNat 0)=n+w.getD k.toNat 0:=by
    unfold Fz at hs⊢
    split at hs
    ·omega
    ·rw[if_neg (by omega)]
   rw[this];simp only[En];omega
 have:=key kids 0 (Int.le_refl _) hs
 unfold DX at hs⊢
 rw[this];omega
theorem UF{l:List Node}(v:Cq l){k:Nat}(h:k<l.length)(hz:(wts l).getD k 0=0){s:List UInt8}{i j:Nat}:Lang l k s i j↔idR s i j:=by
 induction k using Nat.strongRecOn generalizing i j with
 |ind k ih=>
  have hw:=v.inW
  have ho:=v.ok k h
  rw[WM v h]at hz
  rw[TP v h]
  have hm:∀q∈(l.getD k BC).2.2.2.2,0≤q∧q<(k:Int):=fun q hq=>ho.mem hq
  generalize l.getD k BC=n at hz ho hm⊢
  obtain⟨kd,st,mn,mx,kids⟩:=n
  have hs:=GA hw kids
  unfold BZ at hz
  dsimp only at hz hm
  unfold DO
  dsimp only
  have ho2:=ho.2.2.2
  dsimp only at ho2
  have pz:∀q∈kids,(wts l).getD q.toNat 0=0→∀{i j:Nat},Lang l q.toNat s i j↔idR s i j:=fun q hq hz=>by
   have:=hm q hq
   intro i j
   exact ih q.toNat (by omega) (by omega) hz
  split at hz
  ·rename_i h4
   subst h4
   rw[if_neg (by omega),if_neg (by omega),if_neg (by omega),if_pos rfl]
   have e:=HR hw kids (by omega)
   have hzz:En (wts l) kids=0:=by omega
   clear hs e ho ho2 hm ih hz
   induction kids generalizing i with
   |nil=>exact Iff.rfl
   |cons q kids ihk=>
    have h1:=(hw q.toNat).1
    have h2:=G5 hw kids
    simp only[En]at hzz
    have pq:=@pz q (by simp) (by omega)
    have pk:=fun i=>@ihk i (fun q hq=>pz q (by simp[hq])) (by omega)
    simp only[Qp,Mu,pq,idR]
    constructor
    ·rintro⟨m,rfl,h⟩;exact(pk _).1 h
    ·rintro rfl;exact⟨i,rfl,(pk i).2 rfl⟩
  split at hz
  ·rename_i h5
   have:=ho2.2.1 (.inr h5)
   unfold Fz at hz
   split at hz<;>omega
  split at hz
  ·rename_i h4 h5 h6
   subst h6
   obtain⟨o1,o2,o3,o4⟩:=ho2.2.2 rfl
   rw[if_neg (by omega),if_neg (by omega),if_neg (by omega),if_neg (by omega),if_neg (by omega),if_pos rfl]
   obtain⟨q,rfl⟩:∃q,kids=[q]:=by
    match kids,o1 with
    |[q],_=>exact⟨q,rfl⟩
   have hp:=Int.mul_nonneg o2 hs.1
   split at hz
   ·unfold Fz at hz
    split at hz<;>omega
   ·rename_i hmx
    have hp2:0≤(mx -mn)*(DX (wts l) [q]+1):=Int.mul_nonneg (by omega) (by omega)
    have hz:mn*DX (wts l) [q]=0∧(mx -mn)*(DX (wts l) [q]+1)=0:=by
     unfold Fz at hz
     split at hz<;>omega
    have e1:mx=mn:=by
     rcases Int.mul_eq_zero.1 hz.2 with e|e<;>omega
    subst e1
    have e2:=Int.mul_eq_zero.1 hz.1
    simp only[RQ,List.getD_cons_zero]
    have hpow:∀(r:Nat),(mx=0→r=0)→∀{i j:Nat},OP (Lang l q.toNat) r s i j↔idR s i j:=by
     intro r hr
     rcases e2 with e2|e2
     ·rw[hr e2];exact Iff.rfl
     ·have e3:=HR hw [q] (by omega)
      have pq:=@pz q (by simp) (by simp only[En]at e3;omega)
      induction r with
      |zero=>intro i j;exact Iff.rfl
      |succ r ihr=>
       intro i j
       have ihr:=@ihr (fun e=>absurd (hr e) (by omega))
       simp only[OP,Mu,pq,ihr,idR]
       constructor
       ·rintro⟨m,rfl,rfl⟩;rfl
       ·rintro rfl;exact⟨i,rfl,rfl⟩
    constructor
    ·rintro⟨r,r1,r2,r3⟩
     exact(hpow r (by omega)).1 r3
    ·intro hid
     exact⟨mx.toNat,by omega,by omega,(hpow _ (by omega)).2 hid⟩
  ·omega
structure Bld(R:B3)(st st':List State)(d nx:Nat)(w:Int):Prop where
 pre:st'=st++st'.drop st.length
 len:(st'.length:Int)≤st.length+w
 dlt:d<st'.length
 ok:∀i,st.length≤i→i<st'.length→B2 st'.length (st'.getD i Al)
 lead:∀A:List State,(∀i,st.length≤i→i<st'.length→A.getD i Al=st'.getD i Al)→Leads A R d nx
theorem B2.mono{n m:Nat}{s:State}(h:B2 n s)(hm:n≤m):B2 m s:=by
 obtain⟨h1,h2,h3,h4⟩:=h
 exact⟨h1,h2,fun h=>by have:=h3 h;omega,fun h=>by have:=h4 h;omega⟩
theorem Bld.le{R:B3}{st st':List State}{d nx:Nat}{w:Int}(h:Bld R st st' d nx w):st.length≤st'.length:=by
 have:=congrArg List.length h.pre
 simp at this;omega
theorem Qi{st st' new:List State}(h:st'=st++new):st'=st++st'.drop st.length:=by subst h;simp
theorem Bld.PH{R S:B3}{st st1 st2:List State}{d1 d2 n1 n2:Nat}{w1 w2:Int}(h1:Bld R st st1 d1 n1 w1)(h2:Bld S st1 st2 d2 n2 w2):st2=st++st2.drop st.length:=by
 refine Qi (new:=st1.drop st.length++st2.drop st1.length) ?_
 rw[←List.append_assoc,←h1.pre];exact h2.pre
theorem Bld.getD{R:B3}{st st':List State}{d nx:Nat}{w:Int}(h:Bld R st st' d nx w){i:Nat}(hi:i<st.length):st'.getD i Al=st.getD i Al:=by
 conv=>lhs;rw[h.pre]
 exact Bx hi
theorem Bld.id{st:List State}{nx:Nat}(h:nx<st.length):Bld idR st st nx nx 0:=⟨by simp,by omega,h,fun i h1 h2=>by omega,fun A hA=>.id⟩
theorem Bld.congr{R S:B3}{st st':List State}{d nx:Nat}{w:Int}(h:Bld R st st' d nx w)(e:∀s i j,R s i j↔S s i j):Bld S st st' d nx w:=
 ⟨h.pre,h.len,h.dlt,h.ok,fun A hA=>(h.lead A hA).congr e⟩
theorem Bld.weaken{R:B3}{st st':List State}{d nx:Nat}{w w':Int}(h:Bld R st st' d nx w)(e:w≤w'):Bld R st st' d nx w':=
 ⟨h.pre,by have:=h.len;omega,h.dlt,h.ok,h.lead⟩
theorem Bld.comp{R S:B3}{st st1 st2:List State}{d m nx:Nat}{w1 w2:Int}(h1:Bld S st st1 m nx w1)(h2:Bld R st1 st2 d m w2):Bld (Mu R S) st st2 d nx (w1+w2):=by
 have l1:=h1.le;have l2:=h2.le
 refine⟨h1.PH h2,by have:=h1.len;have:=h2.len;omega,h2.dlt,fun i i1 i2=>?_,fun A hA=>?_⟩
 ·rcases Nat.lt_or_ge i st1.length with hi|hi
  ·rw[h2.getD hi];exact(h1.ok i i1 hi).mono l2
  ·exact h2.ok i hi i2
 ·refine(h2.lead A fun i i1 i2=>hA i (by omega) i2).comp (h1.lead A fun i i1 i2=>?_)
  rw[hA i i1 (by omega),h2.getD i2]
theorem JA{n d b:Nat}{z:GK}(h1:d<n)(h2:b<n):B2 n ((1:Int),(z,((d:Int),(b:Int)))):=by
 unfold B2;dsimp only;omega
theorem Ho{st:List State}{x:State}:(st++[x]).getD st.length Al=x:=DK
theorem Bld.alt{R S:B3}{st st1 st2:List State}{d s1 nx:Nat}{w1 w2:Int}{z:GK}(h1:Bld S st st1 s1 nx w1)(h2:Bld R st1 st2 d nx w2):Bld (Vd R S) st (st2++[((1:Int),(z,((d:Int),(s1:Int))))]) st2.length nx (w1+w2+1):=by
 have l1:=h1.le;have l2:=h2.le
 have hd:=h2.dlt;have hs:=h1.dlt
 have hlen:(st2++[((1:Int),(z,((d:Int),(s1:Int))))]).length=st2.length+1:=by simp
 refine⟨?_,by have:=h1.len;have:=h2.len;omega,by omega,fun i i1 i2=>?_,fun A hA=>?_⟩
 ·refine Qi (new:=st2.drop st.length++[((1:Int),(z,((d:Int),(s1:Int))))]) ?_
  rw[←List.append_assoc,←h1.PH h2]
 ·rw[hlen]
  rcases Nat.lt_or_ge i st2.length with hi|hi
  ·rw[Bx hi]
   rcases Nat.lt_or_ge i st1.length with hi1|hi1
   ·rw[h2.getD hi1];exact(h1.ok i i1 hi1).mono (by omega)
   ·exact(h2.ok i hi1 hi).mono (by omega)
  ·have:i=st2.length:=by omega
   subst this
   rw[Ho]
   exact JA (by omega) (by omega)
 ·have hsp:A.getD st2.length Al=((1:Int),(z,((d:Int),(s1:Int)))):=by rw[hA _ (by omega) (by omega),Ho]
  refine Leads.split hsp (h2.lead A fun i i1 i2=>?_) (h1.lead A fun i i1 i2=>?_)
  ·rw[hA i (by omega) (by omega),Bx i2]
  ·rw[hA i i1 (by omega),Bx (by omega),h2.getD i2]
theorem Bld.opt{R:B3}{st st2:List State}{d nx:Nat}{w:Int}{z:GK}(h:Bld R st st2 d nx w)(hn:nx<st.length):Bld (Vd R idR) st (st2++[((1:Int),(z,((d:Int),(nx:Int))))]) st2.length nx (w+1):=by
 have:=(Bld.id hn).alt h (z:=z)
 exact this.weaken (by omega)
theorem Bld.star{R:B3}{st st2:List State}{d nx:Nat}{w:Int}{z:GK}{x:State}(hn:nx<st.length)(h:Bld R (st++[x]) st2 d st.length w):Bld (PF R) st (st2.set st.length ((1:Int),(z,((d:Int),(nx:Int))))) st.length nx (w+1):=by
 have hl:=h.le
 simp at hl
 have hd:=h.dlt
 refine⟨?_,by have:=h.len;simp at this⊢;omega,by simp;omega,fun i i1 i2=>?_,fun A hA=>?_⟩
 ·refine Qi (new:=((1:Int),(z,((d:Int),(nx:Int))))::st2.drop (st.length+1)) ?_
  have:=h.pre
  simp only[List.length_append,List.length_cons,List.length_nil]at this
  conv=>lhs;rw[this]
  rw[List.append_assoc,List.set_append_right _ _ (Nat.le_refl _),Nat.sub_self]
  rfl
 ·simp only[List.length_set]at i2⊢
  rw[BK (by omega)]
  split
  ·exact JA (by omega) (by omega)
  ·exact h.ok i (by simp;omega) i2
 ·have hsp:A.getD st.length Al=((1:Int),(z,((d:Int),(nx:Int)))):=by
   rw[hA _ (Nat.le_refl _) (by simp;omega),BK (by omega),if_pos rfl]
  refine Leads.star hsp (h.lead A fun i i1 i2=>?_)
  simp at i1
  rw[hA i (by omega) (by simp;omega),BK (by omega),if_neg (by omega)]
theorem Bld.one{R:B3}{st:List State}{nx:Nat}{x:State}(ho:B2 (st.length+1) x)(hl:∀(A:List State) (d:Nat),A.getD d Al=x→Leads A R d nx):Bld R st (st++[x]) st.length nx 1:=
 ⟨Qi rfl,by simp,by simp,fun i i1 i2=>by
  simp at i2
  have:i=st.length:=by omega
  subst this
  rw[Ho];simpa using ho,fun A hA=>hl A _ (by rw[hA _ (Nat.le_refl _) (by simp),Ho])⟩
end Go.VS
