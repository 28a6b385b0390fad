/- Thompson's construction. -/
import Derived.Test.YtopngokkgogolaaKSpBld
set_option linter.unusedVariables false
set_option linter.unusedSimpArgs false
namespace Go.VS
variable{P:Pg}
def LL(P:Pg):Prop:=∀x:Ac×State,x.1.2.2.length≤1000000000→Fn P zS2 Au x fun(d:Int) (e:Ac)=>d=x.1.2.2.length∧e=(x.1.1,(x.1.2.1,x.1.2.2++[x.2]))
theorem YN(h:Has P Cd):LL P:=by
 rintro⟨⟨l,w,st⟩,s⟩ hl
 dsimp only at hl
 refine G8 h ?_
 unfold Er
 dsimp only
 have hlen:(st++[s]).length=st.length+1:=by simp
 refine Ak.mid (fun d=>d=(l,(w,st++[s]))) ?_ ?_
 ·simp only[List.length_cons,List.length_nil,and_true,and_self]
  omega
 ·rintro d rfl
  dsimp only
  rw[hlen,w64 (by omega) (by omega)]
  exact⟨by omega,rfl⟩
def Ep(l:List Node)(R:B3)(st:List State)(nx:Int)(w:Int)(d:Int)(e:Ac):Prop:=∃st',e=(l,(wts l,st'))∧0≤d∧Bld R st st' d.toNat nx.toNat w
def JN(P:Pg)(N:Nat):Prop:=∀(l:List Node) (st:List State) (a nx:Int),Cq l→KB l→0≤a→a<l.length→a<N→(wts l).getD a.toNat 0≤4000→0≤nx→nx<st.length→(st.length:Int)+(wts l).getD a.toNat 0≤1000000→
 Fn P zS3 Aq ((l,(wts l,st)),(a,nx)) fun(d:Int) (e:Ac)=>Ep l (Lang l a.toNat) st nx ((wts l).getD a.toNat 0) d e
theorem Gh{l:List Int}{i:Nat}(h:i<l.length):l.drop i=l.getD i 0::l.drop (i+1):=by rw[List.drop_eq_getElem_cons h,getD_eq h]
theorem Lx{w:List Int}(hw:InW w)(l:List Int)(i:Nat):En w (l.drop i)≤En w l:=by
 induction l generalizing i with
 |nil=>simp[En]
 |cons k l ih=>
  cases i with
  |zero=>exact Int.le_refl _
  |succ i=>have:=ih i;have:=(hw k.toNat).1;simp only[List.drop_succ_cons,En];omega
def QD(P:Pg)(N:Nat):Prop:=∀(l:List Node) (st:List State) (kids:List Int) (nx:Int),Cq l→KB l→(∀k∈kids,0≤k∧k<l.length∧k<N)→1≤kids.length→kids.length≤140737488351232→En (wts l) kids+kids.length -1≤4000→0≤nx→nx<st.length→(st.length:Int)+En (wts l) kids+kids.length -1≤1000000→
 Fn P WW Bn ((l,(wts l,st)),(kids,nx)) fun(d:Int) (e:Ac)=>Ep l (Nd (Lang l) kids) st nx (En (wts l) kids+kids.length -1) d e
theorem RY(h:Has P A2)(hA:LL P){N:Nat}(hB:JN P N):QD P N:=by
 intro l st kids nx v hK hk hk1 hkl hs hn0 hn hm
 have hw:=v.inW
 refine FO h ?_
 unfold DE
 dsimp only
 have e1:IntKind.i64.wrap (((kids.length:Nat):Int) -1)=(kids.length:Int) -1:=w64 (by omega) (by omega)
 have e2:IntKind.i64.wrap ((kids.length:Int) -1 -1)=(kids.length:Int) -2:=by rw[w64 (by omega) (by omega)];omega
 simp only[e1,e2]
 have hkid:∀i:Nat,i<kids.length→(0≤kids.getD i 0∧kids.getD i 0<l.length∧kids.getD i 0<N)∧0≤(wts l).getD (kids.getD i 0).toNat 0∧(wts l).getD (kids.getD i 0).toNat 0+En (wts l) (kids.drop (i+1))≤En (wts l) kids∧0≤En (wts l) (kids.drop (i+1)):=by
  intro i hi
  refine⟨hk _ (Hp hi),(hw _).1,?_,G5 hw _⟩
  have:=Lx hw kids i
  rw[Gh hi]at this
  exact this
 refine⟨⟨by omega,by omega⟩,by omega,?_⟩
 obtain⟨⟨k1,k2,k3⟩,k4,k5,k6⟩:=hkid ((kids.length:Int) -1).toNat (by omega)
 refine(hB l st _ nx v hK k1 k2 k3 (by omega) hn0 hn (by omega)).to ?_
 rintro(d1:Int) (e:Ac) ⟨st1,rfl,h0,hb⟩
 try dsimp only
 refine Ak.mid (fun d=>Ep l (Nd (Lang l) kids) st nx (En (wts l) kids+kids.length -1) d.1 d.2) ?_ fun d hd=>hd
 refine Bf.of (fun d=>-1≤d.2.1∧d.2.1≤(kids.length:Int) -2∧Ep l (Nd (Lang l) (kids.drop (d.2.1+1).toNat)) st nx (En (wts l) (kids.drop (d.2.1+1).toNat)+(kids.length -(d.2.1+1)) -1) d.1 d.2.2) (fun d=>(d.2.1+1).toNat) ?_ ?_
 ·refine⟨by dsimp only;omega,by dsimp only;omega,st1,rfl,h0,?_⟩
  dsimp only
  rw[show((kids.length:Int) -2+1).toNat=((kids.length:Int) -1).toNat by omega,Gh (show((kids.length:Int) -1).toNat<kids.length by omega),List.drop_eq_nil_of_le (show kids.length≤((kids.length:Int) -1).toNat+1 by omega)]
  refine(hb.congr (S:=Nd (Lang l) [kids.getD ((kids.length:Int) -1).toNat 0]) fun s i j=>?_).weaken (by simp only[En];omega)
  simp[Nd,Vd,Uu]
 ·rintro⟨d,i,b⟩ ⟨i0,i1,st2,rfl,hd0,hb2⟩
  dsimp only at i0 i1 hd0 hb2⊢
  refine⟨fun hc=>Ak.of ?_,fun hc=>?_⟩
  ·have hc:=of_decide_eq_true hc
   refine⟨⟨hc,by omega⟩,by omega,?_⟩
   obtain⟨⟨k1,k2,k3⟩,k4,k5,k6⟩:=hkid i.toNat (by omega)
   have hl2:=hb2.le
   have hl3:=hb2.len
   rw[show(i+1).toNat=i.toNat+1 by omega]at hb2 hl3
   refine(hB l st2 _ nx v hK k1 k2 k3 (by omega) hn0 (by omega) (by omega)).to ?_
   rintro(d9:Int) (e10:Ac) ⟨st3,rfl,h90,hb3⟩
   dsimp only
   have hl4:=hb3.len
   refine(hA ((l,(wts l,st3)),((1:Int),(((0:Int),((0:Int),((0:Int),(0:Int)))),(d9,d)))) (by dsimp only;omega)).to ?_
   rintro(d11:Int) (e12:Ac) ⟨rfl,rfl⟩
   dsimp only
   rw[w64 (by omega) (by omega)]
   have hb4:=hb2.alt hb3 (z:=((0:Int),((0:Int),((0:Int),(0:Int)))))
   rw[show((d9.toNat:Nat):Int)=d9 by omega,show((d.toNat:Nat):Int)=d by omega]at hb4
   refine⟨⟨by omega,by omega,_,rfl,by omega,?_⟩,by omega⟩
   rw[show(i -1+1).toNat=i.toNat by omega,Gh (show i.toNat<kids.length by omega)]
   rw[show(((st3.length:Nat):Int)).toNat=st3.length by omega]
   exact hb4.weaken (by simp only[En];omega)
  ·have hc:=of_decide_eq_false hc
   have:i=-1:=by omega
   subst this
   refine⟨st2,rfl,hd0,?_⟩
   simpa using hb2
def upR(R:B3):Nat→B3
 |0=>idR
 |r+1=>Vd (Mu R (upR R r)) idR
theorem Ul{R:B3}{r:Nat}{s:List UInt8}{i j:Nat}:upR R r s i j↔∃m,m≤r∧OP R m s i j:=by
 induction r generalizing i with
 |zero=>
  refine⟨fun h=>⟨0,Nat.le_refl _,h⟩,fun⟨m,h1,h2⟩=>?_⟩
  have:m=0:=by omega
  subst this
  exact h2
 |succ r ih=>
  constructor
  ·rintro(⟨m,h1,h2⟩|h)
   ·obtain⟨k,k1,k2⟩:=ih.1 h2
    exact⟨k+1,by omega,m,h1,k2⟩
   ·exact⟨0,by omega,h⟩
  ·rintro⟨m,h1,h2⟩
   cases m with
   |zero=>exact .inr h2
   |succ m=>
    obtain⟨q,h3,h4⟩:=h2
    exact .inl ⟨q,h3,ih.2 ⟨m,by omega,h4⟩⟩
def SQ(R S:B3):Nat→B3
 |0=>S
 |r+1=>Mu R (SQ R S r)
theorem RE{R S:B3}{r:Nat}{s:List UInt8}{i j:Nat}:SQ R S r s i j↔∃m,OP R r s i m∧S s m j:=by
 induction r generalizing i with
 |zero=>exact⟨fun h=>⟨i,rfl,h⟩,fun⟨m,h1,h2⟩=>by cases h1;exact h2⟩
 |succ r ih=>
  constructor
  ·rintro⟨m,h1,h2⟩
   obtain⟨k,k1,k2⟩:=ih.1 h2
   exact⟨k,⟨m,h1,k1⟩,k2⟩
  ·rintro⟨k,⟨m,h1,k1⟩,k2⟩
   exact⟨m,h1,ih.2 ⟨k,k1,k2⟩⟩
theorem Wv{R:B3}{mn mx:Int}(h0:0≤mn)(hx:mx<0)(s:List UInt8)(i j:Nat):SQ R (PF R) mn.toNat s i j↔RQ R mn mx s i j:=by
 rw[RE]
 constructor
 ·rintro⟨m,h1,n,h2⟩
  exact⟨mn.toNat+n,by omega,.inl hx,Ll.2 ⟨m,h1,h2⟩⟩
 ·rintro⟨r,r1,_,r2⟩
  have:r=mn.toNat+(r -mn.toNat):=by omega
  rw[this]at r2
  obtain⟨m,h1,h2⟩:=Ll.1 r2
  exact⟨m,h1,_,h2⟩
theorem Wu{R:B3}{mn mx:Int}(h0:0≤mn)(hx:mn≤mx)(s:List UInt8)(i j:Nat):SQ R (upR R (mx -mn).toNat) mn.toNat s i j↔RQ R mn mx s i j:=by
 rw[RE]
 constructor
 ·rintro⟨m,h1,h2⟩
  obtain⟨n,h3,h4⟩:=Ul.1 h2
  exact⟨mn.toNat+n,by omega,.inr (by omega),Ll.2 ⟨m,h1,h4⟩⟩
 ·rintro⟨r,r1,r3,r2⟩
  have:r=mn.toNat+(r -mn.toNat):=by omega
  rw[this]at r2
  obtain⟨m,h1,h2⟩:=Ll.1 r2
  exact⟨m,h1,Ul.2 ⟨r -mn.toNat,by omega,h2⟩⟩
theorem Bld.Wh{R S:B3}{r:Nat}{st st1 st2:List State}{d m nx:Nat}{w1 w2:Int}(h1:Bld (SQ R S r) st st1 m nx w1)(h2:Bld R st1 st2 d m w2):Bld (SQ R S (r+1)) st st2 d nx (w1+w2):=h1.comp h2
theorem Bld.XX{R:B3}{r:Nat}{st st1 st2:List State}{d m nx:Nat}{w1 w2:Int}{z:GK}(h1:Bld (upR R r) st st1 m nx w1)(h2:Bld R st1 st2 d m w2)(hn:nx<st.length):Bld (upR R (r+1)) st (st2++[((1:Int),(z,((d:Int),(nx:Int))))]) st2.length nx (w1+w2+1):=(h1.comp h2).opt hn
def MS(S mn mx:Int):Int:=if mx<0 then mn*S+S+1 else mn*S+(mx -mn)*(S+1)
def QE(P:Pg)(N:Nat):Prop:=∀(l:List Node) (st:List State) (n:Node) (nx k:Int),Cq l→KB l→n.2.2.2.2=[k]→0≤k→k<l.length→k<N→0≤n.2.2.1→n.2.2.1≤100→(n.2.2.2.1=-1∨n.2.2.1≤n.2.2.2.1∧n.2.2.2.1≤100)→(wts l).getD k.toNat 0≤4000→0≤nx→nx<st.length→(st.length:Int)+MS ((wts l).getD k.toNat 0) n.2.2.1 n.2.2.2.1≤1000000→
 Fn P Vh A4 ((l,(wts l,st)),(n,nx)) fun(d:Int) (e:Ac)=>Ep l (RQ (Lang l k.toNat) n.2.2.1 n.2.2.2.1) st nx (MS ((wts l).getD k.toNat 0) n.2.2.1 n.2.2.2.1) d e
theorem RZ(h:Has P A3)(hA:LL P){N:Nat}(hB:JN P N):QE P N:=by
 rintro l st ⟨kd,set,mn,mx,kids⟩ nx k v hK hkids k0 kl kN m0 m1 m2 hs hn0 hn hm
 dsimp only at hkids m0 m1 m2 hm⊢
 subst hkids
 have hw:=v.inW
 have hS0:=(hw k.toNat).1
 generalize hS:(wts l).getD k.toNat 0=S at hs hm hS0⊢
 have hB':∀(st:List State) (nx:Int),0≤nx→nx<st.length→(st.length:Int)+S≤1000000→Fn P zS3 Aq ((l,(wts l,st)),(k,nx)) fun(d:Int) (e:Ac)=>Ep l (Lang l k.toNat) st nx S d e:=by
  intro st nx h1 h2 h3
  rw[←hS]
  exact hB l st k nx v hK k0 kl kN (by omega) h1 h2 (by omega)
 generalize Lang l k.toNat=R at hB'⊢
 refine FP h ?_
 unfold DF
 dsimp only
 have hmS:=Wc m0 m1 hS0 (by omega)
 refine⟨⟨by simp,by simp⟩,by simp,?_⟩
 refine Ak.mid (fun d=>(mx<0→Ep l (PF R) st nx (S+1) d.1 d.2)∧(¬mx<0→d=(nx,(l,(wts l,st))))) ⟨fun hc=>?_,fun hc=>?_⟩ ?_
 ·have hc:=of_decide_eq_true hc
  have hrw:MS S mn mx=mn*S+S+1:=by unfold MS;rw[if_pos hc]
  refine(hA ((l,(wts l,st)),((1:Int),(((0:Int),((0:Int),((0:Int),(0:Int)))),((0:Int),nx)))) (by dsimp only;omega)).to ?_
  rintro(d3:Int) (e4:Ac) ⟨rfl,rfl⟩
  dsimp only
  refine(hB' _ _ (by omega) (by rw[List.length_append];simp only[List.length_cons,List.length_nil];omega) (by rw[List.length_append];simp only[List.length_cons,List.length_nil];omega)).to ?_
  rintro(d5:Int) (e6:Ac) ⟨st2,rfl,h50,hb⟩
  dsimp only
  have hb:=hb
  rw[show((st.length:Nat):Int).toNat=st.length by omega]at hb⊢
  have hlt:st.length<st2.length:=by have:=hb.le;simp at this;omega
  have hget:st2.getD st.length Al=((1:Int),(((0:Int),((0:Int),((0:Int),(0:Int)))),((0:Int),nx))):=by rw[hb.getD (by simp),Ho]
  rw[hget]
  have hst:=Bld.star (z:=((0:Int),((0:Int),((0:Int),(0:Int))))) (nx:=nx.toNat) (by omega) hb
  rw[show((d5.toNat:Nat):Int)=d5 by omega,show((nx.toNat:Nat):Int)=nx by omega]at hst
  refine⟨⟨by omega,by omega⟩,hlt,fun _=>⟨_,rfl,by omega,?_⟩,fun h=>(h hc).elim⟩
  rw[show((st.length:Nat):Int).toNat=st.length by omega]
  exact hst
 ·have hc:=of_decide_eq_false hc
  exact⟨fun h=>(hc h).elim,fun _=>rfl⟩
 ·rintro⟨nx2,b⟩ ⟨hd2,hd3⟩
  dsimp only at hd2 hd3⊢
  refine Ak.mid (fun d=>Ep l (if mx<0 then PF R else upR R (mx -mn).toNat) st nx (if mx<0 then S+1 else(mx -mn)*(S+1)) d.1 d.2) ?_ ?_
  ·by_cases hx:mx<0
   ·have hd2:=hd2 hx
    simp only[if_pos hx]
    refine Bf.of (fun d=>d=(nx2,((0:Int),(b.1,(b.2.1,b.2.2))))) (fun d=>0) rfl ?_
    rintro _ rfl
    dsimp only
    refine⟨fun hc=>?_,fun _=>hd2⟩
    have hc:=of_decide_eq_true hc
    rw[w64 (by omega) (by omega)]at hc
    omega
   ·cases hd3 hx
    simp only[if_neg hx]
    have hmm:mn≤mx∧mx≤100:=by omega
    have hrw:MS S mn mx=mn*S+(mx -mn)*(S+1):=by unfold MS;rw[if_neg hx]
    rw[w64 (n:=mx -mn) (by omega) (by omega)]
    refine Bf.of (fun d=>0≤d.2.1∧d.2.1≤mx -mn∧Ep l (upR R d.2.1.toNat) st nx (d.2.1*(S+1)) d.1 d.2.2) (fun d=>(mx -mn -d.2.1).toNat) ⟨by dsimp only;omega,by dsimp only;omega,st,rfl,hn0,?_⟩ ?_
    ·dsimp only
     exact(Bld.id (by omega)).weaken (by omega)
    ·rintro⟨d,r,b⟩ ⟨r0,r1,st1,rfl,hd0,hb1⟩
     dsimp only at r0 r1 hd0 hb1⊢
     refine⟨fun hc=>Ak.of ?_,fun hc=>?_⟩
     ·have hc:=of_decide_eq_true hc
      have hl1:=hb1.le;have hl2:=hb1.len;have hd1:=hb1.dlt
      have hmul:(r+1)*(S+1)≤(mx -mn)*(S+1):=Int.mul_le_mul_of_nonneg_right (by omega) (by omega)
      rw[Int.add_mul,Int.one_mul]at hmul
      refine(hB' _ _ hd0 (by omega) (by omega)).to ?_
      rintro(d13:Int) (e14:Ac) ⟨st2,rfl,h13,hb2⟩
      dsimp only
      have hl3:=hb2.len
      refine(hA ((l,(wts l,st2)),((1:Int),(((0:Int),((0:Int),((0:Int),(0:Int)))),(d13,nx)))) (by dsimp only;omega)).to ?_
      rintro(d11:Int) (e12:Ac) ⟨rfl,rfl⟩
      dsimp only
      rw[w64 (by omega) (by omega)]
      have hb3:=hb1.XX hb2 (z:=((0:Int),((0:Int),((0:Int),(0:Int))))) (by omega)
      rw[show((d13.toNat:Nat):Int)=d13 by omega,show((nx.toNat:Nat):Int)=nx by omega]at hb3
      refine⟨⟨by omega,by omega,_,rfl,by omega,?_⟩,by omega⟩
      rw[show(((st2.length:Nat):Int)).toNat=st2.length by omega,show(r+1).toNat=r.toNat+1 by omega,Int.add_mul,Int.one_mul]
      exact hb3.weaken (by omega)
     ·have hc:=of_decide_eq_false hc
      have:r=mx -mn:=by omega
      subst this
      exact⟨st1,rfl,hd0,hb1⟩
  ·rintro⟨nx3,b3⟩ ⟨st3,hb3e,hn3,hb3⟩
   dsimp only at hb3e hn3 hb3⊢
   subst hb3e
   have hWW:(if mx<0 then S+1 else(mx -mn)*(S+1))+mn*S=MS S mn mx:=by unfold MS;split<;>omega
   have hW0:0≤(if mx<0 then S+1 else(mx -mn)*(S+1)):=by
    split
    ·omega
    ·exact Int.mul_nonneg (by omega) (by omega)
   generalize(if mx<0 then S+1 else(mx -mn)*(S+1))=w0 at hb3 hWW hW0
   refine Ak.mid (fun d=>Ep l (RQ R mn mx) st nx (MS S mn mx) d.1 d.2) ?_ fun d hd=>hd
   refine Bf.of (fun d=>0≤d.2.1∧d.2.1≤mn∧Ep l (SQ R (if mx<0 then PF R else upR R (mx -mn).toNat) d.2.1.toNat) st nx (w0+d.2.1*S) d.1 d.2.2) (fun d=>(mn -d.2.1).toNat) ⟨by dsimp only;omega,by dsimp only;omega,st3,rfl,hn3,?_⟩ ?_
   ·dsimp only
    exact hb3.weaken (by omega)
   ·rintro⟨d,r,b⟩ ⟨r0,r1,st1,rfl,hd0,hb1⟩
    dsimp only at r0 r1 hd0 hb1⊢
    refine⟨fun hc=>Ak.of ?_,fun hc=>?_⟩
    ·have hc:=of_decide_eq_true hc
     have hl1:=hb1.le;have hl2:=hb1.len;have hd1:=hb1.dlt
     have hmul:(r+1)*S≤mn*S:=Int.mul_le_mul_of_nonneg_right (by omega) (by omega)
     rw[Int.add_mul,Int.one_mul]at hmul
     refine(hB' _ _ hd0 (by omega) (by omega)).to ?_
     rintro(d13:Int) (e14:Ac) ⟨st2,rfl,h13,hb2⟩
     dsimp only
     rw[w64 (by omega) (by omega)]
     have hb4:=hb1.Wh hb2
     refine⟨⟨by omega,by omega,_,rfl,h13,?_⟩,by omega⟩
     rw[show(r+1).toNat=r.toNat+1 by omega,Int.add_mul,Int.one_mul]
     exact hb4.weaken (by omega)
    ·have hc:=of_decide_eq_false hc
     have:r=mn:=by omega
     subst this
     refine⟨st1,rfl,hd0,(hb1.congr fun s i j=>?_).weaken (by omega)⟩
     by_cases hx:mx<0
     ·rw[if_pos hx];exact Wv m0 hx s i j
     ·rw[if_neg hx];exact Wu m0 (by omega) s i j
theorem Ep.of{l:List Node}{R S:B3}{st:List State}{nx w w' d:Int}{e:Ac}(h:Ep l R st nx w d e)(hR:∀s i j,R s i j↔S s i j)(hw:w≤w'):Ep l S st nx w' d e:=by
 obtain⟨st',rfl,h0,hb⟩:=h
 exact⟨st',rfl,h0,(hb.congr hR).weaken hw⟩
theorem WL{w:List Int}{n:Node}(hz:BZ n w≤4000)(h0:BZ n w≠0)(hw:InW w){i:Nat}(ho:Em n i):
  (n.1=4→En w n.2.2.2.2=BZ n w)∧(n.1=5→En w n.2.2.2.2+n.2.2.2.2.length -1=BZ n w)∧(n.1=6→∃k,n.2.2.2.2=[k]∧MS (w.getD k.toNat 0) n.2.2.1 n.2.2.2.1=BZ n w∧w.getD k.toNat 0≤4000)∧(n.1≤3→BZ n w=1):=by
 obtain⟨kd,st,mn,mx,kids⟩:=n
 have hs:=GA hw kids
 have ho2:=ho.2.2.2
 dsimp only at ho2⊢
 refine⟨fun h=>?_,fun h=>?_,fun h=>?_,fun h=>?_⟩
 ·subst h
  unfold BZ at hz⊢
  dsimp only at hz⊢
  rw[if_pos rfl]at hz⊢
  exact(HR hw kids hz).symm
 ·subst h
  unfold BZ at hz⊢
  dsimp only at hz⊢
  rw[if_neg (by omega),if_pos rfl]at hz⊢
  have:=ho2.2.1 (.inr rfl)
  unfold Fz at hz⊢
  split at hz
  ·omega
  ·rw[if_neg (by assumption),HR hw kids (by omega)]
 ·subst h
  obtain⟨o1,o2,o3,o4⟩:=ho2.2.2 rfl
  obtain⟨k,rfl⟩:∃q,kids=[q]:=by
   match kids,o1 with
   |[q],_=>exact⟨q,rfl⟩
  refine⟨k,rfl,?_⟩
  have hk:=hw k.toNat
  have hS:DX w [k]=w.getD k.toNat 0:=by
   show Fz (0+w.getD k.toNat 0)=_
   unfold Fz;rw[if_neg (by omega)];omega
  unfold BZ at hz h0⊢
  dsimp only at hz h0⊢
  rw[if_neg (by omega),if_neg (by omega),if_pos rfl]at hz h0⊢
  rw[hS]at hz h0⊢
  have hp:=Int.mul_nonneg o2 hk.1
  unfold MS
  split at hz
  ·rename_i hx
   rw[if_pos hx]at h0⊢
   rw[if_pos hx]
   unfold Fz at hz⊢
   split at hz
   ·omega
   ·rw[if_neg (by assumption)]
    exact⟨rfl,by omega⟩
  ·rename_i hx
   rw[if_neg hx]at h0⊢
   rw[if_neg hx]
   have hp2:0≤(mx -mn)*(w.getD k.toNat 0+1):=Int.mul_nonneg (by omega) (by omega)
   unfold Fz at hz h0⊢
   split at hz
   ·omega
   ·rename_i hle
    rw[if_neg hle]at h0⊢
    refine⟨rfl,?_⟩
    rcases Int.lt_or_le 0 mn with h1|h1
    ·have:1*w.getD k.toNat 0≤mn*w.getD k.toNat 0:=Int.mul_le_mul_of_nonneg_right (by omega) (by omega)
     omega
    ·have e:mn=0:=by omega
     rcases Int.lt_or_le 0 (mx -mn)with h2|h2
     ·have:1*(w.getD k.toNat 0+1)≤(mx -mn)*(w.getD k.toNat 0+1):=Int.mul_le_mul_of_nonneg_right (by omega) (by omega)
      omega
     ·have e2:mx -mn=0:=by omega
      rw[e2,e]at h0;simp at h0
 ·unfold BZ
  dsimp only
  rw[if_neg (by omega),if_neg (by omega),if_neg (by omega)]
theorem Ti(h:Has P BA)(hC:Has P A2)(hR:Has P A3)(hA:LL P)(N:Nat):JN P N:=by
 induction N with
 |zero=>intro l st a nx v hK a0 al aN;omega
 |succ N ih=>
  have iC:=RY hC hA ih
  have iR:=RZ hR hA ih
  intro l st a nx v hK a0 al aN hw4 hn0 hn hm
  have hw:=v.inW
  have hlen:=GJ l
  have haN:a.toNat<l.length:=by omega
  refine Gl h ?_
  unfold DZ
  dsimp only
  refine⟨⟨a0,by omega⟩,by omega,fun hz=>?_,fun hz=>⟨⟨a0,al⟩,haN,?_⟩⟩
  ·have hz:(wts l).getD a.toNat 0=0:=by simpa using hz
   refine⟨st,rfl,hn0,((Bld.id (st:=st) (nx:=nx.toNat) (by omega)).congr fun s i j=>(UF v haN hz).symm).weaken (by omega)⟩
  ·have hz:(wts l).getD a.toNat 0≠0:=by simpa using hz
   have hwt:=WM v haN
   have hwp:=(hw a.toNat).1
   rw[hwt]at hz
   rw[hwt]at hw4 hm hwp⊢
   rw[TP v haN]
   have ho:=v.ok a.toNat haN
   have hmem:∀q∈(l.getD a.toNat BC).2.2.2.2,0≤q∧q<a:=fun q hq=>by have:=ho.mem hq;omega
   have hsp:=WL hw4 hz hw ho
   have hKa:=hK a.toNat
   generalize hng:l.getD a.toNat BC=n at hw4 hm hwp hz ho hsp hmem hKa⊢
   obtain⟨kd,set,mn,mx,kids⟩:=n
   generalize hW:BZ (kd,(set,(mn,(mx,kids)))) (wts l)=W at*
   obtain⟨s4,s5,s6,s3⟩:=hsp
   have ho2:=ho.2.2.2
   have hk0:=ho.2.1
   dsimp only at hmem s4 s5 s6 s3 ho2 hk0 hKa⊢
   have one:∀(x:State),B2 (st.length+1) x→W=1→(∀(A:List State) (d:Nat),A.getD d Al=x→Leads A (DO (kd,(set,(mn,(mx,kids)))) (Lang l)) d nx.toNat)→Fn P zS2 Au ((l,(wts l,st)),x) fun(d:Int) (e:Ac)=>Ep l (DO (kd,(set,(mn,(mx,kids)))) (Lang l)) st nx W d (e.1,(e.2.1,e.2.2)):=by
    intro x hx hW1 hl
    refine(hA ((l,(wts l,st)),x) (by dsimp only;omega)).to ?_
    rintro(d:Int) (e:Ac) ⟨rfl,rfl⟩
    refine⟨st++[x],rfl,by omega,?_⟩
    dsimp only
    rw[show((st.length:Nat):Int).toNat=st.length by omega,hW1]
    exact Bld.one hx hl
   have hnx:((nx.toNat:Nat):Int)=nx:=by omega
   refine Ak.mid (fun d=>Ep l (DO (kd,(set,(mn,(mx,kids)))) (Lang l)) st nx W d.1 d.2.2) ⟨fun h1=>?_,fun h1=>⟨fun h2=>?_,fun h2=>⟨fun h3=>?_,fun h3=>Ak.mid (fun d=>Ep l (DO (kd,(set,(mn,(mx,kids)))) (Lang l)) st nx W d.1 d.2.2) ⟨fun h4=>?_,fun h4=>⟨fun h5=>?_,fun h5=>⟨fun h6=>?_,fun h6=>?_⟩⟩⟩ fun d hd=>hd⟩⟩⟩ fun d hd=>hd
   ·have h1:kd=1:=by simpa using h1
    subst h1
    refine one _ ⟨by dsimp only;omega,by dsimp only;omega,fun _=>⟨hn0,by dsimp only;omega⟩,fun h=>by dsimp only at h;omega⟩ (s3 (by omega)) fun A d hd=>?_
    rw[←hnx]at hd
    have:=Leads.set hd
    unfold DO;rw[if_pos rfl];exact this
   ·have h2:kd=2:=by simpa using h2
    subst h2
    refine one _ ⟨by dsimp only;omega,by dsimp only;omega,fun _=>⟨hn0,by dsimp only;omega⟩,fun h=>by dsimp only at h;omega⟩ (s3 (by omega)) fun A d hd=>?_
    rw[←hnx]at hd
    have:=Leads.st hd
    unfold DO;rw[if_neg (by dsimp only;omega),if_pos rfl];exact this
   ·have h3:kd=3:=by simpa using h3
    subst h3
    refine one _ ⟨by dsimp only;omega,by dsimp only;omega,fun _=>⟨hn0,by dsimp only;omega⟩,fun h=>by dsimp only at h;omega⟩ (s3 (by omega)) fun A d hd=>?_
    rw[←hnx]at hd
    have:=Leads.en hd
    unfold DO;rw[if_neg (by dsimp only;omega),if_neg (by dsimp only;omega),if_pos rfl];exact this
   ·have h4:kd=4:=by simpa using h4
    subst h4
    have s4:=s4 rfl
    have hl2:=ho2.2.1 (.inl rfl)
    have hkid:∀i:Nat,i<kids.length→(0≤kids.getD i 0∧kids.getD i 0<a)∧0≤(wts l).getD (kids.getD i 0).toNat 0∧(wts l).getD (kids.getD i 0).toNat 0+En (wts l) (kids.drop (i+1))≤En (wts l) kids∧0≤En (wts l) (kids.drop (i+1)):=by
     intro i hi
     refine⟨hmem _ (Hp hi),(hw _).1,?_,G5 hw _⟩
     have:=Lx hw kids i
     rw[Gh hi]at this
     exact this
    have hN:DO (4,(set,(mn,(mx,kids)))) (Lang l)=Qp (Lang l) kids:=by
     unfold DO;rw[if_neg (by dsimp only;omega),if_neg (by dsimp only;omega),if_neg (by dsimp only;omega),if_pos rfl]
    rw[hN]
    refine Ak.mid (fun d=>Ep l (Qp (Lang l) kids) st nx W d.1 d.2) ?_ fun d hd=>hd
    rw[w64 (n:=_ -1) (by omega) (by omega)]
    refine Bf.of (fun d=>-1≤d.2.1∧d.2.1≤(kids.length:Int) -1∧Ep l (Qp (Lang l) (kids.drop (d.2.1+1).toNat)) st nx (En (wts l) (kids.drop (d.2.1+1).toNat)) d.1 d.2.2) (fun d=>(d.2.1+1).toNat) ?_ ?_
    ·refine⟨by dsimp only;omega,by dsimp only;omega,st,rfl,hn0,?_⟩
     dsimp only
     rw[show((kids.length:Int) -1+1).toNat=kids.length by omega,List.drop_length]
     exact Bld.id (by omega)
    ·rintro⟨d,i,b⟩ ⟨i0,i1,st2,rfl,hd0,hb2⟩
     dsimp only at i0 i1 hd0 hb2⊢
     refine⟨fun hc=>Ak.of ?_,fun hc=>?_⟩
     ·have hc:=of_decide_eq_true hc
      refine⟨⟨hc,by omega⟩,by omega,?_⟩
      obtain⟨⟨k1,k2⟩,k4,k5,k6⟩:=hkid i.toNat (by omega)
      have hl3:=hb2.len;have hl4:=hb2.le;have hl5:=hb2.dlt
      rw[show(i+1).toNat=i.toNat+1 by omega]at hb2 hl3
      refine(ih l st2 _ d v hK k1 (by omega) (by omega) (by omega) hd0 (by omega) (by omega)).to ?_
      rintro(d9:Int) (e10:Ac) ⟨st3,rfl,h90,hb3⟩
      dsimp only
      rw[w64 (by omega) (by omega)]
      refine⟨⟨by omega,by omega,_,rfl,h90,?_⟩,by omega⟩
      rw[show(i -1+1).toNat=i.toNat by omega,Gh (show i.toNat<kids.length by omega)]
      exact(hb2.comp hb3).weaken (by simp only[En];omega)
     ·have hc:=of_decide_eq_false hc
      have:i=-1:=by omega
      subst this
      refine⟨st2,rfl,hd0,hb2.weaken ?_⟩
      simp only[show((-1:Int)+1).toNat=0 from rfl,List.drop_zero]
      omega
   ·have h5:kd=5:=by simpa using h5
    subst h5
    have s5:=s5 rfl
    have hl2:=ho2.2.1 (.inr rfl)
    have hN:DO (5,(set,(mn,(mx,kids)))) (Lang l)=Nd (Lang l) kids:=by
     unfold DO;rw[if_neg (by dsimp only;omega),if_neg (by dsimp only;omega),if_neg (by dsimp only;omega),if_neg (by dsimp only;omega),if_pos rfl]
    rw[hN,←s5]
    refine(iC l st kids nx v hK (fun k hk=>by have:=hmem k hk;omega) (by omega) hKa (by omega) hn0 hn (by omega)).to ?_
    rintro(d:Int) (e:Ac) hd
    exact hd
   ·have h6:kd=6:=by simpa using h6
    subst h6
    obtain⟨k,rfl,e1,e2⟩:=s6 rfl
    obtain⟨_,o2,o3,o4⟩:=ho2.2.2 rfl
    have hN:DO (6,(set,(mn,(mx,[k])))) (Lang l)=RQ (Lang l k.toNat) mn mx:=by
     unfold DO;rw[if_neg (by dsimp only;omega),if_neg (by dsimp only;omega),if_neg (by dsimp only;omega),if_neg (by dsimp only;omega),if_neg (by dsimp only;omega),if_pos rfl];rfl
    rw[hN,←e1]
    have:=hmem k (by simp)
    have hrep:=iR l st ((6:Int),(set,(mn,(mx,[k])))) nx k v hK rfl this.1 (by omega) (by omega) o2 o3 o4 e2 hn0 hn (by dsimp only;omega)
    have hrep2:Fn P Vh A4 ((l,(wts l,st)),(l.getD a.toNat BC,nx)) fun(d:Int) (e:Ac)=>Ep l (RQ (Lang l k.toNat) mn mx) st nx (MS ((wts l).getD k.toNat 0) mn mx) d e:=by
     rw[hng];exact hrep
    refine hrep2.to ?_
    rintro(d:Int) (e:Ac) hd
    exact hd
   ·simp at h1 h2 h3 h4 h5 h6
    have h0:kd=0:=by have:=ho.2.2.1;dsimp only at this;omega
    subst h0
    have hN:DO (0,(set,(mn,(mx,kids)))) (Lang l)=idR:=rfl
    rw[hN]
    exact⟨st,rfl,hn0,(Bld.id (by omega)).weaken (by omega)⟩
structure Built(l:List Node)(a:Auto):Prop where
 valid:Valid a
 len:(a.1.length:Int)≤(wts l).getD (l.length -1) 0+1
 lang:∀s i j,acc a s i j↔Lang l (l.length -1) s i j
def M6(P:Pg):Prop:=∀x:List Node,KB x→x.length≤140737488351232→Fn P WX CD x fun(d:Auto×Int) _=>(¬Cq x→d=(([],0),2))∧(Cq x→((wts x).getD (x.length -1) 0>4000→d=(([],0),1))∧((wts x).getD (x.length -1) 0≤4000→d.2=0∧Built x d.1))
theorem WA(h:Has P Du)(hB:Has P BA)(hC:Has P A2)(hR:Has P A3)(hA:LL P)(hW:JI P)(hWs:GS P):M6 P:=by
 intro x hK hl
 refine JU h ?_
 unfold GV
 refine(hW x hK hl).to ?_
 rintro(d1:Int×Int) _ ⟨hd1,hd2⟩
 refine Ak.mid (fun _=>Cq x∧(wts x).getD (x.length -1) 0≤4000) ⟨fun hc=>?_,fun hc=>?_⟩ ?_
 ·have nv:¬Cq x:=fun v=>by rw[hd1 v]at hc;simp at hc
  exact⟨fun _=>by rw[hd2 nv],fun v=>(nv v).elim⟩
 ·have v:Cq x:=by
   apply Classical.byContradiction
   intro nv
   rw[hd2 nv]at hc;simp at hc
  rw[hd1 v]
  dsimp only
  refine⟨fun hg=>?_,fun hg=>?_⟩
  ·have hg:=of_decide_eq_true hg
   exact⟨fun nv=>(nv v).elim,fun _=>⟨fun _=>rfl,fun h=>by omega⟩⟩
  ·have hg:=of_decide_eq_false hg
   exact⟨v,by omega⟩
 ·rintro _ ⟨v,hw4⟩
  have hlo:=v.lo;have hhi:=v.hi
  refine(hWs x v hK).to ?_
  rintro(w:List Int) _ rfl
  refine(hA ((x,(wts x,[])),((4:Int),(((0:Int),((0:Int),((0:Int),(0:Int)))),((0:Int),(0:Int))))) (by simp)).to ?_
  rintro(d7:Int) (e8:Ac) ⟨rfl,rfl⟩
  dsimp only
  rw[w64 (by omega) (by omega)]
  have hN:(((x.length:Nat):Int) -1).toNat=x.length -1:=by omega
  have:=(v.inW (x.length -1)).1
  refine(Ti hB hC hR hA (x.length+1) x _ _ _ v hK (by omega) (by omega) (by omega) (by rw[hN];omega) (by decide) (by decide) (by rw[hN];simp only[List.nil_append,List.length_cons,List.length_nil];omega)).to ?_
  rintro(d9:Int) (e10:Ac) ⟨st,rfl,h0,hb⟩
  rw[hN]at hb
  dsimp only at hb⊢
  refine⟨fun nv=>(nv v).elim,fun _=>⟨fun hg=>by omega,fun _=>⟨rfl,?_⟩⟩⟩
  have hle:=hb.le;have hdl:=hb.dlt;have hln:=hb.len
  simp only[List.nil_append,List.length_cons,List.length_nil]at hle hln
  have h0s:st.getD 0 Al=((4:Int),(((0:Int),((0:Int),((0:Int),(0:Int)))),((0:Int),(0:Int)))):=by rw[hb.getD (by simp)];rfl
  refine⟨⟨by omega,by dsimp only;omega,h0,by dsimp only;omega,fun i hi=>?_⟩,by dsimp only;omega,fun s i j=>?_⟩
  ·rcases Nat.eq_zero_or_pos i with e|e
   ·subst e
    dsimp only
    rw[h0s]
    exact⟨by decide,by decide,fun h=>(h rfl).elim,fun h=>by cases h⟩
   ·exact hb.ok i (by simp;omega) hi
  ·have hlead:=hb.lead st (fun _ _ _=>rfl) s
   rw[Xd]
   dsimp only
   have hend:∀n m,ToN st s n 0 m j→m=j:=by
    intro n m ht
    cases ht with
    |acc=>rfl
    |eps e _=>
     unfold Fw at e
     rw[h0s]at e
     rcases e with⟨e,_⟩|⟨e,_⟩|⟨e,_⟩<;>simp at e
    |read _ r _=>
     obtain⟨r,_⟩:=r
     rw[h0s]at r;simp at r
   constructor
   ·rintro⟨n,ht⟩
    obtain⟨m,n',_,hr,ht2⟩:=hlead.1 _ _ _ ht
    have:=hend _ _ ht2
    subst this
    exact hr
   ·intro hr
    exact hlead.2 i j j 0 hr (.acc (by show(st.getD 0 Al).1=4;rw[h0s]))
end Go.VS
