/- Lists of nodes: which are valid; weights. -/
import Derived.Test.YtopngokkgogolaaKSpGen
set_option linter.unusedVariables false
set_option linter.unusedSimpArgs false
namespace Go.VS
variable{P:Pg}
def Em(n:Node)(at_:Nat):Prop:=(∀k,k<n.2.2.2.2.length→0≤n.2.2.2.2.getD k 0∧n.2.2.2.2.getD k 0<(at_:Int))∧0≤n.1∧n.1≤6∧(n.1≤3→n.2.2.2.2.length=0)∧(n.1=4∨n.1=5→2≤n.2.2.2.2.length)∧(n.1=6→n.2.2.2.2.length=1∧0≤n.2.2.1∧n.2.2.1≤100∧(n.2.2.2.1=-1∨n.2.2.1≤n.2.2.2.1∧n.2.2.2.1≤100))
structure Cq(l:List Node):Prop where
 lo:1≤l.length
 hi:l.length≤4000
 ok:∀i,i<l.length→Em (l.getD i BC) i
def KB(l:List Node):Prop:=∀i,(l.getD i BC).2.2.2.2.length≤140737488351232
def JM(P:Pg):Prop:=∀x:Node,Fn P WR Df x fun(d:Bool) _=>d=true↔(0≤x.2.2.1∧x.2.2.1≤100∧(x.2.2.2.1=-1∨x.2.2.1≤x.2.2.2.1∧x.2.2.2.1≤100))
theorem Th(h:Has P Eg):JM P:=by
 intro x
 refine L5 h ?_
 unfold H4
 simp
 omega
def PR(P:Pg):Prop:=∀x:Node×Int,0≤x.2→x.1.2.2.2.2.length≤140737488351232→Fn P WT Ey x fun(d:Bool) _=>d=true↔Em x.1 x.2.toNat
theorem XS(h:Has P FK)(hB:JM P):PR P:=by
 rintro⟨⟨k,w,mn,mx,kids⟩,a⟩ ha hl
 dsimp only at ha hl
 refine OH h ?_
 unfold Kv
 dsimp only
 refine Ak.mid (fun _=>∀i,i<kids.length→0≤kids.getD i 0∧kids.getD i 0<a) ?_ fun d hd=>?_
 ·refine Bf.of (fun d=>0≤d.2∧d.2≤kids.length∧∀i:Nat,(i:Int)<d.2→0≤kids.getD i 0∧kids.getD i 0<a) (fun d=>(kids.length -d.2).toNat) ⟨Int.le_refl _,by dsimp only;omega,fun i hi=>by dsimp only at hi;omega⟩ ?_
  rintro⟨u,i⟩ ⟨i0,i1,hi⟩
  dsimp only at i0 i1 hi⊢
  refine⟨fun hc=>Ak.of ⟨⟨i0,of_decide_eq_true hc⟩,?_,fun hb=>?_,fun hb=>?_⟩,fun hc=>?_⟩
  ·have hc:=of_decide_eq_true hc;omega
  ·have hc:=of_decide_eq_true hc
   refine⟨fun hh=>(nomatch hh),fun ho=>?_⟩
   have:=ho.1 i.toNat (by dsimp only;omega)
   simp[-List.getD_eq_getElem?_getD]at hb
   dsimp only at this
   omega
  ·have hc:=of_decide_eq_true hc
   rw[w64 (by omega) (by omega)]
   simp[-List.getD_eq_getElem?_getD]at hb
   refine⟨⟨by omega,by omega,fun j hj=>?_⟩,by omega⟩
   by_cases e:j=i.toNat
   ·subst e;exact hb
   ·exact hi j (by omega)
  ·have hc:=of_decide_eq_false hc
   exact fun j hj=>hi j (by omega)
 ·have hkk:∀k',k'<kids.length→0≤kids.getD k' 0∧kids.getD k' 0<(a.toNat:Int):=fun k' hk'=>by have:=hd k' hk';omega
  refine Ak.of (Ak.mid (fun d=>d=true↔(0≤k∧k≤3)) ?_ ?_)
  ·refine⟨fun hc=>?_,fun hc=>Ak.of ⟨fun hc2=>?_,fun hc2=>Ak.of ⟨fun hc3=>?_,fun hc3=>?_⟩⟩⟩<;>simp at*<;>omega
  ·intro d10 h10
   refine⟨fun hc=>?_,fun hc=>Ak.mid (fun d=>d=true↔(k=4∨k=5)) ?_ ?_⟩
   ·have:=h10.1 hc
    simp[Em,-List.getD_eq_getElem?_getD]
    constructor
    ·intro e;subst e;simp;omega
    ·intro hh;have:=hh.2.2.2.1 (by omega);exact this
   ·refine⟨fun hc2=>?_,fun hc2=>?_⟩<;>simp at*<;>omega
   ·intro d16 h16
    have hno:¬(0≤k∧k≤3):=by rw[←h10,hc];simp
    refine⟨fun hc2=>?_,fun hc2=>⟨fun hc3=>Ak.mid (fun d=>d=true↔kids.length=1∧(0≤mn∧mn≤100∧(mx=-1∨mn≤mx∧mx≤100))) ⟨fun hc4=>(hB _).to ?_,fun hc4=>?_,trivial⟩ ?_,fun hc3=>?_⟩⟩
    ·have:=h16.1 hc2
     simp only[Em,decide_eq_true_eq]
     constructor
     ·intro e;exact⟨hkk,by omega,by omega,by omega,by omega,by omega⟩
     ·intro hh;have:=hh.2.2.2.2.1 (by omega);omega
    ·rintro(b:Bool) _ hb
     simp only[hb]
     simp at hc4
     exact⟨fun e=>⟨by omega,e⟩,fun e=>e.2⟩
    ·simp at hc4
     exact⟨fun e=>(nomatch e),fun e=>by omega⟩
    ·rintro b hb
     have hc3:k=6:=by simpa using hc3
     simp only[Em]
     constructor
     ·intro e
      simp at e
      have:=hb.1 e.2
      exact⟨hkk,by omega,by omega,by omega,by omega,fun _=>⟨this.1,this.2⟩⟩
     ·intro hh
      have:=hh.2.2.2.2.2 hc3
      have e2:=hb.2 ⟨this.1,this.2⟩
      simp[this.1,e2]
    ·have:¬(k=4∨k=5):=by rw[←h16,hc2];simp
     simp at hc3
     simp only[Em]
     refine⟨fun hh=>(nomatch hh),fun hh=>?_⟩
     have:=hh.2.1;have:=hh.2.2.1;omega
def LH(P:Pg):Prop:=∀x:List Node,KB x→x.length≤140737488351232→Fn P WU D9 x fun(d:Int) _=>(Cq x→d=0)∧(¬Cq x→d=2)
theorem U2(h:Has P Ff)(hF:PR P):LH P:=by
 intro x hK hl
 refine Nx h ?_
 unfold Jy
 refine⟨fun hc=>⟨fun v=>?_,fun _=>rfl⟩,fun hc=>Ak.mid (fun _=>Cq x) ?_ fun _ hv=>⟨fun _=>rfl,fun hn=>(hn hv).elim⟩⟩
 ·have:=v.lo;have:=v.hi;simp at hc;rcases hc with hc|hc
  ·subst hc;exact absurd (by assumption) (show¬(1≤([]:List Node).length)by decide)
  ·omega
 have hc:1≤x.length∧x.length≤4000:=by
  simp at hc
  have:x.length≠0:=fun e=>hc.1 (List.eq_nil_of_length_eq_zero e)
  omega
 refine Bf.of (fun d=>0≤d.2∧d.2≤x.length∧∀i:Nat,(i:Int)<d.2→Em (x.getD i BC) i) (fun d=>(x.length -d.2).toNat) ⟨Int.le_refl _,by dsimp only;omega,fun i hi=>by dsimp only at hi;omega⟩ ?_
 rintro⟨u,i⟩ ⟨i0,i1,hi⟩
 dsimp only at i0 i1 hi⊢
 refine⟨fun hb=>Ak.of ?_,fun hb=>?_⟩
 ·have hb:=of_decide_eq_true hb
  refine⟨⟨i0,hb⟩,by omega,?_⟩
  refine(hF (x.getD i.toNat BC,i) i0 (hK _)).to ?_
  rintro(b:Bool) _ hbb
  dsimp only at hbb⊢
  refine⟨fun hn=>⟨fun v=>?_,fun _=>rfl⟩,fun hn=>?_⟩
  ·have:=hbb.2 (v.ok i.toNat (by omega))
   rw[this]at hn;cases hn
  ·have hn:b=true:=by simpa using hn
   rw[w64 (by omega) (by omega)]
   refine⟨⟨by omega,by omega,fun j hj=>?_⟩,by omega⟩
   by_cases e:j=i.toNat
   ·subst e;exact hbb.1 hn
   ·exact hi j (by omega)
 ·have hb:=of_decide_eq_false hb
  exact⟨hc.1,hc.2,fun j hj=>hi j (by omega)⟩
def Fz(n:Int):Int:=if 4001<n then 4001 else n
def DX(w:List Int)(kids:List Int):Int:=kids.foldl (fun n k=>Fz (n+w.getD k.toNat 0)) 0
def BZ(n:Node)(w:List Int):Int:=
 if n.1=4 then DX w n.2.2.2.2
 else if n.1=5 then Fz (DX w n.2.2.2.2+n.2.2.2.2.length -1)
 else if n.1=6 then(if n.2.2.2.1<0 then Fz (n.2.2.1*DX w n.2.2.2.2+DX w n.2.2.2.2+1)else Fz (n.2.2.1*DX w n.2.2.2.2+(n.2.2.2.1 -n.2.2.1)*(DX w n.2.2.2.2+1)))
 else 1
def wts(l:List Node):List Int:=l.foldl (fun w n=>w++[BZ n w]) []
theorem LG(l:List Node)(n:Node):wts (l++[n])=wts l++[BZ n (wts l)]:=by simp[wts,List.foldl_append]
theorem GJ(l:List Node):(wts l).length=l.length:=by
 have:∀(l:List Node) (w:List Int),(l.foldl (fun w n=>w++[BZ n w]) w).length=w.length+l.length:=by
  intro l
  induction l with
  |nil=>intro w;rfl
  |cons n l ih=>intro w;simp[ih];omega
 have:=this l []
 rw[wts,this];simp
def InW(w:List Int):Prop:=∀i,0≤w.getD i 0∧w.getD i 0≤4001
theorem Ge{n:Int}(h:0≤n):0≤Fz n∧Fz n≤4001:=by unfold Fz;split<;>omega
theorem U9(w:List Int)(l:List Int)(k:Int):DX w (l++[k])=Fz (DX w l+w.getD k.toNat 0):=by simp[DX,List.foldl_append]
theorem GA{w:List Int}(h:InW w)(kids:List Int):0≤DX w kids∧DX w kids≤4001:=by
 have:∀(kids:List Int) (n:Int),0≤n∧n≤4001→0≤kids.foldl (fun n k=>Fz (n+w.getD k.toNat 0)) n∧kids.foldl (fun n k=>Fz (n+w.getD k.toNat 0)) n≤4001:=by
  intro kids
  induction kids with
  |nil=>exact fun n h=>h
  |cons k kids ih=>exact fun n hn=>ih _ (Ge (by have:=(h k.toNat).1;omega))
 exact this kids 0 (by omega)
theorem QA{w:List Int}(h:InW w){n:Node}{i:Nat}(ho:Em n i):0≤BZ n w∧BZ n w≤4001:=by
 obtain⟨k,st,mn,mx,kids⟩:=n
 have hs:=GA h kids
 obtain⟨_,_,_,h3,h4,h5⟩:=ho
 dsimp only at h3 h4 h5
 unfold BZ
 dsimp only
 split
 ·exact hs
 split
 ·have:=h4 (by omega);exact Ge (by omega)
 split
 ·obtain⟨h6,h7,h8,h9⟩:=h5 (by assumption)
  have hp:=Int.mul_nonneg h7 hs.1
  split
  ·exact Ge (by omega)
  ·have:0≤(mx -mn)*(DX w kids+1):=Int.mul_nonneg (by omega) (by omega)
   exact Ge (by omega)
 ·omega
theorem Rb{w:List Int}{x:Int}{i:Nat}:(w++[x]).getD i 0=if i<w.length then w.getD i 0 else if i=w.length then x else 0:=by
 split
 ·rename_i h;exact Bx h
 split
 ·rename_i h;subst h;exact DK
 ·rename_i h1 h2
  rw[List.getD_eq_getElem?_getD,List.getElem?_eq_none (by simp;omega)];rfl
theorem TM{l:List Node}(h:∀i,i<l.length→Em (l.getD i BC) i):InW (wts l):=by
 induction h0:l.length generalizing l with
 |zero=>
  have:l=[]:=List.eq_nil_of_length_eq_zero h0
  subst this
  intro i;simp[wts]
 |succ m ih=>
  obtain⟨l,n,rfl⟩:∃l' n,l=l'++[n]:=⟨l.dropLast,l.getLast (by intro e;subst e;simp at h0),(List.dropLast_concat_getLast _).symm⟩
  have ih:=fun h=>ih (l:=l) h (by simp at h0;exact h0)
  have ih:=ih fun i hi=>by have:=h i (by simp;omega);rwa [Bx hi]at this
  have hn:=h l.length (by simp)
  rw[DK]at hn
  rw[LG]
  intro i
  rw[Rb]
  split
  ·exact ih i
  split
  ·exact QA ih hn
  ·omega
end Go.VS
