/- A semantics of values for the model, shown sound for it, and the lifting of functions to plain propositions: part 3. -/
import Derived.Test.YtopngokkgogolaaGreatDoorFwB
set_option linter.unusedVariables false
set_option linter.unusedSimpArgs false
set_option linter.unusedSectionVars false
open Bool renaming and_eq_true → Qa0, or_eq_false_iff → Qa1, or_true → Qb0, true_and → Qc1, and_self → Qc2, or_self → Qc3
open Option renaming bind_some → Qa2, map_eq_some_iff → Qa9, map_some → Qb2
open Nat renaming le_refl → Qa3, beq → Qa5, eq_of_beq_eq_true → Qa7, le_of_eq → Qb6
open List renaming any_cons → Qa4, all_cons → Qa6, mem_of_mem_drop → Qa8, mem_of_mem_take → Qb3, getElem?_map → Qb4, getElem?_set_ne → Qb5, replicate → Qb7, map_cons → Qb8, mem_cons → Qb9, getElem?_eq_getElem → Qc0
open Option.some renaming injEq → Qb1
namespace Go.VS
def E3(t:Nat)(p:Place):Bool:=match p.root with
 |.slot t' _=>Qa5 t' t
 |.obj ..=>false
def SG(p:Place):Bool:=match p.root with
 |.obj ..=>true
 |.slot ..=>false
def Adq(b:Nat)(p:Place):Bool:=match p.root with
 |.obj b' _=>Qa5 b' b
 |.slot ..=>false
def KT:Root→Place→Bool
 |.slot t _=>E3 t
 |.obj _ _=>SG
def deep(p:Place):Bool:=match p.path with
 |[]=>false
 |_=>true
def CR:Nat→Bool:=fun _=>false
def TSV.Ad6:TSV→Nat→TC→TSV
 |.one _,0,d=>.one d
 |.agg l,j,d=>.agg (l.set j d)
 |v,_,_=>v
def Gg(F Γ:TS)(qr qa:Place→Bool)(r:Root)(d:TC):Option TS:=
 match r with
 |.slot t j=>match TS.slot F Γ t with
  |some (.val [] v)=>TS.upd F Γ qr qa CR [(t,.val [] ((v.sift qr qa CR).Ad6 j d))] []
  |_=>none
 |.obj b c=>match TS.box F Γ b with
  |some l=>TS.upd F Γ qr qa CR [] [(b,(l.map (TC.sift qr qa CR)).set c d)]
  |none=>none
def Ie(F Γ:TS)(t:Nat)(x:TX):R TS:=bif x.guards t||x.hit (E3 t) (E3 t) CR then R.fail else R.Ep (TS.upd F Γ (E3 t) (E3 t) CR [(t,x)] [])
def Yx(F:TS)(mem:Bool)(Γ:TS):TC→R (TC×TS)
 |.ref p _ e w=>match p.path,CH F Γ p.root with
  |[],some (.sl .own tt' e' l)=>if e'.size=e.size then(match w with
    |none=>(do
     let Γ'←R.Ep (Gg F Γ (KT p.root) (KT p.root) p.root .dead)
     pure (.sl .own tt' e' l,Γ'))
    |some (lo,n)=>(do
     R.need (lo+n≤l.length)
     let Γ'←R.Ep (Gg F Γ (KT p.root) (KT p.root) p.root .dead)
     pure (.sl .own tt' e' ((l.drop lo).take n),Γ')))
   else R.fail
  |_,_=>R.fail
 |.adr ..=>R.fail
 |.iadr tt e l i c=>bif mem then R.fail else pure (.iadr tt e l i c,Γ)
 |.iadrd tt e l i c n j=>bif mem then R.fail else pure (.iadrd tt e l i c n j,Γ)
 |.dead=>R.fail
 |.sl .own _ _ _=>R.fail
 |c=>pure (c,Γ)
def Rj(F:TS)(mem:Bool)(Γ:TS):List TC→R (List TC×TS)
 |[]=>pure ([],Γ)
 |c::l=>do
  let(d,Γ1)←Yx F mem Γ c
  let(m,Γ2)←Rj F mem Γ1 l
  pure (d::m,Γ2)
def Qs(F Γ:TS)(mem:Bool)(x:Opd):R (TSV×TS):=do
 let v←Rm F Γ [] x
 match v with
 |.one c=>do
  let(d,Γ')←Yx F mem Γ c
  pure (.one d,Γ')
 |.agg l=>do
  let(m,Γ')←Rj F mem Γ l
  pure (.agg m,Γ')
 |.clo f l=>bif l.all TC.Bg then pure (.clo f l,Γ)else R.fail
section
variable{μ:Nat→Nat}{F Γ Γ':TS}{st:St}{qr qa:Place→Bool}{m:Nat→Bool}
theorem Amd{ns:List (Nat×TX)}{nb:List (Nat×List TC)}(hu:TS.upd F Γ qr qa m ns nb=some Γ')(hss:∀t,(look F.sl t).isSome=true→look Γ.sl t=none)(gd:Gd)(hgd:∀p∈gd,look ns p.1=none):gv F Γ' gd=gv F Γ gd:=by
 have hslot:=MX hu hss;refine Ub (t0:=fun t=>look ns t≠none) ?_ gd (fun p hp=>zg);intro t ht
 have ht:look ns t=none:=zg
 unfold Gr;rw[hslot t,ht]
 cases hx:TS.slot F Γ t with
 |none=>rfl
 |some x=>exact Ym
theorem Rh(v:TSV)(j:Nat){c:TC}(h:(v.sift qr qa m).cells[j]?=some c):∃d,v.cells[j]?=some d∧c=d.sift qr qa m:=by
 cases v<;>grind [TSV.sift,TSV.cells]
theorem Jm{ns:List (Nat×TX)}{nb:List (Nat×List TC)}(hu:TS.upd F Γ qr qa m ns nb=some Γ')(hss:∀t,(look F.sl t).isSome=true→look Γ.sl t=none){p:Place}
  (hns:∀t j,p.root=.slot t j→look ns t=none) (hnb:∀b c,p.root=.obj b c→look nb b=none) {n:Nat} (hn:lnT F Γ' p=some n):lnT F Γ p=some n:=by
 unfold lnT atT at hn⊢
 cases hr:p.root with
 |slot t j=>
  rw[hr]at hn;simp only[CH,MX hu hss t,hns t j hr]at hn⊢
  cases hs:TS.slot F Γ t with
  |none=>grind
  |some x=>
   rw[hs]at hn
   cases x with
   |val gd v=>
    cases gd with
    |nil=>
     simp only[Qb2,TX.sift]at hn⊢
     cases hc:(v.sift qr qa m).cells[j]?with
     |none=>grind
     |some c=>
      rw[hc,Qa2]at hn;obtain⟨d,h1,rfl⟩:=Rh v j hc;rw[h1,Qa2];exact d.K1 p.path n hn
    |cons q gd=>trivial
   |tup l=>trivial
   |gone=>trivial
 |obj b c=>
  rw[hr]at hn;simp only[CH,G0 hu b,hnb b c hr]at hn⊢
  cases hs:TS.box F Γ b with
  |none=>grind
  |some l=>
   rw[hs]at hn;simp only[Qb2,Qa2,Qb4]at hn⊢
   cases hc:l[c]?with
   |none=>grind
   |some d=>
    rw[hc]at hn;simp only[Qb2,Qa2]at hn⊢;exact d.K1 p.path n hn
theorem A6{α:Type}(t:Nat)(x:α)(t':Nat):look [(t,x)] t'=if t=t' then some x else none:=by rw[Aq];rfl
theorem E4{t:Nat}{p:Place}:E3 t p=true↔∃j,p.root=.slot t j:=by
 unfold E3
 cases p.root<;>simp_all
theorem Iz{p:Place}:SG p=true↔∃b c,p.root=.obj b c:=by
 unfold SG
 grind
theorem Z6{b:Nat}{p:Place}:Adq b p=true↔∃c,p.root=.obj b c:=by
 unfold Adq
 cases p.root<;>simp_all
theorem Et(h:Sim μ F Γ st){t:Nat}{x:TX}(hu:(Ie F Γ t x).ok Γ'){y:TV}(hx:x.tv μ st.ver (lnT F Γ) (gv F Γ) y):Sim μ F Γ' (st.set t y):=by
 unfold Ie at hu
 cases hb:(x.guards t||x.hit (E3 t) (E3 t) CR)with
 |true=>grind [R.Ag]
 |false=>
  rw[hb]at hu;have hu:=R.Cp.1 hu;simp only[Qa1]at hb
  have hver:∀p,E3 t p=false→(st.set t y).ver (p.mu μ).root=st.ver (p.mu μ).root:=by
   intro p hp
   cases hr:p.root with
   |slot t' j=>
    have hne:t'≠t:=by grind [E4]
    simp only[Place.mu,hr,Root.mu,St.ver,St.set]<;>grind [upd]
   |obj b c=>grind [Place.mu,Root.mu,St.ver,St.set]
  have T:Tr (E3 t) (E3 t) CR μ μ st.ver (st.set t y).ver (lnT F Γ) (lnT F Γ'):=by
   refine⟨fun _ _=>rfl,fun p hp=>⟨rfl,hver p hp,fun n hn=>?_⟩,fun p hp=>⟨rfl,hver p hp⟩⟩
   refine Jm hu h.ss (fun t' j hr=>?_) (fun _ _ _=>rfl) hn<;>grind [A6,E4]
  refine h.upd hu T ?_ ?_ (fun _ _ _ _=>rfl) (fun _ _ h=>nomatch h) (fun _ h=>nomatch h) (fun _ _ _ _ h=>nomatch h) (Qa3 _)
  ·intro t' ht';rw[A6]at ht';split at ht'
   ·grind
   ·rename_i hne;simp[St.set,upd,Ne.symm hne]
  ·intro t' x' hx';rw[A6]at hx';split at hx'
   case isFalse=>grind
   rename_i ht;cases hx';subst ht
   have e:(st.set t y).sl t=y:=by simp[St.set,upd]
   rw[e,←TX.IY hb.2];refine T.tv ?_ hx;rintro gd v rfl
   refine Amd hu h.ss gd fun p hp=>?_
   rw[A6,if_neg];intro he;have:(TX.val gd v).guards t=true:=List.any_eq_true.2 ⟨p,hp,by simp[he]⟩
   grind
theorem AnV{ver:Root→Nat}{ln:Place→Option Nat}{v:TSV}{s:SV}(hv:v.sv μ ver ln s){j:Nat}{c:TC}(hc:v.cells[j]?=some c){d:TC}{b:AV}(hd:d.av μ ver ln b):(v.Ad6 j d).sv μ ver ln (s.setCell j b):=by
 cases v with
 |one c0=>
  obtain⟨a,rfl,ha⟩:=hv
  cases j with
  |zero=>exact⟨b,rfl,hd⟩
  |succ j=>trivial
 |agg l=>
  obtain⟨k,rfl,ha⟩:=hv;exact⟨_,rfl,VQ ha j hd⟩
 |clo f l=>trivial
theorem U4(h:Sim μ F Γ st){r:Root}{c d:TC}(hu:Gg F Γ qr qa r d=some Γ')(hr:CH F Γ r=some c){b:AV}{st':St}(hsl:st'.sl=(st.Au (r.mu μ) b).sl)(hhp:st'.hp=(st.Au (r.mu μ) b).hp)
  (hver:∀p,qr p=false→st'.ver (p.mu μ).root=st.ver (p.mu μ).root) (hvera:∀p,qa p=false→st'.ver (p.mu μ).root=st.ver (p.mu μ).root)
  (hln:∀p,qr p=false→p.root=r→∀n,lnT F Γ' p=some n→lnT F Γ p=some n) (hd:d.av μ st'.ver (lnT F Γ') b) (hsol:d.Bg=true∨∃t j,r=.slot t j):
  Sim μ F Γ' st':=by
 have lnsame:∀{ns:List (Nat×TX)} {nb:List (Nat×List TC)},TS.upd F Γ qr qa CR ns nb=some Γ'→∀p:Place,(∀t j,p.root=.slot t j→look ns t=none)→(∀b c,p.root=.obj b c→look nb b=none)→∀n,lnT F Γ' p=some n→lnT F Γ p=some n:=
  fun hu p h1 h2 n hn=>Jm hu h.ss h1 h2 hn
 cases r with
 |slot t j=>
  simp only[Gg]at hu;split at hu
  case h_2=>cases hu
  rename_i v hs;simp only[CH,hs]at hr;obtain⟨s,heq,hv⟩:=h.sl t _ hs;simp only[gv]at heq
  have lnslot:∀p:Place,qr p=false→∀n,lnT F Γ' p=some n→lnT F Γ p=some n:=by
   intro p hp n hn
   cases hpr:p.root with
   |obj b c=>exact lnsame hu p (fun t' j' e=>zg) (fun _ _ _=>rfl) n hn
   |slot t' j'=>
    by_cases ht:t'=t
    ·subst ht
     by_cases hj:j'=j
     ·grind
     ·unfold lnT atT at hn⊢;rw[hpr]at hn⊢;simp only[CH,MX hu h.ss,A6,if_true,hs]at hn⊢
      have e:((v.sift qr qa CR).Ad6 j d).cells[j']?=(v.sift qr qa CR).cells[j']?:=by
       cases v<;>grind [TSV.sift,TSV.Ad6,TSV.cells]
      rw[e]at hn
      cases hc:(v.sift qr qa CR).cells[j']?with
      |none=>grind
      |some c0=>
       rw[hc,Qa2]at hn;obtain⟨d0,h1,rfl⟩:=Rh v j' hc;rw[h1,Qa2];exact d0.K1 p.path n hn
    grind [A6]
  have T:Tr qr qa CR μ μ st.ver st'.ver (lnT F Γ) (lnT F Γ'):=⟨fun _ _=>rfl,fun p hp=>⟨rfl,hver p hp,lnslot p hp⟩,fun p hp=>⟨rfl,hvera p hp⟩⟩
  refine h.upd hu T ?_ ?_ (fun b l _ _=>by rw[hhp];rfl) (fun _ _ h=>nomatch h) (fun _ h=>nomatch h) (fun _ _ _ _ h=>nomatch h) (by rw[hhp];exact Qa3 _)
  ·intro t' ht';rw[A6]at ht';split at ht'
   ·grind
   ·rename_i hne;rw[hsl];simp[Root.mu,St.Au,upd,Ne.symm hne]
  ·intro t' x' hx';rw[A6]at hx';split at hx'
   case isFalse=>grind
   rename_i ht;cases hx';subst ht;rw[hsl]
   have e:(st.Au ((Root.slot t j).mu μ) b).sl t=.val true (s.setCell j b):=by simp[Root.mu,St.Au,upd,heq,TV.setCell]
   rw[e];refine⟨_,rfl,?_⟩
   have hc:∃c',(v.sift qr qa CR).cells[j]?=some c':=by
    cases v<;>grind [TSV.cells,TSV.sift]
   obtain⟨c',hc'⟩:=hc;exact AnV (T.sv hv) hc' hd
 |obj b0 c0=>
  simp only[Gg]at hu;split at hu
  case h_2=>cases hu
  rename_i l hs;simp only[CH,hs,Qa2]at hr;obtain⟨k,q1,q2,q3,q4⟩:=h.bx b0 l hs
  have lnslot:∀p:Place,qr p=false→∀n,lnT F Γ' p=some n→lnT F Γ p=some n:=by
   intro p hp n hn
   cases hpr:p.root with
   |slot b c=>exact lnsame hu p (fun _ _ _=>rfl) (fun t' j' e=>zg) n hn
   |obj t' j'=>
    by_cases ht:t'=b0
    ·subst ht
     by_cases hj:j'=c0
     ·grind
     ·unfold lnT atT at hn⊢;rw[hpr]at hn⊢;simp only[CH,G0 hu,A6,if_true,hs,Qa2]at hn⊢;rw[Qb5 (Ne.symm hj),Qb4]at hn
      cases hc:l[j']?with
      |none=>grind
      |some d0=>
       rw[hc]at hn;simp only[Qb2,Qa2]at hn⊢;exact d0.K1 p.path n hn
    grind [A6]
  have T:Tr qr qa CR μ μ st.ver st'.ver (lnT F Γ) (lnT F Γ'):=⟨fun _ _=>rfl,fun p hp=>⟨rfl,hver p hp,lnslot p hp⟩,fun p hp=>⟨rfl,hvera p hp⟩⟩
  have ehp:st'.hp=st.hp.set (μ b0) (k.set c0 b):=by grind [Root.mu,St.Au]
  have esl:st'.sl=st.sl:=by grind [Root.mu,St.Au]
  refine h.upd hu T (fun t _=>by rw[esl]) (fun _ _ h=>nomatch h) ?_ ?_ (fun _ h=>nomatch h) ?_ (by rw[ehp];exact Qa3 _)
  ·intro b l' hb hl';rw[A6]at hb;split at hb
   ·cases hb
   ·rename_i hne;rw[ehp]
    have:μ b≠μ b0:=fun e=>hne (h.inj b0 b l l' hs hl' e.symm)
    simp[Heap.set,upd,this]
  ·intro b l' hb;rw[A6]at hb;split at hb
   case isFalse=>cases hb
   rename_i hbb;cases hb;subst hbb;refine⟨k.set c0 b,by rw[ehp];simp[Heap.set,upd],VQ (T.avs q2) c0 hd,by rw[ehp];exact q3,?_⟩
   have hds:d.Bg=true:=hsol.resolve_right (fun⟨t,j,e⟩=>nomatch e)
   grind [TC.Ri]
  ·intro b b' l1 l' hb hb' he;rw[A6]at hb;split at hb
   case isFalse=>cases hb
   rename_i hbb;subst hbb;rw[G0 hu b',A6]at hb'
   by_cases e:b0=b'
   ·exact e
   ·rw[if_neg e]at hb';simp only[Qa9]at hb';obtain⟨l2,h2,_⟩:=hb';exact h.inj _ _ _ _ hs h2 he
end
end Go.VS
namespace Go.VS
theorem Nl:∀(rs rs':List Root) (st:St),st.bumps (rs++rs')=(st.bumps rs).bumps rs'
 |[],_,_=>rfl
 |r::rs,rs',st=>Nl rs rs' (st.bump r)
theorem Ae6{st st':St}(h1:st'.vs=st.vs)(h2:st'.hv=st.hv)(r:Root):(st'.bump r).vs=(st.bump r).vs∧(st'.bump r).hv=(st.bump r).hv:=by
 cases r<;>simp[St.bump,h1,h2]
theorem OJ:∀(rs:List Root) {st st':St},st'.vs=st.vs→st'.hv=st.hv→(st'.bumps rs).vs=(st.bumps rs).vs∧(st'.bumps rs).hv=(st.bumps rs).hv
 |[],_,_,h1,h2=>⟨h1,h2⟩
 |r::rs,st,st',h1,h2=>by
  have:=Ae6 h1 h2 r;exact OJ rs this.1 this.2
theorem Hh(st:St)(r:Root)(b:AV):(st.Au r b).vs=st.vs∧(st.Au r b).hv=st.hv:=by
 cases r<;>grind [St.Au]
theorem Ph{st1 st2:St}(h1:st1.sl=st2.sl)(h2:st1.hp=st2.hp)(r:Root)(b:AV):(st1.Au r b).sl=(st2.Au r b).sl∧(st1.Au r b).hp=(st2.Au r b).hp:=by
 cases r<;>grind [St.Au]
theorem WG(st:St)(r r':Root)(h:∀t j,r=.slot t j→∀j',r'≠.slot t j')(h2:∀o c,r=.obj o c→∀o' c',r'≠.obj o' c'):(st.bump r).ver r'=st.ver r':=by
 cases r with
 |slot t j=>
  cases r' with
  |slot t' j'=>
   simp_all [St.bump,St.ver,upd]
  |obj=>rfl
 |obj o c=>
  cases r' with
  |slot=>rfl
  |obj o' c'=>grind
theorem Ra(st:St){μ:Nat→Nat}{r:Root}{p:Place}(h:KT r p=false):(st.bump (r.mu μ)).ver (p.mu μ).root=st.ver (p.mu μ).root:=by
 refine WG st _ _ ?_ ?_
 ·intro t j e j' e'
  cases r with
  |slot t0 j0=>
   have e1:t0=t:=by grind [Root.mu]
   subst e1;have:E3 t0 p=false:=h
   cases hr:p.root<;>grind [Place.mu,Root.mu,Root.slot.injEq,E4]
  |obj b c=>cases e
 ·intro t j e j' c' e'
  cases r with
  |slot t0 j0=>cases e
  |obj b c=>
   have:SG p=false:=h
   cases hr:p.root<;>grind [Place.mu,Root.mu,Iz]
theorem Adr{r:Root}{p:Place}(h:p.root=r):KT r p=true:=by
 cases r with
 |slot t j=>exact E4.2 ⟨j,h⟩
 |obj b c=>exact Iz.2 ⟨b,c,h⟩
section
variable{μ:Nat→Nat}{F Γ Γ':TS}{st:St}{qr qa:Place→Bool}
theorem SR(hss:∀t,(look F.sl t).isSome=true→look Γ.sl t=none){r:Root}{d:TC}(hu:Gg F Γ qr qa r d=some Γ'){c:TC}(hc:CH F Γ' r=some c):c=d:=by
 cases r with
 |slot t j=>
  simp only[Gg]at hu;split at hu
  case h_2=>cases hu
  rename_i v hs;simp only[CH,MX hu hss,A6,if_true]at hc
  cases v with
  |one c0=>
   cases j with
   |zero=>grind [TSV.sift,TSV.Ad6,TSV.cells]
   |succ j=>trivial
  |agg l=>
   grind [TSV.sift,TSV.Ad6,TSV.cells]
  |clo f l=>trivial
 |obj b0 c0=>
  grind [Gg,CH,G0,A6]
theorem AfU(hss:∀t,(look F.sl t).isSome=true→look Γ.sl t=none){r:Root}{d:TC}(hu:Gg F Γ qr qa r d=some Γ'){p:Place}{n:Nat}(hp:p.root=r→lnT F Γ p=some n)(hn:lnT F Γ' p=some n):lnT F Γ p=some n:=by
 by_cases hpr:p.root=r
 ·grind
 cases r with
 |slot t j=>
  simp only[Gg]at hu;split at hu
  case h_2=>cases hu
  rename_i v hs
  cases hr:p.root with
  |obj b c=>exact Jm hu hss (fun t' j' e=>zg) (fun _ _ _=>rfl) hn
  |slot t' j'=>
   by_cases ht:t'=t
   ·subst ht
    have hj:j≠j':=zg
    unfold lnT atT at hn⊢;rw[hr]at hn⊢;simp only[CH,MX hu hss,A6,if_true,hs]at hn⊢
    have e:((v.sift qr qa CR).Ad6 j d).cells[j']?=(v.sift qr qa CR).cells[j']?:=by
     cases v with
     |one c0=>
      cases j with
      |zero=>cases j' with
       |zero=>grind
       |succ j'=>rfl
      |succ j=>rfl
     |agg l=>grind [TSV.sift,TSV.Ad6,TSV.cells]
     |clo f l=>rfl
    rw[e]at hn
    cases hc:(v.sift qr qa CR).cells[j']?with
    |none=>grind
    |some c0=>
     rw[hc,Qa2]at hn;obtain⟨d0,h1,rfl⟩:=Rh v j' hc;rw[h1,Qa2];exact d0.K1 p.path n hn
   grind [Jm,A6]
 |obj b0 c0=>
  simp only[Gg]at hu;split at hu
  case h_2=>cases hu
  rename_i l hs
  cases hr:p.root with
  |slot b c=>exact Jm hu hss (fun _ _ _=>rfl) (fun t' j' e=>zg) hn
  |obj t' j'=>
   by_cases ht:t'=b0
   ·subst ht
    have hj:c0≠j':=zg
    unfold lnT atT at hn⊢;rw[hr]at hn⊢;simp only[CH,G0 hu,A6,if_true,hs,Qa2]at hn⊢;rw[Qb5 hj,Qb4]at hn
    cases hc:l[j']?with
    |none=>grind
    |some d0=>
     rw[hc]at hn;simp only[Qb2,Qa2]at hn⊢;exact d0.K1 p.path n hn
   grind [Jm,A6]
theorem Aj2{ver:Root→Nat}{ln ln':Place→Option Nat}(hl:∀p n,ln' p=some n→ln p=some n){c:TC}{a:AV}(h:c.av μ ver ln a):c.av μ ver ln' a:=by
 cases c with
 |ref p tt e w=>
  cases w with
  |none=>obtain⟨m,h1,h2⟩:=h;exact⟨m,h1,fun n hn=>h2 n (hl p n hn)⟩
  |some x=>exact h
 |_=>exact h
theorem WA{ver:Root→Nat}{ln ln':Place→Option Nat}(hl:∀p n,ln' p=some n→ln p=some n):∀{l:List TC} {k:List AV},avs μ ver ln l k→avs μ ver ln' l k
 |[],[],_=>trivial
 |c::l,a::k,h=>⟨Aj2 hl h.1,WA hl h.2⟩
 |[],_::_,h=>h.elim
 |_::_,[],h=>h.elim
theorem Uv{rs:List Root}{v0:Root→Nat}{mem:Bool}(h:Sim μ F Γ (st.bumps rs)){c c':TC}{a:AV}(ha:c.av μ v0 (lnT F Γ) a)(hx:(Yx F mem Γ c).ok (c',Γ')):
  (st.Fh v0 mem a).holds fun(b,st',rs')=>c'.av μ v0 (lnT F Γ') b∧Sim μ F Γ' (st'.bumps (rs++rs'))∧∀p n,lnT F Γ' p=some n→lnT F Γ p=some n:=by
 have same:(st.Fh v0 mem a=pure (a,st,[]))→c'=c→Γ'=Γ→(st.Fh v0 mem a).holds fun(b,st',rs')=>c'.av μ v0 (lnT F Γ') b∧Sim μ F Γ' (st'.bumps (rs++rs'))∧∀p n,lnT F Γ' p=some n→lnT F Γ p=some n:=by
  grind [M.Ab]
 cases c with
 |ref p tt0 e w=>
  simp only[Yx]at hx;split at hx
  case h_2=>grind [R.Ag]
  rename_i tt' e' l hp hr;split at hx
  case isFalse=>grind [R.Ag]
  rename_i hk
  have hat:(atT F Γ p)=some (.sl .own tt' e' l):=by grind [atT,TC.atS]
  have hln:lnT F Γ p=some l.length:=by grind [lnT,TC.len?]
  obtain⟨b0,hb0,hbv⟩:=Yd h hr;have hbv:b0=_:=hbv;subst hbv
  have hroot:st.root (p.root.mu μ)=some (.sl .own e'.size (l.map (e'.enc tt'))):=by
   rw[←hb0];have:=Cq st rs
   cases p.root with
   |slot t j=>simp[Root.mu,St.root,this.1]
   |obj b c=>simp[Root.mu,St.root,this.2]
  have hal:(!mem&&!(p.mu μ).path.isEmpty)=false:=by simp[Place.mu,hp]
  have hstat:st.at (p.mu μ)=some (.sl .own e'.size (l.map (e'.enc tt'))):=by
   simp only[St.at,Place.mu,hroot,hp,Qa2];rfl
  have hput:st.putAt (p.mu μ) .dead=st.Au (p.root.mu μ) .dead:=by
   grind [St.putAt,Place.mu,AV.put]
  have fin:∀{Γ2:TS},Gg F Γ (KT p.root) (KT p.root) p.root .dead=some Γ2→Sim μ F Γ2 ((st.putAt (p.mu μ) .dead).bumps (rs++[p.root.mu μ]))∧∀q n,lnT F Γ2 q=some n→lnT F Γ q=some n:=by
   intro Γ2 hu
   have dead:∀q:Place,q.root=p.root→lnT F Γ2 q=none:=by
    intro q hq;unfold lnT atT;rw[hq]
    cases hc:CH F Γ2 p.root with
    |none=>rfl
    |some c=>
     have:=SR h.ss hu hc;subst this
     cases q.path<;>simp[TC.atS,TC.len?]
   refine⟨?_,?_⟩
   ·refine U4 h hu hr (b:=.dead) ?_ ?_ ?_ ?_ ?_ trivial (.inl rfl)
    ·grind [Cq,Ph]
    ·grind [Cq,Ph]
    ·intro q hq;rw[Nl,hput];have e1:=OJ rs (Hh st (p.root.mu μ) .dead).1 (Hh st (p.root.mu μ) .dead).2
     rw[show(((st.Au (p.root.mu μ) .dead).bumps rs).bumps [p.root.mu μ])=((st.Au (p.root.mu μ) .dead).bumps rs).bump (p.root.mu μ)from rfl,Ra _ hq]<;>grind [Fl]
    ·intro q hq;rw[Nl,hput];have e1:=OJ rs (Hh st (p.root.mu μ) .dead).1 (Hh st (p.root.mu μ) .dead).2
     rw[show(((st.Au (p.root.mu μ) .dead).bumps rs).bumps [p.root.mu μ])=((st.Au (p.root.mu μ) .dead).bumps rs).bump (p.root.mu μ)from rfl,Ra _ hq]<;>grind [Fl]
    grind
   grind [AfU,h.ss]
  cases w with
  |none=>
   have ha:a=_:=Pc ha hln;subst ha;dsimp only at hx;rw[R.Ai]at hx;obtain⟨Γ2,h1,hx⟩:=hx;have h1:=R.Cp.1 h1;have:=R.Aj.1 hx;cases this;obtain⟨f1,f2⟩:=fin h1;simp only[St.Fh,hstat,hal,cond_false,M.Aa,M.Ak];refine⟨trivial,hk,zsz,M.Ab ⟨?_,f1,f2⟩⟩;show AV.sl .own _ _=_
   grind [window]
  |some y=>
   obtain⟨lo,n⟩:=y;have ha:a=_:=ha;subst ha;dsimp only at hx;rw[R.Ai]at hx;obtain⟨_,h0,hx⟩:=hx;have h0:=R.IW.1 h0;rw[R.Ai]at hx;obtain⟨Γ2,h1,hx⟩:=hx;have h1:=R.Cp.1 h1;have:=R.Aj.1 hx;cases this;obtain⟨f1,f2⟩:=fin h1;simp only[St.Fh,hstat,hal,cond_false,M.Aa,M.Ak];refine⟨trivial,hk,by simpa using h0,M.Ab ⟨?_,f1,f2⟩⟩
   show AV.sl .own _ _=_;rw[hk];unfold window
   split<;>simp_all
 |adr p tt e i c=>exact(R.Ag.1 hx).elim
 |iadr tt e l i c=>
  have ha:a=_:=ha;subst ha
  cases mem with
  |true=>exact(R.Ag.1 hx).elim
  |false=>have:=R.Aj.1 hx;cases this;exact same rfl rfl rfl
 |iadrd tt e l i c n j=>
  have ha:a=_:=ha;subst ha
  cases mem with
  |true=>exact(R.Ag.1 hx).elim
  |false=>have:=R.Aj.1 hx;cases this;exact same rfl rfl rfl
 |dead=>exact(R.Ag.1 hx).elim
 |sl τ tt e l=>
  have ha:a=_:=ha;subst ha
  cases τ with
  |own=>exact(R.Ag.1 hx).elim
  |imm=>have:=R.Aj.1 hx;cases this;exact same rfl rfl rfl
  |brw=>have:=R.Aj.1 hx;cases this;exact same rfl rfl rfl
 |_=>
  have ha:a=_:=ha;subst ha;have:=R.Aj.1 hx;cases this;exact same rfl rfl rfl
theorem Rk{v0:Root→Nat}{mem:Bool}:∀{l l':List TC} {as:List AV} {rs:List Root} {st:St} {Γ Γ':TS},Sim μ F Γ (st.bumps rs)→avs μ v0 (lnT F Γ) l as→(Rj F mem Γ l).ok (l',Γ')→
  (st.CG v0 mem as).holds fun(bs,st',rs')=>avs μ v0 (lnT F Γ') l' bs∧Sim μ F Γ' (st'.bumps (rs++rs'))∧(∀p n,lnT F Γ' p=some n→lnT F Γ p=some n)∧bs.length=as.length
 |[],l',[],rs,st,Γ,Γ',h,ha,hx=>by
  have:=R.Aj.1 hx
  grind [St.CG,M.Ab]
 |c::l,l',a::as,rs,st,Γ,Γ',h,ha,hx=>by
  simp only[Rj]at hx;rw[R.Ai]at hx;obtain⟨⟨d,Γ1⟩,h1,hx⟩:=hx;rw[R.Ai]at hx;obtain⟨⟨m,Γ2⟩,h2,hx⟩:=hx;have:=R.Aj.1 hx;cases this;simp only[St.CG,M.Aa];refine M.Ah (Uv h ha.1 h1) ?_;rintro⟨b,st1,rs1⟩ ⟨k1,k2,k3⟩;refine M.Ah (Rk k2 (WA k3 ha.2) h2) ?_;rintro⟨bs,st2,rs2⟩ ⟨m1,m2,m3,m4⟩
  exact M.Ab ⟨⟨Aj2 m3 k1,m1⟩,zg,fun p n hn=>k3 p n (m3 p n hn),zg⟩
 |[],_,_::_,_,_,_,_,_,h,_=>h.elim
 |_::_,_,[],_,_,_,_,_,h,_=>h.elim
def TSV.K2:TSV→Bool
 |.one c=>c.Bg
 |.agg l=>l.all TC.Bg
 |.clo _ l=>l.all TC.Bg
theorem Pl{mem:Bool}{c c':TC}(hx:(Yx F mem Γ c).ok (c',Γ')):c'.Bg=true:=by
 cases c with
 |ref p tt0 e w=>
  simp only[Yx]at hx;split at hx
  case h_2=>grind [R.Ag]
  split at hx
  case isFalse=>grind [R.Ag]
  cases w with
  |none=>
   dsimp only at hx;rw[R.Ai]at hx;obtain⟨Γ2,h1,hx⟩:=hx;have:=R.Aj.1 hx;cases this;rfl
  |some y=>
   obtain⟨lo,n⟩:=y;dsimp only at hx;rw[R.Ai]at hx;obtain⟨_,h0,hx⟩:=hx;rw[R.Ai]at hx;obtain⟨Γ2,h1,hx⟩:=hx;have:=R.Aj.1 hx;cases this;rfl
 |adr p tt e i c=>exact(R.Ag.1 hx).elim
 |iadr tt e l i c=>
  cases mem with
  |true=>exact(R.Ag.1 hx).elim
  |false=>have:=R.Aj.1 hx;cases this;rfl
 |iadrd tt e l i c n j=>
  cases mem with
  |true=>exact(R.Ag.1 hx).elim
  |false=>have:=R.Aj.1 hx;cases this;rfl
 |dead=>exact(R.Ag.1 hx).elim
 |sl τ tt e l=>
  cases τ with
  |own=>exact(R.Ag.1 hx).elim
  |imm=>have:=R.Aj.1 hx;cases this;rfl
  |brw=>have:=R.Aj.1 hx;cases this;rfl
 |_=>
  have:=R.Aj.1 hx;cases this;rfl
theorem NI{mem:Bool}:∀{l l':List TC} {Γ Γ':TS},(Rj F mem Γ l).ok (l',Γ')→l'.all TC.Bg=true
 |[],l',Γ,Γ',hx=>by
  have:=R.Aj.1 hx
  grind
 |c::l,l',Γ,Γ',hx=>by
  simp only[Rj]at hx;rw[R.Ai]at hx;obtain⟨⟨d,Γ1⟩,h1,hx⟩:=hx;rw[R.Ai]at hx;obtain⟨⟨m,Γ2⟩,h2,hx⟩:=hx;have:=R.Aj.1 hx;cases this;simp[Pl h1,NI h2]
theorem MV{ver ver':Root→Nat}{ln ln':Place→Option Nat}{c:TC}(hs:c.Bg=true){a:AV}(h:c.av μ ver ln a):c.av μ ver' ln' a:=by
 cases c with
 |ref=>cases hs
 |adr=>cases hs
 |_=>exact h
theorem Gh{ver ver':Root→Nat}{ln ln':Place→Option Nat}:∀{l:List TC},l.all TC.Bg=true→∀{k:List AV},avs μ ver ln l k→avs μ ver' ln' l k
 |[],_,[],_=>trivial
 |c::l,hs,a::k,h=>by
  simp only[Qa6,Qa0]at hs;exact⟨MV hs.1 h.1,Gh hs.2 h.2⟩
 |[],_,_::_,h=>h.elim
 |_::_,_,[],h=>h.elim
theorem Td{ver ver':Root→Nat}{ln ln':Place→Option Nat}{v:TSV}(hs:v.K2=true){s:SV}(h:v.sv μ ver ln s):v.sv μ ver' ln' s:=by
 cases v with
 |one c=>obtain⟨a,e,h⟩:=h;exact⟨a,e,MV hs h⟩
 |agg l=>obtain⟨a,e,h⟩:=h;exact⟨a,e,Gh hs h⟩
 |clo f l=>obtain⟨a,e,h⟩:=h;exact⟨a,e,Gh hs h⟩
theorem K5(h:Sim μ F Γ st){mem:Bool}{x:Opd}{v:TSV}(hx:(Qs F Γ mem x).ok (v,Γ')):
  v.K2=true∧(st.take mem x).holds fun(s,st')=>v.sv μ st'.ver (lnT F Γ') s∧Sim μ F Γ' st':=by
 unfold Qs at hx;rw[R.Ai]at hx;obtain⟨v0,h1,hx⟩:=hx;have hu:=Gj h (b:=true) (fun _=>rfl) h1
 cases v0 with
 |one c=>
  dsimp only at hx;rw[R.Ai]at hx;obtain⟨⟨d,Γ2⟩,h2,hx⟩:=hx;have:=R.Aj.1 hx;cases this;have hs:=Pl h2;refine⟨hs,?_⟩;simp only[St.take,M.Aa];refine M.Ah hu ?_;rintro _ ⟨a,rfl,ha⟩;simp only[SV.cells,St.CG,M.Aa];have h0:Sim μ F Γ (st.bumps []):=h;refine M.Ah (Uv h0 ha h2) ?_;rintro⟨b,st1,rs1⟩ ⟨k1,k2,k3⟩;refine M.Ab (M.Ab (M.Ab ?_))
  simp only[List.append_nil,SV.with,List.headD];exact⟨⟨b,rfl,MV hs k1⟩,k2⟩
 |agg l=>
  dsimp only at hx;rw[R.Ai]at hx;obtain⟨⟨d,Γ2⟩,h2,hx⟩:=hx;have:=R.Aj.1 hx;cases this;have hs:=NI h2;refine⟨hs,?_⟩;simp only[St.take,M.Aa];refine M.Ah hu ?_;rintro _ ⟨a,rfl,ha⟩;have h0:Sim μ F Γ (st.bumps []):=h;refine M.Ah (Rk h0 ha h2) ?_;rintro⟨b,st1,rs1⟩ ⟨k1,k2,k3,k4⟩;refine M.Ab ?_;exact⟨⟨b,rfl,Gh hs k1⟩,k2⟩
 |clo f l=>
  dsimp only at hx
  cases hs:l.all TC.Bg with
  |false=>grind [R.Ag]
  |true=>
   rw[hs]at hx;have:=R.Aj.1 hx;cases this;refine⟨hs,?_⟩;simp only[St.take,M.Aa];refine M.Ah hu ?_;rintro _ ⟨k,rfl,ha⟩;simp only[SV.cells,St.CG,St.Fh,M.Aa];refine M.Ab (M.Ab (M.Ab (M.Ab ?_)));exact⟨⟨k,rfl,ha⟩,h⟩
end
end Go.VS
namespace Go.VS
mutual
theorem Co.trans:∀{a b:AV},Co a b→∀{c:AV},Co b c→Co a c
 |_,_,.refl _,_,h=>h
 |_,_,.nil τ k,_,h=>by
  cases h with
  |refl=>exact .nil τ k
  |sl _ τ' _ _ ys _ hl=>cases hl;exact .nil τ' k
 |_,_,.sl τ τ' k xs ys ht hl,_,h=>by
  cases h with
  |refl=>exact .sl τ τ' k xs ys ht hl
  |sl _ τ2 _ _ zs ht2 hl2=>
   refine .sl τ τ2 k xs zs ?_ (C9.trans hl hl2)
   rcases ht with rfl|⟨rfl,rfl⟩
   ·exact ht2
   ·rcases ht2 with h|⟨h,_⟩
    ·exact .inr ⟨rfl,h.symm⟩
    ·cases h
theorem CoL.trans:∀{a b:List AV},CoL a b→∀{c:List AV},CoL b c→CoL a c
 |_,_,.nil,_,h=>h
 |_,_,.cons _ _ _ _ h t,_,h2=>by
  cases h2 with
  |cons _ c _ n h' t'=>exact .cons _ _ _ _ (Co.trans h h') (CoL.trans t t')
theorem C9.trans:∀{a b:List (List AV)},C9 a b→∀{c:List (List AV)},C9 b c→C9 a c
 |_,_,.nil,_,h=>h
 |_,_,.cons _ _ _ _ h t,_,h2=>by
  cases h2 with
  |cons _ c _ n h' t'=>exact .cons _ _ _ _ (CoL.trans h h') (C9.trans t t')
end
theorem CoL.set{l m:List AV}(h:CoL l m)(j:Nat){a b:AV}(hab:Co a b):CoL (l.set j a) (m.set j b):=by
 induction l generalizing m j with
 |nil=>cases h;exact .nil
 |cons c l ih=>
  cases h with
  |cons _ d _ m h t=>
   cases j with
   |zero=>exact .cons _ _ _ _ hab t
   |succ j=>exact .cons _ _ _ _ h (ih t j)
theorem C9.set{l m:List (List AV)}(h:C9 l m)(j:Nat){a b:List AV}(hab:CoL a b):C9 (l.set j a) (m.set j b):=by
 induction l generalizing m j with
 |nil=>cases h;exact .nil
 |cons c l ih=>
  cases h with
  |cons _ d _ m h t=>
   cases j with
   |zero=>exact .cons _ _ _ _ hab t
   |succ j=>exact .cons _ _ _ _ h (ih t j)
theorem C9.append:∀{l m:List (List AV)},C9 l m→∀{l' m':List (List AV)},C9 l' m'→C9 (l++l') (m++m')
 |_,_,.nil,_,_,h=>h
 |_,_,.cons a b l m h t,_,_,k=>.cons a b _ _ h (t.append k)
def UQ(e e':BT)(l:List e'.D):Option (List e.D):=if h:e'=e then some (h▸l)else none
def Amv(e:BT)(tt:TT)(zero:List Value):Option e.D:=e.Sq tt (zero.map L6)
def TT.Fe:TT→Bool
 |.leaf=>true
 |.node .own _=>false
 |.node _ _=>true
 |.pair a b=>a.Fe&&b.Fe
def Yy(F:TS)(e:BT)(tt:TT):TS→List e.D→List (Nat×Opd)→R (List e.D×TS)
 |Γ,l,[]=>pure (l,Γ)
 |Γ,l,(i,x)::r=>do
  let(v,Γ1)←Qs F Γ true x
  match v with
  |.clo _ _=>R.fail
  |v=>do
   let y←R.Ep (e.Sq tt v.cells)
   Yy F e tt Γ1 (l.set i y) r
def Aqo(Γ:TS)(e:BT)(tt:TT)(k:Nat):Option (Nat×Nat)→TC→R (List e.D×TS)
 |none,.sl .own tt2 e2 l2=>if tt2.co tt∧tt2.Fe∧k=e.size then(do
   let l'←R.Ep (UQ e e2 l2)
   pure (l',Γ))
  else R.fail
 |some (lo,n),.sl .own tt2 e2 l2=>if tt2.co tt∧tt2.Fe∧k=e.size then(do
   let l'←R.Ep (UQ e e2 l2)
   R.need (lo+n≤l'.length)
   pure ((l'.drop lo).take n,Γ))
  else R.fail
 |_,_=>R.fail
def Aqn(F Γ:TS)(e:BT)(tt:TT)(m:Nat):TC→R (List e.D×TS)
 |.sl .own tt' e' l=>if tt'.co tt then(do
   let l'←R.Ep (UQ e e' l)
   let Γ'←Ie F Γ m .gone
   pure (l',Γ'))
  else R.fail
 |.sl _ tt' e' l=>if tt'.co tt then(do
   let l'←R.Ep (UQ e e' l)
   pure (l',Γ))
  else R.fail
 |.nil=>pure ([],Γ)
 |.ref p _ e' w=>do
  let d←atR F Γ p
  Aqo Γ e tt e'.size w d
 |_=>R.fail
def Aqp(F Γ:TS)(e:BT)(tt:TT):Opd→R (List e.D×TS)
 |.c (.slice none 0 0)=>pure ([],Γ)
 |.t m=>match TS.slot F Γ m with
  |some (.val [] (.one c))=>Aqn F Γ e tt m c
  |_=>R.fail
 |_=>R.fail
def Aj9(e:BT)(tt:TT):TSV→R (List e.D)
 |.one (.sl .own tt' e' l)=>if tt'.co tt then R.Ep (UQ e e' l)else R.fail
 |.one .nil=>pure []
 |_=>R.fail
def ownish:TC→Bool
 |.sl .own _ _ _=>true
 |.dead=>true
 |_=>false
def Ev(bump:Bool)(b c n:Nat)(p:Place):Bool:=match p.root with
 |.obj b' c'=>bump||(Qa5 b' b&&(Nat.ble c c'&&Nat.blt c' (c+n)))
 |.slot ..=>false
def Aev(i:Nat)(d:TC):Nat→List TC→Option (List TC)
 |_,[]=>some []
 |j,c::l=>match c,d,Aev i d (j+1) l with
  |.int k a,.int k' b,some m=>if k=k' then some (.int k (if i=j then b else a)::m)else none
  |.str a,.str b,some m=>some (.str (if i=j then b else a)::m)
  |_,_,_=>none
def U3:TC→List Stp→TC→R TC
 |_,[],b=>pure b
 |.sl .own tt e l,s::r,b=>if s.k=e.size then(match(e.ex tt (l.getD s.i e.dflt))[s.c]?with
   |some c=>(do
    let c'←U3 c r b
    let x←R.Ep (e.Sq tt ((e.ex tt (l.getD s.i e.dflt)).set s.c c'))
    pure (.sl .own tt e (l.set s.i x)))
   |none=>R.fail)
  else R.fail
 |_,_,_=>R.fail
def AbE(bump:Bool)(r:Root)(p:Place):Bool:=KT r p&&(bump||deep p)
def Yp(F Γ:TS)(n:Nat)(cells:List TC)(p:Place)(k i c:Nat):TC→R TS
 |.sl .own tt e l=>if e.size=k∧c+n≤k then(do
   R.need (i<l.length)
   let x←R.Ep (e.Sq tt (VM (e.ex tt (l.getD i e.dflt)) c cells))
   let c0←R.Ep (CH F Γ p.root)
   let c1←U3 c0 p.path (.sl .own tt e (l.set i x))
   let bump:=(((e.ex tt (l.getD i e.dflt)).drop c).take n).any ownish
   R.Ep (Gg F Γ (AbE bump p.root) (fun p'=>KT p.root p'&&bump) p.root c1))
  else R.fail
 |_=>R.fail
def Ut(F Γ:TS)(n:Nat)(cells:List TC):TC→R TS
 |.box b c=>match TS.box F Γ b with
  |some l=>if c+n≤l.length∧cells.length=n then
    R.Ep (TS.upd F Γ (Ev (((l.drop c).take n).any ownish) b c n) (Ev (((l.drop c).take n).any ownish) b c n) CR []
     [(b,VM (l.map (TC.sift (Ev (((l.drop c).take n).any ownish) b c n) (Ev (((l.drop c).take n).any ownish) b c n) CR)) c cells)])
   else R.fail
  |none=>R.fail
 |.boxd b c m i=>match TS.box F Γ b,cells with
  |some l,[d]=>match Aev i d 0 ((l.drop c).take m)with
   |some l2=>if c+m≤l.length∧n=1 then(do
     R.need (i<m)
     R.Ep (TS.upd F Γ (Ev false b c m) (Ev false b c m) CR [] [(b,VM (l.map (TC.sift (Ev false b c m) (Ev false b c m) CR)) c l2)]))
    else R.fail
   |none=>R.fail
  |_,_=>R.fail
 |.adr p _ e i c=>if cells.length=n then(do
   let d←atR F Γ p
   Yp F Γ n cells p e.size i c d)
  else R.fail
 |_=>R.fail
def KO(d B:Nat)(p:Place):Bool:=E3 d p||Adq B p
def AeX(F Γ:TS)(d B:Nat)(cells:List TC):R TS:=
 bif cells.all TC.Bg&&!(cells.any (TC.hit (KO d B) (KO d B) (Qa5 B)))then R.Ep (TS.upd F Γ (KO d B) (KO d B) (Qa5 B) [(d,.val [] (.one (.box B 0)))] [(B,cells)])
 else R.fail
def AaB(F Γ:TS)(d:Nat)(cells:List TC):R TS:=AeX F Γ d (d+rbase) cells
def TC.husk:TC→TC
 |.sl .own _ _ _=>.dead
 |c=>c
def TSV.husk:TSV→TSV
 |.one c=>.one c.husk
 |.agg l=>.agg (l.map TC.husk)
 |v=>v
def TC.known:TC→Bool
 |.dead=>false
 |.ref ..=>false
 |.adr ..=>false
 |_=>true
def TSV.known:TSV→Bool
 |.one c=>c.known
 |.agg l=>l.all TC.known
 |.clo _ l=>l.all TC.known
def Al8(F Γ:TS)(x:Opd):R (TSV×TS):=do
 let v←Rm F Γ [] x
 match v with
 |.one (.adr p tt e i c)=>pure (.one (.adr p tt e i c),Γ)
 |.one (.ref p tt e w)=>bif p.path.isEmpty then Qs F Γ false x else pure (.one (.ref p tt e w),Γ)
 |_=>Qs F Γ false x
def MD(F Γ:TS)(dst:Option Nat)(ty:Option (BT×TT)):AOp→R TS
 |.asg x=>match dst with
  |some d=>do
   let(v,Γ1)←Al8 F Γ x
   Ie F Γ1 d (.val [] v)
  |none=>R.fail
 |.alloc zero=>match dst with
  |some d=>AaB F Γ d (zero.map L6)
  |none=>R.fail
 |.box x=>match dst with
  |some d=>do
   let(v,Γ1)←Qs F Γ true x
   match v with
   |.clo _ _=>R.fail
   |v=>AaB F Γ1 d v.cells
  |none=>R.fail
 |.buildSl k zero len parts=>match dst,ty with
  |some d,some (e,tt)=>if e.size=k then(do
    let z←R.Ep (Amv e tt zero)
    let(l,Γ1)←Yy F e tt Γ (Qb7 len z) parts
    Ie F Γ1 d (.val [] (.one (.sl .own tt e l))))
   else R.fail
  |_,_=>R.fail
 |.mkSl k bytes zero l c=>match dst,ty with
  |some d,some (e,tt)=>if e.size=k∧0<bytes then(do
    let l←AbU F Γ [] l
    let c←AbU F Γ [] c
    let z←R.Ep (Amv e tt zero)
    R.need (0≤l∧l≤c∧bytes*c≤281474976710656)
    Ie F Γ d (.val [] (.one (.sl .own tt e (Qb7 l.toNat z)))))
   else R.fail
  |_,_=>R.fail
 |.store n a x=>do
  let(v,Γ1)←Qs F Γ true x
  match v with
  |.clo _ _=>R.fail
  |v=>do
   let c←JJ F Γ1 [] a
   Ut F Γ1 n v.cells c
 |.app k bytes s x=>match dst,ty with
  |some d,some (e,tt)=>if e.size=k∧0<bytes then(do
    let(ys,Γ1)←Aqp F Γ e tt x
    let(v,Γ2)←Qs F Γ1 false s
    let xs←Aj9 e tt v
    R.need ((xs.length+ys.length)*bytes≤140737488355328)
    Ie F Γ2 d (.val [] (.one (.sl .own tt e (xs++ys)))))
   else R.fail
  |_,_=>R.fail
 |.ext x i=>match x,dst with
  |.t n,some d=>match TS.slot F Γ n with
   |some (.tup l)=>match l[i]?with
    |some v=>if v.known then(do
      let Γ1←Ie F Γ n (.tup (l.set i v.husk))
      Ie F Γ1 d (.val [] v))
     else R.fail
    |none=>R.fail
   |_=>R.fail
  |_,_=>R.fail
 |_=>R.fail
def EJ(n:Nat)(μ μ':Nat→Nat):Prop:=(∀b,b<rbase→μ' b=μ b)∧∀b,μ' b=μ b∨n≤μ' b
theorem EJ.refl(n:Nat)(μ:Nat→Nat):EJ n μ μ:=⟨fun _ _=>rfl,fun _=>.inl rfl⟩
theorem EJ.trans{n n':Nat}{μ μ' μ'':Nat→Nat}(h:EJ n μ μ')(k:EJ n' μ' μ'')(hn:n≤n'):EJ n μ μ'':=by
 refine⟨fun b hb=>by rw[k.1 b hb,h.1 b hb],fun b=>?_⟩
 rcases k.2 b with e|e
 ·rw[e];exact h.2 b
 grind
def WOk(μ:Nat→Nat)(n:Nat)(F Γ:TS)(st:St):Prop:=∃μ' st',Ed st st'∧Sim μ' F Γ st'∧EJ n μ μ'
theorem Ed.refl(st:St):Ed st st:=⟨fun _=>.refl _,fun o=>by cases h:st.hp.get o<;>grind [CoL.refl],rfl,rfl,rfl⟩
theorem Ed.set{st:St}{t:Nat}{y y':TV}(h:CoT y y'):Ed (st.set t y) (st.set t y'):=by
 refine⟨fun t'=>?_,(Ed.refl st).hp,rfl,rfl,rfl⟩;simp only[St.set,upd];split
 ·exact h
 ·exact .refl _
theorem Km{e e':BT}{l:List e'.D}{m:List e.D}(h:UQ e e' l=some m):∃he:e'=e,m=he▸l:=by
 grind [UQ]
section
variable{μ:Nat→Nat}{ver:Root→Nat}{ln:Place→Option Nat}{F Γ Γ':TS}{st:St}
theorem RS{v:TSV}(hv:∀f l,v≠.clo f l){s:SV}(h:v.sv μ ver ln s):avs μ ver ln v.cells s.cells:=by
 cases v with
 |one c=>obtain⟨a,rfl,ha⟩:=h;trivial
 |agg l=>obtain⟨k,rfl,ha⟩:=h;exact ha
 |clo f l=>grind
theorem AhV{e:BT}{tt:TT}{zero:List Value}{z:e.D}(h:Amv e tt zero=some z):CoL (zero.map .lit) (e.enc tt z):=by
 have hz:∀zs:List Value,avs (fun n=>n) (fun _=>0) (fun _=>none) (zs.map L6) (zs.map .lit):=by
  intro zs
  induction zs with
  |nil=>trivial
  |cons z zs ih=>exact⟨Mz z,ih⟩
 exact GJ h (hz zero)
theorem AbD{α:Type}(f:α→List AV){x:List AV}{z:α}(h:CoL x (f z)):∀n,C9 (Qb7 n x) ((Qb7 n z).map f)
 |0=>.nil
 |n+1=>.cons _ _ _ _ h (AbD f h n)
theorem XK{α β:Type}(f:α→β)(l:List α)(i:Nat)(y:α):(l.set i y).map f=(l.map f).set i (f y):=List.map_set
theorem Yz{e:BT}{tt:TT}:∀{parts:List (Nat×Opd)} {l l':List e.D} {xs:List (List AV)} {st:St} {Γ Γ':TS},Sim μ F Γ st→C9 xs (l.map (e.enc tt))→(Yy F e tt Γ l parts).ok (l',Γ')→
  (Gi st e.size xs parts).holds fun(xs',st')=>C9 xs' (l'.map (e.enc tt))∧Sim μ F Γ' st'
 |[],l,l',xs,st,Γ,Γ',h,hc,hx=>by
  have:=R.Aj.1 hx;cases this;trivial
 |(i,x)::r,l,l',xs,st,Γ,Γ',h,hc,hx=>by
  simp only[Yy]at hx;rw[R.Ai]at hx;obtain⟨⟨v,Γ1⟩,h1,hx⟩:=hx;obtain⟨hs,h2⟩:=K5 h h1
  have hv:∀f l,v≠.clo f l:=by grind [R.Ag]
  have hx:(do
   let y←R.Ep (e.Sq tt v.cells)
   Yy F e tt Γ1 (l.set i y) r:R (List e.D×TS)).ok (l',Γ'):=zg
  rw[R.Ai]at hx;obtain⟨y,h3,hx⟩:=hx;have h3:=R.Cp.1 h3;simp only[Gi,M.Aa];refine M.Ah h2 ?_;rintro⟨s,st1⟩ ⟨k1,k2⟩;have k3:=GJ h3 (RS hv k1)
  have hlen:s.cells.length=e.size:=by rw[k3.length,D3]
  rw[if_pos hlen];refine Yz k2 ?_ hx;rw[XK];exact hc.set i k3
theorem PC:∀(t:BT) (tt:TT) (_:tt.Fe=true) (x:t.D),(t.enc tt x).any AV.Ci=false
 |.int _,_,_,_=>rfl
 |.bool,_,_,_=>rfl
 |.str,_,_,_=>rfl
 |.unit,_,_,_=>rfl
 |.sl e,tt,h,l=>by
  cases tt with
  |leaf=>rfl
  |node τ a=>cases τ<;>first|rfl|cases h
  |pair a b=>rfl
 |.pair a b,tt,h,x=>by
  have h1:tt.fst.Fe=true∧tt.snd.Fe=true:=by
   cases tt<;>grind [TT.Fe,TT.fst,TT.snd]
  simp only[BT.enc,List.any_append,PC a _ h1.1,PC b _ h1.2,Qc3]
theorem XJ{e:BT}{tt tt':TT}(h:tt.co tt'=true)(l:List e.D):C9 (l.map (e.enc tt)) (l.map (e.enc tt')):=C9.map (fun x=>WQ e h x) l
theorem YL{α β:Type}(f:α→β)(l:List α):window 0 l.length (l.map f)=l.map f:=by simp[window]
theorem Vg{α β:Type}(f:α→β)(l:List α)(lo n:Nat):window lo n (l.map f)=((l.drop lo).take n).map f:=by
 unfold window
 split<;>simp_all
theorem Agj{e:BT}{tt:TT}(h:Sim μ F Γ st){x:Opd}{l:List e.D}(hx:(Aqp F Γ e tt x).ok (l,Γ')):
  (st.source e.size x).holds fun(ys,st')=>C9 ys (l.map (e.enc tt))∧Sim μ F Γ' st':=by
 unfold Aqp at hx;split at hx
 ·have:=R.Aj.1 hx;cases this;exact M.Ab ⟨.nil,h⟩
 ·rename_i m;split at hx
  case h_2=>grind [R.Ag]
  rename_i c hs;obtain⟨s,heq,a,rfl,ha⟩:=h.sl m _ hs;simp only[gv]at heq
  cases c with
  |sl τ tt' e' l0=>
   have ha:a=_:=ha;subst ha
   have shared:∀σ:Tag,σ≠.own→τ=σ→(if tt'.co tt then(do
     let l'←R.Ep (UQ e e' l0)
     pure (l',Γ))else R.fail:R (List e.D×TS)).ok (l,Γ')→(st.source e.size (.t m)).holds fun(ys,st')=>C9 ys (l.map (e.enc tt))∧Sim μ F Γ' st':=by
    rintro σ hσ rfl hx;split at hx
    case isFalse=>grind [R.Ag]
    rename_i hco;rw[R.Ai]at hx
    grind [R.Aj,Km,R.Cp,St.source,M.Aa,M.Ak,M.Ab,XJ]
   cases τ with
   |own=>
    simp only[Aqn]at hx;split at hx
    case isFalse=>grind [R.Ag]
    rename_i hco;rw[R.Ai]at hx;obtain⟨l2,h1,hx⟩:=hx;rw[R.Ai]at hx;obtain⟨Γ2,h2,hx⟩:=hx;have:=R.Aj.1 hx;cases this;obtain⟨rfl,rfl⟩:=Km (R.Cp.1 h1);simp only[St.source,heq,M.Aa,M.Ak];exact⟨trivial,trivial,M.Ab ⟨XJ hco _,Et h h2 trivial⟩⟩
   |imm=>exact shared .imm zsz rfl hx
   |brw=>exact shared .brw zsz rfl hx
  |nil=>
   have ha:a=_:=ha;subst ha;have:=R.Aj.1 hx;cases this;simp only[St.source,heq,M.Aa,M.Ak];exact⟨trivial,M.Ab ⟨.nil,h⟩⟩
  |ref p tt0 e' w=>
   simp only[Aqn]at hx;rw[R.Ai]at hx;obtain⟨d,h1,hx⟩:=hx
   cases d with
   |sl τ tt2 e2 l2=>
    cases τ with
    |own=>
     obtain⟨q1,q2⟩:=LO h h1
     cases w with
     |none=>
      have ha:a=_:=Pc ha q2;subst ha;simp only[Aqo]at hx;split at hx
      case isFalse=>grind [R.Ag]
      rename_i hco;rw[R.Ai]at hx;obtain⟨l3,h2,hx⟩:=hx;have:=R.Aj.1 hx;cases this;obtain⟨rfl,rfl⟩:=Km (R.Cp.1 h2)
      simp only[St.source,heq,q1,M.Aa,M.Ak,YL]<;>grind [M.Ab,XJ,PC]
     |some y=>
      obtain⟨lo,n⟩:=y;have ha:a=_:=ha;subst ha;simp only[Aqo]at hx;split at hx
      case isFalse=>grind [R.Ag]
      rename_i hco;rw[R.Ai]at hx;obtain⟨l3,h2,hx⟩:=hx;rw[R.Ai]at hx;obtain⟨_,h3,hx⟩:=hx;have h3:=R.IW.1 h3;have:=R.Aj.1 hx;cases this;obtain⟨rfl,rfl⟩:=Km (R.Cp.1 h2)
      simp only[St.source,heq,q1,M.Aa,M.Ak,Vg]<;>grind [M.Ab,XJ,PC]
    |_=>cases w with
     |none=>exact(R.Ag.1 hx).elim
     |some y=>exact(R.Ag.1 hx).elim
   |_=>cases w with
    |none=>exact(R.Ag.1 hx).elim
    |some y=>exact(R.Ag.1 hx).elim
  |_=>exact(R.Ag.1 hx).elim
 grind [R.Ag]
theorem Aka{e:BT}{tt:TT}(h:Sim μ F Γ st){x:Opd}{v:TSV}(hx:(Qs F Γ false x).ok (v,Γ')){l:List e.D}(hb:(Aj9 e tt v).ok l):
  (st.base e.size x).holds fun(ys,st')=>C9 ys (l.map (e.enc tt))∧Sim μ F Γ' st':=by
 obtain⟨hs,h2⟩:=K5 h hx;simp only[St.base,M.Aa];refine M.Ah h2 ?_;rintro⟨s,st1⟩ ⟨k1,k2⟩;unfold Aj9 at hb;split at hb
 ·obtain⟨a,rfl,ha⟩:=k1;have ha:a=_:=ha
  grind [R.Ag,Km,R.Cp,M.Aa,M.Ak,M.Ab,XJ]
 ·obtain⟨a,rfl,ha⟩:=k1;have ha:a=_:=ha;subst ha;have:=R.Aj.1 hb;cases this;exact M.Ab ⟨.nil,k2⟩
 grind [R.Ag]
theorem AhY(h:Sim μ F Γ st){d B:Nat}{cells:List TC}{as:List AV}(hu:(AeX F Γ d B cells).ok Γ')(ha:avs μ st.ver (lnT F Γ) cells as):
  ∃μ',μ'=upd μ B st.hp.next∧Sim μ' F Γ' (St.set ⟨st.sl,st.hp.alloc as,st.vs,st.hv⟩ d (V (.ptr st.hp.next 0))):=by
 unfold AeX at hu
 cases hb:(cells.all TC.Bg&&!(cells.any (TC.hit (KO d B) (KO d B) (Qa5 B))))with
 |false=>grind [R.Ag]
 |true=>
  rw[hb]at hu;have hu:=R.Cp.1 hu;simp only[Qa0,Bool.not_eq_true']at hb;refine⟨upd μ B st.hp.next,rfl,?_⟩;generalize hst:St.set ⟨st.sl,st.hp.alloc as,st.vs,st.hv⟩ d (V (.ptr st.hp.next 0))=st'
  have esl:st'.sl=upd st.sl d (V (.ptr st.hp.next 0)):=by rw[←hst];rfl
  have ehp:st'.hp=st.hp.alloc as:=by rw[←hst];rfl
  have hmu:∀b,Qa5 B b=false→upd μ B st.hp.next b=μ b:=by
   intro b hb'
   have:b≠B:=by rintro rfl;simp_all
   grind [upd]
  have hnb:∀p,KO d B p=false→p.mu (upd μ B st.hp.next)=p.mu μ∧st'.ver (p.mu (upd μ B st.hp.next)).root=st.ver (p.mu μ).root:=by
   intro p hp;simp only[KO,Qa1]at hp
   have e:p.mu (upd μ B st.hp.next)=p.mu μ:=by
    cases hr:p.root<;>grind [Place.mu,Root.mu,Z6,upd]
   refine⟨e,?_⟩;rw[e,←hst]
   cases hr:p.root with
   |slot t j=>
    have hne:t≠d:=by grind [E4]
    simp only[Place.mu,hr,Root.mu,St.ver,St.set]<;>grind [upd]
   |obj b c=>grind [Place.mu,Root.mu,St.ver,St.set]
  have T:Tr (KO d B) (KO d B) (Qa5 B) μ (upd μ B st.hp.next) st.ver st'.ver (lnT F Γ) (lnT F Γ'):=by
   refine⟨hmu,fun p hp=>⟨(hnb p hp).1,(hnb p hp).2,fun n hn=>?_⟩,fun p hp=>hnb p hp⟩<;>grind [KO,Jm,h.ss,A6,E4,Z6]
  refine h.upd hu T ?_ ?_ ?_ ?_ ?_ ?_ (by rw[ehp];exact Nat.le_succ _)
  ·intro t ht;rw[A6]at ht;split at ht
   ·cases ht
   ·rename_i hne;rw[esl]<;>grind [upd]
  ·intro t x hx;rw[A6]at hx;split at hx
   case isFalse=>cases hx
   rename_i ht;cases hx;subst ht;rw[esl];simp only[upd,if_true];exact⟨.one (.ptr st.hp.next 0),rfl,_,rfl,by simp[TC.av,upd]⟩
  ·intro b l hb' hl;rw[ehp];obtain⟨k,q1,q2,q3,q4⟩:=h.bx b l hl
   have:μ b≠st.hp.next:=zm
   simp[Heap.alloc,upd,this]
  ·intro b l hb';rw[A6]at hb';split at hb'
   case isFalse=>grind
   rename_i hbb;cases hb';subst hbb;refine⟨as,by simp_all [Heap.alloc,upd],?_,by grind [Heap.alloc,upd],hb.1⟩;have:=T.avs ha
   grind [Jc]
  ·simp_all [A6]
  ·intro b b' l l' hb' hl' he;rw[A6]at hb';split at hb'
   case isFalse=>grind
   rename_i hbb;subst hbb;rw[G0 hu b',A6]at hl'
   by_cases e:B=b'
   ·exact e
   ·rw[if_neg e]at hl';simp only[Qa9]at hl';obtain⟨l2,h2,_⟩:=hl'
    obtain⟨k,q1,q2,q3,q4⟩:=h.bx b' l2 h2<;>grind [upd]
theorem Wv(h:Sim μ F Γ st){d:Nat}{cells:List TC}{as:List AV}(hu:(AaB F Γ d cells).ok Γ')(ha:avs μ st.ver (lnT F Γ) cells as):
  WOk μ st.hp.next F Γ' (St.set ⟨st.sl,st.hp.alloc as,st.vs,st.hv⟩ d (V (.ptr st.hp.next 0))):=by
 obtain⟨μ',rfl,k⟩:=AhY h hu ha
 refine⟨_,_,Ed.refl _,k,fun b hb=>?_,fun b=>?_⟩<;>grind [rbase,upd]
theorem AfR{c:TC}(h:ownish c=false)(hs:c.Bg=true){a:AV}(ha:c.av μ ver ln a):a.Ci=false:=by
 cases c with
 |sl τ tt e l=>
  have ha:a=_:=ha;subst ha
  cases τ<;>first|rfl|cases h
 |dead=>cases h
 |ref=>cases hs
 |adr=>cases hs
 |_=>(have ha:a=_:=ha);subst ha;rfl
theorem Rb:∀{l:List TC},l.any ownish=false→l.all TC.Bg=true→∀{as:List AV},avs μ ver ln l as→as.any AV.Ci=false
 |[],_,_,[],_=>rfl
 |c::l,h,hs,a::as,ha=>by
  simp only[Qa4,Qa1]at h;simp only[Qa6,Qa0]at hs;simp only[Qa4,AfR h.1 hs.1 ha.1,Rb h.2 hs.2 ha.2,Qc3]
 |[],_,_,_::_,h=>h.elim
 |_::_,_,_,[],h=>h.elim
theorem Yk:∀(vs l:List TC) (c j:Nat),j<c∨c+vs.length≤j→(VM l c vs)[j]?=l[j]?
 |[],l,c,j,_=>rfl
 |v::vs,l,c,j,h=>by
  rw[VM,Yk vs _ (c+1) j zg,Qb5 zg]
theorem Yl:∀(vs l:List TC) (c:Nat),l.all TC.Bg=true→vs.all TC.Bg=true→(VM l c vs).all TC.Bg=true
 |[],l,c,h,_=>h
 |v::vs,l,c,h,hv=>by
  simp only[Qa6,Qa0]at hv
  refine Yl vs _ (c+1) ?_ hv.2<;>grind
theorem RQ(h:Sim μ F Γ st){b c n:Nat}{l cells:List TC}{k:List AV}{bump:Bool}(hl:TS.box F Γ b=some l)(hn:cells.length=n)(hk:st.hp.get (μ b)=some k)
  (hu:TS.upd F Γ (Ev bump b c n) (Ev bump b c n) CR [] [(b,VM (l.map (TC.sift (Ev bump b c n) (Ev bump b c n) CR)) c cells)]=some Γ')
  (hs:cells.all TC.Bg=true) {k':List AV} (hk':∀(ver':Root→Nat) (ln':Place→Option Nat),avs μ ver' ln' (l.map (TC.sift (Ev bump b c n) (Ev bump b c n) CR)) k→avs μ ver' ln' (VM (l.map (TC.sift (Ev bump b c n) (Ev bump b c n) CR)) c cells) k')
  {st':St} (esl:st'.sl=st.sl) (ehp:st'.hp=st.hp.set (μ b) k') (evs:st'.vs=st.vs) (ehv:bump=false→st'.hv=st.hv):Sim μ F Γ' st':=by
 obtain⟨k0,q1,q2,q3,q4⟩:=h.bx b l hl;rw[hk]at q1;cases q1
 have hver:∀p,Ev bump b c n p=false→st'.ver (p.mu μ).root=st.ver (p.mu μ).root:=by
  intro p hp
  cases hr:p.root<;>grind [Place.mu,Root.mu,St.ver,Ev]
 have T:Tr (Ev bump b c n) (Ev bump b c n) CR μ μ st.ver st'.ver (lnT F Γ) (lnT F Γ'):=by
  refine⟨fun _ _=>rfl,fun p hp=>⟨rfl,hver p hp,fun m hm=>?_⟩,fun p hp=>⟨rfl,hver p hp⟩⟩
  cases hr:p.root with
  |slot t j=>exact Jm hu h.ss (fun _ _ _=>rfl) (fun _ _ e=>zg) hm
  |obj b' c'=>
   by_cases hb:b'=b
   ·subst hb;simp only[Ev,hr,Qa1]at hp
    have hout:c'<c∨c+n≤c':=by
     have h1:=hp.2
     have e1:Qa5 b' b'=true:=zsz
     rw[e1,Qc1]at h1
     cases h2:Nat.ble c c' with
     |false=>grind [Nat.lt_of_not_le,Nat.ble_eq]
     |true=>
      rw[h2,Qc1]at h1;right
      refine Nat.le_of_not_lt fun h3=>?_
      have:Nat.blt c' (c+n)=true:=by simp[Nat.blt];omega
      grind
    unfold lnT atT at hm⊢;rw[hr]at hm⊢;simp only[CH,G0 hu,A6,if_true,hl,Qa2]at hm⊢;rw[Yk _ _ _ _ zg,Qb4]at hm
    cases hc:l[c']?with
    |none=>grind
    |some d0=>
     rw[hc]at hm;simp only[Qb2,Qa2]at hm⊢;exact d0.K1 p.path m hm
   grind [Jm,h.ss,A6]
 refine h.upd hu T (fun t _=>by rw[esl]) (fun _ _ h=>nomatch h) ?_ ?_ (fun _ h=>nomatch h) ?_ (by rw[ehp];exact Qa3 _)
 ·intro b' l' hb hl';rw[A6]at hb;split at hb
  ·cases hb
  ·rename_i hne;rw[ehp]
   have:μ b'≠μ b:=fun e=>hne (h.inj b b' l l' hl hl' e.symm)
   simp[Heap.set,upd,this]
 ·intro b' l' hb;rw[A6]at hb;split at hb
  case isFalse=>cases hb
  rename_i hbb;cases hb;subst hbb
  refine⟨k',by rw[ehp];simp[Heap.set,upd],hk' _ _ (T.avs q2),by rw[ehp];exact q3,?_⟩<;>grind [Yl,TC.Ri]
 ·intro b1 b' l1 l' hb hb' he;rw[A6]at hb;split at hb
  case isFalse=>cases hb
  rename_i hbb;subst hbb;rw[G0 hu b',A6]at hb'
  by_cases e:b=b'
  ·exact e
  ·rw[if_neg e]at hb';simp only[Qa9]at hb';obtain⟨l2,h2,_⟩:=hb';exact h.inj _ _ _ _ hl h2 he
theorem V8{i:Nat}{d:TC}{b:AV}(hd:d.av μ ver ln b):∀{l l2:List TC} {k:List AV} (j:Nat),Aev i d j l=some l2→avs μ ver ln l k→avs μ ver ln l2 (if j≤i then k.set (i -j) b else k)∧l2.all TC.Bg=true∧l2.length=l.length
 |[],l2,[],j,h,_=>by
  simp_all [Aev,avs]
 |c::l,l2,a::k,j,h,ha=>by
  simp only[Aev]at h
  have step:∀(c':TC) (m:List TC),Aev i d (j+1) l=some m→l2=c'::m→c'.Bg=true→(c'.av μ ver ln (if i=j then b else a))→avs μ ver ln l2 (if j≤i then(a::k).set (i -j) b else a::k)∧l2.all TC.Bg=true∧l2.length=(c::l).length:=by
   rintro c' m hm rfl hs hc';obtain⟨h1,h2,h3⟩:=V8 hd (j+1) hm ha.2;refine⟨?_,zg,zg⟩
   by_cases hij:i=j
   ·subst hij
    grind [avs]
   ·rw[if_neg hij]at hc'
    by_cases hle:j≤i
    ·rw[if_pos hle];rw[if_pos zm]at h1
     have:i -j=(i -(j+1))+1:=zm
     rw[this];trivial
    ·rw[if_neg hle];rw[if_neg zm]at h1;trivial
  split at h
  ·rename_i k0 x k1 y m hm;split at h
   case isFalse=>cases h
   rename_i hk;cases h;subst hk;refine step _ m hm rfl rfl ?_;have h1:a=_:=ha.1;have h2:b=_:=hd;subst h1 h2
   split<;>exact rfl
  ·rename_i x y m hm;cases h;refine step _ m hm rfl rfl ?_;have h1:a=_:=ha.1;have h2:b=_:=hd;subst h1 h2
   split<;>exact rfl
  grind
 |[],_,_::_,_,_,h=>h.elim
 |_::_,_,[],_,_,h=>h.elim
theorem Vd:∀(vs l:List AV) (c:Nat),c+vs.length≤l.length→setCells l c vs=l.take c++(vs++l.drop (c+vs.length))
 |[],l,c,h=>by simp[setCells]
 |v::vs,l,c,h=>by
  simp only[List.length_cons]at h;rw[setCells,Vd vs _ (c+1) zg]
  have hlt:c<l.length:=zm
  rw[List.set_eq_take_append_cons_drop,if_pos hlt]
  have e1:(l.take c++v::l.drop (c+1)).take (c+1)=l.take c++[v]:=by
   grind
  have e2:(l.take c++v::l.drop (c+1)).drop (c+1+vs.length)=l.drop (c+(vs.length+1)):=by
   rw[List.drop_append];simp only[List.length_take,Nat.min_eq_left (Nat.le_of_lt hlt)];rw[List.drop_eq_nil_of_le zg]
   have:c+1+vs.length -c=vs.length+1:=zm
   grind [List.drop_drop]
  simp_all
theorem Ap6{l:List AV}{c m i:Nat}{a:AV}(hi:i<m)(hc:c+m≤l.length):l.set (c+i) a=setCells l c (((l.drop c).take m).set i a):=by
 have hlen:(((l.drop c).take m).set i a).length=m:=zg
 rw[Vd _ _ _ zg,hlen]
 apply List.ext_getElem?<;>grind
end
def M.all{α:Type}(x:M α)(K:α→Prop):Prop:=match x with
 |none=>True
 |some (_,a)=>K a
theorem M.all_bind{α β:Type}{x:M α}{f:α→M β}{K:β→Prop}(h:x.all fun a=>(f a).all K):(x>>=f).all K:=by
 show(M.bind x f).all K
 match x,h with
 |none,_=>trivial
 |some (p,a),h=>
  grind [M.bind,all]
theorem M.Cn{α:Type}{a:α}{K:α→Prop}(h:K a):(Pure.pure a:M α).all K:=h
theorem M.Fa{p:Prop}{K:Unit→Prop}(h:K ()):(M.need p).all K:=h
theorem M.I6{α:Type}{K:α→Prop}:(M.fail:M α).all K:=trivial
theorem M.all_true{α:Type}(x:M α){K:α→Prop}(h:∀a,K a):x.all K:=by
 match x with
 |none=>trivial
 |some (_,a)=>exact h a
theorem M.D2{α:Type}{x:M α}{K K':α→Prop}(h:x.all K)(hk:∀a,K a→K' a):x.all K':=by
 match x,h with
 |none,_=>trivial
 |some (_,a),h=>exact hk a h
theorem M.PE{α:Type}{x:M α}{K K':α→Prop}(h:x.holds K)(h':x.all K'):x.holds fun a=>K a∧K' a:=by
 match x,h,h' with
 |some (_,a),h,h'=>exact⟨h.1,h.2,h'⟩
theorem ZC(st:St)(r:Root):(st.bump r).hp.next=st.hp.next:=by cases r<;>rfl
theorem QM:∀(rs:List Root) (st:St),(st.bumps rs).hp.next=st.hp.next
 |[],_=>rfl
 |r::rs,st=>by rw[St.bumps,QM rs,ZC]
theorem AbJ(st:St)(r:Root)(b:AV):(st.Au r b).hp.next=st.hp.next:=by
 cases r with
 |slot t j=>rfl
 |obj o c=>simp only[St.Au];split<;>rfl
theorem X3(st:St)(p:Place)(b:AV):(st.putAt p b).hp.next=st.hp.next:=by
 grind [St.putAt,AbJ]
theorem Zo(v0:Root→Nat)(mem:Bool)(st:St)(a:AV):(st.Fh v0 mem a).all fun p=>p.2.1.hp.next=st.hp.next:=by
 unfold St.Fh;split
 ·rw[Bool.cond_eq_ite];split
  ·exact M.Cn rfl
  split
  ·exact M.all_bind (M.Fa (M.all_bind (M.Fa (M.all_bind (M.Fa (M.Cn (X3 _ _ _)))))))
  ·exact M.I6
 ·cases mem<;>first|exact M.I6|exact M.Cn rfl
 ·cases mem<;>first|exact M.I6|exact M.Cn rfl
 ·exact M.I6
 ·exact M.I6
 ·exact M.Cn rfl
theorem K4(v0:Root→Nat)(mem:Bool):∀(l:List AV) (st:St),(st.CG v0 mem l).all fun p=>p.2.1.hp.next=st.hp.next
 |[],st=>M.Cn rfl
 |a::l,st=>by
  refine M.all_bind (M.D2 (Zo v0 mem st a) ?_);rintro⟨b,st1,rs⟩ h1
  refine M.all_bind (M.D2 (K4 v0 mem l st1) ?_)<;>grind [M.Cn]
theorem Hj(st:St)(mem:Bool)(x:Opd):(st.take mem x).all fun p=>p.2.hp.next=st.hp.next:=by
 grind [St.take,M.all_bind,M.all_true,M.D2,K4,M.Cn,QM]
end Go.VS
namespace Go.VS
section
variable{μ:Nat→Nat}{ver:Root→Nat}{ln:Place→Option Nat}{F Γ Γ':TS}{st:St}
theorem XO{α:Type}{l:List α}{i:Nat}{x:α}(h:l[i]?=some x)(f:α→α):l.modify i f=l.set i (f x):=by
 grind [modify_eq,JV]
theorem AfH{α:Type}{l:List α}{i:Nat}(h:l.length≤i)(f:α→α):l.modify i f=l:=by
 apply List.ext_getElem?<;>grind
theorem AdF:∀{path:List Stp} {c b c1:TC} {a b' u:AV},(U3 c path b).ok c1→c.av μ ver ln a→b.av μ ver ln b'→Co u b'→∃a1,c1.av μ ver ln a1∧Co (a.put path u) a1
 |[],c,b,c1,a,b',u,hx,ha,hb,hc=>by
  have hx:(Pure.pure b:R TC).ok c1:=by trivial
  have:=R.Aj.1 hx;subst this;exact⟨b',hb,by trivial⟩
 |s::r,c,b,c1,a,b',u,hx,ha,hb,hc=>by
  cases c with
  |sl τ tt e l=>
   cases τ with
   |own=>
    simp only[U3]at hx;split at hx
    case isFalse=>grind [R.Ag]
    rename_i hk;split at hx
    case h_2=>grind [R.Ag]
    rename_i c2 hc2;rw[R.Ai]at hx;obtain⟨c',h1,hx⟩:=hx;rw[R.Ai]at hx;obtain⟨x,h2,hx⟩:=hx;have:=R.Aj.1 hx;subst this;have h2:=R.Cp.1 h2;have ha:a=_:=ha;subst ha;refine⟨_,rfl,?_⟩;simp only[AV.put,if_pos hk];refine .sl _ _ _ _ _ (.inl rfl) ?_
    by_cases hi:s.i<l.length
    ·have e1:l.getD s.i e.dflt=l[s.i]:=by grind
     rw[e1]at hc2 h2;obtain⟨a2,ha2,hav2⟩:=Jy (Fb (μ:=μ) (ver:=ver) (ln:=ln) e tt l[s.i]) hc2;obtain⟨a3,ha3,hco3⟩:=AdF h1 hav2 hb hc
     have e2:(l.map (e.enc tt))[s.i]?=some (e.enc tt l[s.i]):=zg
     rw[XO e2,XO ha2,XK];refine(C9.refl _).set s.i ?_;exact((CoL.refl _).set s.c hco3).trans (GJ h2 (VQ (Fb e tt l[s.i]) s.c ha3))
    grind [AfH,List.set_eq_of_length_le,C9.refl]
   |_=>exact(R.Ag.1 hx).elim
  |_=>exact(R.Ag.1 hx).elim
theorem Aad:∀{path:List Stp} {c b c1:TC},(U3 c path b).ok c1→path≠[]→c1.len?=c.len?∧c1.Bg=true
 |[],_,_,_,_,h=>(h rfl).elim
 |s::r,c,b,c1,hx,_=>by
  cases c with
  |sl τ tt e l=>
   cases τ with
   |own=>
    simp only[U3]at hx;split at hx
    case isFalse=>grind [R.Ag]
    split at hx
    case h_2=>grind [R.Ag]
    rw[R.Ai]at hx;obtain⟨c',h1,hx⟩:=hx;rw[R.Ai]at hx;obtain⟨x,h2,hx⟩:=hx;have:=R.Aj.1 hx;subst this;exact⟨by simp[TC.len?],rfl⟩
   |_=>exact(R.Ag.1 hx).elim
  |_=>exact(R.Ag.1 hx).elim
theorem Ed.Au(st:St)(r:Root){b b':AV}(h:Co b b'):Ed (st.Au r b) (st.Au r b'):=by
 cases r with
 |slot t j=>
  refine⟨fun t'=>?_,(Ed.refl st).hp,rfl,rfl,rfl⟩;simp only[St.Au,upd];split
  ·cases st.sl t with
   |val g s=>
    refine .val g _ _ ?_
    cases s with
    |one a=>cases j with
     |zero=>exact .one _ _ h
     |succ j=>exact .one _ _ (.refl _)
    |agg l=>exact .agg _ _ ((CoL.refl l).set j h)
   |_=>exact .refl _
  ·exact .refl _
 |obj o c=>
  simp only[St.Au]
  cases hg:st.hp.get o with
  |none=>exact Ed.refl st
  |some l=>
   refine⟨fun _=>.refl _,fun o'=>?_,rfl,rfl,rfl⟩;simp only[Heap.set,upd];split
   ·exact .inr ⟨_,_,rfl,rfl,(CoL.refl l).set c h⟩
   grind [Ed.refl,hp]
theorem Ed.bump{st st':St}(h:Ed st st')(r:Root):Ed (st.bump r) (st'.bump r):=by
 cases r with
 |slot t j=>exact⟨h.sl,h.hp,h.nx,by simp[St.bump,h.vs],h.hv⟩
 |obj o c=>exact⟨h.sl,h.hp,h.nx,h.vs,by simp[St.bump,h.hv]⟩
theorem AbN(h:Sim μ F Γ st){n:Nat}{cells:List TC}{p:Place}{k i c:Nat}{d:TC}(hd:(atR F Γ p).ok d)(hx:(Yp F Γ n cells p k i c d).ok Γ'){as:List AV}(ha:avs μ st.ver (lnT F Γ) cells as):
  ∃xs,st.at (p.mu μ)=some (.sl .own k xs)∧i<xs.length∧c+n≤k∧
   WOk μ st.hp.next F Γ' (if(((xs.getD i []).drop c).take n).any AV.Ci then(st.putAt (p.mu μ) (.sl .own k (xs.set i (setCells (xs.getD i []) c as)))).bump (p.mu μ).root else st.putAt (p.mu μ) (.sl .own k (xs.set i (setCells (xs.getD i []) c as)))):=by
 cases d with
 |sl τ tt e l=>
  cases τ with
  |own=>
   simp only[Yp]at hx;split at hx
   case isFalse=>grind [R.Ag]
   rename_i hc;obtain⟨hk,hcn⟩:=hc;subst hk;rw[R.Ai]at hx;obtain⟨_,h1,hx⟩:=hx;have hi:=R.IW.1 h1;rw[R.Ai]at hx;obtain⟨x,h2,hx⟩:=hx;have h2:=R.Cp.1 h2;rw[R.Ai]at hx;obtain⟨c0,h3,hx⟩:=hx;have h3:=R.Cp.1 h3;rw[R.Ai]at hx;obtain⟨c1,h4,hx⟩:=hx;have hu:=R.Cp.1 hx;obtain⟨q1,q2⟩:=LO h hd;refine⟨_,q1,zg,hcn,?_⟩
   rw[SB (e.enc tt) l i e.dflt [] hi];generalize hbT:(((e.ex tt (l.getD i e.dflt)).drop c).take n).any ownish=bump at hu;generalize hbA:(((e.enc tt (l.getD i e.dflt)).drop c).take n).any AV.Ci=bumpA
   have hbump:bump=false→bumpA=false:=by
    intro hb;rw[←hbA];rw[←hbT]at hb;exact Rb hb (GH (Kq _ _ _) c n) (Jz (Fb (μ:=μ) (ver:=st.ver) (ln:=lnT F Γ) e tt _) c n)
   obtain⟨a0,ha0,hav0⟩:=Yd h h3
   have hput:∀u,st.putAt (p.mu μ) u=st.Au (p.root.mu μ) (a0.put p.path u):=by
    grind [St.putAt,Place.mu]
   rw[hput];have hcoL:CoL (setCells (e.enc tt (l.getD i e.dflt)) c as) (e.enc tt x):=GJ h2 (Pj c (Fb (μ:=μ) (ver:=st.ver) (ln:=lnT F Γ) e tt _) ha)
   obtain⟨a1,hav1,hco1⟩:=AdF (u:=.sl .own e.size ((l.map (e.enc tt)).set i (setCells (e.enc tt (l.getD i e.dflt)) c as))) h4 hav0 (show(TC.sl .own tt e (l.set i x)).av μ st.ver (lnT F Γ) _ from rfl)
    (.sl _ _ _ _ _ (.inl rfl) (by rw[XK];exact(C9.refl _).set i hcoL))
   have hsol1:c1.Bg=true:=by
    cases hp:p.path with
    |nil=>
     rw[hp]at h4
     have h4:(Pure.pure (TC.sl .own tt e (l.set i x)):R TC).ok c1:=by trivial
     have:=R.Aj.1 h4;subst this;rfl
    |cons s r=>exact(Aad h4 zg).2
   have fin:∀st':St,st'.sl=(st.Au (p.root.mu μ) a1).sl→st'.hp=(st.Au (p.root.mu μ) a1).hp→(∀q,(KT p.root q=false∨bump=false)→st'.ver (q.mu μ).root=st.ver (q.mu μ).root)→Sim μ F Γ' st':=by
    intro st' e1 e2 hv;refine U4 h hu h3 (b:=a1) e1 e2 ?_ ?_ ?_ (MV hsol1 hav1) (.inl hsol1)
    ·grind [AbE]
    ·grind
    ·intro q hq hqr m hm;have h5:=Adr hqr;simp only[AbE,h5,Qc1,Qa1]at hq
     have hpath:q.path=[]:=by
      cases hqp:q.path<;>grind [deep]
     unfold lnT atT at hm⊢;rw[hqr,hpath]at hm⊢
     cases hc1:CH F Γ' p.root with
     |none=>grind
     |some c1'=>
      rw[hc1,Qa2]at hm;have:=SR h.ss hu hc1;subst this;rw[h3,Qa2]
      have eS:∀c:TC,c.atS []=some c:=by intro c;rfl
      rw[eS,Qa2]at hm⊢
      cases hp:p.path with
      |nil=>
       rw[hp]at h4
       have h4:(Pure.pure (TC.sl .own tt e (l.set i x)):R TC).ok c1':=by trivial
       have:=R.Aj.1 h4;subst this;have h6:=AaE hd
       grind [atT,TC.len?]
      |cons s r=>grind [Aad]
   cases hbA2:bumpA with
   |true=>
    rw[if_pos rfl];refine⟨μ,_,(Ed.Au st (p.root.mu μ) hco1).bump _,fin _ ?_ ?_ ?_,EJ.refl _ _⟩
    ·simp only[Place.mu];cases p.root<;>rfl
    ·simp only[Place.mu];cases p.root<;>rfl
    grind [Ra,Place.mu,Fl,Hh]
   |false=>
    rw[if_neg zsz]
    refine⟨μ,_,Ed.Au st (p.root.mu μ) hco1,fin _ rfl rfl ?_,EJ.refl _ _⟩<;>grind [Fl,Hh]
  |_=>exact(R.Ag.1 hx).elim
 |_=>exact(R.Ag.1 hx).elim
theorem AgB(h:Sim μ F Γ st){n:Nat}{cells:List TC}{c:TC}{Γ':TS}(hx:(Ut F Γ n cells c).ok Γ')(hs:cells.all TC.Bg=true){as:List AV}(ha:avs μ st.ver (lnT F Γ) cells as){a:AV}(hc:c.av μ st.ver (lnT F Γ) a):
  as.length=n∧(match(generalizing:=false) a with
   |.ptr o c=>match st.hp.get o with
    |some l=>do
     M.need (c+n≤l.length)
     let st2:St:=⟨st.sl,st.hp.set o (setCells l c as),st.vs,st.hv⟩
     pure (if((l.drop c).take n).any AV.Ci then st2.bump (.obj o c)else st2)
    |none=>M.fail
   |.adr p v k' i c=>match st.at p with
    |some (.sl .own k xs)=>do
     M.need (v=st.ver p.root)
     M.need (k'=k)
     M.need (i<xs.length)
     M.need (c+n≤k)
     let st2:=st.putAt p (.sl .own k (xs.set i (setCells (xs.getD i []) c as)))
     pure (if(((xs.getD i []).drop c).take n).any AV.Ci then st2.bump p.root else st2)
    |_=>M.fail
   |_=>M.fail:M St).holds fun st'=>WOk μ st.hp.next F Γ' st':=by
 have hlenA:=Cd ha
 cases c with
 |box b c=>
  have hc:a=_:=hc;subst hc;simp only[Ut]at hx;split at hx
  case h_2=>grind [R.Ag]
  rename_i l hl;split at hx
  case isFalse=>grind [R.Ag]
  rename_i hcn;have hu:=R.Cp.1 hx;obtain⟨k,q1,q2,q3,q4⟩:=h.bx b l hl;have hlen:=Cd q2;refine⟨zm,?_⟩;simp only[q1,M.Aa,M.Ak];refine⟨zm,M.Ab ⟨μ,_,Ed.refl _,?_,EJ.refl _ _⟩⟩;refine RQ h hl hcn.2 q1 hu hs (k':=setCells k c as) (fun ver' ln' hk'=>Pj c hk' (Gh hs ha)) ?_ ?_ ?_ ?_
  ·split<;>rfl
  ·split<;>rfl
  ·split<;>rfl
  ·intro hb;rw[if_neg];rw[Rb hb (GH q4 c n) (Jz q2 c n)];simp
 |boxd b c m i=>
  have hc:a=_:=hc;subst hc;simp only[Ut]at hx;split at hx
  case h_2=>grind [R.Ag]
  rename_i l d hl;split at hx
  case h_2=>grind [R.Ag]
  rename_i l2 hl2;split at hx
  case isFalse=>grind [R.Ag]
  rename_i hcn;obtain⟨hcm,rfl⟩:=hcn;rw[R.Ai]at hx;obtain⟨_,h1,hx⟩:=hx;have hi:=R.IW.1 h1;have hu:=R.Cp.1 hx;obtain⟨k,q1,q2,q3,q4⟩:=h.bx b l hl;have hlen:=Cd q2
  match as,ha with
  |[a0],ha=>
   refine⟨rfl,?_⟩;simp only[q1,M.Aa,M.Ak];refine⟨zm,M.Ab ⟨μ,_,Ed.refl _,?_,EJ.refl _ _⟩⟩
   have hsd:d.Bg=true:=zg
   have nob:((k.drop (c+i)).take 1).any AV.Ci=false:=by
    have hlt:c+i<k.length:=zm
    rw[Abq (Qc0 hlt)]
    have hll:((l.drop c).take m)[i]?=some l[c+i]:=by
     grind
    obtain⟨a',ha',hav⟩:=Jy q2 (Qc0 (by omega:c+i<l.length))
    have e0:k[c+i]=a':=zg
    rw[e0]
    have hkind:∀(ll l2:List TC) (j0 i0:Nat) (x:TC),Aev i d j0 ll=some l2→ll[i0]?=some x→(∃k n,x=.int k n)∨∃s,x=.str s:=by
     intro ll
     induction ll with
     |nil=>grind
     |cons y ll ih=>
      intro l2 j0 i0 x hup hx
      simp only[Aev]at hup<;>grind
    rcases hkind _ _ 0 i _ hl2 hll with⟨k',n',e1⟩|⟨s',e1⟩
    ·rw[e1]at hav;have hav:a'=_:=hav;subst hav;rfl
    ·rw[e1]at hav;have hav:a'=_:=hav;subst hav;rfl
   rw[nob,if_neg zsz];refine RQ (n:=m) h hl ?_ q1 hu ?_ (k':=setCells k (c+i) [a0]) ?_ rfl rfl rfl (fun _=>rfl)
   ·have:=(V8 ha.1 0 hl2 (Jz q2 c m)).2.2
    grind
   ·exact(V8 ha.1 0 hl2 (Jz q2 c m)).2.1
   ·intro ver' ln' hk'
    have h5:=(V8 ha.1 0 hl2 (Jz q2 c m))
    have h6:avs μ ver' ln' l2 (((k.drop c).take m).set i a0):=by
     grind [Gh]
    have:=Pj c hk' h6;rw[←Ap6 hi zm]at this;trivial
  |[],ha=>grind
  |_::_::_,ha=>grind
 |adr p tt0 e i c=>
  have hc:a=_:=hc;subst hc;simp only[Ut]at hx;split at hx
  case isFalse=>grind [R.Ag]
  rename_i hn;rw[R.Ai]at hx;obtain⟨d,h1,hx⟩:=hx;obtain⟨xs,e1,e2,e3,e4⟩:=AbN h h1 hx ha;simp_all [M.Aa,M.Ak,M.Ab]
 |_=>exact(R.Ag.1 hx).elim
theorem Ahf{c:TC}(hk:c.known=true){a:AV}(h:c.av μ ver ln a):c.husk.av μ ver ln (if a.Ci then .dead else a):=by
 cases c with
 |sl τ tt e l=>
  have h:a=_:=h;subst h
  cases τ with
  |own=>trivial
  |_=>rfl
 |dead=>cases hk
 |ref=>cases hk
 |adr=>cases hk
 |_=>(have h:a=_:=h);subst h;exact rfl
theorem AcY:∀{l:List TC},l.all TC.known=true→∀{as:List AV},avs μ ver ln l as→avs μ ver ln (l.map TC.husk) (as.map fun a=>if a.Ci then .dead else a)
 |[],_,[],_=>trivial
 |c::l,hk,a::as,h=>by
  simp only[Qa6,Qa0]at hk;exact⟨Ahf hk.1 h.1,AcY hk.2 h.2⟩
 |[],_,_::_,h=>h.elim
 |_::_,_,[],h=>h.elim
theorem UZ{c:TC}(hk:c.known=true){a:AV}(h:c.av μ ver ln a):c.Bg=true∧a.solid=true:=by
 cases c with
 |dead=>cases hk
 |ref=>cases hk
 |adr=>cases hk
 |_=>(have h:a=_:=h);subst h;exact⟨rfl,rfl⟩
theorem JC:∀{l:List TC},l.all TC.known=true→∀{as:List AV},avs μ ver ln l as→l.all TC.Bg=true∧as.all AV.solid=true
 |[],_,[],_=>⟨rfl,rfl⟩
 |c::l,hk,a::as,h=>by
  simp only[Qa6,Qa0]at hk⊢;obtain⟨h1,h2⟩:=UZ hk.1 h.1
  obtain⟨h3,h4⟩:=JC hk.2 h.2<;>grind
 |[],_,_::_,h=>h.elim
 |_::_,_,[],h=>h.elim
theorem AbO:∀{l:List TSV} {m:List SV},svs μ ver ln l m→∀{i:Nat} {v:TSV},l[i]?=some v→∃s,m[i]?=some s∧v.sv μ ver ln s
 |[],[],_,i,v,h=>zg
 |x::l,y::m,h,0,v,hv=>by simp at hv;subst hv;exact⟨y,rfl,h.1⟩
 |x::l,y::m,h,i+1,v,hv=>by simpa using AbO h.2 (i:=i) zg
 |[],_::_,h,_,_,_=>h.elim
 |_::_,[],h,_,_,_=>h.elim
theorem AhL:∀{l:List TSV} {m:List SV},svs μ ver ln l m→∀(i:Nat) {v:TSV} {s:SV},v.sv μ ver ln s→svs μ ver ln (l.set i v) (m.set i s)
 |[],[],_,i,v,s,_=>zg
 |x::l,y::m,h,0,v,s,hv=>⟨hv,h.2⟩
 |x::l,y::m,h,i+1,v,s,hv=>⟨h.1,AhL h.2 i hv⟩
 |[],_::_,h,_,_,_,_=>h.elim
 |_::_,[],h,_,_,_,_=>h.elim
theorem Ajx(h:Sim μ F Γ st){x:Opd}{v:TSV}(hx:(Al8 F Γ x).ok (v,Γ')):(st.take false x).holds fun(s,st')=>v.sv μ st'.ver (lnT F Γ') s∧Sim μ F Γ' st':=by
 unfold Al8 at hx;rw[R.Ai]at hx;obtain⟨v0,h1,hx⟩:=hx;split at hx
 ·have:=R.Aj.1 hx;cases this;have hu:=Gj h (b:=true) (fun _=>rfl) h1;simp only[St.take,M.Aa];refine M.Ah hu ?_;rintro _ ⟨a,rfl,ha⟩;have ha:a=_:=ha;subst ha;simp only[SV.cells,St.CG,St.Fh,M.Aa];refine M.Ab (M.Ab (M.Ab (M.Ab ?_)));exact⟨⟨_,rfl,rfl⟩,h⟩
 ·rename_i p tt e w
  cases hpe:p.path.isEmpty with
  |true=>rw[hpe,cond_true]at hx;exact(K5 h hx).2
  |false=>
   rw[hpe,cond_false]at hx;have:=R.Aj.1 hx;cases this;have hu:=Gj h (b:=true) (fun _=>rfl) h1;simp only[St.take,M.Aa];refine M.Ah hu ?_;rintro _ ⟨a,rfl,ha⟩
   have hal:(!false&&!(p.mu μ).path.isEmpty)=true:=by simp only[Place.mu,hpe];rfl
   have ha0:=ha
   obtain⟨lo,n,rfl⟩:∃lo n,a=.ref (p.mu μ) (st.ver (p.mu μ).root) e.size lo n:=by
    cases w with
    |none=>obtain⟨m,rfl,_⟩:=ha;exact⟨_,_,rfl⟩
    |some q=>exact⟨_,_,ha⟩
   simp only[SV.cells,St.CG,St.Fh,hal,cond_true,M.Aa];refine M.Ab (M.Ab (M.Ab (M.Ab ?_)));exact⟨⟨_,rfl,ha0⟩,h⟩
 ·exact(K5 h hx).2
theorem Aky(h:Sim μ F Γ st){dst:Option Nat}{ty:Option (BT×TT)}{op:AOp}(hW:op.isW=true)(hx:(MD F Γ dst ty op).ok Γ'):(st.Ja dst op).holds fun st'=>WOk μ st.hp.next F Γ' st':=by
 cases op with
 |asg x=>
  cases dst with
  |none=>exact(R.Ag.1 hx).elim
  |some d=>
   simp only[MD]at hx;rw[R.Ai]at hx;obtain⟨⟨v,Γ1⟩,h1,hx⟩:=hx;have h2:=Ajx h h1;simp only[St.Ja,M.Aa];refine M.Ah h2 ?_;rintro⟨s,st1⟩ ⟨k1,k2⟩;exact M.Ab ⟨μ,_,Ed.refl _,Et k2 hx ⟨s,rfl,k1⟩,EJ.refl _ _⟩
 |alloc zero=>
  cases dst with
  |none=>exact(R.Ag.1 hx).elim
  |some d=>
   simp only[MD]at hx;simp only[St.Ja]
   have hz:∀zs:List Value,avs μ st.ver (lnT F Γ) (zs.map L6) (zs.map .lit):=by
    intro zs
    induction zs with
    |nil=>trivial
    |cons z zs ih=>exact⟨Mz z,ih⟩
   grind [M.Ab,Wv]
 |box x=>
  cases dst with
  |none=>exact(R.Ag.1 hx).elim
  |some d=>
   simp only[MD]at hx;rw[R.Ai]at hx;obtain⟨⟨v,Γ1⟩,h1,hx⟩:=hx;obtain⟨hs,h2⟩:=K5 h h1
   have hv:∀f l,v≠.clo f l:=by grind [R.Ag]
   have hx:(AaB F Γ1 d v.cells).ok Γ':=zg
   simp only[St.Ja,M.Aa];refine M.Ah (M.PE h2 (Hj st true x)) ?_;rintro⟨s,st1⟩ ⟨⟨k1,k2⟩,k0⟩;have:=Wv k2 hx (RS hv k1)
   rw[show st1.hp.next=st.hp.next from k0]at this<;>grind [M.Ab]
 |buildSl k zero len parts=>
  cases dst with
  |none=>exact(R.Ag.1 hx).elim
  |some d=>
   cases ty with
   |none=>exact(R.Ag.1 hx).elim
   |some ety=>
    obtain⟨e,tt⟩:=ety;simp only[MD]at hx;split at hx
    case isFalse=>grind [R.Ag]
    rename_i hk;subst hk;rw[R.Ai]at hx;obtain⟨z,h1,hx⟩:=hx;rw[R.Ai]at hx;obtain⟨⟨l,Γ1⟩,h2,hx⟩:=hx;have hz:=AhV (R.Cp.1 h1);simp only[St.Ja,M.Aa];refine M.Ah (Yz h (AbD (e.enc tt) hz len) h2) ?_;rintro⟨xs,st1⟩ ⟨k1,k2⟩;exact M.Ab ⟨μ,_,Ed.set (.val _ _ _ (.one _ _ (.sl _ _ _ _ _ (.inl rfl) k1))),Et k2 hx ⟨_,rfl,_,rfl,rfl⟩,EJ.refl _ _⟩
 |store n a x=>
  simp only[MD]at hx;rw[R.Ai]at hx;obtain⟨⟨v,Γ1⟩,h1,hx⟩:=hx;obtain⟨hs,h2⟩:=K5 h h1
  have hv:∀f l,v≠.clo f l:=by grind [R.Ag]
  have hx:(do
   let c←JJ F Γ1 [] a
   Ut F Γ1 n v.cells c:R TS).ok Γ':=zg
  rw[R.Ai]at hx;obtain⟨c,h3,hx⟩:=hx
  have hss:v.cells.all TC.Bg=true:=by
   cases v<;>grind [TSV.cells,TSV.K2]
  simp only[St.Ja,M.Aa];refine M.Ah (M.PE h2 (Hj st true x)) ?_;rintro⟨s,st1⟩ ⟨⟨k1,k2⟩,k0⟩;have k0:st1.hp.next=st.hp.next:=k0;rw[←k0];have k3:=RS hv k1
  have key:=fun a ha=>AgB k2 hx hss k3 (a:=a) ha
  obtain⟨u,hu1,hu2⟩:=(M.Aw _ _).1 (Di k2 (b:=true) (fun _=>rfl) h3)<;>grind [M.Aa,M.Ah]
 |app k bytes s x=>
  cases dst with
  |none=>exact(R.Ag.1 hx).elim
  |some d=>
   cases ty with
   |none=>exact(R.Ag.1 hx).elim
   |some ety=>
    obtain⟨e,tt⟩:=ety;simp only[MD]at hx;split at hx
    case isFalse=>grind [R.Ag]
    rename_i hk;obtain⟨rfl,hby⟩:=hk;rw[R.Ai]at hx;obtain⟨⟨ys,Γ1⟩,h1,hx⟩:=hx;rw[R.Ai]at hx;obtain⟨⟨v,Γ2⟩,h2,hx⟩:=hx;rw[R.Ai]at hx;obtain⟨xs,h3,hx⟩:=hx;rw[R.Ai]at hx;obtain⟨_,h4,hx⟩:=hx;have h4:(xs.length+ys.length)*bytes≤140737488355328:=R.IW.1 h4;simp only[St.Ja,M.Aa];refine M.Ah (Agj h h1) ?_;rintro⟨ysA,st1⟩ ⟨k1,k2⟩
    refine M.Ah (Aka k2 h2 h3) ?_;rintro⟨xsA,st2⟩ ⟨k3,k4⟩;simp only[M.Ak]
    have e1:ysA.length=ys.length:=by grind [k1.length]
    have e2:xsA.length=xs.length:=by grind [k3.length]
    refine⟨zg,?_,M.Ab ⟨μ,_,Ed.set (.val _ _ _ (.one _ _ (.sl _ _ _ _ _ (.inl rfl) (k3.append k1)))),Et k4 hx ⟨_,rfl,_,rfl,?_⟩,EJ.refl _ _⟩⟩
    ·rw[e1,e2];have:(xs.length+ys.length)*1≤(xs.length+ys.length)*bytes:=Nat.mul_le_mul_left _ hby;omega
    ·simp[TC.av]
 |ext x i=>
  cases x with
  |c v=>exact(R.Ag.1 hx).elim
  |f nm=>exact(R.Ag.1 hx).elim
  |t n=>
   cases dst with
   |none=>exact(R.Ag.1 hx).elim
   |some d=>
    simp only[MD]at hx;split at hx
    case h_2=>grind [R.Ag]
    rename_i l hl;split at hx
    case h_2=>grind [R.Ag]
    rename_i v hv;split at hx
    case isFalse=>grind [R.Ag]
    rename_i hkn;rw[R.Ai]at hx;obtain⟨Γ1,h1,hx⟩:=hx;obtain⟨m,heq,hm⟩:=h.sl n _ hl;obtain⟨s,hs,hsv⟩:=AbO hm hv
    have hsol:v.K2=true∧s.cells.all AV.solid=true∧v.husk.sv μ st.ver (lnT F Γ) s.husk:=by
     cases v with
     |one c=>
      obtain⟨a,rfl,ha⟩:=hsv;obtain⟨q1,q2⟩:=UZ hkn ha;exact⟨q1,by simp[SV.cells,q2],_,rfl,Ahf hkn ha⟩
     |agg l'=>
      obtain⟨a,rfl,ha⟩:=hsv;obtain⟨q1,q2⟩:=JC hkn ha;exact⟨q1,q2,_,rfl,AcY hkn ha⟩
     |clo f l'=>
      obtain⟨a,rfl,ha⟩:=hsv;obtain⟨q1,q2⟩:=JC hkn ha;exact⟨q1,rfl,a,rfl,ha⟩
    have k1:=Et h h1 (y:=.tup (m.set i s.husk)) ⟨_,rfl,AhL hm i hsol.2.2⟩;have k2:=Et k1 hx (y:=.val true s) ⟨s,rfl,Td hsol.1 hsv⟩;simp only[St.Ja,heq,hs,M.Aa,M.Ak];exact⟨hsol.2.1,M.Ab ⟨μ,_,Ed.refl _,k2,EJ.refl _ _⟩⟩
 |panic x=>cases dst<;>cases ty<;>exact(R.Ag.1 hx).elim
 |_=>cases hW
theorem ApG(h:Sim μ F Γ st){dst:Option Nat}{ty:Option (BT×TT)}{k bytes:Nat}{zero:List Value}{l c:Opd}(hx:(MD F Γ dst ty (.mkSl k bytes zero l c)).ok Γ'):
  (st.BL true (.mkSl k bytes zero l c)).holds fun s=>WOk μ st.hp.next F Γ' (st.Lk dst (.val true s)):=by
 cases dst with
 |none=>exact(R.Ag.1 hx).elim
 |some d=>
  cases ty with
  |none=>exact(R.Ag.1 hx).elim
  |some ety=>
   obtain⟨e,tt⟩:=ety;simp only[MD]at hx;split at hx
   case isFalse=>grind [R.Ag]
   rename_i hk;obtain⟨rfl,hby⟩:=hk;rw[R.Ai]at hx;obtain⟨n,h1,hx⟩:=hx;rw[R.Ai]at hx;obtain⟨m,h2,hx⟩:=hx;rw[R.Ai]at hx;obtain⟨z,h3,hx⟩:=hx;rw[R.Ai]at hx;obtain⟨_,h4,hx⟩:=hx;have h4:=R.IW.1 h4;have hz:=AhV (R.Cp.1 h3);simp only[St.BL,M.Aa]
   refine M.Ah (K6 h (b:=true) (fun _=>rfl) h1) fun x0 e0=>?_
   rw[e0];clear e0 x0
   refine M.Ah (K6 h (b:=true) (fun _=>rfl) h2) fun x0 e0=>?_
   rw[e0];clear e0 x0;simp only[M.Ak];refine⟨fun _=>h4,fun _=>?_,trivial,M.Ab ⟨μ,_,Ed.set (.val _ _ _ (.one _ _ (.sl _ _ _ _ _ (.inl rfl) (AbD (e.enc tt) hz n.toNat)))),Et h hx ⟨_,rfl,_,rfl,rfl⟩,EJ.refl _ _⟩⟩
   have hb1:(1:Int)≤bytes:=zm
   have hm0:0≤m:=zm
   have:(1:Int)*m≤bytes*m:=Int.mul_le_mul_of_nonneg_right hb1 hm0;omega
end
theorem Pm(k:Nat):∀(l:List (Nat×Opd)) (xs:List (List AV)) (st:St),(Gi st k xs l).all fun p=>p.2.hp.next=st.hp.next
 |[],xs,st=>M.Cn rfl
 |(i,x)::r,xs,st=>by
  refine M.all_bind (M.D2 (Hj st true x) ?_);rintro⟨s,st1⟩ h1;show M.all (if s.cells.length=k then Gi st1 k (xs.set i s.cells) r else M.fail) _;split
  ·exact M.D2 (Pm k r _ st1) fun p hp=>hp.trans h1
  trivial
theorem Ad9(st:St)(k:Nat)(x:Opd):(st.source k x).all fun p=>p.2.hp.next=st.hp.next:=by
 unfold St.source;split
 ·rfl
 ·split
  ·rfl
  ·rfl
  ·rfl
  ·split
   ·rfl
   trivial
  trivial
 trivial
theorem Ah3(st:St)(k:Nat)(x:Opd):(st.base k x).all fun p=>p.2.hp.next=st.hp.next:=by
 grind [St.base,M.all_bind,M.D2,Hj,M.Fa,M.Cn,M.I6]
theorem Aii(st:St)(dst:Option Nat)(op:AOp):(st.Ja dst op).all fun st'=>st.hp.next≤st'.hp.next:=by
 cases op with
 |asg x=>
  cases dst with
  |none=>trivial
  |some d=>
   refine M.all_bind (M.D2 (Hj st false x) ?_);rintro⟨s,st1⟩ h1;exact M.Cn (Qb6 h1.symm)
 |alloc zero=>
  cases dst with
  |none=>trivial
  |some d=>exact M.Cn (Nat.le_succ _)
 |box x=>
  cases dst with
  |none=>trivial
  |some d=>
   refine M.all_bind (M.D2 (Hj st true x) ?_);rintro⟨s,st1⟩ h1;exact M.Cn (Nat.le_trans (Qb6 h1.symm) (Nat.le_succ _))
 |buildSl k zero len parts=>
  cases dst with
  |none=>trivial
  |some d=>
   refine M.all_bind (M.D2 (Pm k parts _ st) ?_);rintro⟨s,st1⟩ h1;exact M.Cn (Qb6 h1.symm)
 |store n a x=>
  refine M.all_bind (M.D2 (Hj st true x) ?_);rintro⟨s,st1⟩ h1;have h1:st.hp.next≤st1.hp.next:=Qb6 h1.symm;dsimp only;split
  case isFalse=>trivial
  refine M.all_bind (M.all_true _ fun a=>?_);split
  ·split
   ·refine M.all_bind (M.Fa (M.Cn ?_));split
    ·trivial
    trivial
   trivial
  ·split
   ·refine M.all_bind (M.Fa (M.all_bind (M.Fa (M.all_bind (M.Fa (M.all_bind (M.Fa (M.Cn ?_))))))))<;>grind [ZC,X3]
   trivial
  trivial
 |app k bytes s x=>
  cases dst with
  |none=>trivial
  |some d=>
   refine M.all_bind (M.D2 (Ad9 st k x) ?_);rintro⟨ys,st1⟩ h1;refine M.all_bind (M.D2 (Ah3 st1 k s) ?_);rintro⟨xs,st2⟩ h2;exact M.all_bind (M.Fa (M.all_bind (M.Fa (M.Cn (Qb6 (h2.trans h1).symm)))))
 |ext x i=>
  cases dst with
  |none=>cases x<;>exact M.I6
  |some d=>
   cases x with
   |t n=>
    simp only[St.Ja];split
    ·split
     ·exact M.all_bind (M.Fa (M.Cn (Qa3 _)))
     trivial
    trivial
   |_=>trivial
 |_=>exact M.I6
end Go.VS
namespace Go.VS
inductive PT
 |val (agg:Bool) (t:BT) (tt:TT)
 |ptr (t:BT) (tt:TT)
 |clo (f:String×Bool) (n:Nat)
 |cap (t:BT) (tt:TT)
 |fnp (names:List String)
 deriving DecidableEq
def PT.bt:PT→BT
 |.val _ t _=>t
 |.ptr t _=>t
 |.clo _ _=>.unit
 |.cap t _=>t
 |.fnp _=>.int .i64
def PT.tt:PT→TT
 |.val _ _ tt=>tt
 |.ptr _ tt=>tt
 |.clo _ _=>.leaf
 |.cap _ tt=>tt
 |.fnp _=>.leaf
def PT.Hf:PT→Bool
 |.val ..=>false
 |.ptr ..=>true
 |.clo ..=>false
 |.cap ..=>true
 |.fnp _=>false
def PT.MP:PT→Bool
 |.fnp _=>false
 |_=>true
def nameAt(names:List String):List TC→String×Bool
 |.int _ n::_=>(names.getD n.toNat "",true)
 |_=>("",true)
def XR(f:String×Bool):List String→Nat→Option Nat
 |[],_=>none
 |x::l,i=>if f=(x,true)then some i else XR f l (i+1)
def Akn:Nat→Nat→List TC
 |_,0=>[]
 |i,n+1=>.box i 0::Akn (i+1) n
structure Sig where
 ps:List PT
 rs:List PT
 deriving Inhabited,DecidableEq
def tyP:List PT→BT
 |[]=>.unit
 |[p]=>p.bt
 |p::r=>.pair p.bt (tyP r)
def ttP:List PT→TT
 |[]=>.leaf
 |[p]=>p.tt
 |p::r=>.pair p.tt (ttP r)
@[reducible] def DP(l:List PT):Type:=(tyP l).D
def Ar(l:List PT)(x:DP l):List TC:=(tyP l).ex (ttP l) x
def Va(l:List PT)(cs:List TC):Option (DP l):=(tyP l).Sq (ttP l) cs
def ptrs(l:List PT):List PT:=l.filter PT.Hf
def Bn:List PT→Nat→List TC→List TSV
 |[],_,_=>[]
 |.val agg t _::r,i,cs=>mkT agg (cs.take t.size)::Bn r (i+1) (cs.drop t.size)
 |.ptr t _::r,i,cs=>.one (.box i 0)::Bn r (i+1) (cs.drop t.size)
 |.clo f n::r,i,cs=>.clo f (Akn (i+1) n)::Bn r (i+1) cs
 |.cap t _::r,i,cs=>Bn r (i+1) (cs.drop t.size)
 |.fnp names::r,i,cs=>.clo (nameAt names cs) [.box 0 0]::Bn r (i+1) (cs.drop 1)
def Ba:List PT→Nat→List TC→List (Nat×List TC)
 |[],_,_=>[]
 |.val _ t _::r,i,cs=>Ba r (i+1) (cs.drop t.size)
 |.ptr t _::r,i,cs=>(i,cs.take t.size)::Ba r (i+1) (cs.drop t.size)
 |.clo _ _::r,i,cs=>Ba r (i+1) cs
 |.cap t _::r,i,cs=>(i,cs.take t.size)::Ba r (i+1) (cs.drop t.size)
 |.fnp _::r,i,cs=>Ba r (i+1) (cs.drop 1)
def AA:List PT→Nat→List TC→List (Nat×List TC)
 |[],_,_=>[]
 |.val ..::r,i,cs=>AA r (i+1) cs
 |.ptr t _::r,i,cs=>(i,cs.take t.size)::AA r (i+1) (cs.drop t.size)
 |.clo ..::r,i,cs=>AA r (i+1) cs
 |.cap t _::r,i,cs=>(i,cs.take t.size)::AA r (i+1) (cs.drop t.size)
 |.fnp _::r,i,cs=>AA r (i+1) cs
def dv:Root→Nat:=fun _=>0
def dl:Place→Option Nat:=fun _=>none
structure Aav(μ:Nat→Nat)(B:List (Nat×List TC))(H:Heap):Prop where
 get:∀b l,look B b=some l→∃m,H.get (μ b)=some m∧avs μ dv dl l m∧μ b<H.next
 inj:∀b b' l l',look B b=some l→look B b'=some l'→μ b=μ b'→b=b'
 only:∀o m,H.get o=some m→∃b l,look B b=some l∧μ b=o
structure Wa(S:Sig)(μ:Nat→Nat)(H:Heap)(d:DP S.rs)(d':DP (ptrs S.ps))(r:TV)(H':Heap):Prop where
 res:∃μ' ss ss',(∀i,i<rbase→μ' i=μ i)∧r=gather ss∧FA ss ss'∧svs μ' dv dl (Bn S.rs rbase (Ar S.rs d)) ss'∧
  (∀b l,look (AA S.ps 0 (Ar (ptrs S.ps) d')++Ba S.rs rbase (Ar S.rs d)) b=some l→∃m m',H'.get (μ' b)=some m∧CoL m m'∧avs μ' dv dl l m'∧μ' b<H'.next)∧
  (∀b,rbase≤b→H.next≤μ' b)∧H.next≤H'.next
def Fn(P:Pg)(nm:String)(S:Sig)(x:DP S.ps)(K:DP S.rs→DP (ptrs S.ps)→Prop):Prop:=
 ∀(μ:Nat→Nat) (H:Heap) (as:List SV),svs μ dv dl (Bn S.ps 0 (Ar S.ps x)) as→Aav μ (Ba S.ps 0 (Ar S.ps x)) H→
  Ll P nm as H fun r H'=>∃d d',Wa S μ H d d' r H'∧K d d'
theorem Fn.mono{P:Pg}{nm:String}{S:Sig}{x:DP S.ps}{K K':DP S.rs→DP (ptrs S.ps)→Prop}(h:Fn P nm S x K)(hk:∀d d',K d d'→K' d d'):Fn P nm S x K':=
 fun μ H as h1 h2=>(h μ H as h1 h2).mono fun _ _ ⟨d,d',h3,h4⟩=>⟨d,d',h3,hk d d' h4⟩
def TT.lend:TT→TT
 |.leaf=>.leaf
 |.node .own e=>.node .brw e.lend
 |.node τ e=>.node τ e
 |.pair a b=>.pair a.lend b.lend
def TT.frz:TT→TT
 |.leaf=>.leaf
 |.node .own e=>.node .imm e.frz
 |.node τ e=>.node τ e
 |.pair a b=>.pair a.frz b.frz
section
variable(F Γ:TS)
def Apc(w:Option (Nat×Nat))(k:Nat):TC→R TC
 |.sl .own tt e l=>if e.size=k then(match w with
   |none=>pure (.sl .brw tt.lend e l)
   |some (lo,n)=>(do
    R.need (lo+n≤l.length)
    pure (.sl .brw tt.lend e ((l.drop lo).take n))))
  else R.fail
 |_=>R.fail
def AmF(imp:Bool):TC→R TC
 |.ref p _ e w=>if(imp&&SG p)=false then(do
   let d←atR F Γ p
   Apc w e.size d)
  else R.fail
 |.sl .own tt e l=>pure (.sl .imm tt.frz e l)
 |.adr ..=>R.fail
 |.iadr ..=>R.fail
 |.iadrd ..=>R.fail
 |.dead=>R.fail
 |c=>pure c
def AgW(imp:Bool):List TC→R (List TC)
 |[]=>pure []
 |c::l=>do
  let d←AmF F Γ imp c
  let m←AgW imp l
  pure (d::m)
def AmG(imp:Bool):TSV→R TSV
 |.one c=>do
  let d←AmF F Γ imp c
  pure (.one d)
 |.agg l=>do
  let m←AgW F Γ imp l
  pure (.agg m)
 |.clo f l=>pure (.clo f l)
def Apd(imp:Bool)(g:Gd):Opd→R TSV
 |.c v=>pure (.one (L6 v))
 |.f nm=>pure (.clo (nm,false) [])
 |.t n=>match TS.slot F Γ n with
  |some (.val gd v)=>bif gsub gd g then AmG F Γ imp v else R.fail
  |_=>R.fail
def Ab6(imp:Bool)(g:Gd):List Opd→R (List TSV)
 |[]=>pure []
 |x::r=>do
  let a←Apd F Γ imp g x
  let l←Ab6 imp g r
  pure (a::l)
def Nn(imp:Bool)(g:Gd):AOp→R (String×List TSV)
 |.call f xs=>do
  let a←Ab6 F Γ imp g xs
  pure (f,a)
 |.callv f xs=>do
  let v←Rm F Γ g f
  match v with
  |.clo nm caps=>do
   let a←Ab6 F Γ imp g xs
   if caps.all TC.known then pure (nm.1,bif nm.2 then caps.map .one++a else a++caps.map .one)else R.fail
  |_=>R.fail
 |_=>R.fail
def BQ:List PT→Nat→List TSV→List TC→Option (List TC×List (Nat×Nat))
 |[],_,[],[]=>some ([],[])
 |.val agg t _::ps,i,v::vs,[]=>match v,agg,BQ ps (i+1) vs []with
  |.one c,false,some (cs,bs)=>if t.size=1 then some (c::cs,bs)else none
  |.agg l,true,some (cs,bs)=>if l.length=t.size then some (l++cs,bs)else none
  |_,_,_=>none
 |.ptr t _::ps,i,.one (.box b 0)::vs,[]=>match look Γ.bx b,BQ ps (i+1) vs []with
  |some l,some (cs,bs)=>if bs.any (fun p=>Qa5 p.2 b)=false∧l.length=t.size then some (l++cs,(i,b)::bs)else none
  |_,_=>none
 |.clo f n::ps,i,.clo f' caps::vs,[]=>if f'=f∧caps.length=n then BQ ps (i+1) vs caps else none
 |.cap t _::ps,i,vs,.box b 0::pend=>match look Γ.bx b,BQ ps (i+1) vs pend with
  |some l,some (cs,bs)=>if bs.any (fun p=>Qa5 p.2 b)=false∧l.length=t.size then some (l++cs,(i,b)::bs)else none
  |_,_=>none
 |.fnp names::ps,i,.clo f [.box 0 0]::vs,[]=>match XR f names 0,BQ ps (i+1) vs []with
  |some k,some (cs,bs)=>some (.int .i64 k::cs,bs)
  |_,_=>none
 |_,_,_,_=>none
def AmX(Γ:TS):Opd→R TS
 |.t n=>match TS.slot F Γ n with
  |some (.val _ v)=>bif v.cells.any ownish then Ie F Γ n .gone else pure Γ
  |_=>Ie F Γ n .gone
 |_=>pure Γ
def Xk(Γ:TS):List Opd→R TS
 |[]=>pure Γ
 |x::r=>do
  let Γ1←AmX F Γ x
  Xk Γ1 r
end
def H3(bs:List (Nat×Nat)):List (Nat×List TC)→List (Nat×List TC)
 |[]=>[]
 |(i,l)::r=>match look bs i with
  |some b=>(b,l)::H3 bs r
  |none=>H3 bs r
def AdY(bs:List (Nat×Nat)):TSV→TSV
 |.clo f _=>match look bs 0 with
  |some b=>.clo f [.box b 0]
  |none=>.one .dead
 |v=>v
def VK(g:Gd):List TSV→TX
 |[v]=>.val g v
 |l=>.tup l
def CP(imp:Bool)(dst:Option Nat)(rp:Bool)(p:Place):Bool:=(imp&&SG p)||(match dst with|some d=>E3 d p||(rp&&Adq (d+rbase) p)|none=>false)
def Sig.imp(S:Sig):Bool:=S.ps.any PT.Hf||S.rs.any PT.Hf
def WC(F Γ1:TS)(S:Sig)(g:Gd)(dst:Option Nat)(bs:List (Nat×Nat))(d:DP S.rs)(d':DP (ptrs S.ps)):Option TS:=
 match dst with
 |none=>bif S.rs.any PT.Hf then none else TS.upd F Γ1 (CP S.imp none false) (CP S.imp none false) CR [] (H3 bs (AA S.ps 0 (Ar (ptrs S.ps) d')))
 |some t=>
  bif S.rs.any PT.Hf then
   (match g,S.rs with
   |[],[.ptr _ _]=>bif (look (H3 bs (AA S.ps 0 (Ar (ptrs S.ps) d'))) (t+rbase)).isSome then none else
     TS.upd F Γ1 (CP S.imp (some t) true) (CP S.imp (some t) true) (fun b=>Qa5 b (t+rbase)) [(t,.val [] (.one (.box (t+rbase) 0)))] (H3 bs (AA S.ps 0 (Ar (ptrs S.ps) d'))++[(t+rbase,Ar S.rs d)])
   |_,_=>none)
  else bif (VK g ((Bn S.rs rbase (Ar S.rs d)).map (AdY bs))).guards t then none
  else TS.upd F Γ1 (CP S.imp (some t) false) (CP S.imp (some t) false) CR [(t,VK g ((Bn S.rs rbase (Ar S.rs d)).map (AdY bs)))] (H3 bs (AA S.ps 0 (Ar (ptrs S.ps) d')))
end Go.VS
namespace Go.VS
section
variable{μ μ':Nat→Nat}{ver:Root→Nat}{ln:Place→Option Nat}{F Γ Γ':TS}{st:St}
theorem Ys:∀{l m:List TSV} {a b:List SV},svs μ ver ln l a→svs μ ver ln m b→svs μ ver ln (l++m) (a++b)
 |[],_,[],_,_,h=>h
 |x::l,m,y::a,b,h,k=>⟨h.1,Ys h.2 k⟩
 |[],_,_::_,_,h,_=>h.elim
 |_::_,_,[],_,h,_=>h.elim
theorem Ss:∀(t:BT) (tt:TT) (x:t.D),(t.enc tt x).map AV.lend=t.enc tt.lend x
 |.int _,_,_=>rfl
 |.bool,_,_=>rfl
 |.str,_,_=>rfl
 |.unit,_,_=>rfl
 |.sl e,tt,l=>by
  cases tt with
  |leaf=>rfl
  |node τ a=>
   cases τ with
   |own=>
    simp only[BT.enc,TT.tag,TT.elt,TT.lend,Qb8,List.map_nil,AV.lend,PG,List.map_map]
    congr 2
    refine List.map_congr_left fun x _=>?_
    exact Ss e a x
   |_=>rfl
  |pair a b=>rfl
 |.pair a b,tt,x=>by
  have h1:tt.lend.fst=tt.fst.lend∧tt.lend.snd=tt.snd.lend:=by
   cases tt with
   |leaf=>trivial
   |node τ a=>cases τ<;>exact⟨rfl,rfl⟩
   |pair a b=>trivial
  simp only[BT.enc,List.map_append,Ss a,Ss b,h1.1,h1.2]
theorem V0:∀(t:BT) (tt:TT) (x:t.D),(t.enc tt x).map AV.frz=t.enc tt.frz x
 |.int _,_,_=>rfl
 |.bool,_,_=>rfl
 |.str,_,_=>rfl
 |.unit,_,_=>rfl
 |.sl e,tt,l=>by
  cases tt with
  |leaf=>rfl
  |node τ a=>
   cases τ with
   |own=>
    simp only[BT.enc,TT.tag,TT.elt,TT.frz,Qb8,List.map_nil,AV.frz,R9,List.map_map]
    congr 2
    refine List.map_congr_left fun x _=>?_
    exact V0 e a x
   |_=>rfl
  |pair a b=>rfl
 |.pair a b,tt,x=>by
  have h1:tt.frz.fst=tt.fst.frz∧tt.frz.snd=tt.snd.frz:=by
   cases tt with
   |leaf=>trivial
   |node τ a=>cases τ<;>exact⟨rfl,rfl⟩
   |pair a b=>trivial
  simp only[BT.enc,List.map_append,V0 a,V0 b,h1.1,h1.2]
theorem XG(e:BT)(tt:TT)(l:List e.D):KL (l.map (e.enc tt))=l.map (e.enc tt.lend):=by
 simp_all [PG,Ss]
theorem ZP(e:BT)(tt:TT)(l:List e.D):OR (l.map (e.enc tt))=l.map (e.enc tt.frz):=by
 simp_all [R9,V0]
variable{V:Vis}{imp:Bool}
theorem Ab4(h:Sim μ F Γ st)(hV:imp=false→V=none){c d:TC}{a:AV}(hx:(AmF F Γ imp c).ok d)(ha:c.av μ st.ver (lnT F Γ) a):
  d.Bg=true∧(st.Fz V a).holds fun b=>d.av μ st.ver (lnT F Γ) b:=by
 cases c with
 |ref p tt0 e w=>
  simp only[AmF]at hx;split at hx
  case isFalse=>grind [R.Ag]
  rename_i hi;rw[R.Ai]at hx;obtain⟨d0,h1,hx⟩:=hx
  have hhid:(p.mu μ).root.hid V=true:=by
   cases hr:p.root<;>grind [Place.mu,Root.mu,Root.hid,SG,Iz,Vis.sees]
  cases d0 with
  |sl τ tt e2 l=>
   cases τ with
   |own=>
    obtain⟨q1,q2⟩:=LO h h1
    cases w with
    |none=>
     have ha:a=_:=Pc ha q2;subst ha;simp only[Apc]at hx;split at hx
     case isFalse=>grind [R.Ag]
     rename_i hk;have:=R.Aj.1 hx;subst this;refine⟨rfl,?_⟩;simp only[St.Fz,q1,M.Aa,M.Ak,hhid];refine⟨trivial,trivial,hk,zsz,M.Ab ?_⟩;rw[YL,XG,←hk];rfl
    |some y=>
     obtain⟨lo,n⟩:=y;have ha:a=_:=ha;subst ha;simp only[Apc]at hx;split at hx
     case isFalse=>grind [R.Ag]
     rename_i hk;rw[R.Ai]at hx;obtain⟨_,h2,hx⟩:=hx;have h2:=R.IW.1 h2;have:=R.Aj.1 hx;subst this;refine⟨rfl,?_⟩;simp only[St.Fz,q1,M.Aa,M.Ak,hhid];refine⟨trivial,trivial,hk,zg,M.Ab ?_⟩;rw[Vg,XG,←hk];rfl
   |_=>exact(R.Ag.1 hx).elim
  |_=>exact(R.Ag.1 hx).elim
 |sl τ tt e l=>
  have ha:a=_:=ha;subst ha
  cases τ with
  |own=>
   have:=R.Aj.1 hx;subst this;refine⟨rfl,?_⟩;simp only[St.Fz];refine M.Ab ?_;rw[ZP];rfl
  |imm=>have:=R.Aj.1 hx;subst this;trivial
  |brw=>have:=R.Aj.1 hx;subst this;trivial
 |adr=>exact(R.Ag.1 hx).elim
 |iadr=>exact(R.Ag.1 hx).elim
 |iadrd=>exact(R.Ag.1 hx).elim
 |dead=>exact(R.Ag.1 hx).elim
 |_=>
  have ha:a=_:=ha;subst ha;have:=R.Aj.1 hx;subst this;exact⟨rfl,M.Ab rfl⟩
theorem Zx(h:Sim μ F Γ st)(hV:imp=false→V=none):∀{l m:List TC} {as:List AV},(AgW F Γ imp l).ok m→avs μ st.ver (lnT F Γ) l as→
  m.all TC.Bg=true∧(st.HN V as).holds fun bs=>avs μ st.ver (lnT F Γ) m bs
 |[],m,[],hx,_=>by
  have:=R.Aj.1 hx;subst this;trivial
 |c::l,m,a::as,hx,ha=>by
  simp only[AgW]at hx;rw[R.Ai]at hx;obtain⟨d,h1,hx⟩:=hx;rw[R.Ai]at hx;obtain⟨m',h2,hx⟩:=hx;have:=R.Aj.1 hx;subst this;obtain⟨s1,k1⟩:=Ab4 h hV h1 ha.1;obtain⟨s2,k2⟩:=Zx h hV h2 ha.2;refine⟨zg,?_⟩;simp only[St.HN,M.Aa]
  refine M.Ah k1 fun b hb=>M.Ah k2 fun bs hbs=>M.Ab ⟨hb,hbs⟩
 |[],_,_::_,_,h=>h.elim
 |_::_,_,[],_,h=>h.elim
theorem AjY(h:Sim μ F Γ st)(hV:imp=false→V=none){g:Gd}(hg:gv F Γ g=true){x:Opd}{v:TSV}(hx:(Apd F Γ imp g x).ok v):(st.arg V true x).holds fun s=>v.sv μ st.ver (lnT F Γ) s:=by
 cases x with
 |c u=>
  have:=R.Aj.1 hx;subst this;exact M.Ab ⟨_,rfl,Mz u⟩
 |f nm=>
  have:=R.Aj.1 hx;subst this;exact M.Ab ⟨[],rfl,trivial⟩
 |t n=>
  simp only[Apd]at hx;split at hx
  case h_2=>grind [R.Ag]
  rename_i gd v0 hs
  cases hsub:gsub gd g with
  |false=>grind [R.Ag]
  |true=>
   rw[hsub]at hx;have hx:(AmG F Γ imp v0).ok v:=hx;obtain⟨s,heq,hv⟩:=h.sl n _ hs;simp only[St.arg,heq,M.Aa,M.Ak];refine⟨fun _=>ZV hsub hg,?_⟩
   cases v0 with
   |one c=>
    obtain⟨a,rfl,ha⟩:=hv;simp only[AmG]at hx;rw[R.Ai]at hx;obtain⟨d,h1,hx⟩:=hx;have:=R.Aj.1 hx;subst this;obtain⟨s1,k1⟩:=Ab4 h hV h1 ha;simp only[SV.cells,St.HN,M.Aa]
    refine M.Ah k1 fun b hb=>M.Ab (M.Ab (M.Ab ⟨b,rfl,hb⟩))
   |agg l=>
    obtain⟨a,rfl,ha⟩:=hv;simp only[AmG]at hx;rw[R.Ai]at hx;obtain⟨d,h1,hx⟩:=hx;have:=R.Aj.1 hx;subst this;obtain⟨s1,k1⟩:=Zx h hV h1 ha
    refine M.Ah k1 fun b hb=>M.Ab ⟨b,rfl,hb⟩
   |clo f l=>
    obtain⟨a,rfl,ha⟩:=hv;have:=R.Aj.1 hx;subst this;simp only[SV.cells,St.HN,St.Fz,M.Aa];exact M.Ab (M.Ab (M.Ab (M.Ab ⟨a,rfl,ha⟩)))
theorem TD(h:Sim μ F Γ st)(hV:imp=false→V=none){g:Gd}(hg:gv F Γ g=true):∀{xs:List Opd} {vs:List TSV},(Ab6 F Γ imp g xs).ok vs→(st.args V true xs).holds fun as=>svs μ st.ver (lnT F Γ) vs as
 |[],vs,hx=>by
  have:=R.Aj.1 hx;subst this;trivial
 |x::xs,vs,hx=>by
  simp only[Ab6]at hx;rw[R.Ai]at hx;obtain⟨d,h1,hx⟩:=hx;rw[R.Ai]at hx;obtain⟨m',h2,hx⟩:=hx;have:=R.Aj.1 hx;subst this;simp only[St.args,M.Aa]
  refine M.Ah (AjY h hV hg h1) fun s hs=>M.Ah (TD h hV hg h2) fun as has=>M.Ab ⟨hs,has⟩
theorem Aci:∀{l:List TC} {k:List AV},avs μ ver ln l k→svs μ ver ln (l.map TSV.one) (k.map SV.one)
 |[],[],_=>trivial
 |c::l,a::k,h=>⟨⟨a,rfl,h.1⟩,Aci h.2⟩
 |[],_::_,h=>h.elim
 |_::_,[],h=>h.elim
theorem QN(h:Sim μ F Γ st)(hV:imp=false→V=none){g:Gd}(hg:gv F Γ g=true){op:AOp}{nm:String}{vs:List TSV}(hx:(Nn F Γ imp g op).ok (nm,vs)):
  (st.callee V op).holds fun(nm',as)=>nm'=nm∧svs μ st.ver (lnT F Γ) vs as:=by
 cases op with
 |call f xs=>
  simp only[Nn]at hx;rw[R.Ai]at hx;obtain⟨a,h1,hx⟩:=hx;have:=R.Aj.1 hx;cases this;simp only[St.callee,M.Aa]
  exact M.Ah (TD h hV hg h1) fun as has=>M.Ab ⟨rfl,has⟩
 |callv f xs=>
  simp only[Nn]at hx;rw[R.Ai]at hx;obtain⟨v,h1,hx⟩:=hx
  cases v with
  |clo nm' caps=>
   dsimp only at hx;rw[R.Ai]at hx;obtain⟨a,h2,hx⟩:=hx;split at hx
   case isFalse=>grind [R.Ag]
   rename_i hk;have:=R.Aj.1 hx;cases this;simp only[St.callee,St.CJ,M.Aa];refine M.Ah (Gj h (b:=true) (fun _=>hg) h1) ?_;rintro _ ⟨k,rfl,ha⟩;refine M.Ab ?_;simp only[M.Aa,M.Ak]
   refine⟨(JC hk ha).2,M.Ah (TD h hV hg h2) fun as has=>M.Ab ⟨rfl,?_⟩⟩<;>grind [Ys,Aci]
  |_=>grind [R.Ag]
 |_=>exact(R.Ag.1 hx).elim
theorem CoL.split:∀{l1 l2 m:List AV},CoL (l1++l2) m→CoL l1 (m.take l1.length)∧CoL l2 (m.drop l1.length)
 |[],l2,m,h=>⟨.nil,zg⟩
 |a::l1,l2,_,.cons _ b _ m h t=>by
  obtain⟨h1,h2⟩:=CoL.split t;exact⟨.cons _ _ _ _ h zg,zg⟩
theorem FA.refl:∀l,FA l l
 |[]=>.nil
 |a::l=>.cons a a l l (CoS.refl a) (FA.refl l)
theorem XL{names:List String}{ps:List PT}{i:Nat}{vs:List TSV}{pend cs:List TC}{bs:List (Nat×Nat)}(h:BQ Γ (.fnp names::ps) i vs pend=some (cs,bs)):
  ∃f vs' k cs',vs=.clo f [.box 0 0]::vs'∧pend=[]∧XR f names 0=some k∧BQ Γ ps (i+1) vs' []=some (cs',bs)∧cs=.int .i64 (k:Nat)::cs':=by
 cases vs with
 |nil=>trivial
 |cons v vs=>
  cases pend with
  |cons=>simp_all [BQ]
  |nil=>
   cases v with
   |clo f l=>
    cases l with
    |nil=>trivial
    |cons c l=>
     cases l with
     |cons=>simp[BQ]at h
     |nil=>
      cases c with
      |box b c0=>
       cases b with
       |succ=>trivial
       |zero=>
        cases c0 with
        |succ=>trivial
        |zero=>
         simp only[BQ]at h<;>grind
      |_=>simp[BQ]at h
   |_=>trivial
theorem U2{f:String×Bool}:∀{l:List String} {i k:Nat},XR f l i=some k→∃j,k=i+j∧f=(l.getD j "",true)
 |[],_,_,h=>nomatch h
 |x::l,i,k,h=>by
  rw[XR]at h;split at h
  ·simp_all
  ·obtain⟨j,h1,h2⟩:=U2 h;exact⟨j+1,zm,zg⟩
theorem O0:∀{ps:List PT} {i:Nat} {vs:List TSV} {pend:List TC} {cs:List TC} {bs:List (Nat×Nat)},BQ Γ ps i vs pend=some (cs,bs)→∀j b,look bs j=some b→i≤j:=by
 have box:∀{i b0:Nat} {bs:List (Nat×Nat)},(∀j b,look bs j=some b→i+1≤j)→∀j b,look ((i,b0)::bs) j=some b→i≤j:=by
  grind [Aq]
 intro ps
 induction ps with
 |nil=>
  intro i vs pend cs bs h j b hj
  cases vs with
  |cons=>trivial
  |nil=>
   cases pend with
   |cons=>trivial
   |nil=>
    simp only[BQ,Qb1,Prod.mk.injEq]at h;obtain⟨_,rfl⟩:=h;cases hj
 |cons p ps ih=>
  intro i vs pend cs bs h j b hj
  cases p with
  |val agg t tt=>
   cases vs with
   |nil=>trivial
   |cons v vs=>
    cases pend with
    |cons=>trivial
    |nil=>
     simp only[BQ]at h<;>grind
  |ptr t tt=>
   cases vs with
   |nil=>trivial
   |cons v vs=>
    cases pend with
    |cons=>simp[BQ]at h
    |nil=>
     cases v with
     |one c=>
      cases c with
      |box b0 c0=>
       cases c0 with
       |zero=>
        simp only[BQ]at h<;>grind
       |succ=>trivial
      |_=>simp[BQ]at h
     |_=>trivial
  |clo f n=>
   cases vs with
   |nil=>trivial
   |cons v vs=>
    cases pend with
    |cons=>simp_all [BQ]
    |nil=>
     cases v with
     |clo f' caps=>
      simp only[BQ]at h<;>grind
     |_=>trivial
  |fnp names=>
   grind [XL]
  |cap t tt=>
   cases pend with
   |nil=>trivial
   |cons c pend=>
    cases c with
    |box b0 c0=>
     cases c0 with
     |zero=>
      simp only[BQ]at h<;>grind
     |succ=>trivial
    |_=>simp[BQ]at h
def TC.exT:TC→Bool
 |.int ..=>true
 |.bool _=>true
 |.str _=>true
 |.sl ..=>true
 |_=>false
theorem TO:∀(t:BT) (tt:TT) (x:t.D),(t.ex tt x).all TC.exT=true
 |.int _,_,_=>rfl
 |.bool,_,_=>rfl
 |.str,_,_=>rfl
 |.unit,_,_=>rfl
 |.sl _,_,_=>rfl
 |.pair a b,tt,x=>by simp only[BT.ex,List.all_append,TO a,TO b,Qc2]
theorem Acr{C:List TC}(h:C.all TC.exT=true)(n:Nat):(C.drop n).all TC.exT=true:=by
 grind
def Matched(μ μ':Nat→Nat)(F Γ:TS)(st:St)(ps:List PT)(i:Nat)(pend cs:List TC)(bs:List (Nat×Nat))(as:List SV)(pk:List AV):Prop:=
 (∃A,avs μ st.ver (lnT F Γ) cs A∧∀C E,CoL A E→avs μ' dv dl C E→C.all TC.exT=true→
   (∃as',svs μ' dv dl (Bn ps i C) as'∧FA as as')∧
   (∀j l,look (Ba ps i C) j=some l→∃b m m',look bs j=some b∧(look Γ.bx b).isSome=true∧st.hp.get (μ b)=some m∧CoL m m'∧avs μ' dv dl l m'∧μ b<st.hp.next)∧
   (∀j b,look bs j=some b→∃l,look (Ba ps i C) j=some l))∧
  (∀j b,look bs j=some b→i≤j∧(look Γ.bx b).isSome=true)∧(∀j j' b,look bs j=some b→look bs j'=some b→j=j')∧avs μ' dv dl (Akn i pend.length) pk
theorem Z3(h:Sim μ F Γ st){ps:List PT}{i b:Nat}{t:BT}{l cs' pend':List TC}{bs':List (Nat×Nat)}{as:List SV}{pk':List AV}(hl:look Γ.bx b=some l)(hsz:bs'.any (fun p=>Qa5 p.2 b)=false∧l.length=t.size)(hib:μ' i=μ b)
  (hkey:∀j b,look bs' j=some b→i+1≤j) (hM:Matched μ μ' F Γ st ps (i+1) pend' cs' bs' as pk'):
  (∃A,avs μ st.ver (lnT F Γ) (l++cs') A∧∀C E,CoL A E→avs μ' dv dl C E→C.all TC.exT=true→
   (∃as',svs μ' dv dl (Bn ps (i+1) (C.drop t.size)) as'∧FA as as')∧
   (∀j l',look ((i,C.take t.size)::Ba ps (i+1) (C.drop t.size)) j=some l'→∃b0 m m',look ((i,b)::bs') j=some b0∧(look Γ.bx b0).isSome=true∧st.hp.get (μ b0)=some m∧CoL m m'∧avs μ' dv dl l' m'∧μ b0<st.hp.next)∧
   (∀j b0,look ((i,b)::bs') j=some b0→∃l',look ((i,C.take t.size)::Ba ps (i+1) (C.drop t.size)) j=some l'))∧
  (∀j b0,look ((i,b)::bs') j=some b0→i≤j∧(look Γ.bx b0).isSome=true)∧(∀j j' b0,look ((i,b)::bs') j=some b0→look ((i,b)::bs') j'=some b0→j=j'):=by
 obtain⟨⟨A,hA,hrest⟩,hb1,hb2,_⟩:=hM
 have hbox:TS.box F Γ b=some l:=by simp[TS.box,hl]
 obtain⟨k,q1,q2,q3,q4⟩:=h.bx b l hbox
 have hkl:k.length=t.size:=by grind [Cd]
 refine⟨⟨k++A,FR q2 hA,?_⟩,?_,?_⟩
 ·intro C E hco hav hex;obtain⟨c1,c2⟩:=CoL.split hco;rw[hkl]at c1 c2
  obtain⟨r1,r3,r4⟩:=hrest (C.drop t.size) (E.drop t.size) c2 (Kk hav _) (Acr hex _)<;>grind [Aq,Kl]
 ·grind [Aq]
 ·have hnot:∀j,look bs' j≠some b:=by
   intro j hj;have:=List.any_eq_false.1 hsz.1 (j,b) (Fc hj);simp at this
  grind [Aq]
theorem AfG(h:Sim μ F Γ st):∀{ps:List PT} {i:Nat} {vs:List TSV} {pend cs:List TC} {bs:List (Nat×Nat)} {as:List SV} {pk:List AV},svs μ st.ver (lnT F Γ) vs as→avs μ st.ver (lnT F Γ) pend pk→BQ Γ ps i vs pend=some (cs,bs)→(∀j b,look bs j=some b→μ' j=μ b)→(ps.all PT.MP=true∨μ' 0=μ 0)→
  Matched μ μ' F Γ st ps i pend cs bs as pk:=by
 intro ps
 induction ps with
 |nil=>
  intro i vs pend cs bs as pk hv hp hm hμ h0
  cases vs with
  |cons=>trivial
  |nil=>
   cases pend with
   |cons=>trivial
   |nil=>
    cases as with
    |cons=>trivial
    |nil=>
     cases pk with
     |cons=>trivial
     |nil=>
      simp only[BQ,Qb1,Prod.mk.injEq]at hm;obtain⟨rfl,rfl⟩:=hm;exact⟨⟨[],trivial,fun C E _ _ _=>⟨⟨[],trivial,.nil⟩,(fun _ _ h=>nomatch h),(fun _ _ h=>nomatch h)⟩⟩,(fun _ _ h=>nomatch h),(fun _ _ _ h=>nomatch h),trivial⟩
 |cons p ps ih=>
  intro i vs pend cs bs as pk hv hp hm hμ h0;have h0':ps.all PT.MP=true∨μ' 0=μ 0:=h0.imp (fun h=>zg) id
  cases p with
  |fnp names=>
   obtain⟨f,vs',k,cs',rfl,rfl,h1,h2,rfl⟩:=XL hm;have hz:μ' 0=μ 0:=h0.resolve_left (by simp[PT.MP])
   cases as with
   |nil=>trivial
   |cons s as=>
   cases pk with
   |cons=>trivial
   |nil=>
   obtain⟨m,rfl,ha⟩:=hv.1;obtain⟨⟨A,hA,hrest⟩,k2,k3,_⟩:=ih hv.2 (pend:=[]) (pk:=[]) trivial h2 hμ h0';obtain⟨j,e1,e2⟩:=U2 h1;rw[Nat.zero_add]at e1;subst e1
   match m,ha with
   |[a],ha=>
    have ha:a=_:=ha.1;subst ha;refine⟨⟨.lit (.int .i64 ((k:Nat):Int))::A,⟨rfl,hA⟩,fun C E hco hav hex=>?_⟩,fun j b hj=>⟨zg,(k2 j b hj).2⟩,k3,trivial⟩
    cases hco with
    |cons _ b _ E' hab hrest2=>
     have hb:b=.lit (.int .i64 ((k:Nat):Int)):=by cases hab;rfl
     subst hb
     cases C with
     |nil=>trivial
     |cons c C=>
      simp only[Qa6,Qa0]at hex;obtain⟨⟨as',r1,r2⟩,r3,r4⟩:=hrest C E' hrest2 hav.2 hex.2;refine⟨⟨.one (.clo f [.ptr (μ 0) 0])::as',⟨?_,r1⟩,.cons _ _ _ _ (CoS.refl _) r2⟩,r3,r4⟩;have hc:c.av μ' dv dl (.lit (.int .i64 ((k:Nat):Int))):=hav.1;have hex1:=hex.1
      cases c with
      |int k' n=>
       have hc:(AV.lit (.int .i64 ((k:Nat):Int)))=.lit (.int k' n):=hc;cases hc;exact⟨[.ptr (μ 0) 0],by rw[e2];rfl,by simp[TC.av,hz],trivial⟩
      |bool b=>cases hc
      |str b=>cases hc
      |sl τ tt e l=>cases hc
      |_=>cases hex1
   |[],ha=>trivial
   |_::_::_,ha=>exact ha.2.elim
  |val agg t tt=>
   cases vs with
   |nil=>trivial
   |cons v vs=>
   cases pend with
   |cons=>trivial
   |nil=>
   cases as with
   |nil=>trivial
   |cons s as=>
   cases pk with
   |cons=>trivial
   |nil=>
   have fin:∀(l:List TC) (k:List AV) (cs':List TC) (bs':List (Nat×Nat)),BQ Γ ps (i+1) vs []=some (cs',bs')→cs=l++cs'→bs=bs'→avs μ st.ver (lnT F Γ) l k→l.length=t.size→(∀m n,CoL k n→avs μ' dv dl m n→m.length=t.size→∃s',(mkT agg m).sv μ' dv dl s'∧CoS s s')→
     Matched μ μ' F Γ st (.val agg t tt::ps) i [] cs bs (s::as) []:=by
    rintro l k cs' bs' hm' rfl rfl hl hlen hmk;obtain⟨⟨A,hA,hrest⟩,hb1,hb2,_⟩:=ih hv.2 (pend:=[]) (pk:=[]) trivial hm' hμ h0'
    have hkl:k.length=t.size:=by grind [Cd]
    refine⟨⟨k++A,FR hl hA,?_⟩,fun j b hj=>⟨zg,(hb1 j b hj).2⟩,hb2,trivial⟩;intro C E hco hav hex;obtain⟨c1,c2⟩:=CoL.split hco;rw[hkl]at c1 c2;obtain⟨⟨as',r1,r2⟩,r3,r4⟩:=hrest (C.drop t.size) (E.drop t.size) c2 (Kk hav _) (Acr hex _)
    obtain⟨s',q1,q2⟩:=hmk (C.take t.size) (E.take t.size) c1 (Kl hav _) (by
     grind [Cd,hco.length])
    exact⟨⟨s'::as',⟨q1,r1⟩,.cons _ _ _ _ q2 r2⟩,r3,r4⟩
   simp only[BQ]at hm;split at hm
   ·rename_i c cs' bs' hm';split at hm
    case isFalse=>cases hm
    rename_i hsz;simp only[Qb1,Prod.mk.injEq]at hm;obtain⟨rfl,rfl⟩:=hm;obtain⟨a,rfl,ha⟩:=hv.1;refine fin [c] [a] cs' _ hm' rfl rfl ⟨ha,trivial⟩ zg ?_;intro m n hmn hav hml
    cases hmn with
    |cons _ b _ n' hab hnil=>
     cases hnil
     match m,hav with
     |[c'],hav=>exact⟨.one b,⟨b,rfl,hav.1⟩,.one _ _ hab⟩
     |[],hav=>grind
     |_::_::_,hav=>grind
   ·rename_i l cs' bs' hm';split at hm
    case isFalse=>cases hm
    rename_i hsz;simp only[Qb1,Prod.mk.injEq]at hm;obtain⟨rfl,rfl⟩:=hm;obtain⟨k,rfl,ha⟩:=hv.1;refine fin l k cs' _ hm' rfl rfl ha hsz ?_;intro m n hmn hav hml;exact⟨.agg n,⟨n,rfl,hav⟩,.agg _ _ hmn⟩
   grind
  |ptr t tt=>
   cases vs with
   |nil=>trivial
   |cons v vs=>
   cases pend with
   |cons=>simp[BQ]at hm
   |nil=>
   cases as with
   |nil=>trivial
   |cons s as=>
   cases pk with
   |cons=>trivial
   |nil=>
   cases v with
   |one c=>
    cases c with
    |box b c0=>
     cases c0 with
     |zero=>
      simp only[BQ]at hm;split at hm
      case h_2=>cases hm
      rename_i l cs' bs' hl hm';split at hm
      case isFalse=>cases hm
      rename_i hsz;simp only[Qb1,Prod.mk.injEq]at hm;obtain⟨rfl,rfl⟩:=hm;have hkeys:=O0 hm'
      have hμ2:∀j b',look bs' j=some b'→μ' j=μ b':=fun j b' hj=>hμ j b' (by
       grind [Aq])
      have hib:μ' i=μ b:=hμ i b (by grind [Aq]);obtain⟨a,rfl,ha⟩:=hv.1;have ha:a=_:=ha;subst ha;obtain⟨⟨A,hA,hrest⟩,k2,k3⟩:=Z3 h hl hsz hib hkeys (ih hv.2 (pend:=[]) (pk:=[]) trivial hm' hμ2 h0');refine⟨⟨A,hA,fun C E hco hav hex=>?_⟩,k2,k3,trivial⟩;obtain⟨⟨as',r1,r2⟩,r3,r4⟩:=hrest C E hco hav hex
      exact⟨⟨.one (.ptr (μ b) 0)::as',⟨⟨_,rfl,by grind [TC.av]⟩,r1⟩,.cons _ _ _ _ (CoS.refl _) r2⟩,r3,r4⟩
     |succ=>trivial
    |_=>simp[BQ]at hm
   |_=>trivial
  |clo f n=>
   cases vs with
   |nil=>trivial
   |cons v vs=>
   cases pend with
   |cons=>simp_all [BQ]
   |nil=>
   cases as with
   |nil=>trivial
   |cons s as=>
   cases pk with
   |cons=>trivial
   |nil=>
   cases v with
   |clo f' caps=>
    simp only[BQ]at hm;split at hm
    case isFalse=>cases hm
    rename_i hfn;obtain⟨rfl,rfl⟩:=hfn;obtain⟨m,rfl,ha⟩:=hv.1;obtain⟨⟨A,hA,hrest⟩,k2,k3,k4⟩:=ih hv.2 ha hm hμ h0';refine⟨⟨A,hA,fun C E hco hav hex=>?_⟩,fun j b hj=>⟨zg,(k2 j b hj).2⟩,k3,trivial⟩;obtain⟨⟨as',r1,r2⟩,r3,r4⟩:=hrest C E hco hav hex;exact⟨⟨.one (.clo f' m)::as',⟨⟨m,rfl,k4⟩,r1⟩,.cons _ _ _ _ (CoS.refl _) r2⟩,r3,r4⟩
   |_=>trivial
  |cap t tt=>
   cases pend with
   |nil=>trivial
   |cons c pend=>
   cases pk with
   |nil=>trivial
   |cons a pk=>
   cases c with
   |box b c0=>
    cases c0 with
    |zero=>
     simp only[BQ]at hm;split at hm
     case h_2=>cases hm
     rename_i l cs' bs' hl hm';split at hm
     case isFalse=>cases hm
     rename_i hsz;simp only[Qb1,Prod.mk.injEq]at hm;obtain⟨rfl,rfl⟩:=hm;have hkeys:=O0 hm'
     have hμ2:∀j b',look bs' j=some b'→μ' j=μ b':=fun j b' hj=>hμ j b' (by
      grind [Aq])
     have hib:μ' i=μ b:=hμ i b (by grind [Aq]);have hM:=ih hv hp.2 hm' hμ2 h0';have hcap:=hM.2.2.2;obtain⟨⟨A,hA,hrest⟩,k2,k3⟩:=Z3 h hl hsz hib hkeys hM;refine⟨⟨A,hA,fun C E hco hav hex=>hrest C E hco hav hex⟩,k2,k3,?_,hcap⟩;have ha:a=_:=hp.1
     grind [TC.av]
    |succ=>trivial
   |_=>simp[BQ]at hm
theorem PI(h:Sim μ F Γ st){ps:List PT}{i:Nat}{vs:List TSV}{cs:List TC}{bs:List (Nat×Nat)}{as:List SV}(hv:svs μ st.ver (lnT F Γ) vs as)(hm:BQ Γ ps i vs []=some (cs,bs))(hμ:∀j b,look bs j=some b→μ' j=μ b)(h0:ps.all PT.MP=true∨μ' 0=μ 0):
  (∃A,avs μ st.ver (lnT F Γ) cs A∧∀C E,CoL A E→avs μ' dv dl C E→C.all TC.exT=true→
   (∃as',svs μ' dv dl (Bn ps i C) as'∧FA as as')∧
   (∀j l,look (Ba ps i C) j=some l→∃b m m',look bs j=some b∧(look Γ.bx b).isSome=true∧st.hp.get (μ b)=some m∧CoL m m'∧avs μ' dv dl l m'∧μ b<st.hp.next)∧
   (∀j b,look bs j=some b→∃l,look (Ba ps i C) j=some l))∧
  (∀j b,look bs j=some b→i≤j∧(look Γ.bx b).isSome=true)∧(∀j j' b,look bs j=some b→look bs j'=some b→j=j'):=by
 obtain⟨h1,h2,h3,_⟩:=AfG h hv (pend:=[]) (pk:=[]) trivial hm hμ h0<;>grind
end
end Go.VS
namespace Go.VS
section
variable{μ μ':Nat→Nat}{ver:Root→Nat}{ln:Place→Option Nat}{F Γ Γ':TS}{st:St}
theorem SL{c:TC}(h:ownish c=false){a:AV}(ha:c.av μ ver ln a):a.Ci=false:=by
 cases c with
 |sl τ tt e l=>
  have ha:a=_:=ha;subst ha
  cases τ<;>first|rfl|cases h
 |dead=>cases h
 |ref p tt e w=>
  cases w with
  |none=>obtain⟨m,rfl,_⟩:=ha;rfl
  |some x=>have ha:a=_:=ha;subst ha;rfl
 |_=>(have ha:a=_:=ha);subst ha;rfl
theorem Qq{v:TSV}(h:v.cells.any ownish=false){s:SV}(hv:v.sv μ ver ln s):s.CI=false:=by
 have key:∀{l:List TC},l.any ownish=false→∀{as:List AV},avs μ ver ln l as→as.any AV.Ci=false:=by
  intro l
  induction l with
  |nil=>intro _ as ha;cases as with
   |nil=>rfl
   |cons=>trivial
  |cons c l ih=>intro h as ha;cases as with
   |nil=>rfl
   |cons a as=>
    simp only[Qa4,Qa1]at h;simp only[Qa4,SL h.1 ha.1,ih h.2 ha.2,Qc3]
 cases v with
 |one c=>
  obtain⟨a,rfl,ha⟩:=hv<;>grind [TSV.cells,SV.CI,SV.cells,SL]
 |agg l=>obtain⟨a,rfl,ha⟩:=hv;exact key h ha
 |clo f l=>obtain⟨a,rfl,ha⟩:=hv;rfl
theorem Xp(h:Sim μ F Γ st){n:Nat}(hx:(Ie F Γ n .gone).ok Γ')(y:TV):Sim μ F Γ' (st.set n y)∧((st.sl n).CI=false→Sim μ F Γ' st):=by
 refine⟨Et h hx trivial,fun ho=>?_⟩;have:=Et h hx (y:=st.sl n) trivial
 have e:st.set n (st.sl n)=st:=by
  have e1:upd st.sl n (st.sl n)=st.sl:=by grind [upd]
  simp_all [St.set]
 grind
theorem AkP(h:Sim μ F Γ st){x:Opd}(hx:(AmX F Γ x).ok Γ'):Sim μ F Γ' (st.EG x):=by
 have gone:∀n,(Ie F Γ n .gone).ok Γ'→Sim μ F Γ' (st.EG (.t n)):=by
  intro n hx;simp only[St.EG];split
  ·grind [Xp]
  ·rename_i ho;exact(Xp h hx .dead).2 zg
 cases x with
 |c v=>have:=R.Aj.1 hx;subst this;exact h
 |f nm=>have:=R.Aj.1 hx;subst this;exact h
 |t n=>
  simp only[AmX]at hx;split at hx
  ·rename_i gd v hs
   cases ho:v.cells.any ownish with
   |true=>grind
   |false=>
    rw[ho]at hx;have:=R.Aj.1 hx;subst this;obtain⟨s,heq,hv⟩:=h.sl n _ hs
    have:(st.sl n).CI=false:=by rw[heq];exact Qq ho hv
    grind [St.EG]
  grind
theorem ZS:∀{xs:List Opd} {st:St} {Γ Γ':TS},Sim μ F Γ st→(Xk F Γ xs).ok Γ'→Sim μ F Γ' (st.HS xs)
 |[],st,Γ,Γ',h,hx=>by have:=R.Aj.1 hx;subst this;exact h
 |x::xs,st,Γ,Γ',h,hx=>by
  simp only[Xk]at hx;rw[R.Ai]at hx;obtain⟨Γ1,h1,hx⟩:=hx;exact ZS (xs:=xs) (AkP h h1) hx
theorem QV:∀(xs:List Opd) (st:St),(st.HS xs).hp=st.hp
 |[],_=>rfl
 |x::xs,st=>by
  rw[St.HS,QV xs]
  cases x<;>simp only[St.EG]<;>(try split)<;>rfl
theorem Ad7{n:Nat}{x:TX}(hx:(Ie F Γ n x).ok Γ'){b:Nat}:(look Γ'.bx b).isSome=(look Γ.bx b).isSome:=by
 unfold Ie at hx
 cases hb:(x.guards n||x.hit (E3 n) (E3 n) CR)with
 |true=>grind [R.Ag]
 |false=>
  rw[hb]at hx;have hu:=R.Cp.1 hx;have:=(Aau hu).2.2.2 b
  cases h1:look Γ'.bx b<;>cases h2:look Γ.bx b<;>simp_all [look]
theorem ZR:∀{xs:List Opd} {Γ Γ':TS},(Xk F Γ xs).ok Γ'→∀b,(look Γ'.bx b).isSome=(look Γ.bx b).isSome
 |[],Γ,Γ',hx,b=>by have:=R.Aj.1 hx;grind
 |x::xs,Γ,Γ',hx,b=>by
  simp only[Xk]at hx;rw[R.Ai]at hx;obtain⟨Γ1,h1,hx⟩:=hx;rw[ZR hx b]
  cases x with
  |c v=>have:=R.Aj.1 h1;grind
  |f nm=>have:=R.Aj.1 h1;grind
  |t n=>
   simp only[AmX]at h1;split at h1
   ·rename_i gd v hs
    cases ho:v.cells.any ownish with
    |true=>rw[ho]at h1;exact Ad7 (show(Ie F Γ n .gone).ok Γ1 from h1)
    |false=>grind [R.Aj]
   grind [Ad7]
mutual
theorem Co.free:∀{a b:AV},Co a b→b.free=true→a.free=true
 |_,_,.refl _,h=>h
 |_,_,.nil _ _,_=>rfl
 |_,_,.sl τ τ' k xs ys ht hl,h=>by
  have h2:HR xs=true:=by
   refine C9.free hl ?_
   cases τ'<;>first|exact h|cases h
  cases τ with
  |brw=>
   rcases ht with rfl|⟨h3,_⟩
   ·cases h
   ·cases h3
  |_=>exact h2
theorem CoL.free:∀{a b:List AV},CoL a b→C8 b=true→C8 a=true
 |_,_,.nil,_=>rfl
 |_,_,.cons _ _ _ _ h t,hb=>by
  simp only[C8,Qa0]at hb⊢;exact⟨Co.free h hb.1,CoL.free t hb.2⟩
theorem C9.free:∀{a b:List (List AV)},C9 a b→HR b=true→HR a=true
 |_,_,.nil,_=>rfl
 |_,_,.cons _ _ _ _ h t,hb=>by
  simp only[HR,Qa0]at hb⊢;exact⟨CoL.free h hb.1,C9.free t hb.2⟩
end
mutual
theorem Co.plain:∀{a b:AV},Co a b→b.plain=true→a.plain=true
 |_,_,.refl _,h=>h
 |_,_,.nil _ _,_=>rfl
 |_,_,.sl τ τ' k xs ys ht hl,h=>by
  have h2:GY xs=true:=by
   refine C9.plain hl ?_
   cases τ'<;>first|exact h|cases h
  cases τ with
  |brw=>
   rcases ht with rfl|⟨h3,_⟩
   ·cases h
   ·cases h3
  |_=>exact h2
theorem CoL.plain:∀{a b:List AV},CoL a b→BV b=true→BV a=true
 |_,_,.nil,_=>rfl
 |_,_,.cons _ _ _ _ h t,hb=>by
  simp only[BV,Qa0]at hb⊢;exact⟨Co.plain h hb.1,CoL.plain t hb.2⟩
theorem C9.plain:∀{a b:List (List AV)},C9 a b→GY b=true→GY a=true
 |_,_,.nil,_=>rfl
 |_,_,.cons _ _ _ _ h t,hb=>by
  simp only[GY,Qa0]at hb⊢;exact⟨CoL.plain h hb.1,C9.plain t hb.2⟩
end
def PT.AcE(p:PT):Bool:=TC.BD.TT.BD p.tt
def PT.wf:PT→Bool
 |.val agg t _=>agg||Qa5 t.size 1
 |.ptr _ _=>true
 |.clo ..=>false
 |.cap ..=>false
 |.fnp _=>true
def ZD:List PT→Bool
 |[]=>true
 |.clo _ n::r=>Nat.ble n r.length&&ZD r
 |_::r=>ZD r
def Acw:List PT→Bool
 |.ptr ..::_=>true
 |_=>false
def Sig.free(S:Sig):Bool:=(ptrs S.ps).all PT.AcE&&(S.rs.all PT.AcE&&(S.rs.all PT.wf&&(Nat.ble S.ps.length rbase&&(ZD S.ps&&((S.ps.all PT.MP)&&(S.rs.all PT.MP||Acw S.ps))))))
theorem NM{tt:TT}(h:TC.BD.TT.BD tt=true):TC.BD.TT.BD tt.fst=true∧TC.BD.TT.BD tt.snd=true:=by
 cases tt<;>grind [TC.BD.TT.BD,TT.fst,TT.snd]
def TC.Es:TC→Bool
 |.int ..=>true
 |.bool _=>true
 |.str _=>true
 |.sl τ tt _ _=>(match τ with|.brw=>false|_=>true)&&TC.BD.TT.BD tt
 |_=>false
theorem AaS:∀(t:BT) (tt:TT) (_:TC.BD.TT.BD tt=true) (x:t.D),(t.ex tt x).all TC.Es=true
 |.int _,_,_,_=>rfl
 |.bool,_,_,_=>rfl
 |.str,_,_,_=>rfl
 |.unit,_,_,_=>rfl
 |.sl e,tt,h,l=>by
  cases tt with
  |leaf=>rfl
  |node τ a=>cases τ<;>simp_all [BT.ex,TC.Es,TT.tag,TT.elt,TC.BD.TT.BD]
  |pair a b=>rfl
 |.pair a b,tt,h,x=>by
  simp only[BT.ex,List.all_append,AaS a _ (NM h).1,AaS b _ (NM h).2,Qc2]
theorem Aet:∀{l:List PT},l.all PT.AcE=true→TC.BD.TT.BD (ttP l)=true
 |[],_=>rfl
 |[p],h=>by grind [PT.AcE,ttP]
 |p::q::r,h=>by
  rw[Qa6,Qa0]at h;show(TC.BD.TT.BD p.tt&&TC.BD.TT.BD (ttP (q::r)))=true;rw[Qa0];exact⟨h.1,Aet h.2⟩
theorem LH{l:List PT}(h:l.all PT.AcE=true)(x:DP l):(Ar l x).all TC.Es=true:=AaS _ _ (Aet h) x
theorem O7{c:TC}(h:c.Es=true):c.Bg=true:=by
 cases c<;>first|rfl|cases h
theorem AdC{c:TC}(h:c.Es=true){a:AV}{μ':Nat→Nat}{ver':Root→Nat}{ln':Place→Option Nat}(ha:c.av μ ver ln a):c.av μ' ver' ln' a:=by
 cases c<;>first|exact ha|cases h
theorem MR{μ':Nat→Nat}{ver':Root→Nat}{ln':Place→Option Nat}:∀{l:List TC},l.all TC.Es=true→∀{as:List AV},avs μ ver ln l as→avs μ' ver' ln' l as
 |[],_,[],_=>trivial
 |c::l,h,a::as,ha=>by
  simp only[Qa6,Qa0]at h;exact⟨AdC h.1 ha.1,MR h.2 ha.2⟩
 |[],_,_::_,h=>h.elim
 |_::_,_,[],h=>h.elim
theorem CO{l m:List TC}{q:TC→Bool}(h:l.all q=true)(hm:∀c∈m,c∈l):m.all q=true:=by
 grind
theorem FT:∀(ps:List PT) (i:Nat) (cs:List TC) (j:Nat) (l:List TC),look (Ba ps i cs) j=some l→∀c∈l,c∈cs
 |[],_,_,_,_,h=>nomatch h
 |.val agg t tt::r,i,cs,j,l,h=>fun c hc=>Qa8 (FT r (i+1) _ j l h c hc)
 |.ptr t tt::r,i,cs,j,l,h=>by
  simp only[Ba,Aq]at h;split at h
  ·grind
  ·exact fun c hc=>Qa8 (FT r (i+1) _ j l h c hc)
 |.clo f n::r,i,cs,j,l,h=>FT r (i+1) _ j l h
 |.fnp names::r,i,cs,j,l,h=>fun c hc=>Qa8 (FT r (i+1) _ j l h c hc)
 |.cap t tt::r,i,cs,j,l,h=>by
  simp only[Ba,Aq]at h;split at h
  ·grind
  ·exact fun c hc=>Qa8 (FT r (i+1) _ j l h c hc)
theorem CD:∀(ps:List PT) (i:Nat) (cs:List TC) (j:Nat) (l:List TC),look (AA ps i cs) j=some l→(∀c∈l,c∈cs)∧i≤j∧j<i+ps.length
 |[],_,_,_,_,h=>nomatch h
 |.val agg t tt::r,i,cs,j,l,h=>by
  have:=CD r (i+1) _ j l h
  grind
 |.ptr t tt::r,i,cs,j,l,h=>by
  simp only[AA,Aq]at h;split at h
  ·grind
  ·have:=CD r (i+1) _ j l h
   grind
 |.clo f n::r,i,cs,j,l,h=>by
  have:=CD r (i+1) _ j l h
  grind
 |.fnp names::r,i,cs,j,l,h=>by
  have:=CD r (i+1) _ j l h
  grind
 |.cap t tt::r,i,cs,j,l,h=>by
  simp only[AA,Aq]at h;split at h
  ·grind
  ·have:=CD r (i+1) _ j l h
   grind
theorem EW:∀(ps:List PT) (i:Nat) (cs ds:List TC) (j:Nat) (l:List TC),look (Ba ps i cs) j=some l→∃l',look (AA ps i ds) j=some l'
 |[],_,_,_,_,_,h=>nomatch h
 |.val agg t tt::r,i,cs,ds,j,l,h=>EW r (i+1) _ ds j l h
 |.ptr t tt::r,i,cs,ds,j,l,h=>by
  simp only[Ba,AA,Aq]at h⊢;split at h
  ·grind
  ·rename_i hj;rw[if_neg hj];exact EW r (i+1) _ _ j l h
 |.clo f n::r,i,cs,ds,j,l,h=>EW r (i+1) _ ds j l h
 |.fnp names::r,i,cs,ds,j,l,h=>EW r (i+1) _ ds j l h
 |.cap t tt::r,i,cs,ds,j,l,h=>by
  simp only[Ba,AA,Aq]at h⊢;split at h
  ·grind
  ·rename_i hj;rw[if_neg hj];exact EW r (i+1) _ _ j l h
theorem DM{ps:List PT}(h:ps.any PT.Hf=false):∀(i:Nat) (cs:List TC),AA ps i cs=[]:=by
 induction ps with
 |nil=>intro i cs;rfl
 |cons p ps ih=>
  simp only[Qa4,Qa1]at h;intro i cs
  cases p with
  |val=>exact ih h.2 _ _
  |ptr=>cases h.1
  |clo=>exact ih h.2 _ _
  |fnp=>exact ih h.2 _ _
  |cap=>cases h.1
theorem BJ{ps:List PT}(h:ps.any PT.Hf=false):∀(i:Nat) (cs:List TC),Ba ps i cs=[]:=by
 induction ps with
 |nil=>intro i cs;rfl
 |cons p ps ih=>
  simp only[Qa4,Qa1]at h;intro i cs
  cases p with
  |val=>exact ih h.2 _ _
  |ptr=>cases h.1
  |clo=>exact ih h.2 _ _
  |fnp=>exact ih h.2 _ _
  |cap=>cases h.1
theorem Uq{bs:List (Nat×Nat)}:∀{B:List (Nat×List TC)} {b:Nat} {l:List TC},look (H3 bs B) b=some l→∃j,look bs j=some b∧(j,l)∈B
 |[],_,_,h=>nomatch h
 |(i,l0)::B,b,l,h=>by
  simp only[H3]at h;split at h
  ·rename_i b0 hb0;rw[Aq]at h;split at h
   ·grind
   ·obtain⟨j,h1,h2⟩:=Uq h<;>grind
  ·obtain⟨j,h1,h2⟩:=Uq h<;>grind
theorem Yc{bs:List (Nat×Nat)}:∀{B:List (Nat×List TC)} {j b:Nat} {l:List TC},look bs j=some b→look B j=some l→∃l',look (H3 bs B) b=some l'
 |[],_,_,_,_,h=>nomatch h
 |(i,l0)::B,j,b,l,hb,h=>by
  rw[Aq]at h;simp only[H3];split at h
  ·grind [Aq]
  ·split
   ·rename_i b0 hb0;rw[Aq];split
    ·grind
    ·exact Yc hb h
   ·exact Yc hb h
theorem Ge:∀(ps:List PT) (i:Nat) (cs:List TC) (j:Nat) (l:List TC),(j,l)∈AA ps i cs→look (AA ps i cs) j=some l∧i≤j
 |[],_,_,_,_,h=>nomatch h
 |.val agg t tt::r,i,cs,j,l,h=>by
  have:=Ge r (i+1) cs j l h;exact⟨this.1,zm⟩
 |.ptr t tt::r,i,cs,j,l,h=>by
  simp only[AA,Qb9,Prod.mk.injEq]at h
  rcases h with⟨rfl,rfl⟩|h
  ·grind [AA,Aq]
  ·have:=Ge r (i+1) _ j l h
   grind [AA,Aq]
 |.clo f n::r,i,cs,j,l,h=>by
  have:=Ge r (i+1) cs j l h;exact⟨this.1,zm⟩
 |.fnp names::r,i,cs,j,l,h=>by
  have:=Ge r (i+1) cs j l h;exact⟨this.1,zm⟩
 |.cap t tt::r,i,cs,j,l,h=>by
  simp only[AA,Qb9,Prod.mk.injEq]at h
  rcases h with⟨rfl,rfl⟩|h
  ·grind [AA,Aq]
  ·have:=Ge r (i+1) _ j l h
   grind [AA,Aq]
theorem LF{rs:List PT}(h:rs.any PT.Hf=false)(hw:rs.all PT.wf=true)(hq:rs.all PT.MP=true):∀(i:Nat) (cs:List TC),cs.all TC.Es=true→∀v∈Bn rs i cs,v.K2=true∧(∀c∈v.cells,c=.dead∨c.Es=true)∧(∀f l,v≠.clo f l):=by
 induction rs with
 |nil=>intro i cs _ v hv;cases hv
 |cons p rs ih=>
  simp only[Qa4,Qa1]at h;simp only[Qa6,Qa0]at hw hq;intro i cs hc v hv
  cases p with
  |ptr=>cases h.1
  |clo=>cases hw.1
  |cap=>cases h.1
  |fnp=>cases hq.1
  |val agg t tt=>
   simp only[Bn,Qb9]at hv
   rcases hv with rfl|hv
   ·have h1:(cs.take t.size).all TC.Es=true:=CO hc fun c hc=>Qb3 hc
    cases agg with
    |true=>
     refine⟨?_,fun c hc=>.inr (List.all_eq_true.1 h1 c hc),fun f l=>by simp[mkT]⟩
     exact List.all_eq_true.2 fun c hc=>O7 (List.all_eq_true.1 h1 c hc)
    |false=>
     cases hl:cs.take t.size<;>grind [mkT,TSV.K2,TC.Bg,TSV.cells,O7]
   grind
theorem Ahx{v:TSV}(h:∀c∈v.cells,c=.dead∨c.Es=true)(hv:∀f l,v≠.clo f l){s:SV}{μ':Nat→Nat}{ver':Root→Nat}{ln':Place→Option Nat}(hs:v.sv μ ver ln s):v.sv μ' ver' ln' s:=by
 have one:∀{c:TC} {a:AV},(c=.dead∨c.Es=true)→c.av μ ver ln a→c.av μ' ver' ln' a:=by
  rintro c a (rfl|h) ha
  ·trivial
  grind [AdC]
 cases v with
 |one c=>obtain⟨a,rfl,ha⟩:=hs;exact⟨a,rfl,one (h c (by simp[TSV.cells])) ha⟩
 |agg l=>
  obtain⟨k,rfl,ha⟩:=hs;refine⟨k,rfl,?_⟩
  have:∀{l:List TC} {k:List AV},(∀c∈l,c=.dead∨c.Es=true)→avs μ ver ln l k→avs μ' ver' ln' l k:=by
   intro l
   induction l with
   |nil=>intro k _ ha;cases k with
    |nil=>trivial
    |cons=>trivial
   |cons c l ih=>intro k h ha;cases k with
    |nil=>trivial
    |cons a k=>exact⟨one (h c zsz) ha.1,ih (fun d hd=>h d zg) ha.2⟩
  exact this h ha
 |clo f l=>grind
theorem AdD{μ':Nat→Nat}{ver':Root→Nat}{ln':Place→Option Nat}:∀{vs:List TSV} {ss:List SV},(∀v∈vs,(∀c∈v.cells,c=.dead∨c.Es=true)∧(∀f l,v≠.clo f l))→svs μ ver ln vs ss→svs μ' ver' ln' vs ss
 |[],[],_,_=>trivial
 |v::vs,s::ss,h,hs=>⟨Ahx (h v zsz).1 (h v zsz).2 hs.1,AdD (fun w hw=>h w zg) hs.2⟩
 |[],_::_,_,h=>h.elim
 |_::_,[],_,h=>h.elim
theorem FA.length:∀{l m:List SV},FA l m→l.length=m.length
 |_,_,.nil=>rfl
 |_,_,.cons _ _ _ _ _ t=>by simp[t.length]
theorem ZT{ss ss':List SV}(h:FA ss ss'):CoT (gather ss) (gather ss'):=by
 cases h with
 |nil=>exact .refl _
 |cons a b l m h t=>
  cases t with
  |nil=>exact .val true _ _ h
  |cons a2 b2 l2 m2 h2 t2=>exact .tup _ _ (.cons _ _ _ _ h (.cons _ _ _ _ h2 t2))
theorem AnM{g:Gd}{gv:Gd→Bool}(hg:gv g=true){vs:List TSV}{ss:List SV}(h:svs μ ver ln vs ss):(VK g vs).tv μ ver ln gv (gather ss):=by
 match vs,ss,h with
 |[],[],_=>exact⟨[],rfl,trivial⟩
 |[v],[s],h=>exact⟨s,by rw[hg];rfl,h.1⟩
 |v::w::vs,s::t::ss,h=>exact⟨_,rfl,h⟩
 |[_],[],h=>trivial
 |[_],_::_::_,h=>exact h.2.elim
 |_::_::_,[],h=>trivial
 |_::_::_,[_],h=>exact h.2.elim
end
end Go.VS
namespace Go.VS
theorem FA.get:∀{l m:List SV},FA l m→∀{i:Nat} {s:SV},m[i]?=some s→∃s0,l[i]?=some s0∧CoS s0 s
 |_,_,.nil,i,s,h=>zg
 |_,_,.cons a b l m h t,0,s,hs=>zg
 |_,_,.cons a b l m h t,i+1,s,hs=>by simpa using t.get zg
theorem CoL.solids:∀{l m:List AV},CoL l m→l.all AV.solid=true→m.all AV.solid=true
 |_,_,.nil,_=>rfl
 |_,_,.cons a b l m h t,hs=>by
  simp only[Qa6,Qa0]at hs⊢
  refine⟨?_,t.solids hs.2⟩<;>grind [h.XT]
theorem Ll.co{P:Pg}{nm:String}{as as':List SV}{H H':Heap}{K:TV→Heap→Prop}(h:Ll P nm as' H' K)(ha:FA as as')
  (hH:∀o,(H.get o=none∧H'.get o=none)∨∃l m,H.get o=some l∧H'.get o=some m∧CoL l m) (hn:H'.next=H.next):Ll P nm as H K:=by
 intro f fn hf hname;obtain⟨hb,hg,h⟩:=h f fn hf hname;refine⟨hb,hg,fun E w vs lam fp h1 h2 h3 h4 h5 R hs=>?_⟩
 have hco:Ed (start as H) (start as' H'):=by
  refine⟨fun t=>?_,hH,hn,rfl,rfl⟩;simp only[start]
  cases hm:as'[t]?with
  |none=>
   have:as[t]?=none:=by
    grind [ha.length]
   rw[this];exact .refl _
  |some s=>
   obtain⟨s0,e,hc⟩:=ha.get hm;rw[e];exact .val _ _ _ hc
 refine h E w vs lam fp h1 h2 zg h4 (by rw[h5,ha.length]) (hco.Ari R) fun t s ht=>?_
 obtain⟨s0,e,hc⟩:=ha.get ht;exact hc.cells.solids (hs t s0 e)
section
variable{μ μ':Nat→Nat}{ver:Root→Nat}{ln:Place→Option Nat}{F Γ Γ':TS}{st:St}
theorem Nq{α:Type}{f:α→List AV}(h:∀x,C8 (f x)=true∧BV (f x)=true):∀l:List α,HR (l.map f)=true∧GY (l.map f)=true
 |[]=>⟨rfl,rfl⟩
 |x::l=>by simp only[Qb8,HR,GY,(h x).1,(h x).2,(Nq h l).1,(Nq h l).2,Qc2,and_self]
theorem Nr:∀(l m:List AV),C8 (l++m)=(C8 l&&C8 m)∧BV (l++m)=(BV l&&BV m)
 |[],m=>by trivial
 |a::l,m=>by simp[C8,BV,(Nr l m).1,(Nr l m).2,Bool.and_assoc]
theorem EY:∀(t:BT) (tt:TT) (_:TC.BD.TT.BD tt=true) (x:t.D),C8 (t.enc tt x)=true∧BV (t.enc tt x)=true
 |.int _,_,_,_=>⟨rfl,rfl⟩
 |.bool,_,_,_=>⟨rfl,rfl⟩
 |.str,_,_,_=>⟨rfl,rfl⟩
 |.unit,_,_,_=>⟨rfl,rfl⟩
 |.sl e,tt,h,l=>by
  have key:∀tt',TC.BD.TT.BD tt'=true→HR (l.map (e.enc tt'))=true∧GY (l.map (e.enc tt'))=true:=fun tt' h'=>Nq (fun x=>EY e tt' h' x) l
  cases tt with
  |leaf=>grind [BT.enc,TT.tag,TT.elt,C8,BV,AV.free,AV.plain]
  |node τ a=>
   cases τ with
   |brw=>cases h
   |own=>have k:=key a h;grind [BT.enc,TT.tag,TT.elt,C8,BV,AV.free,AV.plain]
   |imm=>have k:=key a h;grind [BT.enc,TT.tag,TT.elt,C8,BV,AV.free,AV.plain]
  |pair a b=>simp only[BT.enc,TT.tag,TT.elt,C8,BV,AV.free,AV.plain,(key .leaf rfl).1,(key .leaf rfl).2]<;>grind
 |.pair a b,tt,h,x=>by
  have h1:=EY a tt.fst (NM h).1 x.1;have h2:=EY b tt.snd (NM h).2 x.2
  grind [BT.enc,Nr]
theorem SQ{c:TC}(h:c.Es=true){a:AV}(ha:c.av μ ver ln a):a.free=true∧a.plain=true:=by
 cases c with
 |int=>have ha:a=_:=ha;subst ha;trivial
 |bool=>have ha:a=_:=ha;subst ha;trivial
 |str=>have ha:a=_:=ha;subst ha;trivial
 |sl τ tt e l=>
  have ha:a=_:=ha;subst ha;simp only[TC.Es,Qa0]at h;have k:=Nq (fun x=>EY e tt h.2 x) l
  cases τ with
  |brw=>grind
  |own=>exact k
  |imm=>exact k
 |_=>cases h
theorem LP:∀{l:List TC},l.all TC.Es=true→∀{as:List AV},avs μ ver ln l as→C8 as=true∧BV as=true
 |[],_,[],_=>⟨rfl,rfl⟩
 |c::l,h,a::as,ha=>by
  simp only[Qa6,Qa0]at h;have h1:=SQ h.1 ha.1;have h2:=LP h.2 ha.2
  grind [C8,BV]
 |[],_,_::_,h=>h.elim
 |_::_,_,[],h=>h.elim
theorem Aly{g:Gd}{gv:Gd→Bool}{vs:List TSV}(hg:(∃v,vs=[v])→gv g=true){ss:List SV}(h:svs μ ver ln vs ss):(VK g vs).tv μ ver ln gv (gather ss):=by
 match vs,ss,h with
 |[],[],_=>exact⟨[],rfl,trivial⟩
 |[v],[s],h=>exact⟨s,by rw[hg ⟨v,rfl⟩];rfl,h.1⟩
 |v::w::vs,s::t::ss,h=>exact⟨_,rfl,h⟩
 |[_],[],h=>trivial
 |[_],_::_::_,h=>exact h.2.elim
 |_::_::_,[],h=>trivial
 |_::_::_,[_],h=>exact h.2.elim
theorem Uu:∀{vs:List TSV} {ss:List SV},svs μ ver ln vs ss→(∀v∈vs,(∀c∈v.cells,c=.dead∨c.Es=true)∧(∀f l,v≠.clo f l)∧∀c∈v.cells,c≠.dead)→∀s∈ss,BV s.cells=true
 |[],[],_,_,s,hs=>nomatch hs
 |v::vs,s0::ss,h,hv,s,hs=>by
  rcases List.mem_cons.1 hs with rfl|hs
  ·obtain⟨h1,h2,h3⟩:=hv v zsz;have hav:=RS h2 h.1;exact(LP (List.all_eq_true.2 fun c hc=>(h1 c hc).resolve_left (h3 c hc)) hav).2
  ·exact Uu h.2 (fun v hv'=>hv v zg) s hs
 |[],_::_,h,_,_,_=>h.elim
 |_::_,[],h,_,_,_=>h.elim
theorem Aeu:∀(p:PT) (r:List PT),(tyP (p::r)).size=p.bt.size+(tyP r).size
 |p,[]=>rfl
 |p,q::r=>rfl
theorem UL{rs:List PT}(h:rs.any PT.Hf=false)(hw:rs.all PT.wf=true)(hq:rs.all PT.MP=true):∀(i:Nat) (cs:List TC),cs.all TC.Es=true→cs.length=(tyP rs).size→∀v∈Bn rs i cs,∀c∈v.cells,c≠.dead:=by
 induction rs with
 |nil=>intro i cs _ _ v hv;cases hv
 |cons p rs ih=>
  simp only[Qa4,Qa1]at h;simp only[Qa6,Qa0]at hw hq;intro i cs hc hl v hv
  cases p with
  |ptr=>cases h.1
  |clo=>cases hw.1
  |cap=>cases h.1
  |fnp=>cases hq.1
  |val agg t tt=>
   rw[Aeu]at hl;have hl:cs.length=t.size+(tyP rs).size:=hl;simp only[Bn,Qb9]at hv
   rcases hv with rfl|hv
   ·have h1:(cs.take t.size).all TC.Es=true:=CO hc fun c hc=>Qb3 hc
    have nd:∀c:TC,c.Es=true→c≠.dead:=by rintro c hc rfl;cases hc
    cases agg with
    |true=>intro c hc;exact nd c (List.all_eq_true.1 h1 c hc)
    |false=>
     have hw1:t.size=1:=Qa7 (by grind [PT.wf])
     cases hlc:cs.take t.size with
     |nil=>
      have:=congrArg List.length hlc
      grind
     |cons c l=>
      grind [mkT,TSV.cells]
   grind
theorem Ir:∀(ps:List PT) (i:Nat) (cs:List TC) (j:Nat) (l:List TC),look (Ba ps i cs) j=some l→i≤j
 |[],_,_,_,_,h=>nomatch h
 |.val agg t tt::r,i,cs,j,l,h=>by
  have:=Ir r (i+1) _ j l h;omega
 |.ptr t tt::r,i,cs,j,l,h=>by
  simp only[Ba,Aq]at h;split at h
  ·omega
  ·have:=Ir r (i+1) _ j l h;omega
 |.clo f n::r,i,cs,j,l,h=>by
  have:=Ir r (i+1) _ j l h;omega
 |.fnp names::r,i,cs,j,l,h=>by
  have:=Ir r (i+1) _ j l h;omega
 |.cap t tt::r,i,cs,j,l,h=>by
  simp only[Ba,Aq]at h;split at h
  ·omega
  ·have:=Ir r (i+1) _ j l h;omega
theorem Fj:∀(ps:List PT) (i:Nat) (cs ds:List TC) (j:Nat) (l:List TC),look (AA ps i cs) j=some l→∃l',look (Ba ps i ds) j=some l'
 |[],_,_,_,_,_,h=>nomatch h
 |.val agg t tt::r,i,cs,ds,j,l,h=>Fj r (i+1) _ _ j l h
 |.ptr t tt::r,i,cs,ds,j,l,h=>by
  simp only[Ba,AA,Aq]at h⊢;split at h
  ·grind
  ·rename_i hj;rw[if_neg hj];exact Fj r (i+1) _ _ j l h
 |.clo f n::r,i,cs,ds,j,l,h=>Fj r (i+1) _ _ j l h
 |.fnp names::r,i,cs,ds,j,l,h=>Fj r (i+1) _ _ j l h
 |.cap t tt::r,i,cs,ds,j,l,h=>by
  simp only[Ba,AA,Aq]at h⊢;split at h
  ·grind
  ·rename_i hj;rw[if_neg hj];exact Fj r (i+1) _ _ j l h
theorem AnL{rs:List PT}(h:rs.any PT.Hf=false)(hw:rs.all PT.wf=true){bs:List (Nat×Nat)}{b0:Nat}(h0:rs.all PT.MP=true∨(look bs 0=some b0∧μ' 0=μ b0)):∀(i:Nat) (cs:List TC),cs.all TC.Es=true→∀{ss:List SV},svs μ' dv dl (Bn rs i cs) ss→∀(ver:Root→Nat) (ln:Place→Option Nat),svs μ ver ln ((Bn rs i cs).map (AdY bs)) ss:=by
 induction rs with
 |nil=>
  intro i cs _ ss hs ver ln
  cases ss with
  |nil=>trivial
  |cons=>trivial
 |cons p rs ih=>
  simp only[Qa4,Qa1]at h;simp only[Qa6,Qa0]at hw;have h0':rs.all PT.MP=true∨(look bs 0=some b0∧μ' 0=μ b0):=h0.imp (fun h=>zg) id;intro i cs hc ss hs ver ln
  cases p with
  |ptr=>cases h.1
  |clo=>cases hw.1
  |cap=>cases h.1
  |fnp names=>
   obtain⟨e1,e2⟩:=h0.resolve_left (by simp[PT.MP])
   cases ss with
   |nil=>trivial
   |cons s ss=>
    refine⟨?_,ih h.2 hw.2 h0' (i+1) _ (CO hc fun c hc=>Qa8 hc) hs.2 ver ln⟩;obtain⟨m,rfl,ha⟩:=hs.1;simp only[AdY,e1]
    match m,ha with
    |[a],ha=>
     have ha:a=_:=ha.1;subst ha;exact⟨_,rfl,by simp[TC.av,e2],trivial⟩
    |[],ha=>trivial
    |_::_::_,ha=>exact ha.2.elim
  |val agg t tt=>
   cases ss with
   |nil=>trivial
   |cons s ss=>
    have h1:(cs.take t.size).all TC.Es=true:=CO hc fun c hc=>Qb3 hc
    have e:AdY bs (mkT agg (cs.take t.size))=mkT agg (cs.take t.size):=by cases agg<;>rfl
    have hv:=LF (rs:=[.val agg t tt]) (by rfl) zg (by rfl) i cs hc (mkT agg (cs.take t.size)) (by simp[Bn]);refine⟨?_,ih h.2 hw.2 h0' (i+1) _ (CO hc fun c hc=>Qa8 hc) hs.2 ver ln⟩;rw[e];exact Ahx hv.2.1 hv.2.2 hs.1
theorem FA.plains:∀{l m:List SV},FA l m→(∀s∈m,BV s.cells=true)→∀s∈l,BV s.cells=true
 |_,_,.nil,_,s,hs=>nomatch hs
 |_,_,.cons a b l m h t,hm,s,hs=>by
  rcases List.mem_cons.1 hs with rfl|hs
  ·grind [CoL.plain,h.cells]
  ·exact t.plains (fun s hs=>hm s zg) s hs
theorem Sb:∀{ss:List SV},(∀s∈ss,BV s.cells=true)→(gather ss).plain=true
 |[],_=>rfl
 |[s],h=>h s zsz
 |s::t::ss,h=>List.all_eq_true.2 h
theorem Ct{imp:Bool}{dst:Option Nat}{rp:Bool}{p:Place}(h:CP imp dst rp p=false):(imp=true→SG p=false)∧∀d,dst=some d→E3 d p=false∧(rp=true→Adq (d+rbase) p=false):=by
 simp only[CP,Qa1]at h<;>grind
open Classical in
theorem Aj8(h:Sim μ F Γ st){S:Sig}(hS:S.free=true){g:Gd}(hg:gv F Γ g=true){bs:List (Nat×Nat)}{C:List TC}
  (hb1:∀j b,look bs j=some b→(look Γ.bx b).isSome=true) (hb2:∀j j' b,look bs j=some b→look bs j'=some b→j=j')
  (hb3:∀j b,look bs j=some b→∃l,look (Ba S.ps 0 C) j=some l) (hb4:∀j l,look (Ba S.ps 0 C) j=some l→∃b,look bs j=some b)
  (hμ:∀j b,look bs j=some b→μ' j=μ b) {V:Vis} (hVi:V.isSome=S.imp) (hV:S.imp=true→∀o,V.sees o=true↔∃j b,look bs j=some b∧μ b=o)
  {H0:Heap} (hH0:H0.next=st.hp.next) {d:DP S.rs} {d':DP (ptrs S.ps)} {r:TV} {H':Heap} (hp:Wa S μ' H0 d d' r H') {dst:Option Nat} (hx:WC F Γ S g dst bs d d'=some Γ'):
  ∃H'':Heap,H''.Sub H'∧(V.isSome=true→H''.Free)∧(V.isSome=false→r.plain=true)∧WOk μ st.hp.next F Γ' (st.after V H'' dst r)∧st.hp.next≤(st.after V H'' dst r).hp.next:=by
 obtain⟨μ'',ss,ss',hm1,hr,hco,hsv,hbx,hfr,hnx⟩:=hp.res;subst hr;simp only[Sig.free,Qa0]at hS;obtain⟨hSp,hSr,hSw,hSl⟩:=hS;have hSl0:=hSl;simp only[Bool.or_eq_true]at hSl0;have hSl:S.ps.length≤rbase:=Nat.le_of_ble_eq_true hSl.1;have pout:=LH hSp d';have pres:=LH hSr d
 have hfst:Acw S.ps=true→look bs 0=some ((look bs 0).getD 0)∧μ'' 0=μ ((look bs 0).getD 0):=by
  intro hfp
  have hk:∃l,look (Ba S.ps 0 C) 0=some l:=by
   match S.ps,hfp with
   |.ptr t tt::r,_=>exact⟨_,by rw[Ba,Aq,if_pos rfl]⟩
   |[],hfp=>cases hfp
   |.val ..::_,hfp=>cases hfp
   |.clo ..::_,hfp=>cases hfp
   |.cap ..::_,hfp=>cases hfp
   |.fnp ..::_,hfp=>cases hfp
  obtain⟨l,hl⟩:=hk;obtain⟨b,hb⟩:=hb4 0 l hl;refine⟨by rw[hb];rfl,?_⟩
  rw[hm1 0 (by unfold rbase;omega),hμ 0 b hb,hb]
  rfl
 generalize hrp:S.rs.any PT.Hf=rp at hx
 let BB:=AA S.ps 0 (Ar (ptrs S.ps) d')++Ba S.rs rbase (Ar S.rs d)
 let Nm:Nat→Prop:=fun b=>b<rbase∨(b=rbase∧rp=true)
 have low:∀b l,b<rbase→look BB b=some l→look (AA S.ps 0 (Ar (ptrs S.ps) d')) b=some l:=by
  intro b l hb hl;simp only[BB,Bj]at hl;split at hl
  ·rename_i heq;cases hl;exact heq
  ·have:=Ir _ _ _ _ _ hl;omega
 have high:∀l,look BB rbase=some l→look (Ba S.rs rbase (Ar S.rs d)) rbase=some l:=by
  intro l hl;simp only[BB,Bj]at hl;split at hl
  ·rename_i heq;have:=(CD _ _ _ _ _ heq).2.2;omega
  ·exact hl
 have Sz:∀b l,b<rbase→look BB b=some l→∃b0,look bs b=some b0∧μ'' b=μ b0:=by
  intro b l hb hl;obtain⟨l',hl'⟩:=Fj _ _ _ C _ _ (low b l hb hl);obtain⟨b0,hb0⟩:=hb4 b l' hl';exact⟨b0,hb0,by rw[hm1 b hb,hμ b b0 hb0]⟩
 have mulow:∀b0,(look Γ.bx b0).isSome=true→μ b0<st.hp.next:=by
  intro b0 hb0;obtain⟨l,hl⟩:=Option.isSome_iff_exists.1 hb0;obtain⟨_,_,_,q,_⟩:=h.bx b0 l (by simp[TS.box,hl]);exact q
 have muinj:∀b0 b1,(look Γ.bx b0).isSome=true→(look Γ.bx b1).isSome=true→μ b0=μ b1→b0=b1:=by
  intro b0 b1 h0 h1 he;obtain⟨l0,hl0⟩:=Option.isSome_iff_exists.1 h0;obtain⟨l1,hl1⟩:=Option.isSome_iff_exists.1 h1;exact h.inj b0 b1 l0 l1 (by simp[TS.box,hl0]) (by simp[TS.box,hl1]) he
 have uniq:∀b l b2 l2,Nm b→look BB b=some l→Nm b2→look BB b2=some l2→μ'' b=μ'' b2→b=b2:=by
  intro b l b2 l2 hn hl hn2 hl2 he
  rcases hn with hn|⟨rfl,hn⟩
  ·obtain⟨c,hc,e1⟩:=Sz b l hn hl
   rcases hn2 with hn2|⟨rfl,hn2⟩
   ·obtain⟨c2,hc2,e2⟩:=Sz b2 l2 hn2 hl2;have:=muinj c c2 (hb1 _ _ hc) (hb1 _ _ hc2) (by rw[←e1,←e2,he]);subst this;exact hb2 b b2 c hc hc2
   ·have:=hfr rbase (Qa3 _);have:=mulow c (hb1 _ _ hc);omega
  ·rcases hn2 with hn2|⟨rfl,hn2⟩
   ·obtain⟨c2,hc2,e2⟩:=Sz b2 l2 hn2 hl2;have:=hfr rbase (Qa3 _);have:=mulow c2 (hb1 _ _ hc2);omega
   ·rfl
 have pureB:∀b l,look BB b=some l→l.all TC.Es=true:=by
  intro b l hl;simp only[BB,Bj]at hl;split at hl
  ·rename_i heq;cases hl;exact CO pout (CD _ _ _ _ _ heq).1
  ·exact CO pres (FT _ _ _ _ _ hl)
 let PP:Nat→List AV→Prop:=fun o m'=>∃b l,Nm b∧look BB b=some l∧μ'' b=o∧∃m,H'.get o=some m∧CoL m m'∧avs μ'' dv dl l m'
 have PPof:∀b l,Nm b→look BB b=some l→∃m',PP (μ'' b) m':=by
  intro b l hn hl;obtain⟨m,m',q1,q2,q3,q4⟩:=hbx b l hl;exact⟨m',b,l,hn,hl,rfl,m,q1,q2,q3⟩
 let H'':Heap:=⟨fun o=>if∃m',PP o m' then H'.get o else none,H'.next⟩
 let hp2:Heap:=if V.isSome then⟨fun o=>if V.sees o||decide (st.hp.next≤o)then(if h:∃m',PP o m' then some h.choose else none)else st.hp.get o,H'.next⟩else st.hp
 let st2:St:=St.Lk ⟨st.sl,hp2,st.vs,if V.isSome then st.hv+1 else st.hv⟩ dst (gather ss')
 have hst2hp:st2.hp=hp2:=by cases dst<;>rfl
 have hnext:st.hp.next≤H'.next:=by rw[←hH0];exact hnx
 have hco2:Ed (st.after V H'' dst (gather ss)) st2:=by
  have hheap:∀o,((if V.isSome then st.hp.merge V H'' else st.hp).get o=none∧hp2.get o=none)∨∃l m,(if V.isSome then st.hp.merge V H'' else st.hp).get o=some l∧hp2.get o=some m∧CoL l m:=by
   intro o
   have refl:(st.hp.get o=none∧st.hp.get o=none)∨∃l m,st.hp.get o=some l∧st.hp.get o=some m∧CoL l m:=by
    cases st.hp.get o with
    |none=>exact .inl ⟨rfl,rfl⟩
    |some l=>exact .inr ⟨l,l,rfl,rfl,CoL.refl l⟩
   simp only[hp2]
   cases hi:V.isSome with
   |false=>exact refl
   |true=>
    simp only[if_true,Heap.merge]
    cases hs:(V.sees o||decide (st.hp.next≤o))with
    |false=>exact refl
    |true=>
     simp only[if_true,H'']
     by_cases hpp:∃m',PP o m'
     ·rw[if_pos hpp,dif_pos hpp];obtain⟨b,l,_,_,_,m,q1,q2,_⟩:=hpp.choose_spec;exact .inr ⟨m,_,q1,rfl,q2⟩
     ·rw[if_neg hpp,dif_neg hpp];exact .inl ⟨rfl,rfl⟩
  cases dst with
  |none=>exact⟨fun _=>.refl _,hheap,by simp only[st2,hp2,St.after,St.Lk];split<;>rfl,rfl,rfl⟩
  |some t=>
   refine⟨fun t'=>?_,hheap,by simp only[st2,hp2,St.after,St.Lk,St.set];split<;>rfl,rfl,rfl⟩
   simp only[st2,St.after,St.Lk,St.set,upd];split
   ·exact ZT hco
   ·exact .refl _
 have named:V.isSome=true→∀b l,Nm b→look BB b=some l→∃k,st2.hp.get (μ'' b)=some k∧l.all TC.Es=true∧avs μ'' dv dl l k∧μ'' b<st2.hp.next:=by
  intro hi b l hn hl;have hpp:=PPof b l hn hl
  have hsee:(V.sees (μ'' b)||decide (st.hp.next≤μ'' b))=true:=by
   rcases hn with hn|⟨rfl,hn⟩
   ·obtain⟨c,hc,e⟩:=Sz b l hn hl;rw[(hV (by rw[←hVi];exact hi) _).2 ⟨b,c,hc,e.symm⟩];rfl
   ·have:=hfr rbase (Qa3 _);rw[hH0]at this;simp[this]
  obtain⟨_,_,_,_,_,q4⟩:=hbx b l hl;refine⟨hpp.choose,?_,pureB b l hl,?_,?_⟩
  ·rw[hst2hp];simp only[hp2,hi,if_true,hsee,dif_pos hpp]
  ·obtain⟨b2,l2,n2,k2,e2,m,_,_,q3⟩:=hpp.choose_spec;have:=uniq b l b2 l2 hn hl n2 k2 e2.symm;subst this
   have:some l=some l2:=by rw[←hl,←k2]
   cases this;exact q3
  ·rw[hst2hp];simp only[hp2,hi,if_true];exact q4
 have unseen:∀b l,TS.box F Γ b=some l→(∀j,look bs j≠some b)→st2.hp.get (μ b)=st.hp.get (μ b):=by
  intro b l hb hne;rw[hst2hp];simp only[hp2]
  cases hi:V.isSome with
  |false=>rfl
  |true=>
   have hlt:μ b<st.hp.next:=by obtain⟨_,_,_,q,_⟩:=h.bx b l hb;exact q
   have:(V.sees (μ b)||decide (st.hp.next≤μ b))=false:=by
    rw[Qa1];refine⟨?_,by simp;omega⟩
    cases hs:V.sees (μ b)with
    |false=>rfl
    |true=>
     obtain⟨j,b0,hj,e⟩:=(hV (by rw[←hVi];exact hi) _).1 hs
     obtain⟨l0,hl0⟩:=Option.isSome_iff_exists.1 (hb1 j b0 hj);have:=h.inj b0 b l0 l (by simp[TS.box,hl0]) hb e;subst this;exact(hne j hj).elim
   show(if(V.sees (μ b)||decide (st.hp.next≤μ b))=true then _ else _)=_;rw[this];rfl
 have hnx2:st.hp.next≤st2.hp.next:=by rw[hst2hp];simp only[hp2];split<;>simp[hnext]
 have hver:∀p,(S.imp=true→SG p=false)→(∀t,dst=some t→E3 t p=false)→st2.ver (p.mu μ).root=st.ver (p.mu μ).root:=by
  intro p h1 h2
  cases hr:p.root with
  |slot t j=>
   simp only[Place.mu,hr,Root.mu,St.ver]
   cases dst with
   |none=>rfl
   |some t0=>
    have hne:t≠t0:=by rintro rfl;have:=h2 t rfl;rw[E4.2 ⟨j,hr⟩]at this;cases this
    simp only[st2,St.Lk,St.set];split
    ·simp[upd,hne]
    ·rfl
  |obj b c=>
   simp only[Place.mu,hr,Root.mu,St.ver]
   have:S.imp=false:=by
    cases hi:S.imp with
    |false=>rfl
    |true=>have:=h1 hi;rw[Iz.2 ⟨b,c,hr⟩]at this;cases this
   cases dst<;>simp[st2,St.Lk,St.set,hVi,this]
 have hsl2:∀t,dst≠some t→st2.sl t=st.sl t:=by
  intro t ht
  cases dst with
  |none=>rfl
  |some t0=>simp only[st2,St.Lk,St.set,upd];rw[if_neg (fun e=>ht (by rw[e]))]
 have hsld:∀t,dst=some t→st2.sl t=gather ss':=by
  rintro t rfl;simp[st2,St.Lk,St.set,upd]
 refine⟨H'',⟨rfl,fun o=>?_⟩,?_,?_,?_⟩
 ·simp only[H''];split
  ·exact .inr rfl
  ·exact .inl rfl
 ·intro _ o l hl;simp only[H'']at hl;split at hl
  ·rename_i hpp;obtain⟨m',b,l2,_,k2,_,m,q1,q2,q3⟩:=hpp;rw[q1]at hl;cases hl;exact CoL.free q2 (LP (pureB b l2 k2) q3).1
  ·cases hl
 ·intro hi
  have hi:S.imp=false:=by rw[←hVi];exact hi
  simp only[Sig.imp,Qa1]at hi
  have hSq:S.rs.all PT.MP=true:=hSl0.2.2.2.resolve_right (fun hfp=>by
   have h1:=hi.1
   match hps:S.ps,hfp,h1 with
   |.ptr t tt::r,_,h1=>simp[PT.Hf]at h1
   |[],hfp,_=>cases hfp
   |.val ..::_,hfp,_=>cases hfp
   |.clo ..::_,hfp,_=>cases hfp
   |.cap ..::_,hfp,_=>cases hfp
   |.fnp ..::_,hfp,_=>cases hfp)
  refine Sb (hco.plains (Uu hsv fun v hv=>?_));have:=LF hi.2 hSw hSq rbase _ pres v hv;exact⟨this.2.1,this.2.2,UL hi.2 hSw hSq rbase _ pres (CZ _ _ _) v hv⟩
 ·have out1:∀b l,look (H3 bs (AA S.ps 0 (Ar (ptrs S.ps) d'))) b=some l→∃j,look bs j=some b∧look BB j=some l∧j<rbase∧μ'' j=μ b∧S.imp=true:=by
   intro b l hl;obtain⟨j,h1,h2⟩:=Uq hl;obtain⟨h3,_⟩:=Ge _ _ _ _ _ h2
   have hj:j<rbase:=by have:=(CD _ _ _ _ _ h3).2.2;omega
   refine⟨j,h1,by simp only[BB,Bj,h3],hj,by rw[hm1 j hj,hμ j b h1],?_⟩
   cases hi:S.imp with
   |true=>rfl
   |false=>
    simp only[Sig.imp,Qa1]at hi;rw[DM hi.1]at h3;cases h3
  have out2:∀j b,look bs j=some b→(look (H3 bs (AA S.ps 0 (Ar (ptrs S.ps) d'))) b).isSome=true:=by
   intro j b hj;obtain⟨l,hl⟩:=hb3 j b hj;obtain⟨l',hl'⟩:=EW _ _ _ (Ar (ptrs S.ps) d') _ _ hl;obtain⟨l2,h2⟩:=Yc hj hl';rw[h2];rfl
  have objs:∀p,CP S.imp dst rp p=false→∀b c,p.root=.obj b c→look (H3 bs (AA S.ps 0 (Ar (ptrs S.ps) d'))) b=none:=by
   intro p hp b c hr
   cases ho:look (H3 bs (AA S.ps 0 (Ar (ptrs S.ps) d'))) b with
   |none=>rfl
   |some l=>
    obtain⟨_,_,_,_,_,hi⟩:=out1 b l ho;have:=(Ct hp).1 hi;rw[Iz.2 ⟨b,c,hr⟩]at this;cases this
  have hnx3:st.hp.next≤(st.after V H'' dst (gather ss)).hp.next:=by rw[←hco2.nx];exact hnx2
  have wok:∀μ2,Sim μ2 F Γ' st2→EJ st.hp.next μ μ2→WOk μ st.hp.next F Γ' (st.after V H'' dst (gather ss))∧st.hp.next≤(st.after V H'' dst (gather ss)).hp.next:=fun μ2 hs hm=>⟨⟨μ2,st2,hco2,hs,hm⟩,hnx3⟩
  have outbx:∀b,(look (H3 bs (AA S.ps 0 (Ar (ptrs S.ps) d'))) b).isSome=true→∃l,TS.box F Γ b=some l:=by
   intro b hb;obtain⟨l,hl⟩:=Option.isSome_iff_exists.1 hb;obtain⟨j,h1,_⟩:=out1 b l hl;obtain⟨l0,hl0⟩:=Option.isSome_iff_exists.1 (hb1 j b h1);exact⟨l0,by simp[TS.box,hl0]⟩
  have inj2:∀b b',(look (H3 bs (AA S.ps 0 (Ar (ptrs S.ps) d'))) b).isSome=true→((look (H3 bs (AA S.ps 0 (Ar (ptrs S.ps) d'))) b').isSome=true∨∃l,TS.box F Γ b'=some l)→μ b=μ b'→b=b':=by
   intro b b' hb hb' he;obtain⟨l,hl⟩:=outbx b hb
   rcases hb' with hb'|⟨l',hl'⟩
   ·obtain⟨l',hl'⟩:=outbx b' hb';exact h.inj b b' l l' hl hl' he
   ·exact h.inj b b' l l' hl hl' he
  have newb:∀b l,look (H3 bs (AA S.ps 0 (Ar (ptrs S.ps) d'))) b=some l→∃k,st2.hp.get (μ b)=some k∧avs μ'' dv dl l k∧μ b<st2.hp.next∧l.all TC.Es=true:=by
   intro b l hl;obtain⟨j,h1,h2,h3,h4,h5⟩:=out1 b l hl;obtain⟨k,q1,q2,q3,q4⟩:=named (by rw[hVi];exact h5) j l (.inl h3) h2
   rw[h4]at q1 q4;exact⟨k,q1,q3,q4,q2⟩
  have solidL:∀{l:List TC},l.all TC.Es=true→l.all TC.Bg=true:=fun hl=>List.all_eq_true.2 fun c hc=>O7 (List.all_eq_true.1 hl c hc)
  have outne:∀b,look (H3 bs (AA S.ps 0 (Ar (ptrs S.ps) d'))) b=none→∀j,look bs j≠some b:=by
   intro b hb j hj;have:=out2 j b hj;rw[hb]at this;cases this
  cases hdst:dst with
  |none=>
   rw[←hdst]
   cases rp with
   |true=>simp[WC,hdst,hrp]at hx
   |false=>
    simp only[WC,hdst,hrp,cond_false]at hx;rw[←hdst]at hx
    have T:Tr (CP S.imp dst false) (CP S.imp dst false) CR μ μ st.ver st2.ver (lnT F Γ) (lnT F Γ'):=by
     refine⟨fun _ _=>rfl,fun p hp=>⟨rfl,hver p (Ct hp).1 (fun t ht=>((Ct hp).2 t ht).1),fun n hn=>Jm hx h.ss (fun _ _ _=>rfl) (fun b c hr=>objs p hp b c hr) hn⟩,fun p hp=>⟨rfl,hver p (Ct hp).1 (fun t ht=>((Ct hp).2 t ht).1)⟩⟩
    refine wok μ (h.upd hx T (fun t _=>hsl2 t (by rw[hdst];simp)) (fun _ _ h=>nomatch h) (fun b l hn hl=>unseen b l hl (outne b hn)) ?_ (fun _ h=>nomatch h) ?_ hnx2) (EJ.refl _ _)
    ·intro b l hl;obtain⟨k,q1,q2,q3,q4⟩:=newb b l hl;exact⟨k,q1,MR q4 q2,q3,solidL q4⟩
    ·intro b b' l l' hl hl' he;rw[G0 hx b']at hl';refine inj2 b b' (by rw[hl];rfl) ?_ he
     cases ho:look (H3 bs (AA S.ps 0 (Ar (ptrs S.ps) d'))) b' with
     |some y=>exact .inl rfl
     |none=>
      rw[ho]at hl';simp only[Qa9]at hl';obtain⟨l0,hl0,_⟩:=hl';exact .inr ⟨l0,hl0⟩
  |some t=>
   rw[←hdst]
   cases rp with
   |false=>
    simp only[WC,hdst,hrp,cond_false]at hx;rw[←hdst]at hx
    cases hgd:(VK g ((Bn S.rs rbase (Ar S.rs d)).map (AdY bs))).guards t with
    |true=>rw[hgd]at hx;cases hx
    |false=>
     rw[hgd]at hx;have hx:TS.upd F Γ (CP S.imp dst false) (CP S.imp dst false) CR [(t,VK g ((Bn S.rs rbase (Ar S.rs d)).map (AdY bs)))] (H3 bs (AA S.ps 0 (Ar (ptrs S.ps) d')))=some Γ':=hx
     have nos:∀p,CP S.imp dst false p=false→∀t' j,p.root=.slot t' j→look [(t,VK g ((Bn S.rs rbase (Ar S.rs d)).map (AdY bs)))] t'=none:=by
      intro p hp t' j hr;rw[A6,if_neg];rintro rfl;have:=((Ct hp).2 t hdst).1;rw[E4.2 ⟨j,hr⟩]at this;cases this
     have T:Tr (CP S.imp dst false) (CP S.imp dst false) CR μ μ st.ver st2.ver (lnT F Γ) (lnT F Γ'):=by
      refine⟨fun _ _=>rfl,fun p hp=>⟨rfl,hver p (Ct hp).1 (fun t ht=>((Ct hp).2 t ht).1),fun n hn=>Jm hx h.ss (nos p hp) (fun b c hr=>objs p hp b c hr) hn⟩,fun p hp=>⟨rfl,hver p (Ct hp).1 (fun t ht=>((Ct hp).2 t ht).1)⟩⟩
     refine wok μ (h.upd hx T ?_ ?_ (fun b l hn hl=>unseen b l hl (outne b hn)) ?_ (fun _ h=>nomatch h) ?_ hnx2) (EJ.refl _ _)
     ·intro t' ht';refine hsl2 t' ?_;rintro he;rw[hdst]at he;cases he;rw[A6,if_pos rfl]at ht';cases ht'
     ·intro t' x' hx';rw[A6]at hx';split at hx'
      case isFalse=>cases hx'
      rename_i ht;cases hx';subst ht;rw[hsld t hdst];refine Aly (fun hv=>?_) (AnL (b0:=(look bs 0).getD 0) hrp hSw (hSl0.2.2.2.imp id hfst) rbase _ pres hsv _ _);obtain⟨v,hv⟩:=hv;rw[hv]at hgd;rw[Amd hx h.ss g fun p hp=>?_]
      ·exact hg
      ·rw[A6,if_neg];intro he;have:(TX.val g v).guards t=true:=List.any_eq_true.2 ⟨p,hp,by simp[he]⟩;rw[show(VK g [v]).guards t=(TX.val g v).guards t from rfl,this]at hgd;cases hgd
     ·intro b l hl;obtain⟨k,q1,q2,q3,q4⟩:=newb b l hl;exact⟨k,q1,MR q4 q2,q3,solidL q4⟩
     ·intro b b' l l' hl hl' he;rw[G0 hx b']at hl';refine inj2 b b' (by rw[hl];rfl) ?_ he
      cases ho:look (H3 bs (AA S.ps 0 (Ar (ptrs S.ps) d'))) b' with
      |some y=>exact .inl rfl
      |none=>
       rw[ho]at hl';simp only[Qa9]at hl';obtain⟨l0,hl0,_⟩:=hl';exact .inr ⟨l0,hl0⟩
   |true=>
    have himp:S.imp=true:=by simp[Sig.imp,hrp]
    have hVs:V.isSome=true:=by rw[hVi,himp]
    simp only[WC,hdst,hrp,cond_true]at hx;rw[←hdst]at hx;split at hx
    case h_2=>cases hx
    rename_i t1 tt1 hrs
    cases hout:look (H3 bs (AA S.ps 0 (Ar (ptrs S.ps) d'))) (t+rbase)with
    |some y=>rw[hout]at hx;cases hx
    |none=>
     rw[hout]at hx;have hx:TS.upd F Γ (CP S.imp dst true) (CP S.imp dst true) (fun b=>Qa5 b (t+rbase)) [(t,.val [] (.one (.box (t+rbase) 0)))] (H3 bs (AA S.ps 0 (Ar (ptrs S.ps) d'))++[(t+rbase,Ar S.rs d)])=some Γ':=hx
     have hbr:Ba S.rs rbase (Ar S.rs d)=[(rbase,Ar S.rs d)]:=by
      have hlen:(Ar S.rs d).length=(tyP S.rs).size:=CZ _ _ _;generalize Ar S.rs d=cs at hlen;rw[hrs]at hlen⊢;simp only[Ba];rw[List.take_of_length_le (by rw[hlen];exact Qa3 _)]
     have hBr:look BB rbase=some (Ar S.rs d):=by
      simp only[BB,Bj]
      cases ho:look (AA S.ps 0 (Ar (ptrs S.ps) d')) rbase with
      |some y=>have:=(CD _ _ _ _ _ ho).2.2;omega
      |none=>rw[hbr];simp[Aq]
     obtain⟨kr,r1,r2,r3,r4⟩:=named hVs rbase _ (.inr ⟨rfl,rfl⟩) hBr
     have hfrr:st.hp.next≤μ'' rbase:=by rw[←hH0];exact hfr rbase (Qa3 _)
     let μ2:=VS.upd μ (t+rbase) (μ'' rbase)
     have hmu:∀b,b≠t+rbase→μ2 b=μ b:=fun b hb=>by simp[μ2,VS.upd,hb]
     have hmut:μ2 (t+rbase)=μ'' rbase:=by simp[μ2,VS.upd]
     have nb:∀b,look (H3 bs (AA S.ps 0 (Ar (ptrs S.ps) d'))++[(t+rbase,Ar S.rs d)]) b=match look (H3 bs (AA S.ps 0 (Ar (ptrs S.ps) d'))) b with|some l=>some l|none=>if t+rbase=b then some (Ar S.rs d)else none:=by
      intro b;rw[Bj];split
      ·rename_i heq;simp only[heq]
      ·rename_i heq;simp only[heq,A6]
     have pm:∀p,CP S.imp dst true p=false→p.mu μ2=p.mu μ:=by
      intro p hp
      cases hr:p.root with
      |slot t' j=>simp[Place.mu,hr,Root.mu]
      |obj b c=>
       have:=(Ct hp).1 himp;rw[Iz.2 ⟨b,c,hr⟩]at this;cases this
     have hv2:∀p,CP S.imp dst true p=false→st2.ver (p.mu μ2).root=st.ver (p.mu μ).root:=by
      intro p hp;rw[pm p hp];exact hver p (Ct hp).1 (fun t ht=>((Ct hp).2 t ht).1)
     have T:Tr (CP S.imp dst true) (CP S.imp dst true) (fun b=>Qa5 b (t+rbase)) μ μ2 st.ver st2.ver (lnT F Γ) (lnT F Γ'):=by
      refine⟨fun b hb=>hmu b (by rintro rfl;simp at hb),fun p hp=>⟨pm p hp,hv2 p hp,fun n hn=>Jm hx h.ss (fun t' j hr=>?_) (fun b c hr=>?_) hn⟩,fun p hp=>⟨pm p hp,hv2 p hp⟩⟩
      ·rw[A6,if_neg];rintro rfl;have:=((Ct hp).2 t hdst).1;rw[E4.2 ⟨j,hr⟩]at this;cases this
      ·have:=(Ct hp).1 himp;rw[Iz.2 ⟨b,c,hr⟩]at this;cases this
     have hml:EJ st.hp.next μ μ2:=by
      refine⟨fun b hb=>hmu b zm,fun b=>?_⟩
      by_cases hbt:b=t+rbase
      ·rw[hbt,hmut];exact .inr hfrr
      ·exact .inl (hmu b hbt)
     refine wok μ2 (h.upd hx T ?_ ?_ ?_ ?_ ?_ ?_ hnx2) hml
     ·intro t' ht';refine hsl2 t' ?_;rintro he;rw[hdst]at he;cases he;rw[A6,if_pos rfl]at ht';cases ht'
     ·intro t' x' hx';rw[A6]at hx';split at hx'
      case isFalse=>cases hx'
      rename_i ht;cases hx';subst ht;rw[hsld t hdst]
      have hsv2:svs μ'' dv dl (Bn [.ptr t1 tt1] rbase (Ar S.rs d)) ss':=by
       have:=hsv;generalize Ar S.rs d=cs at this⊢
       rwa [hrs]at this
      match ss',hsv2 with
      |[s],hsv2=>
       obtain⟨a,rfl,ha⟩:=hsv2.1;have ha:a=_:=ha;subst ha;exact⟨_,rfl,_,rfl,by simp[TC.av,hmut]⟩
      |[],hsv2=>exact hsv2.elim
      |_::_::_,hsv2=>exact hsv2.2.elim
     ·intro b l hn hl;rw[nb b]at hn;split at hn
      ·cases hn
      ·rename_i ho;exact unseen b l hl (outne b ho)
     ·intro b l hl;rw[nb b]at hl;split at hl
      ·rename_i l' ho;cases hl;obtain⟨k,q1,q2,q3,q4⟩:=newb b l ho
       have hbt:b≠t+rbase:=by rintro rfl;rw[hout]at ho;cases ho
       rw[hmu b hbt];exact⟨k,q1,MR q4 q2,q3,solidL q4⟩
      ·split at hl
       case isFalse=>cases hl
       rename_i hbt;cases hl;subst hbt;rw[hmut];exact⟨kr,r1,MR r2 r3,r4,solidL r2⟩
     ·intro b hb;have:b=t+rbase:=Qa7 hb;rw[this,nb (t+rbase),hout,if_pos rfl];rfl
     ·intro b b' l l' hl hl' he
      have new':b'≠t+rbase→∃l0,TS.box F Γ b'=some l0:=by
       intro hne;rw[G0 hx b',nb b']at hl'
       cases ho:look (H3 bs (AA S.ps 0 (Ar (ptrs S.ps) d'))) b' with
       |some y=>exact outbx b' (by rw[ho];rfl)
       |none=>
        rw[ho,if_neg (Ne.symm hne)]at hl';simp only[Qa9]at hl';obtain⟨l0,hl0,_⟩:=hl';exact⟨l0,hl0⟩
      have lt':∀{b l},TS.box F Γ b=some l→μ b<st.hp.next:=fun{b l} hb=>by obtain⟨_,_,_,q,_⟩:=h.bx b l hb;exact q
      rw[nb b]at hl
      by_cases hbt:b=t+rbase
      ·by_cases hbt':b'=t+rbase
       ·rw[hbt,hbt']
       ·obtain⟨l0,hl0⟩:=new' hbt';rw[hbt,hmut,hmu b' hbt']at he;have:=lt' hl0;omega
      ·have hob:(look (H3 bs (AA S.ps 0 (Ar (ptrs S.ps) d'))) b).isSome=true:=by
        cases ho:look (H3 bs (AA S.ps 0 (Ar (ptrs S.ps) d'))) b with
        |some y=>rfl
        |none=>rw[ho,if_neg (Ne.symm hbt)]at hl;cases hl
       obtain⟨l1,hl1⟩:=outbx b hob
       by_cases hbt':b'=t+rbase
       ·rw[hbt',hmut,hmu b hbt]at he;have:=lt' hl1;omega
       ·obtain⟨l0,hl0⟩:=new' hbt';rw[hmu b hbt,hmu b' hbt']at he;exact h.inj b b' l1 l0 hl1 hl0 he
end
end Go.VS
namespace Go.VS
structure TOp where
 g:GOp
 ty:Option (BT×TT):=none
 sg:Sig:=⟨[],[]⟩
 fz:Bool:=false
 sp:Option Nat:=none
 hv:Bool:=false
 sb:Bool:=false
 deriving Inhabited
def o0(g:GOp):TOp:=⟨g,none,⟨[],[]⟩,false,none,false,false⟩
def o1(d:Nat)(op:AOp):TOp:=⟨⟨some d,op,none⟩,none,⟨[],[]⟩,false,none,false,false⟩
def oS(g:GOp)(S:Sig):TOp:=⟨g,none,S,false,none,false,false⟩
instance(n:Nat):OfNat Opd n:=⟨.t n⟩
def im(d x:Nat):TOp:=o1 d (.mv (.t x))
def fa(d k x:Nat):TOp:=o1 d (.fAddr k (.t x))
def gf(d g:Nat)(op:AOp):TOp:=o0 ⟨some d,op,some (g,false)⟩
def rg(l:List Nat)(a n:Nat):List Nat:=l++List.range' a n
abbrev bI:BT:=.int .i64
abbrev tO:TT:=.node .own .leaf
abbrev tM:TT:=.node .imm .leaf
def Ac{D:Type}(body:(D→Prop)→Prop)(rest:D→Prop):Prop:=∃J:D→Prop,body J∧∀d,J d→rest d
def AJ{D:Type}(x:D)(body:D→(D→Prop)→Prop):Prop:=∃I:Nat→D→Prop,(∃n,I n x)∧∀n d,I n d→body d fun d'=>∃m,m<n∧I m d'
def Amz:List Ob→Prop→Prop
 |[],q=>q
 |p::ps,q=>p.p∧Amz ps q
def Ia{α:Type}(x:R α)(K:α→Prop):Prop:=match x with
 |none=>False
 |some (ps,a)=>Amz ps (K a)
theorem Rn:∀{ps:List Ob} {q:Prop},Amz ps q→R.AbW ps∧q
 |[],_,h=>⟨trivial,h⟩
 |p::ps,_,h=>⟨⟨h.1,(Rn h.2).1⟩,(Rn h.2).2⟩
theorem CE{α:Type}{x:R α}{K:α→Prop}(h:Ia x K):∃a,x.ok a∧K a:=by
 match x,h with
 |some (ps,a),h=>exact⟨a,⟨ps,rfl,(Rn h).1⟩,(Rn h).2⟩
def QY(F Γ:TS):Option (Nat×Bool)→Option Gd
 |none=>some []
 |some (t,w)=>match TS.slot F Γ t with
  |some (.val gd (.one (.bool _)))=>some ((t,w)::gd)
  |_=>none
def AOp.Am1:AOp→Bool
 |.mkSl ..=>true
 |_=>false
def MQ{α:Type}(x:Option α)(K:α→Prop):Prop:=match x with
 |none=>False
 |some a=>K a
theorem Eb{α:Type}{x:Option α}{K:α→Prop}(h:MQ x K):∃a,x=some a∧K a:=by
 match x,h with
 |some a,h=>exact⟨a,rfl,h⟩
def Ace(P:Pg)(F Γ:TS)(S:Sig)(dst:Option Nat)(op:AOp)(K:TS→Prop):Prop:=
 bif S.free then
  Ia (Nn F Γ S.imp [] op) fun c=>
  MQ (BQ Γ S.ps 0 c.2 []) fun m=>
  MQ (Va S.ps m.1) fun x=>
  Ia (Xk F Γ op.given) fun Γ1=>
  Fn P c.1 S x fun d d'=>MQ (WC F Γ1 S [] dst m.2 d d') K
 else False
def SE(F Γ:TS)(xs:List Opd):Bool:=xs.all fun
 |.t n=>match TS.slot F Γ n with
  |some (.val _ v)=>!(v.cells.any ownish)
  |_=>false
 |_=>true
def gnimp(F Γ:TS):Gd→Prop→Prop
 |[],_=>True
 |(
   t,w)::r,q=>(match Gr F Γ t with
  |some b=>b=!w→q
  |none=>q)∧gnimp F Γ r q
def one?:List PT→Bool
 |[.val _ _ _]=>true
 |_=>false
def Xo(P:Pg)(F Γ:TS)(S:Sig)(dst:Option Nat)(op:AOp)(g:Gd)(K:TS→Prop):Prop:=
 bif S.free&&(!S.imp&&(SE F Γ op.given&&one? S.rs))then
  Ac (D:=DP S.rs) (fun J=>
   (Ia (Nn F Γ false g op) fun c=>
    MQ (BQ Γ S.ps 0 c.2 []) fun m=>
    MQ (Va S.ps m.1) fun x=>gimp F Γ g (Fn P c.1 S x fun d _=>J d))∧
   gnimp F Γ g (J (tyP S.rs).dflt))
   fun d=>match dst with
    |some t=>Ia (Ie F Γ t (VK g (Bn S.rs rbase (Ar S.rs d)))) K
    |none=>False
 else False
def V1(F Γ:TS)(o:GOp):Option (Nat×Nat×List TSV):=match o.guard,o.op,o.dst with
 |none,.mv (.t n),some d=>match TS.slot F Γ n with
  |some (.tup l)=>bif Qa5 n d||!(l.all TSV.K2)then none else some (n,d,l)
  |_=>none
 |_,_,_=>none
def AOp.pan?:AOp→Option Opd
 |.panic x=>some x
 |_=>none
def ApM(P:Pg)(F Γ:TS)(x:Opd):Prop:=Ia (JJ F Γ [] x) fun
 |.lit (.iface t u)=>P.kp (.iface t u)
 |_=>False
def Uy(P:Pg)(F Γ:TS)(o:TOp)(K:TS→Prop):Prop:=
 match V1 F Γ o.g with
 |some (n,d,l)=>Ia (Ie F Γ n .gone) fun Γ1=>Ia (Ie F Γ1 d (.tup l)) K
 |none=>
 MQ (QY F Γ o.g.guard) fun g=>
  bif o.g.op.KK then(match g with
   |[]=>Ace P F Γ o.sg o.g.dst o.g.op K
   |p::g=>Xo P F Γ o.sg o.g.dst o.g.op (p::g) K)
  else bif o.g.op.isW||o.g.op.Am1 then(match g with
   |[]=>(match o.g.op.pan? with
    |some x=>ApM P F Γ x
    |none=>Ia (MD F Γ o.g.dst o.ty o.g.op) K)
   |_::_=>False)
  else Ia (Iw F Γ g o.g.op) fun v=>match o.g.dst with
   |none=>K Γ
   |some d=>Ia (Ie F Γ d (.val g v)) K
def TC.AkO:TC→TC
 |.sl .own tt e l=>.sl .imm tt.frz e l
 |c=>c
def TSV.AqV:TSV→TSV
 |.one c=>.one c.AkO
 |.agg l=>.agg (l.map TC.AkO)
 |v=>v
def Ais(F Γ:TS):Option Nat→R TS
 |some d=>match TS.slot F Γ d with
  |some (.val [] v)=>Ie F Γ d (.val [] v.AqV)
  |_=>R.fail
 |none=>R.fail
def Ak4(F Γ:TS):Option (Nat×Bool)→Option Bool
 |some (t,w)=>match TS.slot F Γ t with
  |some (.val gd (.one (.bool b)))=>some (gv F Γ gd&&(bif w then b else !b))
  |_=>none
 |none=>none
def AlH(F Γ:TS)(sb:Bool)(o:Option (Nat×Bool)):TX:=match QY F Γ o with
 |some g=>bif sb then .val g (.one (.bool false))else .gone
 |none=>.gone
def TS.setb(Γ:TS)(t:Nat)(b:Bool):TS:=⟨(t,.val [] (.one (.bool b)))::Γ.sl,Γ.bx⟩
def YG(P:Pg)(F Γ:TS)(o:TOp)(K:TS→Prop):Prop:=match o.hv with
 |false=>Uy P F Γ o K
 |true=>match Ak4 F Γ o.g.guard with
  |some true=>Uy P F Γ ⟨⟨o.g.dst,o.g.op,none⟩,o.ty,o.sg,o.fz,none,false,false⟩ K
  |some false=>(match o.g.dst with
   |none=>K Γ
   |some d=>Ia (Ie F Γ d (AlH F Γ o.sb o.g.guard)) K)
  |none=>False
def Uz(P:Pg)(F Γ:TS)(o:TOp)(K:TS→Prop):Prop:=YG P F Γ o fun Γ'=>bif o.fz then Ia (Ais F Γ' o.g.dst) K else K Γ'
def tstep(P:Pg)(F Γ:TS)(o:TOp)(K:TS→Prop):Prop:=match o.sp with
 |none=>Uz P F Γ o K
 |some t=>match look Γ.sl t with
  |some (.val [] (.one (.bool b)))=>(b=true→Uz P F (Γ.setb t true) o K)∧(b=false→Uz P F (Γ.setb t false) o K)
  |some (.val (_::_) _)=>Uz P F Γ o K
  |_=>False
def tops(P:Pg)(F:TS):List TOp→TS→(TS→Prop)→Prop
 |[],Γ,K=>K Γ
 |o::r,Γ,K=>tstep P F Γ o fun Γ'=>tops P F r Γ' K
inductive HL
 |done
 |first(o:TOp) (rest:HL)
 |alt (o:TOp) (rest more:HL)
 |stop
 deriving Inhabited
def HL.erase:HL→Ha
 |.done=>.done
 |.first o r=>.first o.g r.erase
 |.alt o r m=>.alt o.g r.erase m.erase
 |.stop=>.stop
def ttree(P:Pg)(F:TS):HL→TS→(TS→Prop)→Prop
 |.done,Γ,K=>K Γ
 |.first o r,Γ,K=>tstep P F Γ o fun Γ'=>ttree P F r Γ' K
 |.alt o r m,Γ,K=>(tstep P F Γ o fun Γ'=>ttree P F r Γ' K)∧ttree P F m Γ K
 |.stop,_,_=>True
inductive LE
 |sl (t:Nat) (agg:Bool) (ty:BT) (tt:TT)
 |bx (b:Nat) (ty:BT) (tt:TT)
 |pt (t b c:Nat)
 |rf (t:Nat) (p:Place) (tt:TT) (e:BT)
 |ad (t:Nat) (p:Place) (tt:TT) (e:BT) (c:Nat)
def LE.si(t:Nat):LE:=.sl t false (.int .i64) .leaf
def LE.bt:LE→BT
 |.sl _ _ t _=>t
 |.bx _ t _=>t
 |.pt ..=>.unit
 |.rf ..=>.int .i64
 |.ad ..=>.int .i64
def LE.tt:LE→TT
 |.sl _ _ _ t=>t
 |.bx _ _ t=>t
 |.pt ..=>.leaf
 |.rf ..=>.leaf
 |.ad ..=>.leaf
def tyL:List LE→BT
 |[]=>.unit
 |.pt _ _ _::r=>tyL r
 |[p]=>p.bt
 |p::r=>.pair p.bt (tyL r)
def ttL:List LE→TT
 |[]=>.leaf
 |.pt _ _ _::r=>ttL r
 |[p]=>p.tt
 |p::r=>.pair p.tt (ttL r)
def rfC(p:Place)(tt:TT)(e:BT):List TC→TC
 |.int _ n::_=>.ref p tt e (some (0,n.toNat))
 |_=>.dead
def adC(p:Place)(tt:TT)(e:BT)(c:Nat):List TC→TC
 |.int _ n::_=>.adr p tt e n.toNat c
 |_=>.dead
@[reducible] def DL(L:List LE):Type:=(tyL L).D
def Kn(L:List LE)(x:DL L):List TC:=(tyL L).ex (ttL L) x
def DN:List LE→List TC→List (Nat×TX)
 |[],_=>[]
 |.sl t agg ty _::r,cs=>(t,.val [] (mkT agg (cs.take ty.size)))::DN r (cs.drop ty.size)
 |.bx _ ty _::r,cs=>DN r (cs.drop ty.size)
 |.pt t b c::r,cs=>(t,.val [] (.one (.box b c)))::DN r cs
 |.rf t p tt e::r,cs=>(t,.val [] (.one (rfC p tt e cs)))::DN r (cs.drop 1)
 |.ad t p tt e c::r,cs=>(t,.val [] (.one (adC p tt e c cs)))::DN r (cs.drop 1)
def Ij:List LE→List TC→List (Nat×List TC)
 |[],_=>[]
 |.sl _ _ ty _::r,cs=>Ij r (cs.drop ty.size)
 |.bx b ty _::r,cs=>(b,cs.take ty.size)::Ij r (cs.drop ty.size)
 |.pt _ _ _::r,cs=>Ij r cs
 |.rf _ _ _ _::r,cs=>Ij r (cs.drop 1)
 |.ad _ _ _ _ _::r,cs=>Ij r (cs.drop 1)
def build(L:List LE)(x:DL L):TS:=⟨DN L (Kn L x),Ij L (Kn L x)⟩
def Arf(F Γ:TS)(p:Place):Option (Nat×Nat)→Option Nat
 |none=>lnT F Γ p
 |some (lo,n)=>bif Qa5 lo 0 then some n else none
def collect(F Γ:TS):List LE→Option (List TC)
 |[]=>some []
 |.sl t agg ty _::r=>match look Γ.sl t,agg,collect F Γ r with
  |some (.val [] (.one c)),false,some cs=>bif Qa5 ty.size 1 then some (c::cs)else none
  |some (.val [] (.agg l)),true,some cs=>bif Qa5 l.length ty.size then some (l++cs)else none
  |_,_,_=>none
 |.bx b ty _::r=>match look Γ.bx b,collect F Γ r with
  |some l,some cs=>bif Qa5 l.length ty.size then some (l++cs)else none
  |_,_=>none
 |.pt t b c::r=>match look Γ.sl t,collect F Γ r with
  |some (.val [] (.one (.box b' c'))),some cs=>bif Qa5 b' b&&Qa5 c' c then some cs else none
  |_,_=>none
 |.rf t p _ e::r=>match look Γ.sl t,collect F Γ r with
  |some (.val [] (.one (.ref p' _ e' w))),some cs=>if p'=p∧e'.size=e.size then(match Arf F Γ p w with
   |some n=>some (.int .i64 n::cs)
   |none=>none)else none
  |_,_=>none
 |.ad t p _ e c::r=>match look Γ.sl t,collect F Γ r with
  |some (.val [] (.one (.adr p' _ e' i c'))),some cs=>if p'=p∧e'.size=e.size∧c'=c then some (.int .i64 i::cs)else none
  |_,_=>none
def TX.gdd:TX→Bool
 |.val [] _=>false
 |.val _ _=>true
 |_=>false
def Aix(t:Nat):LE→Bool
 |.sl t' _ _ _=>Qa5 t' t
 |.bx _ _ _=>false
 |.pt t' _ _=>Qa5 t' t
 |.rf t' _ _ _=>Qa5 t' t
 |.ad t' _ _ _ _=>Qa5 t' t
def Apv(b:Nat):LE→Bool
 |.sl _ _ _ _=>false
 |.bx b' _ _=>Qa5 b' b
 |.pt _ _ _=>false
 |.rf _ _ _ _=>false
 |.ad _ _ _ _ _=>false
def onL(L:List LE)(p:Place):Bool:=match p.root with
 |.slot t _=>L.any (Aix t)
 |.obj b _=>L.any (Apv b)
def MU(L:List LE)(F Γ:TS):Option (DL L):=bif F.sl.any (fun p=>p.2.gdd||p.2.hit (onL L) (onL L) CR)then none else match collect F Γ L with
 |some cs=>(tyL L).Sq (ttL L) cs
 |none=>none
def inM(l:List Nat)(t:Nat):Bool:=l.any fun s=>Qa5 s t
def Ah2(ms mb:List Nat)(ob:Bool)(p:Place):Bool:=match p.root with
 |.slot t _=>inM ms t
 |.obj b _=>ob||inM mb b
def TX.keep(q:Place→Bool)(x:TX):TX:=bif x.gdd||x.hit q q CR then .gone else x
def Ex(Γ:TS)(ms mb:List Nat)(ob:Bool):TS:=⟨(Γ.sl.filter fun p=>!inM ms p.1).map fun p=>(p.1,p.2.keep (Ah2 ms mb ob)),Γ.bx.filter fun p=>!inM mb p.1⟩
def SC(Γ:TS)(ms mb:List Nat):TS:=⟨(Γ.sl.filter fun p=>inM ms p.1).map fun p=>(p.1,p.2.keep fun _=>false),Γ.bx.filter fun p=>inM mb p.1⟩
def TS.over(Γ R:TS):TS:=⟨Γ.sl++R.sl,Γ.bx++R.bx⟩
structure Kt where
 norm:TS→Prop
 ret:TS→Prop
 ex:List (Nat×(TS→Prop))
def Kt.map(k:Kt)(f:TS→TS):Kt:=⟨fun Γ=>k.norm (f Γ),fun Γ=>k.ret (f Γ),k.ex.map fun p=>(p.1,fun Γ=>p.2 (f Γ))⟩
inductive D1
 |skip
 |region (ops:List TOp)
 |draw (ts:List HL)
 |seq (a b:D1)
 |cond (c:Opd) (thn els:D1)
 |block (id:Nat) (body:D1)
 |loop (L:List LE) (body:D1)
 |exit (id:Nat)
 |ret
 |join (L:List LE) (a:D1)
 |frame (ms mb:List Nat) (ob:Bool) (a:D1)
 |frz (l:List Nat) (a:D1)
 deriving Inhabited
def D1.erase:D1→DS
 |.skip=>.skip
 |.region ops=>.region (ops.map (·.g)) false
 |.draw ts=>.draw (ts.map HL.erase)
 |.seq a b=>.seq a.erase b.erase
 |.cond c a b=>.cond c a.erase b.erase
 |.block id a=>.block id a.erase
 |.loop _ a=>.loop a.erase
 |.exit id=>.exit id
 |.ret=>.ret
 |.join _ a=>a.erase
 |.frame _ _ _ a=>a.erase
 |.frz _ a=>a.erase
def Xh(F Γ:TS):List Nat→R TS
 |[]=>pure Γ
 |n::r=>do
  let Γ1←Ais F Γ (some n)
  Xh F Γ1 r
def trees(P:Pg)(F:TS)(Γ:TS)(K:TS→Prop):List HL→Prop
 |[]=>True
 |[t]=>ttree P F t Γ K
 |t::ts=>ttree P F t Γ K∧trees P F Γ K ts
def tw(P:Pg):D1→TS→TS→Kt→Prop
 |.skip,_,Γ,k=>k.norm Γ
 |.region ops,F,Γ,k=>tops P F ops Γ k.norm
 |.draw ts,F,Γ,k=>trees P F Γ k.norm ts
 |.seq a b,F,Γ,k=>tw P a F Γ ⟨fun Γ'=>tw P b F Γ' k,k.ret,k.ex⟩
 |.cond x a b,F,Γ,k=>Ia (Zq F Γ [] x) fun c=>(c=true→tw P a F Γ k)∧(c=false→tw P b F Γ k)
 |.block id a,F,Γ,k=>tw P a F Γ ⟨k.norm,k.ret,(id,k.norm)::k.ex⟩
 |.loop L a,F,Γ,k=>MQ (MU L F Γ) fun x=>AJ x fun d J=>tw P a F (build L d) ⟨fun Γ'=>MQ (MU L F Γ') J,k.ret,k.ex⟩
 |.exit id,_,Γ,k=>MQ (look k.ex id) fun q=>q Γ
 |.ret,_,Γ,k=>k.ret Γ
 |.join L a,F,Γ,k=>Ac (fun J=>tw P a F Γ ⟨fun Γ'=>MQ (MU L F Γ') J,k.ret,k.ex⟩) fun d=>k.norm (build L d)
 |.frame ms mb ob a,F,Γ,k=>bif F.sl.any (fun p=>p.2.gdd)then False else
  tw P a ((Ex Γ ms mb ob).over F) (SC Γ ms mb) (k.map fun Γ'=>Γ'.over (Ex Γ ms mb ob))
 |.frz l a,F,Γ,k=>Ia (Xh F Γ l) fun Γ'=>tw P a F Γ' k
section
variable{P:Pg}{μ μ':Nat→Nat}{F Γ Γ':TS}{st st':St}{K:TS→Prop}
theorem Afw(h:Sim μ F Γ st){o:Option (Nat×Bool)}{g:Gd}(hg:QY F Γ o=some g):(st.guard o).holds (·=gv F Γ g):=by
 cases o with
 |none=>cases hg;trivial
 |some p=>
  obtain⟨t,w⟩:=p;simp only[QY]at hg;split at hg
  case h_2=>cases hg
  rename_i gd b hs;cases hg;obtain⟨s,heq,a,hsa,ha⟩:=h.sl t _ hs;have ha:a=_:=ha
  grind [St.guard,M.Ab,gv,Gr]
theorem QX:∀{g:Gd} {q:Prop},gnimp F Γ g q→gv F Γ g=false→q
 |[],q,_,h=>by cases h
 |(t,w)::r,q,hq,h=>by
  simp only[gnimp,gv]at hq h;rw[Bool.and_eq_false_iff]at h
  rcases h with h|h
  ·split at h
   ·rename_i b hb;rw[hb]at hq;refine hq.1 ?_
    cases b<;>cases w<;>simp_all
   grind
  ·exact QX hq.2 h
theorem Sim.mark{n:Nat}(h:Sim μ F Γ st)(hm:EJ n μ' μ):WOk μ' n F Γ st:=⟨μ,st,Ed.refl _,h,hm⟩
def After(μ:Nat→Nat)(n:Nat)(F:TS)(K:TS→Prop)(st':St):Prop:=∃Γ',WOk μ n F Γ' st'∧n≤st'.hp.next∧K Γ'
open Classical in
theorem Akm(h:Sim μ F Γ st){S:Sig}{dst:Option Nat}{op:AOp}(hx:Ace P F Γ S dst op K):
  JK P st dst op (After μ st.hp.next F K):=by
 unfold Ace at hx
 cases hS:S.free with
 |false=>rw[hS]at hx;exact hx.elim
 |true=>
  rw[hS]at hx;obtain⟨⟨nm,vs⟩,h1,hx⟩:=CE hx;obtain⟨⟨cs,bs⟩,h2,hx⟩:=Eb hx;obtain⟨x,h3,hx⟩:=Eb hx;obtain⟨Γ1,h4,hx⟩:=CE hx;dsimp only at h2 h3 h4 hx
  let μ':Nat→Nat:=fun j=>match look bs j with|some b=>μ b|none=>0
  have hμ':∀j b,look bs j=some b→μ' j=μ b:=by intro j b hj;simp only[μ',hj]
  let V:Vis:=if S.imp then some (fun o=>decide (∃j b,look bs j=some b∧μ b=o))else none
  have hVi:V.isSome=S.imp:=by simp only[V];cases S.imp<;>rfl
  have hVs:S.imp=true→∀o,V.sees o=true↔∃j b,look bs j=some b∧μ b=o:=by
   intro hi o;simp only[V,hi,if_true,Vis.sees,decide_eq_true_eq]
  have hVn:S.imp=false→V=none:=by intro hi;simp[V,hi]
  refine⟨V,M.Ah (QN h hVn (g:=[]) rfl h1) ?_⟩;rintro⟨nm',as⟩ ⟨rfl,has⟩;obtain⟨⟨A,hA,hrest⟩,hb1,hb2⟩:=PI h has h2 hμ' (.inl (by simp only[Sig.free,Qa0]at hS;exact hS.2.2.2.2.2.1))
  have hco:=GJ h3 hA;obtain⟨⟨as',k1,k2⟩,k3,k4⟩:=hrest (Ar S.ps x) _ hco (Fb _ _ _) (TO _ _ _)
  let Pp:Nat→List AV→Prop:=fun o m'=>∃j l b m,look (Ba S.ps 0 (Ar S.ps x)) j=some l∧look bs j=some b∧μ b=o∧st.hp.get o=some m∧CoL m m'∧avs μ' dv dl l m'
  have muinj:∀b0 b1,(look Γ.bx b0).isSome=true→(look Γ.bx b1).isSome=true→μ b0=μ b1→b0=b1:=by
   intro b0 b1 h0 h1 he;obtain⟨l0,hl0⟩:=Option.isSome_iff_exists.1 h0;obtain⟨l1,hl1⟩:=Option.isSome_iff_exists.1 h1;exact h.inj b0 b1 l0 l1 (by simp[TS.box,hl0]) (by simp[TS.box,hl1]) he
  let H0:Heap:=⟨fun o=>if hp:∃m',Pp o m' then some hp.choose else none,st.hp.next⟩
  have hPp:∀j l,look (Ba S.ps 0 (Ar S.ps x)) j=some l→∃b m',look bs j=some b∧Pp (μ b) m'∧μ b<st.hp.next:=by
   intro j l hj;obtain⟨b,m,m',q1,q2,q3,q4,q5,q6⟩:=k3 j l hj;exact⟨b,m',q1,⟨j,l,b,m,hj,q1,rfl,q3,q4,q5⟩,q6⟩
  have hH:Aav μ' (Ba S.ps 0 (Ar S.ps x)) H0:=by
   refine⟨?_,?_,?_⟩
   ·intro j l hj;obtain⟨b,m',q1,q2,q3⟩:=hPp j l hj
    have hex:∃m',Pp (μ b) m':=⟨m',q2⟩
    refine⟨hex.choose,?_,?_,?_⟩
    ·rw[hμ' j b q1];simp only[H0,dif_pos hex]
    ·obtain⟨j2,l2,b2,m2,r1,r2,r3,_,_,r6⟩:=hex.choose_spec;have:=muinj b2 b (hb1 j2 b2 r2).2 (hb1 j b q1).2 r3;subst this;have:=hb2 j2 j b2 r2 q1;subst this;rw[hj]at r1;cases r1;exact r6
    ·rw[hμ' j b q1];exact q3
   ·intro j j2 l l2 hj hj2 he;obtain⟨b,_,q1,_,_⟩:=hPp j l hj;obtain⟨b2,_,r1,_,_⟩:=hPp j2 l2 hj2;rw[hμ' j b q1,hμ' j2 b2 r1]at he;have:=muinj b b2 (hb1 j b q1).2 (hb1 j2 b2 r1).2 he;subst this;exact hb2 j j2 b q1 r1
   ·intro o m hm;simp only[H0]at hm;split at hm
    case isFalse=>cases hm
    rename_i hex;obtain⟨_,j,l,b,m2,r1,r2,r3,_⟩:=hex;exact⟨j,l,r1,by rw[hμ' j b r2,r3]⟩
  have hF:=hx μ' H0 as' k1 hH
  have hheap:∀o,((st.hp.shown V).get o=none∧H0.get o=none)∨∃l m,(st.hp.shown V).get o=some l∧H0.get o=some m∧CoL l m:=by
   intro o
   by_cases hex:∃m',Pp o m'
   ·obtain⟨j,l,b,m,r1,r2,r3,r4,r5,r6⟩:=hex.choose_spec
    have hi:S.imp=true:=by
     cases hi:S.imp with
     |true=>rfl
     |false=>
      simp only[Sig.imp,Qa1]at hi;rw[BJ hi.1]at r1;cases r1
    refine .inr ⟨m,hex.choose,?_,by simp only[H0,dif_pos hex],r5⟩;simp only[Heap.shown];rw[if_pos ((hVs hi o).2 ⟨j,b,r2,r3⟩),r4]
   ·refine .inl ⟨?_,by simp only[H0,dif_neg hex]⟩;simp only[Heap.shown]
    cases hs:V.sees o with
    |false=>rfl
    |true=>
     exfalso
     have hi:S.imp=true:=by
      cases hi:S.imp with
      |true=>rfl
      |false=>rw[hVn hi]at hs;cases hs
     obtain⟨j,b,r1,r2⟩:=(hVs hi o).1 hs;obtain⟨l,hl⟩:=k4 j b r1;obtain⟨b',m',q1,q2,_⟩:=hPp j l hl;rw[r1]at q1;cases q1;rw[r2]at q2;exact hex ⟨m',q2⟩
  refine(hF.co k2 hheap rfl).mono ?_;rintro r H' ⟨d,d',hp,hk⟩;obtain⟨Γ2,hb,hK⟩:=Eb hk;have h5:=ZS h h4;have hnx:=QV op.given st;have keys:=ZR h4
  obtain⟨H'',w1,w2,w3,w4,w5⟩:=Aj8 h5 hS (g:=[]) rfl (C:=Ar S.ps x) (fun j b hj=>by rw[keys b];exact(hb1 j b hj).2) hb2 k4 (fun j l hj=>by obtain⟨b,_,q1,_⟩:=hPp j l hj;exact⟨b,q1⟩) hμ' hVi hVs (H0:=H0) (by rw[hnx]) hp hb
  rw[hnx]at w4 w5;exact⟨H'',w1,w2,w3,Γ2,w4,w5,hK⟩
theorem AcG(h:Sim μ F Γ st){x:Opd}(hn:SE F Γ [x]=true):st.EG x=st:=by
 cases x with
 |t n=>
  simp only[SE,Qa6,List.all_nil,Bool.and_true]at hn;split at hn
  ·rename_i gd v hs;obtain⟨s,heq,hv⟩:=h.sl n _ hs
   have:(st.sl n).CI=false:=by rw[heq];exact Qq zg hv
   grind [St.EG]
  grind
 |_=>rfl
theorem Ns(h:Sim μ F Γ st):∀{xs:List Opd},SE F Γ xs=true→st.HS xs=st
 |[],_=>rfl
 |x::xs,hn=>by
  simp only[SE,Qa6,Qa0]at hn;rw[St.HS,AcG h (by grind [SE])];exact Ns h hn.2
theorem Adt{l:List PT}(h:one? l=true):∃agg t tt,l=[.val agg t tt]:=by
 match l,h with
 |[.val agg t tt],_=>grind
theorem ZK(v:TSV)(μ:Nat→Nat)(ver:Root→Nat)(ln:Place→Option Nat):∃s,v.sv μ ver ln s:=by
 have cell:∀c:TC,∃a,c.av μ ver ln a:=by
  intro c
  cases c with
  |ref p tt e w=>
   cases w with
   |none=>
    refine⟨.ref (p.mu μ) (ver (p.mu μ).root) e.size 0 ((ln p).getD 0),(ln p).getD 0,rfl,fun n hn=>zg⟩
   |some y=>exact⟨_,rfl⟩
  |dead=>exact⟨.dead,trivial⟩
  |_=>exact⟨_,rfl⟩
 have cells:∀l:List TC,∃as,avs μ ver ln l as:=by
  intro l
  induction l with
  |nil=>exact⟨[],trivial⟩
  |cons c l ih=>
   obtain⟨a,ha⟩:=cell c;obtain⟨as,has⟩:=ih;exact⟨a::as,ha,has⟩
 cases v with
 |one c=>obtain⟨a,ha⟩:=cell c;exact⟨_,a,rfl,ha⟩
 |agg l=>obtain⟨a,ha⟩:=cells l;exact⟨_,a,rfl,ha⟩
 |clo f l=>obtain⟨a,ha⟩:=cells l;exact⟨_,a,rfl,ha⟩
theorem AeW(h:Sim μ F Γ st){S:Sig}(hS:S.free=true)(hi:S.imp=false){μ':Nat→Nat}{H0 H':Heap}{d:DP S.rs}{d':DP (ptrs S.ps)}{r:TV}(hp:Wa S μ' H0 d d' r H'){t:Nat}{g:Gd}(ho:one? S.rs=true)(hg:gv F Γ g=true)
  (hx:(Ie F Γ t (VK g (Bn S.rs rbase (Ar S.rs d)))).ok Γ'):r.plain=true∧WOk μ st.hp.next F Γ' (st.Lk (some t) r):=by
 obtain⟨μ'',ss,ss',hm1,hr,hco,hsv,_,_,_⟩:=hp.res;subst hr;simp only[Sig.free,Qa0]at hS;obtain⟨hSp,hSr,hSw,_⟩:=hS;have pres:=LH hSr d
 have hSq:S.rs.all PT.MP=true:=by
  obtain⟨agg,t1,tt1,e⟩:=Adt ho;rw[e];rfl
 simp only[Sig.imp,Qa1]at hi;refine⟨Sb (hco.plains (Uu hsv fun v hv=>?_)),?_⟩
 ·have:=LF hi.2 hSw hSq rbase _ pres v hv;exact⟨this.2.1,this.2.2,UL hi.2 hSw hSq rbase _ pres (CZ _ _ _) v hv⟩
 ·have hsv2:svs μ st.ver (lnT F Γ) (Bn S.rs rbase (Ar S.rs d)) ss':=AdD (fun v hv=>(LF hi.2 hSw hSq rbase _ pres v hv).2) hsv;exact⟨μ,st.set t (gather ss'),Ed.set (ZT hco),Et h hx (AnM hg hsv2),EJ.refl _ _⟩
theorem Aiv(h:Sim μ F Γ st){S:Sig}{dst:Option Nat}{op:AOp}{g:Gd}(hx:Xo P F Γ S dst op g K):
  (gv F Γ g=true→JK P st dst op (After μ st.hp.next F K))∧(gv F Γ g=false→∃s,After μ st.hp.next F K (st.Lk dst (.val false s))):=by
 unfold Xo at hx
 cases hc:(S.free&&(!S.imp&&(SE F Γ op.given&&one? S.rs)))with
 |false=>grind
 |true=>
  rw[hc]at hx;simp only[Qa0,Bool.not_eq_true']at hc;obtain⟨hS,hi,hnf,ho⟩:=hc;obtain⟨J,⟨hx1,hx2⟩,hJ⟩:=hx
  cases dst with
  |none=>
   refine⟨fun hg=>?_,fun hg=>(hJ _ (QX hx2 hg)).elim⟩;obtain⟨⟨nm,vs⟩,h1,hx1⟩:=CE hx1;obtain⟨⟨cs,bs⟩,h2,hx1⟩:=Eb hx1;obtain⟨x,h3,hx1⟩:=Eb hx1;have hF:=PD hx1 hg;have hii:=hi;simp only[Sig.imp,Qa1]at hii;refine⟨none,M.Ah (QN h (fun _=>rfl) hg h1) ?_⟩;rintro⟨nm',as⟩ ⟨rfl,has⟩
   obtain⟨⟨A,hA,hrest⟩,hb1,hb2⟩:=PI (μ':=fun j=>match look bs j with|some b=>μ b|none=>0) h has h2 zg (.inl (by grind [Sig.free]));have hco:=GJ h3 hA;obtain⟨⟨as',k1,k2⟩,k3,k4⟩:=hrest (Ar S.ps x) _ hco (Fb _ _ _) (TO _ _ _)
   have:=(hF _ ⟨fun _=>none,st.hp.next⟩ as' k1 ⟨fun j l hj=>(by rw[BJ hii.1]at hj;cases hj),fun j j2 l l2 hj=>(by rw[BJ hii.1]at hj;cases hj),fun o m hm=>(nomatch hm)⟩).co k2 (H:=st.hp.shown none) (fun o=>.inl ⟨rfl,rfl⟩) rfl
   exact this.mono fun r H' ⟨d,d',_,hk⟩=>(hJ d hk).elim
  |some t=>
   refine⟨fun hg=>?_,fun hg=>?_⟩
   ·obtain⟨⟨nm,vs⟩,h1,hx1⟩:=CE hx1;obtain⟨⟨cs,bs⟩,h2,hx1⟩:=Eb hx1;obtain⟨x,h3,hx1⟩:=Eb hx1;have hF:=PD hx1 hg;have hii:=hi;simp only[Sig.imp,Qa1]at hii;refine⟨none,M.Ah (QN h (fun _=>rfl) hg h1) ?_⟩;rintro⟨nm',as⟩ ⟨rfl,has⟩
    obtain⟨⟨A,hA,hrest⟩,hb1,hb2⟩:=PI (μ':=fun j=>match look bs j with|some b=>μ b|none=>0) h has h2 zg (.inl (by grind [Sig.free]));have hco:=GJ h3 hA;obtain⟨⟨as',k1,k2⟩,k3,k4⟩:=hrest (Ar S.ps x) _ hco (Fb _ _ _) (TO _ _ _)
    have:=(hF _ ⟨fun _=>none,st.hp.next⟩ as' k1 ⟨fun j l hj=>(by rw[BJ hii.1]at hj;cases hj),fun j j2 l l2 hj=>(by rw[BJ hii.1]at hj;cases hj),fun o m hm=>(nomatch hm)⟩).co k2 (H:=st.hp.shown none) (fun o=>.inl ⟨rfl,rfl⟩) rfl
    refine this.mono ?_;rintro r H' ⟨d,d',hp,hk⟩;obtain⟨Γ2,h5,hK⟩:=CE (hJ d hk);obtain⟨w1,w2⟩:=AeW h hS hi hp ho hg h5;refine⟨H',⟨rfl,fun o=>.inr rfl⟩,(fun hh=>nomatch hh),fun _=>w1,Γ2,?_,?_,hK⟩
    ·rw[Ns h hnf];exact w2
    ·rw[Ns h hnf];exact Qa3 _
   ·obtain⟨Γ2,h5,hK⟩:=CE (hJ _ (QX hx2 hg));obtain⟨agg,t1,tt,hrs⟩:=Adt ho
    have hv:∀d:DP S.rs,∃v,VK g (Bn S.rs rbase (Ar S.rs d))=.val g v:=by
     intro d;generalize Ar S.rs d=cs;rw[hrs];exact⟨_,rfl⟩
    obtain⟨v,hv⟩:=hv (tyP S.rs).dflt;rw[hv]at h5;obtain⟨s,hs⟩:=ZK v μ st.ver (lnT F Γ);exact⟨s,Γ2,(Et h h5 ⟨s,by rw[hg],hs⟩).mark (EJ.refl _ _),Qa3 _,hK⟩
theorem Akz(st:St)(dst:Option Nat)(y:TV):(st.Lk dst y).hp.next=st.hp.next:=by cases dst<;>rfl
theorem Aan{ver ver':Root→Nat}{ln ln':Place→Option Nat}:∀{l:List TSV},(∀v∈l,v.K2=true)→∀{k:List SV},svs μ ver ln l k→svs μ ver' ln' l k
 |[],_,[],_=>trivial
 |v::l,hs,s::k,h=>⟨Td (hs v zsz) h.1,Aan (fun w hw=>hs w zg) h.2⟩
 |[],_,_::_,h=>h.elim
 |_::_,_,[],h=>h.elim
theorem Aas(h:Sim μ F Γ st){o:TOp}(hx:Uy P F Γ o K):Fw P o.g (After μ st.hp.next F K) st:=by
 unfold Uy at hx;split at hx
 ·rename_i n d l hm;unfold V1 at hm;split at hm
  case h_2=>cases hm
  rename_i m e hg hop hdst;split at hm
  case h_2=>cases hm
  rename_i l' hs
  cases hne:(Qa5 m e||!(l'.all TSV.K2))with
  |true=>grind
  |false=>
   rw[hne]at hm;cases hm;simp only[Qa1,Bool.not_eq_false']at hne;have hsol:=hne.2
   have hne:n≠d:=by rintro rfl;simp_all
   obtain⟨Γ1,h1,hx⟩:=CE hx;obtain⟨Γ2,h2,hK⟩:=CE hx;obtain⟨ks,heq,hv⟩:=h.sl n _ hs;have s1:=(Xp h h1 .dead).1;have s2:=Et s1 h2 (y:=.tup ks) ⟨ks,rfl,Aan (List.all_eq_true.1 hsol) hv⟩;unfold Fw;rw[hg,hop,hdst];refine M.Ab ⟨fun _=>?_,fun hh=>nomatch hh⟩;rw[if_neg (by simp[AOp.KK]),if_neg (by simp[AOp.isW])]
   exact .inr ⟨_,_,ks,rfl,rfl,hne,heq,Γ2,s2.mark (EJ.refl _ _),Qa3 _,hK⟩
 rename_i hm;obtain⟨g,hg,hx⟩:=Eb hx;refine M.Ah (Afw h hg) ?_;rintro _ rfl
 cases hc:o.g.op.KK with
 |true=>
  rw[hc]at hx;simp only[if_true]
  cases g with
  |nil=>exact⟨fun _=>Akm h hx,fun hh=>nomatch hh⟩
  |cons p g=>exact Aiv h hx
 |false=>
  rw[hc]at hx;simp only[Bool.false_eq_true,if_false];rw[cond_false]at hx
  cases hw:(o.g.op.isW||o.g.op.Am1)with
  |true=>
   rw[hw,cond_true]at hx
   cases g with
   |cons p g=>grind
   |nil=>
    refine⟨fun _=>?_,fun hh=>nomatch hh⟩;dsimp only at hx;split at hx
    ·rename_i x hp
     have hop:o.g.op=.panic x:=by
      cases ho:o.g.op<;>rw[ho]at hp<;>cases hp
      rfl
     obtain⟨c,h1,hK⟩:=CE hx;rw[hop,if_pos (by rfl)];refine .inr (M.Ah (Di h (fun _=>rfl) h1) fun a ha=>?_);split at hK
     case h_2=>grind
     have ha:a=_:=ha
     grind
    obtain⟨Γ2,h1,hK⟩:=CE (show Ia (MD F Γ o.g.dst o.ty o.g.op) K from hx)
    cases hW:o.g.op.isW with
    |true=>
     rw[if_pos rfl];refine .inl (M.Ah (M.PE (Aky h hW h1) (Aii _ _ _)) ?_);rintro st2 ⟨k1,k2⟩;exact⟨Γ2,k1,k2,hK⟩
    |false=>
     rw[if_neg zsz];refine .inl ?_;rw[hW,Bool.false_or]at hw
     cases hop:o.g.op with
     |mkSl k bytes zero l c=>
      rw[hop]at h1;refine M.Ah (ApG h h1) ?_;intro s hs;exact⟨Γ2,hs,by grind [Akz],hK⟩
     |_=>rw[hop]at hw;cases hw
  |false=>
   rw[hw,cond_false]at hx;simp only[Qa1]at hw;obtain⟨v,h1,hx⟩:=CE hx;rw[if_neg zg];refine⟨fun hgv=>.inl ?_,fun hgv=>?_⟩
   ·refine M.Ah (Ag5 h hgv h1) ?_;intro s hs
    cases hd:o.g.dst with
    |none=>rw[hd]at hx;exact⟨Γ,h.mark (EJ.refl _ _),Qa3 _,hx⟩
    |some d=>
     rw[hd]at hx;obtain⟨Γ2,h2,hK⟩:=CE hx;exact⟨Γ2,(Et h h2 ⟨s,by rw[hgv],hs⟩).mark (EJ.refl _ _),Qa3 _,hK⟩
   ·obtain⟨s,hs⟩:=ZK v μ st.ver (lnT F Γ);refine⟨s,?_⟩
    cases hd:o.g.dst with
    |none=>rw[hd]at hx;exact⟨Γ,h.mark (EJ.refl _ _),Qa3 _,hx⟩
    |some d=>
     rw[hd]at hx;obtain⟨Γ2,h2,hK⟩:=CE hx;exact⟨Γ2,(Et h h2 ⟨s,by rw[hgv],hs⟩).mark (EJ.refl _ _),Qa3 _,hK⟩
theorem JK.mono{dst:Option Nat}{op:AOp}{K K':St→Prop}(h:JK P st dst op K)(hk:∀st,K st→K' st):JK P st dst op K':=by
 obtain⟨V,h⟩:=h;refine⟨V,M.Ah h ?_⟩;rintro⟨nm,as⟩ h
 exact h.mono fun r H' ⟨H'',w1,w2,w3,w4⟩=>⟨H'',w1,w2,w3,hk _ w4⟩
theorem Fw.mono{g:GOp}{K K':St→Prop}(h:Fw P g K st)(hk:∀st,K st→K' st):Fw P g K' st:=by
 refine M.Ah h ?_;rintro b ⟨h1,h2⟩;refine⟨fun hb=>?_,fun hb=>?_⟩
 ·have h1:=h1 hb
  by_cases hc:g.op.KK=true
  ·rw[if_pos hc]at h1⊢;exact h1.mono hk
  ·rw[if_neg hc]at h1⊢
   by_cases hw:g.op.isW=true<;>grind [M.Ah]
 grind
theorem Je.mono{K K':St→Prop}(hk:∀st,K st→K' st):∀{l:List GOp} {st:St},Je P l K st→Je P l K' st
 |[],st,h=>hk st h
 |g::l,st,h=>Fw.mono (show Fw P g (Wk (Je P l K)) st from h) fun st ⟨st2,h1,h2⟩=>⟨st2,h1,Je.mono hk h2⟩
theorem Dl.mono{K K':St→Prop}(hk:∀st,K st→K' st):∀{t:Ha} {st:St},Dl P t K st→Dl P t K' st
 |.done,st,h=>hk st h
 |.first g t,st,h=>Fw.mono (show Fw P g (Wk (Dl P t K)) st from h) fun st ⟨st2,h1,h2⟩=>⟨st2,h1,Dl.mono hk h2⟩
 |.alt g t m,st,h=>⟨Fw.mono (show Fw P g (Wk (Dl P t K)) st from h.1) fun st ⟨st2,h1,h2⟩=>⟨st2,h1,Dl.mono hk h2⟩,Dl.mono hk h.2⟩
 |.stop,_,_=>trivial
theorem After.mono{μ μ2:Nat→Nat}{n n2:Nat}{K K':TS→Prop}(hm:EJ n μ μ2)(hn:n≤n2)(hk:∀Γ,K Γ→K' Γ){st:St}(h:After μ2 n2 F K st):After μ n F K' st:=by
 obtain⟨Γ2,⟨μ3,st3,k1,k2,k3⟩,k4,k5⟩:=h;exact⟨Γ2,⟨μ3,st3,k1,k2,hm.trans k3 hn⟩,Nat.le_trans hn k4,hk _ k5⟩
theorem AcJ{a:AV}(h:a.Ci=false):a.frz=a:=by
 cases a with
 |sl τ k xs=>cases τ<;>first|rfl|cases h
 |_=>rfl
theorem Aha{ver:Root→Nat}{ln:Place→Option Nat}{c:TC}{a:AV}(h:c.av μ ver ln a):c.AkO.av μ ver ln a.frz:=by
 cases c with
 |sl τ tt e l=>
  have h:a=_:=h;subst h
  cases τ<;>grind [TC.AkO,TC.av,AV.frz,ZP]
 |ref p tt e w=>
  cases w with
  |none=>obtain⟨m,rfl,hm⟩:=h;exact⟨m,rfl,hm⟩
  |some y=>have h:a=_:=h;subst h;rfl
 |dead=>trivial
 |_=>(have h:a=_:=h);subst h;exact rfl
theorem AcH{ver:Root→Nat}{ln:Place→Option Nat}:∀{l:List TC} {as:List AV},avs μ ver ln l as→avs μ ver ln (l.map TC.AkO) (as.map AV.frz)
 |[],[],_=>trivial
 |c::l,a::as,h=>⟨Aha h.1,AcH h.2⟩
 |[],_::_,h=>h.elim
 |_::_,[],h=>h.elim
theorem ApD(st:St)(x:Opd):St.Le st (st.EG x):=by
 rintro E tm w ⟨lam,z,fp,R,F⟩;obtain⟨z1,fp1,A⟩:=ZO R F x;exact⟨lam,z1,fp1,A.rel,A.refs⟩
theorem ZQ:∀(k:List AV),k.any AV.Ci=false→k.map AV.frz=k
 |[],_=>rfl
 |a::k,ho=>by
  simp only[Qa4,Qa1]at ho;rw[Qb8,AcJ ho.1,ZQ k ho.2]
theorem AcI(h:Sim μ F Γ st){d:Option Nat}(hx:(Ais F Γ d).ok Γ'):∃st',St.Le st st'∧Sim μ F Γ' st'∧st'.hp.next=st.hp.next:=by
 cases d with
 |none=>exact(R.Ag.1 hx).elim
 |some d=>
  simp only[Ais]at hx;split at hx
  case h_2=>grind [R.Ag]
  rename_i v hs;obtain⟨s,heq,hv⟩:=h.sl d _ hs;have heq:st.sl d=.val true s:=heq;refine⟨st.EG (.t d),ApD st _,?_,QV [.t d] st▸rfl⟩
  have key:∃s',(st.EG (.t d)=if(st.sl d).CI then st.set d (.val true s')else st)∧v.AqV.sv μ st.ver (lnT F Γ) s'∧((st.sl d).CI=false→s'=s):=by
   simp only[St.EG];rw[heq]
   cases v with
   |one c=>
    obtain⟨a,rfl,ha⟩:=hv;refine⟨.one a.frz,rfl,⟨_,rfl,Aha ha⟩,fun ho=>?_⟩
    have:a.Ci=false:=by grind [TV.CI,SV.CI,SV.cells]
    rw[AcJ this]
   |agg l=>
    obtain⟨k,rfl,ha⟩:=hv
    refine⟨.agg (k.map AV.frz),rfl,⟨_,rfl,AcH ha⟩,fun ho=>?_⟩<;>grind [AV.Ci,TV.CI,SV.CI,SV.cells,ZQ]
   |clo f l=>
    obtain⟨k,rfl,ha⟩:=hv;exact⟨.one (.clo f k),rfl,⟨k,rfl,ha⟩,fun _=>rfl⟩
  obtain⟨s',k1,k2,k3⟩:=key;rw[k1];split
  ·exact Et h hx ⟨s',rfl,k2⟩
  ·rename_i ho
   have ho:(st.sl d).CI=false:=zg
   have:=k3 ho;subst this;have h2:=Et h hx (y:=st.sl d) ⟨s',heq,k2⟩
   have e:st.set d (st.sl d)=st:=by
    have e1:upd st.sl d (st.sl d)=st.sl:=by grind [upd]
    simp_all [St.set]
   grind
theorem Adf(h:Sim μ F Γ st){w0:Bool}{gd:Option (Nat×Bool)}(hx:Ak4 F Γ gd=some w0):(st.guard gd).holds (·=w0)∧∃g,QY F Γ gd=some g∧gv F Γ g=w0:=by
 cases gd with
 |none=>cases hx
 |some p=>
  obtain⟨t,w⟩:=p;simp only[Ak4]at hx;split at hx
  case h_2=>cases hx
  rename_i gd b hs;cases hx;obtain⟨s,heq,a,hsa,ha⟩:=h.sl t _ hs;have ha:a=_:=ha
  grind [gv,QY,St.guard,M.Ab,Gr]
theorem AgH(h:Sim μ F Γ st){o:TOp}(hx:YG P F Γ o K):Fw P o.g (After μ st.hp.next F K) st:=by
 unfold YG at hx;split at hx
 ·exact Aas h hx
 ·split at hx
  ·rename_i h1;have h2:=Aas h hx;refine M.Ah (Adf h h1).1 ?_;rintro _ rfl;refine⟨fun _=>?_,fun hh=>nomatch hh⟩;have h3:(st.guard none).holds _:=h2;exact((M.Ae (α:=Bool) true _).mp h3).1 rfl
  ·rename_i h1;obtain⟨k1,p,hp,k2⟩:=Adf h h1;refine M.Ah k1 ?_;rintro _ rfl;refine⟨fun hh=>(nomatch hh),fun _=>?_⟩
   cases hd:o.g.dst with
   |none=>rw[hd]at hx;exact⟨.one .dead,Γ,h.mark (EJ.refl _ _),Qa3 _,hx⟩
   |some d=>
    rw[hd]at hx;obtain⟨Γ2,h2,hK⟩:=CE hx;refine⟨.one (.lit (.bool false)),Γ2,(Et h h2 (y:=.val false (.one (.lit (.bool false)))) ?_).mark (EJ.refl _ _),Qa3 _,hK⟩;simp only[AlH,hp]
    cases o.sb with
    |false=>trivial
    |true=>exact⟨.one (.lit (.bool false)),by rw[k2],_,rfl,rfl⟩
  grind
theorem AlG(h:Sim μ F Γ st){t:Nat}{b:Bool}(hl:look Γ.sl t=some (.val [] (.one (.bool b)))):Sim μ F (Γ.setb t b) st:=by
 have e:∀t',look (Γ.setb t b).sl t'=look Γ.sl t':=by
  grind [TS.setb,Aq]
 have hs:∀t',TS.slot F (Γ.setb t b) t'=TS.slot F Γ t':=by grind [TS.slot]
 have hb:∀b',TS.box F (Γ.setb t b) b'=TS.box F Γ b':=fun _=>rfl
 have hr:∀r,CH F (Γ.setb t b) r=CH F Γ r:=by
  simp_all [CH]
 have hln:lnT F (Γ.setb t b)=lnT F Γ:=by grind [lnT,atT]
 have hgv:gv F (Γ.setb t b)=gv F Γ:=by
  funext gd
  induction gd<;>grind [gv,Gr]
 refine⟨fun t' x hx=>?_,fun b' l hl'=>?_,fun b1 b2 l1 l2 h1 h2=>?_,fun t' ht'=>?_,h.sb⟩
 ·rw[hln,hgv];exact h.sl t' x zg
 ·rw[hln];exact h.bx b' l hl'
 ·exact h.inj b1 b2 l1 l2 h1 h2
 ·rw[e t'];exact h.ss t' ht'
theorem TA(h:Sim μ F Γ st){o:TOp}{R:TS→Prop}{Q:St→Prop}(hx:tstep P F Γ o R)
  (hR:∀{μ2:Nat→Nat} {Γ2:TS} {st2:St},Sim μ2 F Γ2 st2→R Γ2→EJ st.hp.next μ μ2→st.hp.next≤st2.hp.next→Q st2):Fw P o.g (Wk Q) st:=by
 have key:∀{Γ:TS},Sim μ F Γ st→Uz P F Γ o R→Fw P o.g (Wk Q) st:=by
  intro Γ h hx;refine(AgH h hx).mono ?_;rintro st1 ⟨Γ2,⟨μ2,st2,k1,k2,k3⟩,k4,k5⟩
  have k4:st.hp.next≤st2.hp.next:=by grind [k1.nx]
  cases hf:o.fz with
  |false=>rw[hf]at k5;exact⟨st2,k1.le,hR k2 k5 k3 k4⟩
  |true=>
   rw[hf]at k5;obtain⟨Γ3,h3,hr⟩:=CE (show Ia (Ais F Γ2 o.g.dst) R from k5);obtain⟨st3,w1,w2,w3⟩:=AcI k2 h3;exact⟨st3,fun E tm w hr=>w1 E tm w (k1.le E tm w hr),hR w2 hr k3 zg⟩
 unfold tstep at hx;split at hx
 ·grind
 ·split at hx
  case h_2=>grind
  case h_3=>grind
  rename_i t b hl
  cases b<;>grind [AlG]
theorem Aer:∀{ops:List TOp} {μ:Nat→Nat} {Γ:TS} {st:St},Sim μ F Γ st→tops P F ops Γ K→Je P (ops.map (·.g)) (After μ st.hp.next F K) st
 |[],μ,Γ,st,h,hx=>⟨Γ,h.mark (EJ.refl _ _),Qa3 _,hx⟩
 |o::r,μ,Γ,st,h,hx=>by
  refine TA (Q:=Je P (r.map (·.g)) (After μ st.hp.next F K)) h (show tstep P F Γ o _ from hx) ?_;intro μ2 Γ2 st2 h2 hx2 hm hn;exact Je.mono (fun st3 h3=>h3.mono hm hn fun _ h=>h) (Aer h2 hx2)
theorem PX:∀{t:HL} {μ:Nat→Nat} {Γ:TS} {st:St},Sim μ F Γ st→ttree P F t Γ K→Dl P t.erase (After μ st.hp.next F K) st
 |.done,μ,Γ,st,h,hx=>⟨Γ,h.mark (EJ.refl _ _),Qa3 _,hx⟩
 |.first o r,μ,Γ,st,h,hx=>by
  refine TA (Q:=Dl P r.erase (After μ st.hp.next F K)) h (show tstep P F Γ o _ from hx) ?_;intro μ2 Γ2 st2 h2 hx2 hm hn;exact Dl.mono (fun st3 h3=>h3.mono hm hn fun _ h=>h) (PX h2 hx2)
 |.alt o r m,μ,Γ,st,h,hx=>by
  refine⟨TA (Q:=Dl P r.erase (After μ st.hp.next F K)) h (show tstep P F Γ o _ from hx.1) ?_,PX h hx.2⟩;intro μ2 Γ2 st2 h2 hx2 hm hn;exact Dl.mono (fun st3 h3=>h3.mono hm hn fun _ h=>h) (PX h2 hx2)
 |.stop,_,_,_,_,_=>trivial
theorem Aar:∀{ts:List HL} {Γ:TS},trees P F Γ K ts→∀t∈ts,ttree P F t Γ K
 |[],_,_,t,ht=>nomatch ht
 |[t0],_,h,t,ht=>by cases List.mem_singleton.1 ht;exact h
 |t0::t1::ts,_,h,t,ht=>by
  rcases List.mem_cons.1 ht with rfl|ht
  ·exact h.1
  ·exact Aar (ts:=t1::ts) h.2 t ht
end
end Go.VS
namespace Go.VS
section
variable{P:Pg}{μ μ':Nat→Nat}{F Γ Γ' F':TS}{st st':St}
theorem Sim.hush(h:Sim μ F Γ st)(hs:∀t x,TS.slot F' Γ' t=some x→TS.slot F Γ t=some x∨x=.gone)(hb:∀b l,TS.box F' Γ' b=some l→TS.box F Γ b=some l)
  (hg:∀t gd v,TS.slot F' Γ' t=some (.val gd v)→gv F' Γ' gd=gv F Γ gd)
  (ss:∀t,(look F'.sl t).isSome=true→look Γ'.sl t=none) (sb:∀b,(look F'.bx b).isSome=true→look Γ'.bx b=none):Sim μ F' Γ' st:=by
 have root:∀r c,CH F' Γ' r=some c→CH F Γ r=some c:=by
  intro r c hr
  cases r with
  |slot t j=>
   grind [CH]
  |obj b c0=>
   simp only[CH]at hr⊢
   cases hl:TS.box F' Γ' b<;>grind
 have hln:∀p n,lnT F' Γ' p=some n→lnT F Γ p=some n:=by
  intro p n hn;unfold lnT atT at hn⊢
  cases hr:CH F' Γ' p.root<;>grind
 have hsv:∀{v:TSV} {s:SV},v.sv μ st.ver (lnT F Γ) s→v.sv μ st.ver (lnT F' Γ') s:=by
  intro v s hv
  cases v with
  |one c=>obtain⟨a,e,ha⟩:=hv;exact⟨a,e,Aj2 hln ha⟩
  |agg l=>obtain⟨a,e,ha⟩:=hv;exact⟨a,e,WA hln ha⟩
  |clo f l=>obtain⟨a,e,ha⟩:=hv;exact⟨a,e,WA hln ha⟩
 have hsvs:∀{l:List TSV} {k:List SV},svs μ st.ver (lnT F Γ) l k→svs μ st.ver (lnT F' Γ') l k:=by
  intro l
  induction l with
  |nil=>intro k hk;cases k with
   |nil=>trivial
   |cons=>trivial
  |cons v l ih=>intro k hk;cases k with
   |nil=>trivial
   |cons s k=>exact⟨hsv hk.1,ih hk.2⟩
 refine⟨?_,?_,?_,ss,sb⟩
 ·intro t x hx
  rcases hs t x hx with e|e
  ·have:=h.sl t x e
   cases x with
   |val gd v=>
    obtain⟨s,e1,e2⟩:=this;exact⟨s,zg,hsv e2⟩
   |tup l=>obtain⟨m,e1,e2⟩:=this;exact⟨m,e1,hsvs e2⟩
   |gone=>trivial
  ·subst e;trivial
 ·intro b l hl
  obtain⟨m,q1,q2,q3,q4⟩:=h.bx b l (hb b l hl)<;>grind [WA]
 ·intro b b' l l' h1 h2 he;exact h.inj b b' l l' (hb _ _ h1) (hb _ _ h2) he
theorem Hg{α:Type}(q:Nat→Bool):∀(l:List (Nat×α)) (t:Nat),look (l.filter fun p=>q p.1) t=if q t then look l t else none
 |[],t=>by simp[look]
 |(k,x)::l,t=>by
  rw[List.filter_cons];simp only
  by_cases hk:q k=true
  ·rw[if_pos hk,Aq,Aq,Hg q l t]<;>grind
  ·rw[if_neg hk,Hg q l t,Aq]<;>grind
theorem Ahg(q:Place→Bool)(x:TX):(x.keep q=x∧x.gdd=false)∨x.keep q=.gone:=by
 unfold TX.keep
 grind
theorem Aa1{gd:Gd}{v:TSV}(h:(TX.val gd v).gdd=false):gd=[]:=by
 cases gd with
 |nil=>rfl
 |cons p g=>cases h
variable{ms mb:List Nat}{ob:Bool}
theorem Z4(t:Nat):look (SC Γ ms mb).sl t=if inM ms t then(look Γ.sl t).map (TX.keep fun _=>false)else none:=by
 unfold SC;dsimp only
 rw[HT (fun x:TX=>x.keep fun _=>false),Hg (inM ms)]<;>grind
theorem PO(t:Nat):look (Ex Γ ms mb ob).sl t=if inM ms t then none else(look Γ.sl t).map (TX.keep (Ah2 ms mb ob)):=by
 unfold Ex;dsimp only
 rw[HT (fun x:TX=>x.keep (Ah2 ms mb ob)),Hg (fun t=>!inM ms t)]<;>grind
theorem Adl(b:Nat):look (SC Γ ms mb).bx b=if inM mb b then look Γ.bx b else none:=Hg (inM mb) _ _
theorem S8(b:Nat):look (Ex Γ ms mb ob).bx b=if inM mb b then none else look Γ.bx b:=by
 unfold Ex;dsimp only
 rw[Hg (fun t=>!inM mb t)]<;>grind
theorem AkM(h:Sim μ F Γ st)(hF:F.sl.any (fun p=>p.2.gdd)=false):Sim μ ((Ex Γ ms mb ob).over F) (SC Γ ms mb) st:=by
 have hslot:∀t,TS.slot ((Ex Γ ms mb ob).over F) (SC Γ ms mb) t=(match look Γ.sl t with|some x=>some (x.keep (if inM ms t then fun _=>false else Ah2 ms mb ob))|none=>look F.sl t):=by
  intro t;unfold TS.slot TS.over;dsimp only
  rw[Z4 t,Bj,PO t]<;>grind
 have hbox:∀b,TS.box ((Ex Γ ms mb ob).over F) (SC Γ ms mb) b=TS.box F Γ b:=by
  intro b;unfold TS.box TS.over;dsimp only
  rw[Adl b,Bj,S8 b]<;>grind
 refine h.hush ?_ (fun b l hl=>zg) ?_ ?_ ?_
 ·grind [TS.slot,Ahg,inM,Ah2]
 ·intro t gd v hx
  have:gd=[]:=by
   rw[hslot t]at hx;split at hx
   ·grind [Ahg,inM,Ah2,Aa1]
   ·have:=List.any_eq_false.1 hF (t,.val gd v) (Fc hx)
    grind [Aa1]
  subst this;rfl
 ·intro t ht;rw[Z4 t];unfold TS.over at ht;dsimp only at ht;rw[Bj,PO t]at ht
  cases hm:inM ms t with
  |false=>rfl
  |true=>
   rw[hm]at ht;have:(look F.sl t).isSome=true:=ht;rw[h.ss t this];rfl
 ·intro b hb;rw[Adl b];unfold TS.over at hb;dsimp only at hb;rw[Bj,S8 b]at hb
  cases hm:inM mb b with
  |false=>rfl
  |true=>
   rw[hm]at hb;have:(look F.bx b).isSome=true:=hb;rw[h.sb b this];rfl
theorem Air{Γ1:TS}(h0:∀t,(look F.sl t).isSome=true→look Γ.sl t=none)(h0b:∀t,(look F.bx t).isSome=true→look Γ.bx t=none)(h:Sim μ ((Ex Γ ms mb ob).over F) Γ1 st):Sim μ F (Γ1.over (Ex Γ ms mb ob)) st:=by
 have hslot:∀t,TS.slot F (Γ1.over (Ex Γ ms mb ob)) t=TS.slot ((Ex Γ ms mb ob).over F) Γ1 t:=by
  intro t;unfold TS.slot TS.over;dsimp only
  rw[Bj,Bj]<;>grind
 have hbox:∀t,TS.box F (Γ1.over (Ex Γ ms mb ob)) t=TS.box ((Ex Γ ms mb ob).over F) Γ1 t:=by
  intro t;unfold TS.box TS.over;dsimp only
  rw[Bj,Bj]<;>grind
 have hslotB:∀t,Gr F (Γ1.over (Ex Γ ms mb ob)) t=Gr ((Ex Γ ms mb ob).over F) Γ1 t:=by grind [Gr]
 have hgv:∀gd:Gd,gv F (Γ1.over (Ex Γ ms mb ob)) gd=gv ((Ex Γ ms mb ob).over F) Γ1 gd:=by
  intro gd
  induction gd<;>grind [gv]
 refine h.hush (fun t x hx=>.inl zg) (fun b l hl=>zg) (fun t gd v _=>hgv gd) ?_ ?_
 ·intro t ht;unfold TS.over;dsimp only;rw[Bj,PO t,h0 t ht]
  have:look Γ1.sl t=none:=by
   refine h.ss t ?_<;>grind [TS.over,Bj,PO,inM]
  grind
 ·intro t ht;unfold TS.over;dsimp only;rw[Bj,S8 t,h0b t ht]
  have:look Γ1.bx t=none:=by
   refine h.sb t ?_<;>grind [TS.over,Bj,S8,inM]
  grind
theorem JT(h:Sim μ F Γ st):∀{L:List LE} {cs:List TC},collect F Γ L=some cs→∃A,avs μ st.ver (lnT F Γ) cs A∧∀C E,CoL A E→avs μ dv dl C E→C.all TC.Bg=true→
  ∃st',Ed st st'∧(∀t,look (DN L C) t=none→st'.sl t=st.sl t)∧(∀o,(∀b l,look (Ij L C) b=some l→μ b≠o)→st'.hp.get o=st.hp.get o)∧
   (∀t x,look (DN L C) t=some x→(∃v,x=.val [] v)∧∀ln,x.tv μ st.ver ln (fun _=>true) (st'.sl t))∧
   (∀b l,look (Ij L C) b=some l→(look Γ.bx b).isSome=true∧l.all TC.Bg=true∧∃m,st'.hp.get (μ b)=some m∧avs μ dv dl l m)∧
   (∀t,(look (DN L C) t).isSome=true→(look Γ.sl t).isSome=true)
 |[],cs,hc=>by
  cases hc;exact⟨[],trivial,fun C E _ _ _=>⟨st,Ed.refl _,fun _ _=>rfl,fun _ _=>rfl,fun _ _ h=>(nomatch h),fun _ _ h=>(nomatch h),fun _ h=>(nomatch h)⟩⟩
 |.sl t agg ty tt::r,cs,hc=>by
  have fin:∀(v:TSV) (l:List TC) (k:List AV) (s:SV) (cs':List TC),look Γ.sl t=some (.val [] v)→collect F Γ r=some cs'→cs=l++cs'→avs μ st.ver (lnT F Γ) l k→l.length=ty.size→st.sl t=.val true s→
    (∀m n,CoL k n→avs μ dv dl m n→m.length=ty.size→∃s',(mkT agg m).sv μ dv dl s'∧CoS s s')→
    ∃A,avs μ st.ver (lnT F Γ) cs A∧∀C E,CoL A E→avs μ dv dl C E→C.all TC.Bg=true→
     ∃st',Ed st st'∧(∀t',look (DN (.sl t agg ty tt::r) C) t'=none→st'.sl t'=st.sl t')∧(∀o,(∀b l,look (Ij (.sl t agg ty tt::r) C) b=some l→μ b≠o)→st'.hp.get o=st.hp.get o)∧
      (∀t' x,look (DN (.sl t agg ty tt::r) C) t'=some x→(∃v,x=.val [] v)∧∀ln,x.tv μ st.ver ln (fun _=>true) (st'.sl t'))∧
      (∀b l,look (Ij (.sl t agg ty tt::r) C) b=some l→(look Γ.bx b).isSome=true∧l.all TC.Bg=true∧∃m,st'.hp.get (μ b)=some m∧avs μ dv dl l m)∧
      (∀t',(look (DN (.sl t agg ty tt::r) C) t').isSome=true→(look Γ.sl t').isSome=true):=by
   rintro v l k s cs' hlk hcol rfl hl hlen hst hmk;obtain⟨A,hA,hrest⟩:=JT h hcol
   have hkl:k.length=ty.size:=by grind [Cd]
   refine⟨k++A,FR hl hA,?_⟩;intro C E hco hav hsol;obtain⟨c1,c2⟩:=CoL.split hco;rw[hkl]at c1 c2;obtain⟨st2,q1,q2,q3,q4,q5,q6⟩:=hrest (C.drop ty.size) (E.drop ty.size) c2 (Kk hav _) (CO hsol fun c hc=>Qa8 hc)
   have hml:(C.take ty.size).length=ty.size:=by
    grind [Cd,hco.length]
   obtain⟨s',w1,w2⟩:=hmk (C.take ty.size) (E.take ty.size) c1 (Kl hav _) hml
   have hsolv:(mkT agg (C.take ty.size)).K2=true:=by
    have:(C.take ty.size).all TC.Bg=true:=CO hsol fun c hc=>Qb3 hc
    cases agg with
    |true=>trivial
    |false=>
     cases hl:C.take ty.size with
     |nil=>rfl
     |cons c l=>rw[hl]at this;simp only[Qa6,Qa0]at this;exact this.1
   refine⟨⟨upd st2.sl t (.val true s'),st2.hp,st2.vs,st2.hv⟩,⟨fun t'=>?_,q1.hp,q1.nx,q1.vs,q1.hv⟩,?_,q3,?_,q5,?_⟩
   ·simp only[upd];split
    ·rename_i e;subst e;rw[hst];exact .val _ _ _ w2
    ·exact q1.sl t'
   ·grind [DN,Aq,upd]
   ·intro t' x hx;simp only[DN,Aq]at hx;split at hx
    ·rename_i e;cases hx;subst e;refine⟨⟨_,rfl⟩,fun ln=>?_⟩;simp only[upd,if_true];exact⟨s',rfl,Td hsolv w1⟩
    grind [upd]
   grind [DN,Aq]
  simp only[collect]at hc;split at hc
  ·rename_i c cs' hlk hcol
   cases hsz:Qa5 ty.size 1 with
   |false=>grind
   |true=>
    rw[hsz]at hc;cases hc;have hsz:=Qa7 hsz;obtain⟨s,e1,a,e2,ha⟩:=h.sl t (.val [] (.one c)) (by grind [TS.slot]);subst e2;refine fin _ [c] [a] (.one a) cs' hlk hcol rfl ⟨ha,trivial⟩ zg e1 ?_;intro m n hmn hav hml
    cases hmn with
    |cons _ b _ n' hab hnil=>
     cases hnil
     match m,hav with
     |[c'],hav=>exact⟨.one b,⟨b,rfl,hav.1⟩,.one _ _ hab⟩
     |[],hav=>grind
     |_::_::_,hav=>grind
  ·rename_i l cs' hlk hcol
   cases hsz:Qa5 l.length ty.size with
   |false=>grind
   |true=>
    rw[hsz]at hc;cases hc;have hsz:=Qa7 hsz;obtain⟨s,e1,k,e2,ha⟩:=h.sl t (.val [] (.agg l)) (by grind [TS.slot]);subst e2;refine fin _ l k (.agg k) cs' hlk hcol rfl ha hsz e1 ?_;intro m n hmn hav hml;exact⟨.agg n,⟨n,rfl,hav⟩,.agg _ _ hmn⟩
  grind
 |.bx b ty tt::r,cs,hc=>by
  simp only[collect]at hc;split at hc
  case h_2=>cases hc
  rename_i l cs' hlk hcol
  cases hsz:Qa5 l.length ty.size with
  |false=>grind
  |true=>
   rw[hsz]at hc;cases hc;have hsz:=Qa7 hsz;obtain⟨k,p1,p2,p3,p4⟩:=h.bx b l (by grind [TS.box]);obtain⟨A,hA,hrest⟩:=JT h hcol
   have hkl:k.length=ty.size:=by grind [Cd]
   refine⟨k++A,FR p2 hA,?_⟩;intro C E hco hav hsol;obtain⟨c1,c2⟩:=CoL.split hco;rw[hkl]at c1 c2;obtain⟨st2,q1,q2,q3,q4,q5,q6⟩:=hrest (C.drop ty.size) (E.drop ty.size) c2 (Kk hav _) (CO hsol fun c hc=>Qa8 hc)
   refine⟨⟨st2.sl,⟨upd st2.hp.get (μ b) (some (E.take ty.size)),st2.hp.next⟩,st2.vs,st2.hv⟩,⟨q1.sl,fun o=>?_,q1.nx,q1.vs,q1.hv⟩,q2,?_,q4,?_,q6⟩
   ·simp only[upd];split
    ·grind
    ·exact q1.hp o
   ·intro o ho
    have hne:o≠μ b:=fun e=>ho b (C.take ty.size) (by grind [Ij,Aq]) e.symm
    grind [upd,Ij,Aq]
   ·intro b' l' hb';simp only[Ij,Aq]at hb';split at hb'
    ·grind [CO,upd,Kl]
    ·rename_i hne;obtain⟨w1,w2,m,w3,w4⟩:=q5 b' l' hb';refine⟨w1,w2,m,?_,w4⟩;obtain⟨l0,hl0⟩:=Option.isSome_iff_exists.1 w1
     have:μ b'≠μ b:=fun e=>hne (h.inj b' b l0 l (by grind [TS.box]) (by grind [TS.box]) e).symm
     grind [upd]
 |.pt t b c::r,cs,hc=>by
  simp only[collect]at hc;split at hc
  case h_2=>cases hc
  rename_i b' c' cs' hlk hcol
  cases hbc:(Qa5 b' b&&Qa5 c' c)with
  |false=>grind
  |true=>
   rw[hbc]at hc;cases hc;simp only[Qa0]at hbc;obtain rfl:=Qa7 hbc.1;obtain rfl:=Qa7 hbc.2;obtain⟨s,e1,a,e2,ha⟩:=h.sl t (.val [] (.one (.box b' c'))) (by grind [TS.slot]);subst e2;have ha:a=.ptr (μ b') c':=ha;subst ha;have e1:st.sl t=.val true (.one (.ptr (μ b') c')):=e1;obtain⟨A,hA,hrest⟩:=JT h hcol
   refine⟨A,hA,?_⟩;intro C E hco hav hsol;obtain⟨st2,q1,q2,q3,q4,q5,q6⟩:=hrest C E hco hav hsol;refine⟨⟨upd st2.sl t (.val true (.one (.ptr (μ b') c'))),st2.hp,st2.vs,st2.hv⟩,⟨fun t'=>?_,q1.hp,q1.nx,q1.vs,q1.hv⟩,?_,q3,?_,q5,?_⟩
   ·simp only[upd];split
    ·rename_i e;subst e;rw[e1];exact .refl _
    ·exact q1.sl t'
   ·grind [DN,Aq,upd]
   ·intro t' x hx;simp only[DN,Aq]at hx;split at hx
    ·rename_i e;cases hx;subst e;refine⟨⟨_,rfl⟩,fun ln=>?_⟩;simp only[upd,if_true];exact⟨_,rfl,_,rfl,rfl⟩
    grind [upd]
   grind [DN,Aq]
 |.rf t p tt e::r,cs,hc=>by
  simp only[collect]at hc;split at hc
  case h_2=>cases hc
  rename_i p' tt' e' w cs' hlk hcol;split at hc
  case isFalse=>cases hc
  rename_i hpe;obtain⟨rfl,hsize⟩:=hpe;split at hc
  case h_2=>cases hc
  rename_i n hn;cases hc;obtain⟨s,e1,a,e2,ha⟩:=h.sl t (.val [] (.one (.ref p' tt' e' w))) (by grind [TS.slot]);subst e2
  have ha:a=.ref (p'.mu μ) (st.ver (p'.mu μ).root) e.size 0 n:=by
   rw[←hsize]
   cases w with
   |none=>exact Pc ha hn
   |some x=>
    obtain⟨lo,m⟩:=x;simp only[Arf]at hn
    cases hlo:Qa5 lo 0 with
    |false=>grind
    |true=>
     rw[hlo]at hn;cases hn;obtain rfl:=Qa7 hlo;exact ha
  subst ha;have e1:st.sl t=.val true (.one (.ref (p'.mu μ) (st.ver (p'.mu μ).root) e.size 0 n)):=e1;obtain⟨A,hA,hrest⟩:=JT h hcol;refine⟨.lit (.int .i64 n)::A,⟨rfl,hA⟩,?_⟩;intro C E hco hav hsol
  cases hco with
  |cons _ b _ E' hab hco=>
  have hb:b=.lit (.int .i64 n):=by cases hab;rfl
  subst hb
  match C,hav,hsol with
  |[],hav,_=>trivial
  |c::C,hav,hsol=>
  simp only[Qa6,Qa0]at hsol;obtain⟨st2,q1,q2,q3,q4,q5,q6⟩:=hrest C E' hco hav.2 hsol.2;refine⟨⟨upd st2.sl t (.val true (.one (.ref (p'.mu μ) (st.ver (p'.mu μ).root) e.size 0 n))),st2.hp,st2.vs,st2.hv⟩,⟨fun t'=>?_,q1.hp,q1.nx,q1.vs,q1.hv⟩,?_,q3,?_,q5,?_⟩
  ·simp only[upd];split
   ·rename_i e;subst e;rw[e1];exact .refl _
   ·exact q1.sl t'
  ·grind [DN,Aq,upd]
  ·intro t' x hx;simp only[DN,Aq]at hx;split at hx
   ·rename_i e;cases hx;subst e;refine⟨⟨_,rfl⟩,fun ln=>?_⟩;simp only[upd,if_true];refine⟨_,rfl,_,rfl,?_⟩;have hc1:=hav.1
    cases c with
    |int k m=>
     grind [rfC,TC.av]
    |_=>trivial
   grind [upd]
  grind [DN,Aq]
 |.ad t p tt e c0::r,cs,hc=>by
  simp only[collect]at hc;split at hc
  case h_2=>cases hc
  rename_i p' tt' e' n c1 cs' hlk hcol;split at hc
  case isFalse=>cases hc
  rename_i hpe;obtain⟨rfl,hsize,rfl⟩:=hpe;cases hc;obtain⟨s,e1,a,e2,ha⟩:=h.sl t (.val [] (.one (.adr p' tt' e' n c1))) (by grind [TS.slot]);subst e2
  have ha:a=.adr (p'.mu μ) (st.ver (p'.mu μ).root) e.size n c1:=by rw[←hsize];exact ha
  subst ha;have e1:st.sl t=.val true (.one (.adr (p'.mu μ) (st.ver (p'.mu μ).root) e.size n c1)):=e1;obtain⟨A,hA,hrest⟩:=JT h hcol;refine⟨.lit (.int .i64 n)::A,⟨rfl,hA⟩,?_⟩;intro C E hco hav hsol
  cases hco with
  |cons _ b _ E' hab hco=>
  have hb:b=.lit (.int .i64 n):=by cases hab;rfl
  subst hb
  match C,hav,hsol with
  |[],hav,_=>trivial
  |c::C,hav,hsol=>
  simp only[Qa6,Qa0]at hsol;obtain⟨st2,q1,q2,q3,q4,q5,q6⟩:=hrest C E' hco hav.2 hsol.2;refine⟨⟨upd st2.sl t (.val true (.one (.adr (p'.mu μ) (st.ver (p'.mu μ).root) e.size n c1))),st2.hp,st2.vs,st2.hv⟩,⟨fun t'=>?_,q1.hp,q1.nx,q1.vs,q1.hv⟩,?_,q3,?_,q5,?_⟩
  ·simp only[upd];split
   ·rename_i e;subst e;rw[e1];exact .refl _
   ·exact q1.sl t'
  ·grind [DN,Aq,upd]
  ·intro t' x hx;simp only[DN,Aq]at hx;split at hx
   ·rename_i e;cases hx;subst e;refine⟨⟨_,rfl⟩,fun ln=>?_⟩;simp only[upd,if_true];refine⟨_,rfl,_,rfl,?_⟩;have hc1:=hav.1
    cases c with
    |int k m=>
     grind [adC,TC.av]
    |_=>trivial
   grind [upd]
  grind [DN,Aq]
theorem MM:∀(L:List LE) (C:List TC) (t:Nat),(look (DN L C) t).isSome=true→L.any (Aix t)=true
 |[],_,_,h=>nomatch h
 |.sl t agg ty tt::r,C,t',h=>by
  simp only[DN,Aq]at h;rw[Qa4];split at h
  ·simp_all [Aix]
  ·rw[MM r _ t' h,Qb0]
 |.bx b ty tt::r,C,t',h=>by
  rw[Qa4,MM r _ t' h,Qb0]
 |.pt t b c::r,C,t',h=>by
  simp only[DN,Aq]at h;rw[Qa4];split at h
  ·simp_all [Aix]
  ·rw[MM r _ t' h,Qb0]
 |.rf t p tt e::r,C,t',h=>by
  simp only[DN,Aq]at h;rw[Qa4];split at h
  ·simp_all [Aix]
  ·rw[MM r _ t' h,Qb0]
 |.ad t p tt e c::r,C,t',h=>by
  simp only[DN,Aq]at h;rw[Qa4];split at h
  ·simp_all [Aix]
  ·rw[MM r _ t' h,Qb0]
theorem JP:∀(L:List LE) (C:List TC) (t:Nat),(look (Ij L C) t).isSome=true→L.any (Apv t)=true
 |[],_,_,h=>nomatch h
 |.bx t ty tt::r,C,t',h=>by
  simp only[Ij,Aq]at h;rw[Qa4];split at h
  ·simp_all [Apv]
  ·rw[JP r _ t' h,Qb0]
 |.sl b agg ty tt::r,C,t',h=>by
  rw[Qa4,JP r _ t' h,Qb0]
 |.pt b _ _::r,C,t',h=>by
  rw[Qa4,JP r _ t' h,Qb0]
 |.rf b _ _ _::r,C,t',h=>by
  rw[Qa4,JP r _ t' h,Qb0]
 |.ad b _ _ _ _::r,C,t',h=>by
  rw[Qa4,JP r _ t' h,Qb0]
theorem Alv(h:Sim μ F Γ st){L:List LE}{d:DL L}(hr:MU L F Γ=some d):∃st',Ed st st'∧Sim μ F (build L d) st':=by
 unfold MU at hr
 cases hF:F.sl.any (fun p=>p.2.gdd||p.2.hit (onL L) (onL L) CR)with
 |true=>grind
 |false=>
 rw[hF,cond_false]at hr;split at hr
 case h_2=>cases hr
 rename_i cs hc;obtain⟨A,hA,hrest⟩:=JT h hc;obtain⟨st',q1,q2,q3,q4,q5,q6⟩:=hrest (Kn L d) _ (GJ hr hA) (Fb _ _ _) (Kq _ _ _)
 have toF:∀t x,look F.sl t=some x→TS.slot F Γ t=some x:=by
  intro t x hx;unfold TS.slot;rw[h.ss t zg];exact hx
 have toFb:∀b l,look F.bx b=some l→TS.box F Γ b=some l:=by
  intro b l hl;unfold TS.box;rw[h.sb b zg];exact hl
 have slb:∀t x,TS.slot F (build L d) t=some x→look (DN L (Kn L d)) t=some x∨(look (DN L (Kn L d)) t=none∧look F.sl t=some x):=by
  grind [TS.slot,build]
 have bxb:∀t x,TS.box F (build L d) t=some x→look (Ij L (Kn L d)) t=some x∨(look (Ij L (Kn L d)) t=none∧look F.bx t=some x):=by
  grind [TS.box,build]
 have anyb:∀b x,TS.box F (build L d) b=some x→∃l,TS.box F Γ b=some l:=by
  grind [TS.box]
 have T:Tr (onL L) (onL L) CR μ μ st.ver st'.ver (lnT F Γ) (lnT F (build L d)):=by
  refine⟨fun _ _=>rfl,fun p hp=>⟨rfl,q1.ver _,fun n hn=>?_⟩,fun p hp=>⟨rfl,q1.ver _⟩⟩
  have root:∀c,CH F (build L d) p.root=some c→CH F Γ p.root=some c:=by
   intro c hr;unfold onL at hp
   cases hroot:p.root with
   |slot t j=>
    grind [CH,MM,Kn]
   |obj b j=>
    rw[hroot]at hp hr;dsimp only at hp;simp only[CH]at hr⊢
    cases hl:TS.box F (build L d) b<;>grind [JP,Kn]
  unfold lnT atT at hn⊢
  cases hr:CH F (build L d) p.root<;>grind
 refine⟨st',q1,?_,?_,?_,?_,?_⟩
 ·intro t x hx
  rcases slb t x hx with hx|⟨hn,hx⟩
  ·obtain⟨⟨v,rfl⟩,hq⟩:=q4 t x hx;have hver:st'.ver=st.ver:=funext q1.ver;rw[hver];obtain⟨s,e1,e2⟩:=hq (lnT F (build L d));exact⟨s,e1,e2⟩
  ·have hF:=List.any_eq_false.1 hF (t,x) (Fc hx);simp only[Bool.or_eq_true,not_or,Bool.not_eq_true]at hF;rw[q2 t hn,←TX.IY hF.2];refine T.tv ?_ (h.sl t x (toF t x hx));rintro gd v rfl;rw[Aa1 hF.1];rfl
 ·intro b l hl
  rcases bxb b l hl with hl|⟨hn,hl⟩
  ·obtain⟨w1,w2,m,w3,w4⟩:=q5 b l hl;obtain⟨l0,hl0⟩:=Option.isSome_iff_exists.1 w1
   obtain⟨_,_,_,p3,_⟩:=h.bx b l0 (by simp[TS.box,hl0])<;>grind [Gh,q1.nx]
  ·obtain⟨m,p1,p2,p3,p4⟩:=h.bx b l (toFb b l hl);refine⟨m,?_,Gh p4 p2,by grind [q1.nx],p4⟩;rw[q3 (μ b) fun b' l' hb' he=>?_]
   ·exact p1
   ·obtain⟨l0,hl0⟩:=Option.isSome_iff_exists.1 (q5 b' l' hb').1;have:=h.inj b' b l0 l (by grind [TS.box]) (toFb b l hl) he
    grind
 ·intro b b' l l' h1 h2 he;obtain⟨l0,hl0⟩:=anyb b l h1;obtain⟨l1,hl1⟩:=anyb b' l' h2;exact h.inj b b' l0 l1 hl0 hl1 he
 ·intro t ht
  cases hl:look (DN L (Kn L d)) t with
  |none=>exact hl
  |some x=>
   have:=q6 t zg;rw[h.ss t ht]at this;grind
 ·intro b hb
  cases hl:look (Ij L (Kn L d)) b with
  |none=>exact hl
  |some x=>
   have:=(q5 b x hl).1;rw[h.sb b hb]at this;grind
theorem CoS.trans{a b c:SV}(h:CoS a b)(k:CoS b c):CoS a c:=by
 cases h with
 |one a b h=>cases k with
  |one _ c k=>exact .one _ _ (h.trans k)
 |agg l m h=>cases k with
  |agg _ c k=>exact .agg _ _ (h.trans k)
theorem FA.trans:∀{l m:List SV},FA l m→∀{n:List SV},FA m n→FA l n
 |_,_,.nil,_,.nil=>.nil
 |_,_,.cons a b l m h t,_,.cons _ c _ n k u=>.cons _ _ _ _ (h.trans k) (t.trans u)
theorem CoT.trans{a b c:TV}(h:CoT a b)(k:CoT b c):CoT a c:=by
 cases h with
 |refl=>exact k
 |tup l m h=>cases k with
  |refl=>exact .tup _ _ h
  |tup _ n k=>exact .tup _ _ (h.trans k)
 |val g s s' h=>cases k with
  |refl=>exact .val _ _ _ h
  |val _ _ s'' k=>exact .val _ _ _ (h.trans k)
theorem Ed.trans{a b c:St}(h:Ed a b)(k:Ed b c):Ed a c:=by
 refine⟨fun t=>(h.sl t).trans (k.sl t),fun o=>?_,by rw[k.nx,h.nx],by rw[k.vs,h.vs],by rw[k.hv,h.hv]⟩
 rcases h.hp o with⟨h1,h2⟩|⟨l,m,h1,h2,h3⟩
 ·rcases k.hp o with⟨k1,k2⟩|⟨l,m,k1,k2,k3⟩
  ·exact .inl ⟨h1,k2⟩
  ·rw[h2]at k1;cases k1
 ·rcases k.hp o with⟨k1,k2⟩|⟨l',m',k1,k2,k3⟩
  ·rw[h2]at k1;cases k1
  ·rw[h2]at k1;cases k1;exact .inr ⟨l,m',h1,k2,h3.trans k3⟩
def post(μ:Nat→Nat)(n:Nat)(F:TS)(k:Kt):AEx→St→Prop
 |.normal,st=>After μ n F k.norm st
 |.exit id,st=>∃q,look k.ex id=some q∧After μ n F q st
 |.ret,st=>After μ n F k.ret st
theorem Aac{μ μ2:Nat→Nat}{n n2:Nat}{k:Kt}(hm:EJ n μ μ2)(hn:n≤n2){e:AEx}{st:St}(h:post μ2 n2 F k e st):post μ n F k e st:=by
 cases e with
 |normal=>exact After.mono hm hn (fun _ h=>h) h
 |exit id=>obtain⟨q,h1,h2⟩:=h;exact⟨q,h1,After.mono hm hn (fun _ h=>h) h2⟩
 |ret=>exact After.mono hm hn (fun _ h=>h) h
theorem After.run{n:Nat}{K:TS→Prop}{A:DS}{Q:AEx→St→Prop}(h:After μ n F K st)(hk:∀μ2 Γ2 st2,Sim μ2 F Γ2 st2→EJ n μ μ2→n≤st2.hp.next→K Γ2→Awp P A Q st2):Awp P A Q st:=by
 obtain⟨Γ2,⟨μ2,st2,k1,k2,k3⟩,k4,k5⟩:=h;exact(hk μ2 Γ2 st2 k2 k3 (by grind [k1.nx]) k5).weaken k1.le
theorem After.read{n:Nat}{L:List LE}{J:DL L→Prop}(h:After μ n F (fun Γ'=>MQ (MU L F Γ') J) st):After μ n F (fun Γ'=>∃d,Γ'=build L d∧J d) st:=by
 obtain⟨Γ2,⟨μ2,st2,k1,k2,k3⟩,k4,k5⟩:=h;obtain⟨d,h1,h2⟩:=Eb k5;obtain⟨st3,h3,h4⟩:=Alv k2 h1;refine⟨build L d,⟨μ2,st3,?_,h4,k3⟩,k4,d,rfl,h2⟩;exact k1.trans h3
theorem Xi:∀{l:List Nat} {Γ Γ':TS} {st:St},Sim μ F Γ st→(Xh F Γ l).ok Γ'→∃st',St.Le st st'∧Sim μ F Γ' st'∧st'.hp.next=st.hp.next
 |[],Γ,Γ',st,h,hx=>by
  have:=R.Aj.1 hx;subst this;exact⟨st,fun _ _ _ h=>h,h,rfl⟩
 |n::r,Γ,Γ',st,h,hx=>by
  simp only[Xh]at hx;rw[R.Ai]at hx;obtain⟨Γ1,h1,h2⟩:=hx;obtain⟨st1,k1,k2,k3⟩:=AcI h h1;obtain⟨st2,m1,m2,m3⟩:=Xi k2 h2;exact⟨st2,fun E tm w hr=>m1 E tm w (k1 E tm w hr),m2,m3.trans k3⟩
theorem GM:∀(c:D1) {F Γ:TS} {k:Kt} {μ:Nat→Nat} {st:St},Sim μ F Γ st→tw P c F Γ k→Awp P c.erase (post μ st.hp.next F k) st
 |.skip,F,Γ,k,μ,st,h,hx=>Aj7 ⟨Γ,h.mark (EJ.refl _ _),Qa3 _,hx⟩
 |.region ops,F,Γ,k,μ,st,h,hx=>Ae2 (Aer h hx)
 |.draw ts,F,Γ,k,μ,st,h,hx=>by
  refine Aj4 fun t ht=>?_
  obtain⟨t0,ht0,rfl⟩:=List.mem_map.1 ht;exact PX h (Aar hx t0 ht0)
 |.seq a b,F,Γ,k,μ,st,h,hx=>by
  refine AmI ((GM a h hx).mono ?_);intro e st1 h1
  cases e with
  |normal=>
   refine After.run h1 fun μ2 Γ2 st2 k1 k2 k3 k4=>?_
   exact(GM b k1 k4).mono fun e st3 h3=>Aac k2 k3 h3
  |exit id=>exact h1
  |ret=>exact h1
 |.cond x a b,F,Γ,k,μ,st,h,hx=>by
  obtain⟨c,h1,hx⟩:=CE hx;refine Aj3 (M.Ah (MY h (b:=true) (fun _=>rfl) h1) ?_);rintro _ rfl;exact⟨fun hc=>GM a h (hx.1 hc),fun hc=>GM b h (hx.2 hc)⟩
 |.block id a,F,Γ,k,μ,st,h,hx=>by
  refine Ah1 ((GM a h hx).mono ?_);intro e st1 h1
  cases e with
  |normal=>exact h1
  |exit id'=>
   obtain⟨q,h2,h3⟩:=h1;simp only[Aq]at h2;simp only[AEx.inBlock]
   by_cases e:id=id'
   ·rw[if_pos e]at h2;cases h2;rw[if_pos e.symm];exact h3
   ·rw[if_neg e]at h2;rw[if_neg (Ne.symm e)];exact⟨q,h2,h3⟩
  |ret=>exact h1
 |.loop L a,F,Γ,k,μ,st,h,hx=>by
  obtain⟨x,h1,⟨I,⟨n,hn⟩,hI⟩⟩:=Eb hx;refine Aj6 (fun n' st'=>After μ st.hp.next F (fun Γ'=>∃d,Γ'=build L d∧I n' d) st') (n:=n) ?_ ?_
  ·exact After.read ⟨Γ,h.mark (EJ.refl _ _),Qa3 _,(show MQ (MU L F Γ) (I n)by rw[h1];exact hn)⟩
  ·intro n1 st1 h2;refine After.run h2 ?_;rintro μ2 Γ2 st2 k1 k2 k3 ⟨d,rfl,hd⟩;refine(GM a k1 (hI n1 d hd)).mono ?_;intro e st3 h3;have h3:=Aac k2 k3 h3
   cases e with
   |normal=>
    obtain⟨Γ4,w1,w2,d',rfl,m,hm,hd'⟩:=After.read h3;exact⟨m,hm,_,w1,w2,d',rfl,hd'⟩
   |exit id=>exact h3
   |ret=>exact h3
 |.exit id,F,Γ,k,μ,st,h,hx=>by
  obtain⟨q,h1,h2⟩:=Eb hx;exact Aj5 ⟨q,h1,Γ,h.mark (EJ.refl _ _),Qa3 _,h2⟩
 |.ret,F,Γ,k,μ,st,h,hx=>AmH ⟨Γ,h.mark (EJ.refl _ _),Qa3 _,hx⟩
 |.join L a,F,Γ,k,μ,st,h,hx=>by
  obtain⟨J,hx,hJ⟩:=hx;refine(GM a h hx).mono ?_;intro e st1 h1
  cases e with
  |normal=>
   obtain⟨Γ4,w1,w2,d,rfl,hd⟩:=After.read h1;exact⟨_,w1,w2,hJ d hd⟩
  |exit id=>exact h1
  |ret=>exact h1
 |.frame ms mb ob a,F,Γ,k,μ,st,h,hx=>by
  have hx:(bif F.sl.any (fun p=>p.2.gdd)then False else tw P a ((Ex Γ ms mb ob).over F) (SC Γ ms mb) (k.map fun Γ'=>Γ'.over (Ex Γ ms mb ob))):=hx
  cases hF:F.sl.any (fun p=>p.2.gdd)with
  |true=>grind
  |false=>
   rw[hF,cond_false]at hx;refine(GM a (AkM h hF) hx).mono ?_
   have out:∀{K:TS→Prop} {st1:St},After μ st.hp.next ((Ex Γ ms mb ob).over F) (fun Γ'=>K (Γ'.over (Ex Γ ms mb ob))) st1→After μ st.hp.next F K st1:=by
    rintro K st1 ⟨Γ2,⟨μ2,st2,k1,k2,k3⟩,k4,k5⟩;exact⟨_,⟨μ2,st2,k1,Air h.ss h.sb k2,k3⟩,k4,k5⟩
   intro e st1 h1
   cases e with
   |normal=>exact out h1
   |exit id=>
    obtain⟨q,h2,h3⟩:=h1;have e:look (k.map fun Γ'=>Γ'.over (Ex Γ ms mb ob)).ex id=(look k.ex id).map (fun(q:TS→Prop) (Γ':TS)=>q (Γ'.over (Ex Γ ms mb ob))):=HT (fun(q:TS→Prop) (Γ':TS)=>q (Γ'.over (Ex Γ ms mb ob))) k.ex id;rw[e]at h2;obtain⟨q0,h4,rfl⟩:=Option.map_eq_some_iff.1 h2;exact⟨q0,h4,out h3⟩
   |ret=>exact out h1
 |.frz l a,F,Γ,k,μ,st,h,hx=>by
  obtain⟨Γ1,h1,h2⟩:=CE hx;obtain⟨st1,k1,k2,k3⟩:=Xi h h1;have:=GM a k2 h2;rw[k3]at this;exact this.weaken k1
end
end Go.VS
