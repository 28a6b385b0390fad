/- A semantics of values for the model, shown sound for it, and the lifting of functions to plain propositions: part 3. -/
import Derived.Test.YtopngokkgogolaaFwB
set_option linter.unusedVariables false
set_option linter.unusedSimpArgs false
set_option linter.unusedSectionVars false
namespace Go.VS
abbrev Gd:=List (Nat×Bool)
inductive TSV
 |one (c:TC)
 |agg (l:List TC)
 |clo (f:String×Bool) (caps:List TC)
 deriving Inhabited
inductive TX
 |val (gd:Gd) (v:TSV)
 |tup (l:List TSV)
 |gone
structure TS where
 sl:List (Nat×TX)
 bx:List (Nat×List TC)
def look{α:Type}:List (Nat×α)→Nat→Option α
 |[],_=>none
 |(k,x)::l,t=>bif Nat.beq k t then some x else look l t
theorem Ao{α:Type}(k:Nat)(x:α)(l:List (Nat×α))(t:Nat):look ((k,x)::l) t=if k=t then some x else look l t:=by
 simp only[look]
 by_cases h:k=t
 ·subst h;simp
 ·rw[if_neg h]
  have:Nat.beq k t=false:=by
   cases hb:Nat.beq k t
   ·rfl
   ·exact absurd (Nat.eq_of_beq_eq_true hb) h
  rw[this];rfl
theorem AQ{α:Type}(l m:List (Nat×α))(t:Nat):look (l++m) t=match look l t with|some x=>some x|none=>look m t:=by
 induction l with
 |nil=>rfl
 |cons a l ih=>
  obtain⟨k,x⟩:=a
  rw[List.cons_append,Ao,Ao]
  by_cases h:k=t
  ·simp[h]
  ·simp[h,ih]
theorem Gr{α β:Type}(f:α→β)(l:List (Nat×α))(t:Nat):look (l.map fun p=>(p.1,f p.2)) t=(look l t).map f:=by
 induction l with
 |nil=>rfl
 |cons a l ih=>
  obtain⟨k,x⟩:=a
  rw[List.map_cons,Ao,Ao]
  by_cases h:k=t
  ·simp[h]
  ·simp[h,ih]
theorem Dg{α:Type}{l:List (Nat×α)}{t:Nat}{x:α}(h:look l t=some x):(t,x)∈l:=by
 induction l with
 |nil=>cases h
 |cons a l ih=>
  obtain⟨k,y⟩:=a
  rw[Ao]at h
  split at h
  ·rename_i hk;cases h;subst hk;simp
  ·exact List.mem_cons_of_mem _ (ih h)
def TSV.cells:TSV→List TC
 |.one c=>[c]
 |.agg l=>l
 |.clo _ _=>[]
def TS.slot(F Γ:TS)(t:Nat):Option TX:=match look Γ.sl t with
 |some x=>some x
 |none=>look F.sl t
def TS.box(F Γ:TS)(b:Nat):Option (List TC):=match look Γ.bx b with
 |some l=>some l
 |none=>look F.bx b
def BP(F Γ:TS):Root→Option TC
 |.slot t j=>match TS.slot F Γ t with
  |some (.val [] v)=>v.cells[j]?
  |_=>none
 |.obj b c=>(TS.box F Γ b).bind (·[c]?)
def atT(F Γ:TS)(p:Place):Option TC:=(BP F Γ p.root).bind (·.atS p.path)
def TC.len?:TC→Option Nat
 |.sl _ _ _ l=>some l.length
 |_=>none
def lnT(F Γ:TS)(p:Place):Option Nat:=(atT F Γ p).bind TC.len?
def EZ(F Γ:TS)(t:Nat):Option Bool:=match TS.slot F Γ t with
 |some (.val _ (.one (.bool b)))=>some b
 |_=>none
def gv(F Γ:TS):Gd→Bool
 |[]=>true
 |(t,w)::r=>(match EZ F Γ t with|some b=>b==w|none=>false)&&gv F Γ r
section
variable(μ:Nat→Nat)(ver:Root→Nat)(ln:Place→Option Nat)
def TSV.sv:TSV→SV→Prop
 |.one c,s=>∃a,s=.one a∧c.av μ ver ln a
 |.agg l,s=>∃m,s=.agg m∧avs μ ver ln l m
 |.clo f caps,s=>∃m,s=.one (.clo f m)∧avs μ ver ln caps m
def svs:List TSV→List SV→Prop
 |[],[]=>True
 |v::l,s::m=>v.sv μ ver ln s∧svs l m
 |_,_=>False
def TX.tv(gv:Gd→Bool):TX→TV→Prop
 |.val gd v,y=>∃s,y=.val (gv gd) s∧v.sv μ ver ln s
 |.tup l,y=>∃m,y=.tup m∧svs μ ver ln l m
 |.gone,_=>True
end
def TC.AP:TC→Bool
 |.ref ..=>false
 |.adr ..=>false
 |_=>true
structure Sim(μ:Nat→Nat)(F Γ:TS)(st:St):Prop where
 sl:∀t x,TS.slot F Γ t=some x→x.tv μ st.ver (lnT F Γ) (gv F Γ) (st.sl t)
 bx:∀b l,TS.box F Γ b=some l→∃m,st.hp.get (μ b)=some m∧avs μ st.ver (lnT F Γ) l m∧μ b<st.hp.next∧l.all TC.AP=true
 inj:∀b b' l l',TS.box F Γ b=some l→TS.box F Γ b'=some l'→μ b=μ b'→b=b'
 ss:∀t,(look F.sl t).isSome=true→look Γ.sl t=none
 sb:∀b,(look F.bx b).isSome=true→look Γ.bx b=none
def TC.sift(qr qa:Place→Bool)(m:Nat→Bool):TC→TC
 |.ref p tt e w=>if qr p then .dead else .ref p tt e w
 |.adr p tt e i c=>if qa p then .dead else .adr p tt e i c
 |.box b c=>if m b then .dead else .box b c
 |.boxd b c n i=>if m b then .dead else .boxd b c n i
 |c=>c
def TC.hit(qr qa:Place→Bool)(m:Nat→Bool):TC→Bool
 |.ref p _ _ _=>qr p
 |.adr p _ _ _ _=>qa p
 |.box b _=>m b
 |.boxd b _ _ _=>m b
 |_=>false
def TSV.sift(qr qa:Place→Bool)(m:Nat→Bool):TSV→TSV
 |.one c=>.one (c.sift qr qa m)
 |.agg l=>.agg (l.map (TC.sift qr qa m))
 |.clo f caps=>.clo f (caps.map (TC.sift qr qa m))
def TSV.hit(qr qa:Place→Bool)(m:Nat→Bool):TSV→Bool
 |.one c=>c.hit qr qa m
 |.agg l=>l.any (TC.hit qr qa m)
 |.clo _ caps=>caps.any (TC.hit qr qa m)
def TX.sift(qr qa:Place→Bool)(m:Nat→Bool):TX→TX
 |.val gd v=>.val gd (v.sift qr qa m)
 |.tup l=>.tup (l.map (TSV.sift qr qa m))
 |.gone=>.gone
def TX.hit(qr qa:Place→Bool)(m:Nat→Bool):TX→Bool
 |.val _ v=>v.hit qr qa m
 |.tup l=>l.any (TSV.hit qr qa m)
 |.gone=>false
def TX.guards(t:Nat):TX→Bool
 |.val gd _=>gd.any fun p=>Nat.beq p.1 t
 |.tup _=>false
 |.gone=>false
def TS.hit(Γ:TS)(qr qa:Place→Bool)(m:Nat→Bool):Bool:=Γ.sl.any (fun p=>p.2.hit qr qa m)||Γ.bx.any (fun p=>p.2.any (TC.hit qr qa m))
def TS.sift(Γ:TS)(qr qa:Place→Bool)(m:Nat→Bool):TS:=⟨Γ.sl.map fun p=>(p.1,p.2.sift qr qa m),Γ.bx.map fun p=>(p.1,p.2.map (TC.sift qr qa m))⟩
def TS.guards(Γ:TS)(t:Nat):Bool:=Γ.sl.any fun p=>p.2.guards t
def TS.upd(F Γ:TS)(qr qa:Place→Bool)(m:Nat→Bool)(ns:List (Nat×TX))(nb:List (Nat×List TC)):Option TS:=
 bif F.hit qr qa m||ns.any (fun p=>(look F.sl p.1).isSome||F.guards p.1||Γ.guards p.1)||nb.any (fun p=>(look F.bx p.1).isSome)then none
 else bif Γ.hit qr qa m then some ⟨ns++(Γ.sift qr qa m).sl,nb++(Γ.sift qr qa m).bx⟩
 else some ⟨ns++Γ.sl,nb++Γ.bx⟩
section
variable{qr qa:Place→Bool}{m:Nat→Bool}
theorem TC.Fl{c:TC}(h:c.hit qr qa m=false):c.sift qr qa m=c:=by
 cases c<;>simp_all [TC.hit,TC.sift]
theorem Fx{l:List TC}(h:l.any (TC.hit qr qa m)=false):l.map (TC.sift qr qa m)=l:=by
 induction l with
 |nil=>rfl
 |cons c l ih=>
  simp only[List.any_cons,Bool.or_eq_false_iff]at h
  rw[List.map_cons,TC.Fl h.1,ih h.2]
theorem TSV.Fl{v:TSV}(h:v.hit qr qa m=false):v.sift qr qa m=v:=by
 cases v with
 |one c=>simp only[TSV.sift,TC.Fl h]
 |agg l=>simp only[TSV.sift,Fx h]
 |clo f l=>simp only[TSV.sift,Fx h]
theorem TX.Fl{x:TX}(h:x.hit qr qa m=false):x.sift qr qa m=x:=by
 cases x with
 |val gd v=>simp only[TX.sift,TSV.Fl h]
 |tup l=>
  simp only[TX.sift,TX.tup.injEq]
  simp only[TX.hit]at h
  induction l with
  |nil=>rfl
  |cons v l ih=>
   simp only[List.any_cons,Bool.or_eq_false_iff]at h
   rw[List.map_cons,TSV.Fl h.1,ih h.2]
 |gone=>rfl
theorem TC.Qr(c:TC):c.sift qr qa m=c∨c.sift qr qa m=.dead:=by
 cases c with
 |ref p tt e w=>simp only[TC.sift];split<;>simp
 |adr p tt e i c=>simp only[TC.sift];split<;>simp
 |box b c=>simp only[TC.sift];split<;>simp
 |boxd b c n i=>simp only[TC.sift];split<;>simp
 |_=>exact .inl rfl
theorem TC.Kh{c:TC}(h:c.AP=true):(c.sift qr qa m).AP=true:=by
 rcases c.Qr (qr:=qr) (qa:=qa) (m:=m)with e|e<;>rw[e]
 ·exact h
 ·rfl
theorem TC.Gy(c:TC)(p:List Stp)(n:Nat)(h:((c.sift qr qa m).atS p).bind TC.len?=some n):(c.atS p).bind TC.len?=some n:=by
 rcases c.Qr (qr:=qr) (qa:=qa) (m:=m)with e|e<;>rw[e]at h
 ·exact h
 ·cases p<;>simp[TC.atS,TC.len?]at h
variable{μ μ':Nat→Nat}{ver ver':Root→Nat}{ln ln':Place→Option Nat}{F Γ Γ':TS}
structure Tr(qr qa:Place→Bool)(m:Nat→Bool)(μ μ':Nat→Nat)(ver ver':Root→Nat)(ln ln':Place→Option Nat):Prop where
 mu:∀b,m b=false→μ' b=μ b
 rr:∀p,qr p=false→p.mu μ'=p.mu μ∧ver' (p.mu μ').root=ver (p.mu μ).root∧∀n,ln' p=some n→ln p=some n
 ra:∀p,qa p=false→p.mu μ'=p.mu μ∧ver' (p.mu μ').root=ver (p.mu μ).root
theorem Tr.av(T:Tr qr qa m μ μ' ver ver' ln ln'){c:TC}{a:AV}(h:c.av μ ver ln a):(c.sift qr qa m).av μ' ver' ln' a:=by
 cases c with
 |box b c=>
  simp only[TC.sift]
  split
  ·trivial
  ·rename_i hm
   have:=T.mu b (by simpa using hm)
   simp only[TC.av]at h⊢
   rw[this];exact h
 |boxd b c n i=>
  simp only[TC.sift]
  split
  ·trivial
  ·rename_i hm
   have:=T.mu b (by simpa using hm)
   simp only[TC.av]at h⊢
   rw[this];exact h
 |ref p tt e w=>
  simp only[TC.sift]
  split
  ·trivial
  ·rename_i hq
   obtain⟨h1,h2,h3⟩:=T.rr p (by simpa using hq)
   cases w with
   |none=>
    obtain⟨n,h,hn⟩:=h
    refine⟨n,?_,fun m hm=>hn m (h3 m hm)⟩
    rw[h2,h1];exact h
   |some x=>
    obtain⟨lo,n⟩:=x
    simp only[TC.av]at h⊢
    rw[h2,h1];exact h
 |adr p tt e i c=>
  simp only[TC.sift]
  split
  ·trivial
  ·rename_i hq
   obtain⟨h1,h2⟩:=T.ra p (by simpa using hq)
   simp only[TC.av]at h⊢
   rw[h2,h1];exact h
 |_=>exact h
theorem Tr.avs(T:Tr qr qa m μ μ' ver ver' ln ln'):∀{l:List TC} {k:List AV},avs μ ver ln l k→VS.avs μ' ver' ln' (l.map (TC.sift qr qa m)) k
 |[],[],_=>trivial
 |c::l,a::k,h=>⟨T.av h.1,T.avs h.2⟩
 |[],_::_,h=>h.elim
 |_::_,[],h=>h.elim
theorem Tr.sv(T:Tr qr qa m μ μ' ver ver' ln ln'){v:TSV}{s:SV}(h:v.sv μ ver ln s):(v.sift qr qa m).sv μ' ver' ln' s:=by
 cases v with
 |one c=>obtain⟨a,e,h⟩:=h;exact⟨a,e,T.av h⟩
 |agg l=>obtain⟨a,e,h⟩:=h;exact⟨a,e,T.avs h⟩
 |clo f l=>obtain⟨a,e,h⟩:=h;exact⟨a,e,T.avs h⟩
theorem Tr.svs(T:Tr qr qa m μ μ' ver ver' ln ln'):∀{l:List TSV} {k:List SV},svs μ ver ln l k→VS.svs μ' ver' ln' (l.map (TSV.sift qr qa m)) k
 |[],[],_=>trivial
 |c::l,a::k,h=>⟨T.sv h.1,T.svs h.2⟩
 |[],_::_,h=>h.elim
 |_::_,[],h=>h.elim
theorem Tr.tv(T:Tr qr qa m μ μ' ver ver' ln ln'){g g':Gd→Bool}{x:TX}{y:TV}(hg:∀gd v,x=.val gd v→g' gd=g gd)(h:x.tv μ ver ln g y):(x.sift qr qa m).tv μ' ver' ln' g' y:=by
 cases x with
 |val gd v=>
  obtain⟨s,e,h⟩:=h
  have hgd:=hg gd v rfl
  exact⟨s,by rw[hgd];exact e,T.sv h⟩
 |tup l=>obtain⟨k,e,h⟩:=h;exact⟨k,e,T.svs h⟩
 |gone=>exact trivial
theorem Hy{ns:List (Nat×TX)}{nb:List (Nat×List TC)}(hu:TS.upd F Γ qr qa m ns nb=some Γ')(hss:∀t,(look F.sl t).isSome=true→look Γ.sl t=none)(t:Nat):
  TS.slot F Γ' t=match look ns t with|some x=>some x|none=>(TS.slot F Γ t).map (TX.sift qr qa m):=by
 unfold TS.upd at hu
 cases hc:(F.hit qr qa m||ns.any (fun p=>(look F.sl p.1).isSome||F.guards p.1||Γ.guards p.1)||nb.any (fun p=>(look F.bx p.1).isSome))with
 |true=>rw[hc]at hu;cases hu
 |false=>
  rw[hc]at hu
  simp only[Bool.or_eq_false_iff]at hc
  obtain⟨⟨hF,hns⟩,hnb⟩:=hc
  have fr:∀x,look F.sl t=some x→x.sift qr qa m=x:=by
   intro x hx
   refine TX.Fl ?_
   have:=Dg hx
   simp only[TS.hit,Bool.or_eq_false_iff]at hF
   have h1:=List.any_eq_false.1 hF.1 (t,x) this
   simpa using h1
  have main:∀L:List (Nat×TX),look L t=(look Γ.sl t).map (TX.sift qr qa m)→(match look (ns++L) t with|some x=>some x|none=>look F.sl t)=match look ns t with|some x=>some x|none=>(TS.slot F Γ t).map (TX.sift qr qa m):=by
   intro L hL
   rw[AQ]
   cases hn:look ns t with
   |some x=>rfl
   |none=>
    rw[hL]
    unfold TS.slot
    cases hg:look Γ.sl t with
    |some x=>rfl
    |none=>
     cases hf:look F.sl t with
     |none=>rfl
     |some x=>simp[fr x hf]
  cases hh:Γ.hit qr qa m with
  |true=>
   rw[hh]at hu
   cases hu
   exact main _ (Gr _ _ _)
  |false=>
   rw[hh]at hu
   cases hu
   refine main _ ?_
   cases hg:look Γ.sl t with
   |none=>rfl
   |some x=>
    have:=Dg hg
    simp only[TS.hit,Bool.or_eq_false_iff]at hh
    have h1:=List.any_eq_false.1 hh.1 (t,x) this
    simp[TX.Fl (by simpa using h1:x.hit qr qa m=false)]
theorem Ek{ns:List (Nat×TX)}{nb:List (Nat×List TC)}(hu:TS.upd F Γ qr qa m ns nb=some Γ')(b:Nat):
  TS.box F Γ' b=match look nb b with|some x=>some x|none=>(TS.box F Γ b).map (List.map (TC.sift qr qa m)):=by
 unfold TS.upd at hu
 cases hc:(F.hit qr qa m||ns.any (fun p=>(look F.sl p.1).isSome||F.guards p.1||Γ.guards p.1)||nb.any (fun p=>(look F.bx p.1).isSome))with
 |true=>rw[hc]at hu;cases hu
 |false=>
  rw[hc]at hu
  simp only[Bool.or_eq_false_iff]at hc
  obtain⟨⟨hF,hns⟩,hnb⟩:=hc
  have fr:∀x,look F.bx b=some x→x.map (TC.sift qr qa m)=x:=by
   intro x hx
   refine Fx ?_
   have:=Dg hx
   simp only[TS.hit,Bool.or_eq_false_iff]at hF
   have h1:=List.any_eq_false.1 hF.2 (b,x) this
   simpa using h1
  have main:∀L:List (Nat×List TC),look L b=(look Γ.bx b).map (List.map (TC.sift qr qa m))→(match look (nb++L) b with|some x=>some x|none=>look F.bx b)=match look nb b with|some x=>some x|none=>(TS.box F Γ b).map (List.map (TC.sift qr qa m)):=by
   intro L hL
   rw[AQ]
   cases hn:look nb b with
   |some x=>rfl
   |none=>
    rw[hL]
    unfold TS.box
    cases hg:look Γ.bx b with
    |some x=>rfl
    |none=>
     cases hf:look F.bx b with
     |none=>rfl
     |some x=>simp[fr x hf]
  cases hh:Γ.hit qr qa m with
  |true=>
   rw[hh]at hu
   cases hu
   exact main _ (Gr _ _ _)
  |false=>
   rw[hh]at hu
   cases hu
   refine main _ ?_
   cases hg:look Γ.bx b with
   |none=>rfl
   |some x=>
    have:=Dg hg
    simp only[TS.hit,Bool.or_eq_false_iff]at hh
    have h1:=List.any_eq_false.1 hh.2 (b,x) this
    simp[Fx (by simpa using h1:x.any (TC.hit qr qa m)=false)]
theorem PK{ns:List (Nat×TX)}{nb:List (Nat×List TC)}(hu:TS.upd F Γ qr qa m ns nb=some Γ'):
  (∀t x,look ns t=some x→look F.sl t=none∧F.guards t=false∧Γ.guards t=false)∧(∀b l,look nb b=some l→look F.bx b=none)∧
  (∀t,look Γ'.sl t=none↔look ns t=none∧look Γ.sl t=none)∧(∀b,look Γ'.bx b=none↔look nb b=none∧look Γ.bx b=none):=by
 unfold TS.upd at hu
 cases hc:(F.hit qr qa m||ns.any (fun p=>(look F.sl p.1).isSome||F.guards p.1||Γ.guards p.1)||nb.any (fun p=>(look F.bx p.1).isSome))with
 |true=>rw[hc]at hu;cases hu
 |false=>
  rw[hc]at hu
  simp only[Bool.or_eq_false_iff]at hc
  obtain⟨⟨hF,hns⟩,hnb⟩:=hc
  refine⟨?_,?_,?_,?_⟩
  ·intro t x hx
   have:=List.any_eq_false.1 hns (t,x) (Dg hx)
   simp at this
   simpa[and_assoc]using this
  ·intro b l hx
   have:=List.any_eq_false.1 hnb (b,l) (Dg hx)
   simpa using this
  ·intro t
   have e:∀L:List (Nat×TX),(look L t=none↔look Γ.sl t=none)→(look (ns++L) t=none↔look ns t=none∧look Γ.sl t=none):=by
    intro L hL
    rw[AQ]
    cases look ns t<;>simp[hL]
   cases hh:Γ.hit qr qa m<;>rw[hh]at hu<;>cases hu
   ·exact e _ Iff.rfl
   ·refine e _ ?_
    show look (Γ.sl.map fun p=>(p.1,p.2.sift qr qa m)) t=none↔_
    rw[Gr]
    simp
  ·intro t
   have e:∀L:List (Nat×List TC),(look L t=none↔look Γ.bx t=none)→(look (nb++L) t=none↔look nb t=none∧look Γ.bx t=none):=by
    intro L hL
    rw[AQ]
    cases look nb t<;>simp[hL]
   cases hh:Γ.hit qr qa m<;>rw[hh]at hu<;>cases hu
   ·exact e _ Iff.rfl
   ·refine e _ ?_
    show look (Γ.bx.map fun p=>(p.1,p.2.map (TC.sift qr qa m))) t=none↔_
    rw[Gr]
    simp
theorem Om{x:TX}:(match some (x.sift qr qa m)with|some (.val _ (.one (.bool b)))=>some b|_=>none)=(match some x with|some (.val _ (.one (.bool b)))=>some b|_=>none:Option Bool):=by
 cases x with
 |tup l=>rfl
 |gone=>rfl
 |val gd v=>
  cases v with
  |one c=>
   have e:=c.Qr (qr:=qr) (qa:=qa) (m:=m)
   cases c with
   |bool b=>rfl
   |_=>rcases e with e|e<;>simp only[TX.sift,TSV.sift,e]
  |_=>rfl
theorem L9{Γ Γ':TS}{t0:Nat→Prop}(hs:∀t,¬t0 t→EZ F Γ' t=EZ F Γ t):∀gd:Gd,(∀p∈gd,¬t0 p.1)→gv F Γ' gd=gv F Γ gd
 |[],_=>rfl
 |(t,w)::r,h=>by
  simp only[gv]
  rw[hs t (h (t,w) (by simp)),L9 hs r (fun p hp=>h p (by simp[hp]))]
theorem Sim.upd{st st':St}{ns:List (Nat×TX)}{nb:List (Nat×List TC)}(h:Sim μ F Γ st)(hu:TS.upd F Γ qr qa m ns nb=some Γ')(T:Tr qr qa m μ μ' st.ver st'.ver (lnT F Γ) (lnT F Γ'))
  (hsl:∀t,look ns t=none→st'.sl t=st.sl t)
  (hns:∀t x,look ns t=some x→x.tv μ' st'.ver (lnT F Γ') (gv F Γ') (st'.sl t))
  (hhp:∀b l,look nb b=none→TS.box F Γ b=some l→st'.hp.get (μ b)=st.hp.get (μ b))
  (hnb:∀b l,look nb b=some l→∃k,st'.hp.get (μ' b)=some k∧VS.avs μ' st'.ver (lnT F Γ') l k∧μ' b<st'.hp.next∧l.all TC.AP=true)
  (hm:∀b,m b=true→(look nb b).isSome=true)
  (hinj:∀b b' l l',look nb b=some l→TS.box F Γ' b'=some l'→μ' b=μ' b'→b=b')
  (hnx:st.hp.next≤st'.hp.next):Sim μ' F Γ' st':=by
 obtain⟨f1,f2,f3,f4⟩:=PK hu
 have hslot:=Hy hu h.ss
 have hbox:=Ek hu
 have hgv:∀gd:Gd,(∀p∈gd,look ns p.1=none)→gv F Γ' gd=gv F Γ gd:=by
  intro gd hgd
  refine L9 (t0:=fun t=>look ns t≠none) ?_ gd (fun p hp=>by simpa using hgd p hp)
  intro t ht
  have ht:look ns t=none:=by simpa using ht
  unfold EZ
  rw[hslot t,ht]
  cases hx:TS.slot F Γ t with
  |none=>rfl
  |some x=>exact Om
 have mfalse:∀b,look nb b=none→m b=false:=by
  intro b hb
  cases hmb:m b with
  |false=>rfl
  |true=>have:=hm b hmb;rw[hb]at this;cases this
 refine⟨?_,?_,?_,?_,?_⟩
 ·intro t x hx
  rw[hslot t]at hx
  cases hn:look ns t with
  |some y=>rw[hn]at hx;cases hx;exact hns t _ hn
  |none=>
   rw[hn]at hx
   simp only[Option.map_eq_some_iff]at hx
   obtain⟨x0,hx0,rfl⟩:=hx
   rw[hsl t hn]
   refine T.tv ?_ (h.sl t x0 hx0)
   rintro gd v rfl
   refine hgv gd fun p hp=>?_
   cases hl:look ns p.1 with
   |none=>rfl
   |some y=>
    exfalso
    obtain⟨_,g1,g2⟩:=f1 p.1 y hl
    have hmem:(∃k,(k,TX.val gd v)∈Γ.sl)∨(∃k,(k,TX.val gd v)∈F.sl):=by
     unfold TS.slot at hx0
     cases hg:look Γ.sl t with
     |some x1=>rw[hg]at hx0;cases hx0;exact .inl ⟨t,Dg hg⟩
     |none=>rw[hg]at hx0;exact .inr ⟨t,Dg hx0⟩
    have bad:∀(L:List (Nat×TX)) k,(k,TX.val gd v)∈L→(L.any fun q=>q.2.guards p.1)=true:=by
     intro L k hk
     refine List.any_eq_true.2 ⟨(k,.val gd v),hk,?_⟩
     simp only[TX.guards]
     refine List.any_eq_true.2 ⟨p,hp,by simp⟩
    rcases hmem with⟨k,hk⟩|⟨k,hk⟩
    ·rw[show Γ.guards p.1=true from bad _ k hk]at g2;cases g2
    ·rw[show F.guards p.1=true from bad _ k hk]at g1;cases g1
 ·intro b l hl
  rw[hbox b]at hl
  cases hn:look nb b with
  |some y=>rw[hn]at hl;cases hl;exact hnb b _ hn
  |none=>
   rw[hn]at hl
   simp only[Option.map_eq_some_iff]at hl
   obtain⟨l0,hl0,rfl⟩:=hl
   obtain⟨k,q1,q2,q3,q4⟩:=h.bx b l0 hl0
   have e:=T.mu b (mfalse b hn)
   refine⟨k,by rw[e,hhp b l0 hn hl0];exact q1,T.avs q2,by rw[e];exact Nat.lt_of_lt_of_le q3 hnx,?_⟩
   simp only[List.all_map,List.all_eq_true]at q4⊢
   intro c hc
   exact TC.Kh (q4 c hc)
 ·intro b b' l l' hb hb' he
  cases hn:look nb b with
  |some y=>exact hinj b b' y l' hn hb' he
  |none=>
   cases hn':look nb b' with
   |some y=>exact(hinj b' b y l hn' hb he.symm).symm
   |none=>
    rw[hbox b,hn]at hb
    rw[hbox b',hn']at hb'
    simp only[Option.map_eq_some_iff]at hb hb'
    obtain⟨l0,hl0,_⟩:=hb
    obtain⟨l1,hl1,_⟩:=hb'
    refine h.inj b b' l0 l1 hl0 hl1 ?_
    rw[←T.mu b (mfalse b hn),←T.mu b' (mfalse b' hn')];exact he
 ·intro t ht
  refine(f3 t).2 ⟨?_,h.ss t ht⟩
  cases hn:look ns t with
  |none=>rfl
  |some x=>rw[(f1 t x hn).1]at ht;cases ht
 ·intro b hb
  refine(f4 b).2 ⟨?_,h.sb b hb⟩
  cases hn:look nb b with
  |none=>rfl
  |some x=>rw[f2 b x hn]at hb;cases hb
end
end Go.VS
namespace Go.VS
def R(α:Type):Type:=Option (List Prop×α)
namespace R
def pure{α:Type}(a:α):R α:=some ([],a)
def need(p:Prop):R Unit:=some ([p],())
def fail{α:Type}:R α:=none
def bind{α β:Type}(x:R α)(f:α→R β):R β:=
 match x with
 |none=>none
 |some (p,a)=>match f a with
  |none=>none
  |some (q,b)=>some (p++q,b)
instance:Monad R where
 pure:=R.pure
 bind:=R.bind
def QB:List Prop→Prop
 |[]=>True
 |p::ps=>p∧QB ps
theorem Ib:∀(ps qs:List Prop),QB (ps++qs)↔QB ps∧QB qs
 |[],qs=>by simp[QB]
 |p::ps,qs=>by simp[QB,Ib ps qs,and_assoc]
def ok{α:Type}(x:R α)(a:α):Prop:=∃ps,x=some (ps,a)∧QB ps
theorem Ah{α β:Type}{x:R α}{f:α→R β}{b:β}:(x>>=f).ok b↔∃a,x.ok a∧(f a).ok b:=by
 show(R.bind x f).ok b↔_
 unfold R.bind ok
 constructor
 ·rintro⟨ps,h,hp⟩
  split at h
  case h_1=>cases h
  rename_i p a
  split at h
  case h_1=>cases h
  rename_i q b' hf
  cases h
  rw[Ib]at hp
  exact⟨a,⟨p,rfl,hp.1⟩,⟨q,hf,hp.2⟩⟩
 ·rintro⟨a,⟨p,rfl,hp⟩,⟨q,hf,hq⟩⟩
  refine⟨p++q,?_,(Ib _ _).2 ⟨hp,hq⟩⟩
  simp only[hf]
  rfl
theorem Ai{α:Type}{a b:α}:(Pure.pure a:R α).ok b↔a=b:=by
 constructor
 ·rintro⟨ps,h,_⟩;cases h;rfl
 ·rintro rfl;exact⟨[],rfl,trivial⟩
theorem Fj{p:Prop}{u:Unit}:(R.need p).ok u↔p:=by
 constructor
 ·rintro⟨ps,h,h2⟩;cases h;exact h2.1
 ·intro h;exact⟨[p],rfl,h,trivial⟩
theorem Af{α:Type}{a:α}:(R.fail:R α).ok a↔False:=by
 constructor
 ·rintro⟨ps,h,_⟩;cases h
 ·exact False.elim
def Cz{α:Type}:Option α→R α
 |some a=>Pure.pure a
 |none=>R.fail
theorem BE{α:Type}{x:Option α}{a:α}:(Cz x).ok a↔x=some a:=by
 cases x with
 |none=>simp[Cz,Af]
 |some b=>simp[Cz,Ai]
end R
def G6:Value→TC
 |.int k n=>.int k n
 |.bool b=>.bool b
 |.string s=>.str s.data.toList
 |.slice none 0 0=>.nil
 |v=>.lit v
def gsub(gd g:Gd):Bool:=gd.all fun p=>g.any fun q=>Nat.beq p.1 q.1&&(bif p.2 then q.2 else !q.2)
def Pt(p:Place):TC→TC
 |.sl .own tt e _=>.ref p tt e none
 |c=>c
def Pu(mk:Nat→Place):Nat→List TC→List TC
 |_,[]=>[]
 |j,c::l=>Pt (mk j) c::Pu mk (j+1) l
def TSV.peek(n:Nat):TSV→TSV
 |.one c=>.one (Pt ⟨.slot n 0,[]⟩ c)
 |.agg l=>.agg (Pu (fun j=>⟨.slot n j,[]⟩) 0 l)
 |.clo f l=>.clo f l
def atC:TC→List Stp→R TC
 |c,[]=>pure c
 |.sl .own tt e l,s::r=>if s.k=e.size then do
   R.need (s.i<l.length)
   match(e.ex tt (l.getD s.i e.dflt))[s.c]?with
   |some c=>atC c r
   |none=>R.fail
  else R.fail
 |_,_=>R.fail
def Wy:List TC→Option (IntKind×List Int)
 |[]=>none
 |[.int k n]=>some (k,[n])
 |.int k n::l=>match Wy l with
  |some (k',ns)=>if k=k' then some (k,n::ns)else none
  |none=>none
 |_=>none
def XM:List TC→Option (List (List UInt8))
 |[]=>some []
 |.str s::l=>match XM l with
  |some ns=>some (s::ns)
  |none=>none
 |_=>none
def Qo(l:List TC)(i:Nat):Option TC:=match Wy l with
 |some (k,ns)=>some (.int k (ns.getD i 0))
 |none=>match XM l with
  |some ns=>some (.str (ns.getD i []))
  |none=>none
def mkT(agg:Bool)(l:List TC):TSV:=bif agg then .agg l else .one (l.headD .dead)
def MU(l:List TC)(c:Nat):List TC→List TC
 |[]=>l
 |a::as=>MU (l.set c a) (c+1) as
def eqC:CK→TC→TC→Option Bool
 |.int,.int k a,.int k' b=>if k=k' then some (a==b)else none
 |.str,.str a,.str b=>some (a==b)
 |.bool,.bool a,.bool b=>some (a==b)
 |_,_,_=>none
def Xq:List CK→List TC→List TC→Option Bool
 |[],[],[]=>some true
 |k::ks,a::l,b::m=>match eqC k a b,Xq ks l m with
  |some x,some y=>some (x&&y)
  |_,_=>none
 |_,_,_=>none
def Mk{α:Type}(lo hi:Option Int)(l:List α):List α:=match lo,hi with
 |none,none=>l
 |some a,none=>l.drop a.toNat
 |none,some b=>l.take b.toNat
 |some a,some b=>(l.take b.toNat).drop a.toNat
section
variable(F Γ:TS)
def gimp:Gd→Prop→Prop
 |[],p=>p
 |(t,w)::r,p=>match EZ F Γ t with
  |some b=>b=w→gimp r p
  |none=>p
def EH(g:Gd)(p:Prop):R Unit:=R.need (gimp F Γ g p)
def Kn(g:Gd):Opd→R TSV
 |.c v=>pure (.one (G6 v))
 |.f nm=>pure (.clo (nm,false) [])
 |.t n=>match TS.slot F Γ n with
  |some (.val gd v)=>bif gsub gd g then pure (v.peek n)else R.fail
  |_=>R.fail
def FZ(g:Gd)(x:Opd):R TC:=do
 match←Kn F Γ g x with
 |.one c=>pure c
 |_=>R.fail
def Qz(g:Gd)(x:Opd):R Int:=do
 match←Kn F Γ g x with
 |.one (.int _ n)=>pure n
 |_=>R.fail
def Qy(g:Gd)(x:Opd):R Bool:=do
 match←Kn F Γ g x with
 |.one (.bool b)=>pure b
 |_=>R.fail
def Ve(g:Gd)(x:Opd):R (List TC):=do
 match←Kn F Γ g x with
 |.agg l=>pure l
 |_=>R.fail
def atR(p:Place):R TC:=match BP F Γ p.root with
 |some c=>atC c p.path
 |none=>R.fail
def VC(g:Gd)(op:BinOp)(k k':IntKind)(a b:Int):R TC:=
 match op with
 |.add=>if k=k' then pure (.int k (k.wrap (a+b)))else R.fail
 |.sub=>if k=k' then pure (.int k (k.wrap (a -b)))else R.fail
 |.mul=>if k=k' then pure (.int k (k.wrap (a*b)))else R.fail
 |.quo=>if k=k' then do EH F Γ g (b≠0);pure (.int k (k.wrap (a.tdiv b)))else R.fail
 |.rem=>if k=k' then do EH F Γ g (b≠0);pure (.int k (a.tmod b))else R.fail
 |.and=>if k=k' then pure (.int k (k.wrap (BitVec.ofInt k.bits a&&&BitVec.ofInt k.bits b).toNat))else R.fail
 |.or=>if k=k' then pure (.int k (k.wrap (BitVec.ofInt k.bits a|||BitVec.ofInt k.bits b).toNat))else R.fail
 |.xor=>if k=k' then pure (.int k (k.wrap (BitVec.ofInt k.bits a^^^BitVec.ofInt k.bits b).toNat))else R.fail
 |.andNot=>if k=k' then pure (.int k (k.wrap (BitVec.ofInt k.bits a&&&~~~BitVec.ofInt k.bits b).toNat))else R.fail
 |.eql=>if k=k' then pure (.bool (a==b))else R.fail
 |.neq=>if k=k' then pure (.bool (a !=b))else R.fail
 |.lss=>if k=k' then pure (.bool (a<b))else R.fail
 |.leq=>if k=k' then pure (.bool (a≤b))else R.fail
 |.gtr=>if k=k' then pure (.bool (a>b))else R.fail
 |.geq=>if k=k' then pure (.bool (a≥b))else R.fail
 |.shl=>do EH F Γ g (0≤b);pure (.int k (k.wrap (a*2^(min b.toNat k.bits))))
 |.shr=>do EH F Γ g (0≤b);pure (.int k (a.fdiv (2^(min b.toNat k.bits))))
def VD(g:Gd)(op:BinOp)(a b:List UInt8):R TC:=
 match op with
 |.add=>do EH F Γ g (a.length+b.length≤9223372036854775807);pure (.str (a++b))
 |.eql=>pure (.bool (a==b))
 |.neq=>pure (.bool (!(a==b)))
 |.lss=>pure (.bool (Op.bytesLess a b))
 |.leq=>pure (.bool (Op.bytesLess a b||a==b))
 |.gtr=>pure (.bool (!(Op.bytesLess a b||a==b)))
 |.geq=>pure (.bool (!(Op.bytesLess a b)))
 |_=>R.fail
def We(g:Gd):Option Opd→R (Option Int)
 |none=>pure none
 |some x=>do let n←Qz F Γ g x;pure (some n)
def Su(g:Gd)(n:Nat)(lo hi:Option Opd):R (Option Int×Option Int):=do
 let h←We F Γ g hi
 let l←We F Γ g lo
 match l,h with
 |none,none=>pure (l,h)
 |some a,none=>do EH F Γ g (0≤a∧a≤n);pure (l,h)
 |none,some b=>do EH F Γ g (0≤b∧b≤n);pure (l,h)
 |some a,some b=>do EH F Γ g (0≤a∧a≤b∧b≤n);pure (l,h)
def Mb(g:Gd)(cells:List TC):List (Nat×Nat×Opd)→R (List TC)
 |[]=>pure cells
 |(off,n,x)::r=>do
  let v←Kn F Γ g x
  match v with
  |.clo _ _=>R.fail
  |_=>if v.cells.length=n then Mb g (MU cells off v.cells) r else R.fail
def QR(g:Gd):List Opd→R (List TC)
 |[]=>pure []
 |x::r=>do
  let a←FZ F Γ g x
  let l←QR g r
  pure (a::l)
def TC.AY:TC→Bool
 |.sl .brw _ _ _=>false
 |.sl _ tt _ _=>TT.AY tt
 |.ref ..=>false
 |.adr ..=>false
 |.iadr ..=>false
 |.iadrd ..=>false
 |.dead=>false
 |_=>true
where TT.AY:TT→Bool
 |.leaf=>true
 |.node .brw _=>false
 |.node _ e=>TT.AY e
 |.pair a b=>TT.AY a&&TT.AY b
def TU(g:Gd)(agg:Bool)(n:Nat)(p:Place)(k i c:Nat):TC→R TSV
 |.sl .own tt e' l=>if e'.size=k∧c+n≤k then(do
   EH F Γ g (i<l.length)
   pure (mkT agg (Pu (fun j=>⟨p.root,p.path++[⟨i,k,c+j⟩]⟩) 0 (((e'.ex tt (l.getD i e'.dflt)).drop c).take n))))
  else R.fail
 |_=>R.fail
def loadT(g:Gd)(agg:Bool)(n:Nat):TC→R TSV
 |.box b c=>match TS.box F Γ b with
  |some l=>if c+n≤l.length then pure (mkT agg (Pu (fun j=>⟨.obj b (c+j),[]⟩) 0 ((l.drop c).take n)))else R.fail
  |none=>R.fail
 |.boxd b c m i=>match TS.box F Γ b with
  |some l=>match Qo ((l.drop c).take m) i with
   |some d=>if n=1∧agg=false∧c+m≤l.length then(do EH F Γ g (i<m);pure (.one d))else R.fail
   |none=>R.fail
  |none=>R.fail
 |.adr p _ e i c=>do
  let d←atR F Γ p
  TU F Γ g agg n p e.size i c d
 |.iadr tt e l i c=>if c+n≤e.size then(do
   EH F Γ g (i<l.length)
   pure (mkT agg (((e.ex tt (l.getD i e.dflt)).drop c).take n)))
  else R.fail
 |.iadrd tt e l i c m j=>match Qo (((e.ex tt (l.getD i e.dflt)).drop c).take m) j with
  |some d=>if n=1∧agg=false∧c+m≤e.size then(do EH F Γ g (i<l.length∧j<m);pure (.one d))else R.fail
  |none=>R.fail
 |_=>R.fail
def Zm(p:Place)(tt:TT)(e:BT)(lo0 n:Nat):Option Int→Option Int→TSV
 |none,none=>.one (.ref p tt e (some (lo0,n)))
 |some a,none=>.one (.ref p tt e (some (lo0+a.toNat,n -a.toNat)))
 |none,some b=>.one (.ref p tt e (some (lo0,b.toNat)))
 |some a,some b=>.one (.ref p tt e (some (lo0+a.toNat,b.toNat -a.toNat)))
def YF(p:Place)(tt:TT)(e:BT)(n:Nat):Option Int→Option Int→TSV
 |none,none=>.one (.ref p tt e none)
 |some a,none=>.one (.ref p tt e (some (a.toNat,n -a.toNat)))
 |none,some b=>.one (.ref p tt e (some (0,b.toNat)))
 |some a,some b=>.one (.ref p tt e (some (a.toNat,b.toNat -a.toNat)))
def YJ(g:Gd)(k:Nat)(lo hi:Option Opd)(p:Place)(tt:TT)(e:BT):Option (Nat×Nat)→TC→R TSV
 |none,.sl .own _ _ l0=>if e.size=k then(do
   let(l,h)←Su F Γ g l0.length lo hi
   pure (YF p tt e l0.length l h))
  else R.fail
 |some (lo0,n),.sl .own _ _ _=>if e.size=k then(do
   let(l,h)←Su F Γ g n lo hi
   pure (Zm p tt e lo0 n l h))
  else R.fail
 |_,_=>R.fail
def Wz(g:Gd)(k:Nat)(lo hi:Option Opd):TC→R TSV
 |.ref p tt e w=>do
  let d←atR F Γ p
  YJ F Γ g k lo hi p tt e w d
 |.sl τ tt e l=>if τ≠.own∧e.size=k then(do
   let(a,b)←Su F Γ g l.length lo hi
   pure (.one (.sl τ tt e (Mk a b l))))
  else R.fail
 |.nil=>do
  let _←Su F Γ g 0 lo hi
  pure (.one .nil)
 |_=>R.fail
def Yo(g:Gd)(k:Nat)(i:Int)(p:Place)(tt:TT)(e:BT):Option (Nat×Nat)→TC→R TSV
 |none,.sl .own _ _ l=>if e.size=k then(do EH F Γ g (0≤i∧i<l.length);pure (.one (.adr p tt e i.toNat 0)))else R.fail
 |some (lo,n),.sl .own _ _ _=>if e.size=k then(do EH F Γ g (0≤i∧i<n);pure (.one (.adr p tt e (lo+i.toNat) 0)))else R.fail
 |_,_=>R.fail
def Xu(g:Gd)(k:Nat)(i:Int):TC→R TSV
 |.ref p tt e w=>do
  let d←atR F Γ p
  Yo F Γ g k i p tt e w d
 |.sl τ tt e l=>if τ≠.own∧e.size=k then(do EH F Γ g (0≤i∧i<l.length);pure (.one (.iadr tt e l i.toNat 0)))else R.fail
 |_=>R.fail
def X5(n k:Nat)(i:Int):TC→R TSV
 |.box b c=>if k=1 then pure (.one (.boxd b c n i.toNat))else R.fail
 |.iadr tt e l j c=>if k=1 then pure (.one (.iadrd tt e l j c n i.toNat))else R.fail
 |_=>R.fail
def UH:TC→R TC
 |.ref p _ _ none=>do
  let d←atR F Γ p
  match d with
  |.sl .own _ _ l=>pure (.int .i64 l.length)
  |_=>R.fail
 |.ref _ _ _ (some (_,n))=>pure (.int .i64 n)
 |.sl _ _ _ l=>pure (.int .i64 l.length)
 |.nil=>pure (.int .i64 0)
 |_=>R.fail
def Yh(g:Gd)(op:BinOp):TC→TC→R TC
 |.int k a,.int k' b=>VC F Γ g op k k' a b
 |.str a,.str b=>VD F Γ g op a b
 |_,_=>R.fail
def unT:UnOp→TC→R TC
 |.neg,.int k n=>pure (.int k (k.wrap (0 -n)))
 |.xor,.int k n=>pure (.int k (k.wrap (BitVec.ofInt k.bits (if k.signed then-1 else k.max)^^^BitVec.ofInt k.bits n).toNat))
 |.not,.bool b=>pure (.bool !b)
 |_,_=>R.fail
def Y2(n:Int):List UInt8:=(Utf8.encode n).data.toList
def VE(w:Option (Nat×Nat)):TC→R TC
 |.sl .own _ (.int .u8) l=>(match w with
  |none=>pure (.str (strOf l))
  |some (lo,n)=>(do
   R.need (lo+n≤l.length)
   pure (.str (strOf ((l.drop lo).take n)))))
 |_=>R.fail
def X2:Cv→TC→R TC
 |.toInt k,.int _ n=>pure (.int k (k.wrap n))
 |.ident,.str s=>pure (.str s)
 |.ofInt,.int _ n=>pure (.str (Y2 n))
 |.bytesToStr,.ref p _ (.int .u8) w=>do
  let d←atR F Γ p
  VE w d
 |.bytesToStr,.sl _ _ (.int .u8) l=>pure (.str (strOf l))
 |.bytesToStr,.nil=>pure (.str [])
 |_,_=>R.fail
def X8:TSV→R TSV
 |.one (.box b c)=>pure (.one (.box b c))
 |.one (.boxd b c n i)=>pure (.one (.boxd b c n i))
 |.one (.adr p tt e i c)=>pure (.one (.adr p tt e i c))
 |.one (.iadr tt e l i c)=>pure (.one (.iadr tt e l i c))
 |.clo f l=>pure (.clo f l)
 |_=>R.fail
def VR(off:Nat):TC→R TSV
 |.box b c=>pure (.one (.box b (c+off)))
 |.adr p tt e i c=>pure (.one (.adr p tt e i (c+off)))
 |.iadr tt e l i c=>pure (.one (.iadr tt e l i (c+off)))
 |_=>R.fail
def mmT(mx:Bool):TC→TC→R TC
 |.int k a,.int _ b=>pure (.int k (bif mx then(if b>a then b else a)else(if b<a then b else a)))
 |_,_=>R.fail
def Zp(g:Gd)(lo hi:Option Opd):TC→R TSV
 |.str s=>do
  let(l,h)←Su F Γ g s.length lo hi
  pure (.one (.str (Mk l h s)))
 |_=>R.fail
def Y5(g:Gd)(i:Int):TC→R TSV
 |.str s=>do
  EH F Γ g (0≤i∧i<s.length)
  pure (.one (.int .u8 (s.getD i.toNat 0).toNat))
 |_=>R.fail
def X7:TC→R TSV
 |.str s=>pure (.one (.int .i64 s.length))
 |_=>R.fail
def Fu(g:Gd):AOp→R TSV
 |.mv x=>Kn F Γ g x
 |.pick c a b=>match c with
  |.t n=>do
   let cb←Qy F Γ g (.t n)
   let av←Qy F Γ ((n,true)::g) a
   let bv←Qy F Γ ((n,false)::g) b
   pure (.one (.bool (bif cb then av else bv)))
  |_=>R.fail
 |.build zero parts=>do
  let l←Mb F Γ g (zero.map G6) parts
  pure (.agg l)
 |.load agg n x=>do
  let c←FZ F Γ g x
  loadT F Γ g agg n c
 |.nilc x=>do
  let v←Kn F Γ g x
  X8 v
 |.bin op x y=>do
  let a←FZ F Γ g x
  let b←FZ F Γ g y
  let c←Yh F Γ g op a b
  pure (.one c)
 |.eqB ne x y=>do
  let a←Qy F Γ g x
  let b←Qy F Γ g y
  pure (.one (.bool (bif ne then !(a==b)else(a==b))))
 |.eqA ne ks x y=>do
  let l←Ve F Γ g x
  let m←Ve F Γ g y
  let b←R.Cz (Xq ks l m)
  pure (.one (.bool (bif ne then !b else b)))
 |.un op x=>do
  let a←FZ F Γ g x
  let c←unT op a
  pure (.one c)
 |.conv c x=>do
  let a←FZ F Γ g x
  let c←X2 F Γ c a
  pure (.one c)
 |.slS x lo hi=>do
  let c←FZ F Γ g x
  Zp F Γ g lo hi c
 |.slK k x lo hi=>do
  let c←FZ F Γ g x
  Wz F Γ g k lo hi c
 |.fAddr off x=>do
  let c←FZ F Γ g x
  VR off c
 |.fld agg off n x=>do
  let l←Ve F Γ g x
  if off+n≤l.length then pure (mkT agg ((l.drop off).take n))else R.fail
 |.ixA k x i=>do
  let i←Qz F Γ g i
  let c←FZ F Γ g x
  Xu F Γ g k i c
 |.ixAr n k x i=>do
  let i←Qz F Γ g i
  EH F Γ g (0≤i∧i<n)
  let c←FZ F Γ g x
  X5 n k i c
 |.ixS x i=>do
  let i←Qz F Γ g i
  let c←FZ F Γ g x
  Y5 F Γ g i c
 |.ixV agg n k x i=>do
  let i←Qz F Γ g i
  let l←Ve F Γ g x
  let d←R.Cz (Qo (l.take n) i.toNat)
  if k=1∧agg=false∧n≤l.length then(do EH F Γ g (0≤i∧i<n);pure (.one d))else R.fail
 |.lenK x=>do
  let c←FZ F Γ g x
  let d←UH F Γ c
  pure (.one d)
 |.lenS x=>do
  let c←FZ F Γ g x
  X7 c
 |.lenC n=>pure (.one (.int .i64 n))
 |.mm mx x y=>do
  let a←FZ F Γ g x
  let b←FZ F Γ g y
  let c←mmT mx a b
  pure (.one c)
 |.mkf f caps=>do
  let l←QR F Γ g caps
  if l.all TC.AY then pure (.clo f l)else R.fail
 |.mkI t x=>do
  let a←FZ F Γ g x
  match a with
  |.int k n=>pure (.one (.lit (.iface t (.int k n))))
  |_=>R.fail
 |_=>R.fail
end
end Go.VS
namespace Go.VS
theorem M.Ab{α:Type}{a:α}{K:α→Prop}(h:K a):(Pure.pure a:M α).holds K:=by rw[M.Ad];exact h
section
variable{μ:Nat→Nat}{ver:Root→Nat}{ln:Place→Option Nat}{F Γ:TS}{st:St}
theorem V1:∀gd:Gd,gv F Γ gd=true↔∀p∈gd,EZ F Γ p.1=some p.2
 |[]=>by simp[gv]
 |(t,w)::r=>by
  simp only[gv,Bool.and_eq_true,V1 r,List.forall_mem_cons]
  refine and_congr ?_ Iff.rfl
  cases EZ F Γ t<;>simp
theorem Pf{gd g:Gd}(h:gsub gd g=true)(hg:gv F Γ g=true):gv F Γ gd=true:=by
 rw[V1]at hg⊢
 intro p hp
 have h1:=List.all_eq_true.1 h p hp
 obtain⟨q,hq,h2⟩:=List.any_eq_true.1 h1
 simp only[Bool.and_eq_true]at h2
 have:=hg q hq
 rw[Nat.eq_of_beq_eq_true h2.1,this]
 obtain⟨_,h3⟩:=h2
 cases hp2:p.2<;>cases hq2:q.2<;>simp_all
theorem Ja:∀{g:Gd} {p:Prop},gimp F Γ g p→gv F Γ g=true→p
 |[],p,h,_=>h
 |(t,w)::r,p,h,hg=>by
  simp only[gimp]at h
  simp only[gv,Bool.and_eq_true]at hg
  cases hs:EZ F Γ t with
  |none=>rw[hs]at hg;simp at hg
  |some b=>
   rw[hs]at h hg
   simp only[beq_iff_eq]at hg
   exact Ja (h hg.1) hg.2
theorem Bg{g:Gd}{p:Prop}{u:Unit}(h:(EH F Γ g p).ok u)(hg:gv F Γ g=true):p:=Ja (R.Fj.1 h) hg
theorem Hm(v:Value):(G6 v).av μ ver ln (.lit v):=by
 unfold G6
 split
 ·rfl
 ·rfl
 ·rename_i s;simp[TC.av]
 ·rfl
 ·rfl
theorem TA:∀(p:List Stp) {c d:TC},(atC c p).ok d→c.atS p=some d
 |[],c,d,h=>by
  have h:(Pure.pure c:R TC).ok d:=by cases c<;>first|exact h|(rename_i τ _ _ _;cases τ<;>exact h)
  rw[R.Ai]at h
  subst h
  cases c<;>first|rfl|(rename_i τ _ _ _;cases τ<;>rfl)
 |s::r,c,d,h=>by
  cases c with
  |sl τ tt e l=>
   cases τ with
   |own=>
    simp only[atC]at h
    split at h
    case isFalse=>exact(R.Af.1 h).elim
    rename_i hk
    rw[R.Ah]at h
    obtain⟨_,h1,h⟩:=h
    have hi:=R.Fj.1 h1
    split at h
    case h_2=>exact(R.Af.1 h).elim
    rename_i c' hc
    have:=TA r h
    simp only[TC.atS,if_pos hk]
    rw[List.getElem?_eq_getElem hi]
    have e1:l.getD s.i e.dflt=l[s.i]:=by simp[List.getD_eq_getElem?_getD,List.getElem?_eq_getElem hi]
    rw[e1]at hc
    simp[hc,this]
   |_=>exact(R.Af.1 h).elim
  |_=>exact(R.Af.1 h).elim
theorem Vr:∀(p:List Stp) {c d:TC} {a:AV},c.atS p=some d→c.av μ ver ln a→∃b,a.at p=some b∧d.av μ ver ln b
 |[],c,d,a,h,ha=>by
  have h:c=d:=by cases c<;>first|exact Option.some.inj h|(rename_i τ _ _ _;cases τ<;>exact Option.some.inj h)
  subst h
  exact⟨a,by cases a<;>rfl,ha⟩
 |s::r,c,d,a,h,ha=>by
  cases c with
  |sl τ tt e l=>
   cases τ with
   |own=>
    simp only[TC.atS]at h
    split at h
    case isFalse=>cases h
    rename_i hk
    rw[Option.bind_eq_some_iff]at h
    obtain⟨c',hx,h⟩:=h
    rw[Option.bind_eq_some_iff]at hx
    obtain⟨x,hx,hc⟩:=hx
    obtain⟨a',ha',hav⟩:=FM (Dz (μ:=μ) (ver:=ver) (ln:=ln) e tt x) hc
    obtain⟨b,hb,hbv⟩:=Vr r h hav
    refine⟨b,?_,hbv⟩
    have ha:a=.sl .own e.size (l.map (e.enc tt)):=ha
    subst ha
    simp only[AV.at,if_pos hk,List.getElem?_map,hx,Option.map_some,Option.bind_some,ha',hb]
   |_=>simp[TC.atS]at h
  |_=>simp[TC.atS]at h
theorem Ng:∀(p q:List Stp) (c:TC),c.atS (p++q)=(c.atS p).bind (·.atS q)
 |[],q,c=>by cases c<;>first|rfl|(rename_i τ _ _ _;cases τ<;>rfl)
 |s::r,q,c=>by
  cases c with
  |sl τ tt e l=>
   cases τ with
   |own=>
    simp only[List.cons_append,TC.atS]
    split
    ·cases hx:l[s.i]?with
     |none=>simp
     |some x=>
      simp only[Option.bind_some]
      cases hc:(e.ex tt x)[s.c]?with
      |none=>simp
      |some c'=>simp[Ng r q c']
    ·rfl
   |_=>rfl
  |_=>rfl
variable(h:Sim μ F Γ st)
include h
theorem Od{r:Root}{c:TC}(hr:BP F Γ r=some c):∃a,st.root (r.mu μ)=some a∧c.av μ st.ver (lnT F Γ) a:=by
 cases r with
 |slot t j=>
  simp only[BP]at hr
  split at hr
  case h_2=>cases hr
  rename_i v hv
  obtain⟨s,hs,hsv⟩:=h.sl t _ hv
  simp only[gv]at hs
  cases v with
  |one c0=>
   obtain⟨a,rfl,ha⟩:=hsv
   simp only[TSV.cells]at hr
   cases j with
   |zero=>simp at hr;subst hr;exact⟨a,by simp[Root.mu,St.root,hs,TV.cell,SV.cells],ha⟩
   |succ j=>simp at hr
  |agg l=>
   obtain⟨k,rfl,ha⟩:=hsv
   obtain⟨a,h1,h2⟩:=FM ha hr
   exact⟨a,by simp[Root.mu,St.root,hs,TV.cell,SV.cells,h1],h2⟩
  |clo f l=>simp[TSV.cells]at hr
 |obj b c0=>
  simp only[BP]at hr
  rw[Option.bind_eq_some_iff]at hr
  obtain⟨l,hl,hc⟩:=hr
  obtain⟨k,q1,q2,_⟩:=h.bx b l hl
  obtain⟨a,h1,h2⟩:=FM q2 hc
  exact⟨a,by simp[Root.mu,St.root,q1,h1],h2⟩
theorem Yg{p:Place}{d:TC}(hp:atT F Γ p=some d):∃a,st.at (p.mu μ)=some a∧d.av μ st.ver (lnT F Γ) a:=by
 unfold atT at hp
 rw[Option.bind_eq_some_iff]at hp
 obtain⟨c,hc,hp⟩:=hp
 obtain⟨a,ha,hav⟩:=Od h hc
 obtain⟨b,hb,hbv⟩:=Vr p.path hp hav
 exact⟨b,by simp only[St.at,Place.mu,ha,Option.bind_some,hb],hbv⟩
omit h in
theorem PW{p:Place}{d:TC}(hp:(atR F Γ p).ok d):atT F Γ p=some d:=by
 unfold atR at hp
 unfold atT
 split at hp
 ·rename_i c hc;rw[hc,Option.bind_some];exact TA p.path hp
 ·exact(R.Af.1 hp).elim
theorem G2{p:Place}{tt:TT}{e:BT}{l:List e.D}(hp:(atR F Γ p).ok (.sl .own tt e l)):st.at (p.mu μ)=some (.sl .own e.size (l.map (e.enc tt)))∧lnT F Γ p=some l.length:=by
 have h1:=PW hp
 obtain⟨a,h2,h3⟩:=Yg h h1
 have h3:a=_:=h3
 subst h3
 exact⟨h2,by simp[lnT,h1,TC.len?]⟩
omit h in
theorem N2{p:Place}{c:TC}{a:AV}(ha:c.av μ ver ln a)(hl:∀τ tt e l,c=.sl τ tt e l→∀n,ln p=some n→n=l.length):
  (Pt p c).av μ ver ln (seen (fun k n=>.ref (p.mu μ) (ver (p.mu μ).root) k 0 n) a):=by
 cases c with
 |sl τ tt e l=>
  have ha:a=_:=ha
  subst ha
  cases τ with
  |own=>
   exact⟨_,rfl,fun n hn=>by rw[hl _ _ _ _ rfl n hn];simp⟩
  |imm=>exact rfl
  |brw=>exact rfl
 |dead=>exact trivial
 |ref p' tt e w=>
  cases w with
  |none=>
   obtain⟨m,rfl,hm⟩:=ha
   exact⟨m,rfl,hm⟩
  |some x=>obtain⟨lo,n⟩:=x;simp only[TC.av]at ha;subst ha;exact rfl
 |_=>first|(have ha:a=_:=ha;subst ha;exact rfl)|(simp only[TC.av]at ha;subst ha;exact rfl)
omit h in
theorem RD{mk:Nat→Place}{mkA:Nat→Nat→Nat→AV}(hmk:∀j k n,mkA j k n=.ref ((mk j).mu μ) (ver ((mk j).mu μ).root) k 0 n):
  ∀{cs:List TC} {as:List AV} (j:Nat),avs μ ver ln cs as→(∀i τ tt e l,cs[i]?=some (.sl τ tt e l)→∀n,ln (mk (j+i))=some n→n=l.length)→avs μ ver ln (Pu mk j cs) (Ec mkA j as)
 |[],[],j,_,_=>trivial
 |c::cs,a::as,j,ha,hl=>by
  refine⟨?_,RD hmk (j+1) ha.2 (fun i τ tt e l hi n hn=>hl (i+1) τ tt e l (by simpa using hi) n (by rw[show j+(i+1)=j+1+i by omega];exact hn))⟩
  have:=N2 (p:=mk j) ha.1 (fun τ tt e l hc n hn=>hl 0 τ tt e l (by simp[hc]) n (by simpa using hn))
  have e:seen (fun k n=>.ref ((mk j).mu μ) (ver ((mk j).mu μ).root) k 0 n) a=(match(generalizing:=false) a with|.sl .own k xs=>mkA j k xs.length|a=>a):=by
   cases a with
   |sl τ k xs=>cases τ<;>simp only[seen,hmk]
   |_=>rfl
  rw[e]at this
  exact this
 |[],_::_,_,ha,_=>ha.elim
 |_::_,[],_,ha,_=>ha.elim
omit h in
theorem N3{mk:Nat→Place}{mkA:Nat→Nat→Nat→AV}(hmk:∀j k n,mkA j k n=.ref ((mk j).mu μ) (ver ((mk j).mu μ).root) k 0 n):
  ∀{cs:List TC} {as:List AV} (j:Nat),avs μ ver ln cs as→cs.all TC.AP=true→(∀i τ tt e l,cs[i]?=some (.sl τ tt e l)→∀n,ln (mk (j+i))=some n→n=l.length)→avs μ ver ln (Pu mk j cs) (Ei mkA j as)
 |[],[],j,_,_,_=>trivial
 |c::cs,a::as,j,ha,hs,hl=>by
  simp only[List.all_cons,Bool.and_eq_true]at hs
  refine⟨?_,N3 hmk (j+1) ha.2 hs.2 (fun i τ tt e l hi n hn=>hl (i+1) τ tt e l (by simpa using hi) n (by rw[show j+(i+1)=j+1+i by omega];exact hn))⟩
  have:=N2 (p:=mk j) ha.1 (fun τ tt e l hc n hn=>hl 0 τ tt e l (by simp[hc]) n (by simpa using hn))
  have e:(∃p v k lo n,a=.ref p v k lo n)∨(∃p v k i n,a=.adr p v k i n)∨seen (fun k n=>.ref ((mk j).mu μ) (ver ((mk j).mu μ).root) k 0 n) a=(match(generalizing:=false) a with|.sl .own k xs=>mkA j k xs.length|a=>NY a):=by
   cases a with
   |sl τ k xs=>cases τ<;>simp only[seen,hmk,NY]<;>simp
   |ref p v k lo n=>exact .inl ⟨_,_,_,_,_,rfl⟩
   |adr p v k i n=>exact .inr (.inl ⟨_,_,_,_,_,rfl⟩)
   |_=>exact .inr (.inr rfl)
  rcases e with⟨p,v,k,lo,n,rfl⟩|⟨p,v,k,i,n,rfl⟩|e
  ·cases c with
   |ref=>simp[TC.AP]at hs
   |dead=>exact trivial
   |adr=>simp[TC.AP]at hs
   |_=>exfalso;have h0:=ha.1;simp[TC.av]at h0
  ·cases c with
   |adr=>simp[TC.AP]at hs
   |dead=>exact trivial
   |ref=>simp[TC.AP]at hs
   |_=>exfalso;have h0:=ha.1;simp[TC.av]at h0
  ·rw[e]at this
   exact this
 |[],_::_,_,ha,_,_=>ha.elim
 |_::_,[],_,ha,_,_=>ha.elim
omit h in
theorem Gj:∀(t:BT) (tt:TT) (x:t.D),(t.ex tt x).all TC.AP=true
 |.int _,_,_=>rfl
 |.bool,_,_=>rfl
 |.str,_,_=>rfl
 |.unit,_,_=>rfl
 |.sl _,_,_=>rfl
 |.pair a b,tt,x=>by simp only[BT.ex,List.all_append,Gj a,Gj b,Bool.and_self]
theorem El{g:Gd}{b:Bool}(hg:b=true→gv F Γ g=true){x:Opd}{v:TSV}(hx:(Kn F Γ g x).ok v):(st.use b x).holds fun s=>v.sv μ st.ver (lnT F Γ) s:=by
 cases x with
 |c u=>
  simp only[Kn]at hx
  rw[R.Ai]at hx
  subst hx
  simp only[St.use]
  exact M.Ab ⟨_,rfl,Hm u⟩
 |f nm=>
  simp only[Kn]at hx
  rw[R.Ai]at hx
  subst hx
  simp only[St.use]
  exact M.Ab ⟨[],rfl,trivial⟩
 |t n=>
  simp only[Kn]at hx
  split at hx
  case h_2=>exact(R.Af.1 hx).elim
  rename_i gd v0 hs
  cases hsub:gsub gd g with
  |false=>rw[hsub]at hx;exact(R.Af.1 hx).elim
  |true=>
   rw[hsub]at hx
   have hx:=R.Ai.1 hx
   subst hx
   obtain⟨s,heq,hv⟩:=h.sl n _ hs
   simp only[St.use,heq,M.Aa,M.Aj]
   refine⟨fun hb=>Pf hsub (hg hb),M.Ab ?_⟩
   have hroot:∀(j:Nat) (τ tt e l),v0.cells[j]?=some (.sl τ tt e l)→∀m,lnT F Γ ⟨.slot n j,[]⟩=some m→m=l.length:=by
    intro j τ tt e l hj m hm
    simp only[lnT,atT,BP,hs]at hm
    cases gd with
    |nil=>
     simp only[hj,Option.bind_some]at hm
     have e1:(TC.sl τ tt e l).atS []=some (TC.sl τ tt e l):=by cases τ<;>rfl
     rw[e1]at hm
     simpa[TC.len?]using hm.symm
    |cons q gd=>simp at hm
   clear hsub
   cases v0 with
   |one c=>
    obtain⟨a,rfl,ha⟩:=hv
    refine⟨_,rfl,?_⟩
    have:=N2 (p:=⟨.slot n 0,[]⟩) ha (fun τ tt e l hc m hm=>hroot 0 τ tt e l (by simp[TSV.cells,hc]) m hm)
    have e:seen (fun k m=>.ref ((⟨.slot n 0,[]⟩:Place).mu μ) (st.ver ((⟨.slot n 0,[]⟩:Place).mu μ).root) k 0 m) a=(match(generalizing:=false) a with|.sl .own k xs=>(.ref ⟨.slot n 0,[]⟩ (st.vs n) k 0 xs.length)|a=>a):=by
     cases a with
     |sl τ k xs=>cases τ<;>rfl
     |_=>rfl
    rw[e]at this
    exact this
   |agg l=>
    obtain⟨k,rfl,ha⟩:=hv
    exact⟨_,rfl,RD (mk:=fun j=>⟨.slot n j,[]⟩) (fun j k n'=>rfl) 0 ha (fun i τ tt e l' hi m hm=>hroot i τ tt e l' hi m (by simpa using hm))⟩
   |clo f l=>obtain⟨k,rfl,ha⟩:=hv;exact⟨k,rfl,ha⟩
theorem Cb{g:Gd}{b:Bool}(hg:b=true→gv F Γ g=true){x:Opd}{c:TC}(hx:(FZ F Γ g x).ok c):(st.BX b x).holds fun a=>c.av μ st.ver (lnT F Γ) a:=by
 unfold FZ at hx
 rw[R.Ah]at hx
 obtain⟨v,h1,h2⟩:=hx
 split at h2
 case h_2=>exact(R.Af.1 h2).elim
 rename_i c'
 obtain rfl:=R.Ai.1 h2
 unfold St.BX
 rw[M.Aa]
 refine M.Ag (El h hg h1) fun s hs=>?_
 obtain⟨a,rfl,ha⟩:=hs
 exact M.Ab ha
theorem GF{g:Gd}{b:Bool}(hg:b=true→gv F Γ g=true){x:Opd}{n:Int}(hx:(Qz F Γ g x).ok n):(st.EX b x).holds (·=n):=by
 unfold Qz at hx
 rw[R.Ah]at hx
 obtain⟨v,h1,h2⟩:=hx
 split at h2
 case h_2=>exact(R.Af.1 h2).elim
 rename_i k c'
 obtain rfl:=R.Ai.1 h2
 unfold St.EX
 rw[M.Aa]
 refine M.Ag (El h hg h1) fun s hs=>?_
 obtain⟨a,rfl,ha⟩:=hs
 have ha:a=_:=ha
 subst ha
 exact M.Ab rfl
theorem Hz{g:Gd}{b:Bool}(hg:b=true→gv F Γ g=true){x:Opd}{n:Bool}(hx:(Qy F Γ g x).ok n):(st.Fm b x).holds (·=n):=by
 unfold Qy at hx
 rw[R.Ah]at hx
 obtain⟨v,h1,h2⟩:=hx
 split at h2
 case h_2=>exact(R.Af.1 h2).elim
 rename_i c'
 obtain rfl:=R.Ai.1 h2
 unfold St.Fm
 rw[M.Aa]
 refine M.Ag (El h hg h1) fun s hs=>?_
 obtain⟨a,rfl,ha⟩:=hs
 have ha:a=_:=ha
 subst ha
 exact M.Ab rfl
theorem LB{g:Gd}{b:Bool}(hg:b=true→gv F Γ g=true){x:Opd}{l:List TC}(hx:(Ve F Γ g x).ok l):(st.use b x).holds fun s=>∃m,s=.agg m∧avs μ st.ver (lnT F Γ) l m:=by
 unfold Ve at hx
 rw[R.Ah]at hx
 obtain⟨v,h1,h2⟩:=hx
 split at h2
 case h_2=>exact(R.Af.1 h2).elim
 rename_i c'
 obtain rfl:=R.Ai.1 h2
 exact El h hg h1
end
end Go.VS
namespace Go.VS
section
variable{μ:Nat→Nat}{ver:Root→Nat}{ln:Place→Option Nat}{F Γ:TS}{st:St}
theorem FN{cs:List TC}{as:List AV}(h:avs μ ver ln cs as)(c n:Nat):avs μ ver ln ((cs.drop c).take n) ((as.drop c).take n):=Gb (Ga h c) n
theorem TY{cs:List TC}{as:List AV}(agg:Bool)(h:avs μ ver ln cs as):(mkT agg cs).sv μ ver ln (OO agg as):=by
 cases agg with
 |true=>exact⟨as,rfl,h⟩
 |false=>
  refine⟨as.headD .dead,rfl,?_⟩
  match cs,as,h with
  |[],[],_=>exact trivial
  |c::cs,a::as,h=>exact h.1
theorem LS:∀{cs:List TC} {as:List AV},cs.all TC.AP=true→avs μ ver ln cs as→avs μ ver ln cs (as.map NY)
 |[],[],_,_=>trivial
 |c::cs,a::as,hs,h=>by
  simp only[List.all_cons,Bool.and_eq_true]at hs
  refine⟨?_,LS hs.2 h.2⟩
  have h1:=h.1
  cases a with
  |ref=>cases c<;>first|exact trivial|(exfalso;simp[TC.av]at h1;done)|(exfalso;have h2:=hs.1;simp[TC.AP]at h2)
  |adr=>cases c<;>first|exact trivial|(exfalso;simp[TC.av]at h1;done)|(exfalso;have h2:=hs.1;simp[TC.AP]at h2)
  |_=>exact h1
 |[],_::_,_,h=>h.elim
 |_::_,[],_,h=>h.elim
theorem Ea{l:List TC}(h:l.all TC.AP=true)(c n:Nat):((l.drop c).take n).all TC.AP=true:=by
 rw[List.all_eq_true]at h⊢
 intro x hx
 exact h x (List.mem_of_mem_drop (List.mem_of_mem_take hx))
theorem PC:∀{l:List TC} {k:IntKind} {ns:List Int},Wy l=some (k,ns)→∀i,i<l.length→l[i]?=some (.int k (ns.getD i 0))
 |[],k,ns,h,i,hi=>by cases h
 |[c],k,ns,h,i,hi=>by
  cases c with
  |int k' n=>
   simp only[Wy,Option.some.injEq,Prod.mk.injEq]at h
   obtain⟨rfl,rfl⟩:=h
   obtain rfl:i=0:=by simpa using hi
   rfl
  |_=>cases h
 |c::d::l,k,ns,h,i,hi=>by
  cases c with
  |int k' n=>
   simp only[Wy]at h
   split at h
   case h_2=>cases h
   rename_i k2 ns2 h2
   split at h
   case isFalse=>cases h
   rename_i hk
   subst hk
   simp only[Option.some.injEq,Prod.mk.injEq]at h
   obtain⟨rfl,rfl⟩:=h
   cases i with
   |zero=>rfl
   |succ i=>simpa using PC h2 i (by simpa using hi)
  |_=>cases h
theorem PD:∀{l:List TC} {ns:List (List UInt8)},XM l=some ns→∀i,i<l.length→l[i]?=some (.str (ns.getD i []))
 |[],ns,h,i,hi=>by simp at hi
 |c::l,ns,h,i,hi=>by
  cases c with
  |str s=>
   simp only[XM]at h
   split at h
   case h_2=>cases h
   rename_i ns2 h2
   simp only[Option.some.injEq]at h
   subst h
   cases i with
   |zero=>rfl
   |succ i=>simpa using PD h2 i (by simpa using hi)
  |_=>cases h
theorem Me{l:List TC}{i:Nat}{d:TC}(h:Qo l i=some d)(hi:i<l.length):l[i]?=some d:=by
 unfold Qo at h
 split at h
 ·rename_i k ns hs
  cases h
  exact PC hs i hi
 ·split at h
  ·rename_i ns hs
   cases h
   exact PD hs i hi
  ·cases h
theorem IM:∀{vs:List TC} {as:List AV} {cs:List TC} {l:List AV} (c:Nat),avs μ ver ln cs l→avs μ ver ln vs as→avs μ ver ln (MU cs c vs) (setCells l c as)
 |[],[],cs,l,c,h,_=>h
 |v::vs,a::as,cs,l,c,h,hv=>IM (c+1) (MW h c hv.1) hv.2
 |[],_::_,_,_,_,_,h=>h.elim
 |_::_,[],_,_,_,_,h=>h.elim
theorem VQ{k:CK}{c d:TC}{r:Bool}(h:eqC k c d=some r){a b:AV}(ha:c.av μ ver ln a)(hb:d.av μ ver ln b):JS k a b=some r:=by
 unfold eqC at h
 split at h
 ·have ha:a=_:=ha
  have hb:b=_:=hb
  subst ha;subst hb
  exact h
 ·have ha:a=_:=ha
  have hb:b=_:=hb
  subst ha;subst hb
  simp only[JS]
  simpa using h
 ·have ha:a=_:=ha
  have hb:b=_:=hb
  subst ha;subst hb
  exact h
 ·cases h
theorem O2:∀{ks:List CK} {l m:List TC} {r:Bool},Xq ks l m=some r→∀{a b:List AV},avs μ ver ln l a→avs μ ver ln m b→BF ks a b=some r
 |[],[],[],r,h,[],[],_,_=>h
 |k::ks,c::l,d::m,r,h,a::as,b::bs,ha,hb=>by
  simp only[Xq]at h
  split at h
  case h_2=>cases h
  rename_i x y h1 h2
  simp only[BF,VQ h1 ha.1 hb.1,O2 h2 ha.2 hb.2]
  exact h
 |[],[],[],_,_,[],_::_,_,h=>h.elim
 |[],[],[],_,_,_::_,_,h,_=>h.elim
 |[],_::_,_,_,h,_,_,_,_=>by cases h
 |[],[],_::_,_,h,_,_,_,_=>by cases h
 |_::_,[],_,_,h,_,_,_,_=>by cases h
 |_::_,_::_,[],_,h,_,_,_,_=>by cases h
 |_::_,_::_,_::_,_,_,[],_,h,_=>h.elim
 |_::_,_::_,_::_,_,_,_::_,[],_,h=>h.elim
theorem Ur{g:Gd}(hg:gv F Γ g=true){op:BinOp}{k k':IntKind}{x y:Int}{c:TC}(h:(VC F Γ g op k k' x y).ok c):
  ∃p v,QO op (.int k x) (.int k' y) true=some (p,v)∧p∧c.av μ ver ln (.lit v):=by
 unfold VC at h
 cases op<;>simp only[QO]at h⊢
 case shl=>rw[R.Ah]at h;obtain⟨_,h1,h⟩:=h;obtain rfl:=R.Ai.1 h;exact⟨_,_,rfl,fun _=>Bg h1 hg,rfl⟩
 case shr=>rw[R.Ah]at h;obtain⟨_,h1,h⟩:=h;obtain rfl:=R.Ai.1 h;exact⟨_,_,rfl,fun _=>Bg h1 hg,rfl⟩
 case quo=>
  split at h
  case isFalse=>exact(R.Af.1 h).elim
  rename_i hk
  rw[R.Ah]at h;obtain⟨_,h1,h⟩:=h;obtain rfl:=R.Ai.1 h
  exact⟨_,_,if_pos hk,fun _=>Bg h1 hg,rfl⟩
 case rem=>
  split at h
  case isFalse=>exact(R.Af.1 h).elim
  rename_i hk
  rw[R.Ah]at h;obtain⟨_,h1,h⟩:=h;obtain rfl:=R.Ai.1 h
  exact⟨_,_,if_pos hk,fun _=>Bg h1 hg,rfl⟩
 all_goals
  split at h
  case isFalse=>exact(R.Af.1 h).elim
  rename_i hk
  obtain rfl:=R.Ai.1 h
  exact⟨_,_,if_pos hk,trivial,rfl⟩
theorem Us{g:Gd}(hg:gv F Γ g=true){op:BinOp}{x y:List UInt8}{c:TC}(h:(VD F Γ g op x y).ok c):
  ∃p v,QO op (.string ⟨x.toArray⟩) (.string ⟨y.toArray⟩) true=some (p,v)∧p∧c.av μ ver ln (.lit v):=by
 unfold VD at h
 cases op<;>simp only[QO]at h⊢
 case add=>
  rw[R.Ah]at h;obtain⟨_,h1,h⟩:=h;obtain rfl:=R.Ai.1 h
  refine⟨_,_,rfl,fun _=>?_,?_⟩
  ·have:=Bg h1 hg
   simpa[ByteArray.size]using this
  ·simp[TC.av]
 all_goals first
  |(exact(R.Af.1 h).elim;done)
  |(obtain rfl:=R.Ai.1 h;exact⟨_,_,rfl,trivial,by simp[TC.av]⟩)
theorem Ut{g:Gd}(hg:gv F Γ g=true){op:BinOp}{x y c:TC}(h:(Yh F Γ g op x y).ok c){a b:AV}(ha:x.av μ ver ln a)(hb:y.av μ ver ln b):
  ∃u w p v,a=.lit u∧b=.lit w∧QO op u w true=some (p,v)∧p∧c.av μ ver ln (.lit v):=by
 unfold Yh at h
 split at h
 ·obtain⟨p,v,h1,h2,h3⟩:=Ur (μ:=μ) (ver:=ver) (ln:=ln) hg h
  exact⟨_,_,p,v,ha,hb,h1,h2,h3⟩
 ·obtain⟨p,v,h1,h2,h3⟩:=Us (μ:=μ) (ver:=ver) (ln:=ln) hg h
  exact⟨_,_,p,v,ha,hb,h1,h2,h3⟩
 ·exact(R.Af.1 h).elim
def loN:Option Int→Nat
 |none=>0
 |some a=>a.toNat
def hiN(n:Nat):Option Int→Nat
 |none=>n
 |some b=>b.toNat
variable(h:Sim μ F Γ st)
include h
theorem Rz{g:Gd}(hg:gv F Γ g=true){x:Option Opd}{r:Option Int}(hx:(We F Γ g x).ok r):(x=none∧r=none)∨∃y n,x=some y∧r=some n∧(st.EX true y).holds (·=n):=by
 cases x with
 |none=>simp only[We]at hx;exact .inl ⟨rfl,(R.Ai.1 hx).symm⟩
 |some y=>
  simp only[We]at hx
  rw[R.Ah]at hx
  obtain⟨n,h1,h2⟩:=hx
  exact .inr ⟨y,n,rfl,(R.Ai.1 h2).symm,GF h (fun _=>hg) h1⟩
theorem Kz{g:Gd}(hg:gv F Γ g=true){n:Nat}{lo hi:Option Opd}{l r:Option Int}(hx:(Su F Γ g n lo hi).ok (l,r)):
  (Ft st true n lo hi).holds (·=(loN l,hiN n r))∧loN l≤hiN n r∧hiN n r≤n:=by
 unfold Su at hx
 rw[R.Ah]at hx
 obtain⟨r',h1,hx⟩:=hx
 rw[R.Ah]at hx
 obtain⟨l',h2,hx⟩:=hx
 have key:l'=l∧r'=r∧(∀b,r=some b→0≤b∧b≤n)∧(∀a,l=some a→0≤a∧a≤hiN n r):=by
  split at hx
  ·have:=R.Ai.1 hx;cases this;exact⟨rfl,rfl,by simp,by simp⟩
  ·rw[R.Ah]at hx
   obtain⟨_,h3,hx⟩:=hx
   have:=R.Ai.1 hx
   cases this
   have h4:=Bg h3 hg
   exact⟨rfl,rfl,by simp,by intro a ha;cases ha;exact h4⟩
  ·rw[R.Ah]at hx
   obtain⟨_,h3,hx⟩:=hx
   have:=R.Ai.1 hx
   cases this
   have h4:=Bg h3 hg
   exact⟨rfl,rfl,by intro a ha;cases ha;exact h4,by simp⟩
  ·rw[R.Ah]at hx
   obtain⟨_,h3,hx⟩:=hx
   have:=R.Ai.1 hx
   cases this
   obtain⟨q1,q2,q3⟩:=Bg h3 hg
   exact⟨rfl,rfl,by intro a ha;cases ha;exact⟨by omega,q3⟩,by intro a ha;cases ha;exact⟨q1,by simp only[hiN];omega⟩⟩
 obtain⟨rfl,rfl,k1,k2⟩:=key
 have hh:(V5 st true n hi).holds (·=hiN n r'):=by
  rcases Rz h hg h1 with⟨rfl,rfl⟩|⟨y,b,rfl,rfl,hb⟩
  ·exact M.Ab rfl
  ·simp only[V5,M.Aa]
   refine M.Ag hb ?_
   rintro _ rfl
   rw[M.Aj]
   obtain⟨q1,q2⟩:=k1 _ rfl
   exact⟨fun _=>⟨q1,by omega⟩,M.Ab rfl⟩
 have hl:(UL st true (hiN n r') lo).holds (·=loN l'):=by
  rcases Rz h hg h2 with⟨rfl,rfl⟩|⟨y,b,rfl,rfl,hb⟩
  ·exact M.Ab rfl
  ·simp only[UL,M.Aa]
   refine M.Ag hb ?_
   rintro _ rfl
   rw[M.Aj]
   obtain⟨q1,q2⟩:=k2 _ rfl
   exact⟨fun _=>⟨q1,by omega⟩,M.Ab rfl⟩
 refine⟨?_,?_,?_⟩
 ·simp only[Ft,M.Aa]
  refine M.Ag hh ?_
  rintro _ rfl
  refine M.Ag hl ?_
  rintro _ rfl
  exact M.Ab rfl
 ·cases l' with
  |none=>exact Nat.zero_le _
  |some a=>obtain⟨q1,q2⟩:=k2 a rfl;simp only[loN];omega
 ·cases r' with
  |none=>exact Nat.le_refl _
  |some b=>obtain⟨q1,q2⟩:=k1 b rfl;simp only[hiN];omega
theorem Ps{g:Gd}(hg:gv F Γ g=true):∀{ps:List (Nat×Nat×Opd)} {cells r:List TC} {as:List AV},(Mb F Γ g cells ps).ok r→avs μ st.ver (lnT F Γ) cells as→(FW st true as ps).holds fun l=>avs μ st.ver (lnT F Γ) r l
 |[],cells,r,as,hx,ha=>by
  simp only[Mb]at hx
  obtain rfl:=R.Ai.1 hx
  simp only[FW]
  exact M.Ab ha
 |(off,n,x)::ps,cells,r,as,hx,ha=>by
  simp only[Mb]at hx
  rw[R.Ah]at hx
  obtain⟨v,h1,hx⟩:=hx
  simp only[FW,M.Aa]
  refine M.Ag (El h (fun _=>hg) h1) fun s hs=>?_
  have key:∀l:List TC,avs μ st.ver (lnT F Γ) l s.cells→(if l.length=n then Mb F Γ g (MU cells off l) ps else R.fail).ok r→M.holds (if s.cells.length=n then FW st true (setCells as off s.cells) ps else M.fail) fun l=>avs μ st.ver (lnT F Γ) r l:=by
   intro l hl hx
   have e:=Bq hl
   split at hx
   case isFalse=>exact(R.Af.1 hx).elim
   rename_i hn
   rw[if_pos (by rw[e];exact hn)]
   exact Ps hg hx (IM off ha hl)
  cases v with
  |one c=>obtain⟨a,rfl,hc⟩:=hs;exact key [c] ⟨hc,trivial⟩ hx
  |agg l=>obtain⟨k,rfl,hc⟩:=hs;exact key l hc hx
  |clo f l=>exact(R.Af.1 hx).elim
theorem QS{g:Gd}(hg:gv F Γ g=true):∀{xs:List Opd} {r:List TC},(QR F Γ g xs).ok r→(Ii st true xs).holds fun l=>avs μ st.ver (lnT F Γ) r l
 |[],r,hx=>by
  simp only[QR]at hx
  obtain rfl:=R.Ai.1 hx
  simp only[Ii]
  exact M.Ab trivial
 |x::xs,r,hx=>by
  simp only[QR]at hx
  rw[R.Ah]at hx
  obtain⟨c,h1,hx⟩:=hx
  rw[R.Ah]at hx
  obtain⟨l,h2,hx⟩:=hx
  obtain rfl:=R.Ai.1 hx
  simp only[Ii,M.Aa]
  refine M.Ag (Cb h (fun _=>hg) h1) fun a ha=>?_
  refine M.Ag (QS hg h2) fun m hm=>?_
  exact M.Ab ⟨ha,hm⟩
end
end Go.VS
namespace Go.VS
theorem Lb{α β:Type}(f:α→β)(l:List α)(i:Nat)(d:α)(d':β)(h:i<l.length):(l.map f).getD i d'=f (l.getD i d):=by
 simp[List.getD_eq_getElem?_getD,List.getElem?_eq_getElem h]
theorem Qg{α:Type}{l:List α}{i:Nat}{a:α}(h:l[i]?=some a):(l.drop i).take 1=[a]:=by
 have hlt:=(List.getElem?_eq_some_iff.1 h).1
 rw[List.drop_eq_getElem_cons hlt]
 have:l[i]=a:=by simpa[List.getElem?_eq_getElem hlt]using h
 simp[this]
theorem X0{α β:Type}(f:α→β)(xs:List α)(l r:Option Int)(h1:loN l≤hiN xs.length r)(h2:hiN xs.length r≤xs.length):
  window (loN l) (hiN xs.length r -loN l) (xs.map f)=(Mk l r xs).map f:=by
 have key:(Mk l r xs)=(xs.drop (loN l)).take (hiN xs.length r -loN l):=by
  cases l with
  |none=>cases r with
   |none=>simp[Mk,loN,hiN]
   |some b=>simp[Mk,loN,hiN]
  |some a=>cases r with
   |none=>simp only[Mk,loN,hiN];rw[List.take_of_length_le (by simp)]
   |some b=>simp only[Mk,loN,hiN];rw[List.drop_take]
 rw[key]
 unfold window
 split
 ·rename_i h
  obtain⟨h3,h4⟩:=h
  rw[h3]at*
  simp only[List.length_map,Nat.sub_zero]at h4
  rw[List.drop_zero,Nat.sub_zero,h4,List.take_length]
 ·simp
theorem G0{tt:TT}:∀l:List Int,bytesOf (l.map ((BT.int .u8).enc tt))=some l
 |[]=>rfl
 |n::l=>by
  show bytesOf ([.lit (.int .u8 n)]::l.map ((BT.int .u8).enc tt))=some (n::l)
  rw[bytesOf,G0 l]
  rfl
section
variable{μ:Nat→Nat}{ver:Root→Nat}{ln:Place→Option Nat}
theorem KL:∀(t:BT) (tt:TT) (_:TC.AY.TT.AY tt=true) (x:t.D),(t.enc tt x).all AV.free=true
 |.int _,_,_,_=>rfl
 |.bool,_,_,_=>rfl
 |.str,_,_,_=>rfl
 |.unit,_,_,_=>rfl
 |.sl e,tt,h,l=>by
  have h1:tt.tag≠.brw∧TC.AY.TT.AY tt.elt=true:=by
   cases tt with
   |leaf=>exact⟨by simp[TT.tag],rfl⟩
   |node τ a=>cases τ<;>simp_all [TC.AY.TT.AY,TT.tag,TT.elt]
   |pair a b=>exact⟨by simp[TT.tag],rfl⟩
  have h2:EE (l.map (e.enc tt.elt))=true:=by
   rw[L6,List.all_map,List.all_eq_true]
   intro x _
   exact KL e _ h1.2 x
  simp only[BT.enc,List.all_cons,List.all_nil,Bool.and_true]
  cases ht:tt.tag with
  |brw=>exact(h1.1 ht).elim
  |_=>exact h2
 |.pair a b,tt,h,x=>by
  have h1:TC.AY.TT.AY tt.fst=true∧TC.AY.TT.AY tt.snd=true:=by
   cases tt with
   |leaf=>exact⟨rfl,rfl⟩
   |node τ a=>exact⟨rfl,rfl⟩
   |pair a b=>simpa[TC.AY.TT.AY,TT.fst,TT.snd]using h
  simp only[BT.enc,List.all_append,KL a _ h1.1,KL b _ h1.2,Bool.and_self]
theorem VW{c:TC}(h:c.AY=true){a:AV}(ha:c.av μ ver ln a):a.free=true:=by
 cases c with
 |ref=>cases h
 |adr=>cases h
 |iadr=>cases h
 |iadrd=>cases h
 |dead=>cases h
 |sl τ tt e l=>
  have ha:a=_:=ha
  subst ha
  have h2:τ≠.brw∧TC.AY.TT.AY tt=true:=by cases τ<;>simp_all [TC.AY]
  have h3:EE (l.map (e.enc tt))=true:=by
   rw[L6,List.all_map,List.all_eq_true]
   intro x _
   exact KL e _ h2.2 x
  cases τ with
  |brw=>exact(h2.1 rfl).elim
  |_=>exact h3
 |_=>(have ha:a=_:=ha);subst ha;rfl
theorem TH:∀{l:List TC},l.all TC.AY=true→∀{as:List AV},avs μ ver ln l as→as.all AV.free=true
 |[],_,[],_=>rfl
 |c::l,h,a::as,ha=>by
  simp only[List.all_cons,Bool.and_eq_true]at h⊢
  exact⟨VW h.1 ha.1,TH h.2 ha.2⟩
 |[],_,_::_,h=>h.elim
 |_::_,_,[],h=>h.elim
end
section
variable{μ:Nat→Nat}{F Γ:TS}{st:St}(h:Sim μ F Γ st)
include h
theorem UI{p:Place}{s:Stp}{tt:TT}{e:BT}{l:List e.D}(hp:atT F Γ p=some (.sl .own tt e l))(hk:s.k=e.size)(hi:s.i<l.length){τ2:Tag}{tt2:TT}{e2:BT}{l2:List e2.D}
  (hc:(e.ex tt (l.getD s.i e.dflt))[s.c]?=some (.sl τ2 tt2 e2 l2)) {n:Nat} (hn:lnT F Γ ⟨p.root,p.path++[s]⟩=some n):n=l2.length:=by
 unfold lnT atT at hn
 unfold atT at hp
 cases hr:BP F Γ p.root with
 |none=>rw[hr]at hp;cases hp
 |some c=>
  rw[hr,Option.bind_some]at hp
  simp only[hr,Option.bind_some,Ng,hp]at hn
  simp only[TC.atS,if_pos hk,List.getElem?_eq_getElem hi,Option.bind_some]at hn
  have e1:l.getD s.i e.dflt=l[s.i]:=by simp[List.getD_eq_getElem?_getD,List.getElem?_eq_getElem hi]
  rw[e1]at hc
  rw[hc]at hn
  have e3:(TC.sl τ2 tt2 e2 l2).atS []=some (.sl τ2 tt2 e2 l2):=by cases τ2<;>rfl
  simpa[e3,TC.len?]using hn.symm
theorem V9{g:Gd}(hg:gv F Γ g=true){agg:Bool}{n:Nat}{c:TC}{v:TSV}(hx:(loadT F Γ g agg n c).ok v){x:Opd}(ha:(st.BX true x).holds fun a=>c.av μ st.ver (lnT F Γ) a):
  (st.A5 true (.load agg n x)).holds fun s=>v.sv μ st.ver (lnT F Γ) s:=by
 simp only[St.A5,M.Aa]
 refine M.Ag ha fun a ha=>?_
 cases c with
 |box b c=>
  have ha:a=_:=ha
  subst ha
  simp only[loadT]at hx
  split at hx
  case h_2=>exact(R.Af.1 hx).elim
  rename_i l hl
  split at hx
  case isFalse=>exact(R.Af.1 hx).elim
  rename_i hc
  obtain rfl:=R.Ai.1 hx
  obtain⟨k,q1,q2,q3,q4⟩:=h.bx b l hl
  simp only[q1,M.Aa,M.Aj]
  have hlen:=Bq q2
  refine⟨by omega,M.Ab ?_⟩
  rw[sub_eq k c n k.length rfl]
  refine TY agg (N3 (mk:=fun j=>⟨.obj b (c+j),[]⟩) (fun j k' n'=>rfl) 0 (FN q2 c n) (Ea q4 c n) ?_)
  intro i τ tt e l' hi m hm
  simp only[Nat.zero_add,lnT,atT,BP,hl,Option.bind_some]at hm
  have hi2:l[c+i]?=some (.sl τ tt e l'):=by
   rw[List.getElem?_take]at hi
   split at hi
   ·rw[List.getElem?_drop]at hi;exact hi
   ·cases hi
  rw[hi2]at hm
  have e3:(TC.sl τ tt e l').atS []=some (.sl τ tt e l'):=by cases τ<;>rfl
  simpa[e3,TC.len?]using hm.symm
 |boxd b c m i=>
  have ha:a=_:=ha
  subst ha
  simp only[loadT]at hx
  split at hx
  case h_2=>exact(R.Af.1 hx).elim
  rename_i l hl
  split at hx
  case h_2=>exact(R.Af.1 hx).elim
  rename_i d hd
  split at hx
  case isFalse=>exact(R.Af.1 hx).elim
  rename_i hc
  obtain⟨rfl,rfl,hc⟩:=hc
  rw[R.Ah]at hx
  obtain⟨_,h1,hx⟩:=hx
  have hi:=Bg h1 hg
  obtain rfl:=R.Ai.1 hx
  obtain⟨k,q1,q2,q3,q4⟩:=h.bx b l hl
  simp only[q1,M.Aa,M.Aj]
  have hlen:=Bq q2
  refine⟨by omega,M.Ab ?_⟩
  rw[sub_eq k _ _ k.length rfl]
  have hsel:=Me hd (by simp;omega)
  rw[List.getElem?_take_of_lt hi,List.getElem?_drop]at hsel
  obtain⟨a,ha,hav⟩:=FM q2 hsel
  have e1:=Qg ha
  rw[e1]
  refine⟨_,rfl,?_⟩
  simp only[Ei,List.headD]
  cases a with
  |sl τ k' xs=>
   cases τ with
   |own=>
    exfalso
    unfold Qo at hd
    split at hd
    ·cases hd;simp[TC.av]at hav
    ·split at hd
     ·cases hd;simp[TC.av]at hav
     ·cases hd
   |_=>exact hav
  |ref=>
   exfalso
   unfold Qo at hd
   split at hd
   ·cases hd;simp[TC.av]at hav
   ·split at hd
    ·cases hd;simp[TC.av]at hav
    ·cases hd
  |adr=>
   exfalso
   unfold Qo at hd
   split at hd
   ·cases hd;simp[TC.av]at hav
   ·split at hd
    ·cases hd;simp[TC.av]at hav
    ·cases hd
  |_=>exact hav
 |adr p tt0 e i c=>
  have ha:a=_:=ha
  subst ha
  simp only[loadT]at hx
  rw[R.Ah]at hx
  obtain⟨d,h1,hx⟩:=hx
  cases d with
  |sl τ tt e' l=>
   cases τ with
   |own=>
    simp only[TU]at hx
    split at hx
    case isFalse=>exact(R.Af.1 hx).elim
    rename_i hk
    obtain⟨hk,hc⟩:=hk
    rw[R.Ah]at hx
    obtain⟨_,h2,hx⟩:=hx
    have hi:=Bg h2 hg
    obtain rfl:=R.Ai.1 hx
    obtain⟨q1,q2⟩:=G2 h h1
    have q0:=PW h1
    simp only[q1,M.Aa,M.Aj]
    refine⟨trivial,hk,fun _=>by simpa using hi,hc,M.Ab ?_⟩
    rw[Lb (e'.enc tt) l i e'.dflt [] hi,sub_eq _ c n _ (by rw[Cs,hk])]
    refine TY agg (N3 (mk:=fun j=>⟨p.root,p.path++[⟨i,e.size,c+j⟩]⟩) (fun j k' n'=>rfl) 0 (FN (Dz e' tt _) c n) (Ea (Gj _ _ _) c n) ?_)
    intro j τ tt2 e2 l' hj m hm
    rw[Nat.zero_add]at hm
    have hj2:(e'.ex tt (l.getD i e'.dflt))[c+j]?=some (.sl τ tt2 e2 l'):=by
     rw[List.getElem?_take]at hj
     split at hj
     ·rw[List.getElem?_drop]at hj;exact hj
     ·cases hj
    exact UI h (s:=⟨i,e.size,c+j⟩) q0 hk.symm hi hj2 hm
   |_=>exact(R.Af.1 hx).elim
  |_=>exact(R.Af.1 hx).elim
 |iadr tt e l i c=>
  have ha:a=_:=ha
  subst ha
  simp only[loadT]at hx
  split at hx
  case isFalse=>exact(R.Af.1 hx).elim
  rename_i hc
  rw[R.Ah]at hx
  obtain⟨_,h2,hx⟩:=hx
  have hi:=Bg h2 hg
  obtain rfl:=R.Ai.1 hx
  simp only[M.Aa,M.Aj]
  refine⟨fun _=>by simpa using hi,hc,M.Ab ?_⟩
  rw[Lb (e.enc tt) l i e.dflt [] hi,sub_eq _ c n _ (Cs _ _ _)]
  exact TY agg (LS (Ea (Gj _ _ _) c n) (FN (Dz e tt _) c n))
 |iadrd tt e l i c m j=>
  have ha:a=_:=ha
  subst ha
  simp only[loadT]at hx
  split at hx
  case h_2=>exact(R.Af.1 hx).elim
  rename_i d hd
  split at hx
  case isFalse=>exact(R.Af.1 hx).elim
  rename_i hc
  obtain⟨rfl,rfl,hc⟩:=hc
  rw[R.Ah]at hx
  obtain⟨_,h2,hx⟩:=hx
  obtain⟨hi,hj⟩:=Bg h2 hg
  obtain rfl:=R.Ai.1 hx
  simp only[M.Aa,M.Aj]
  refine⟨fun _=>by simpa using hi,by omega,M.Ab ?_⟩
  rw[Lb (e.enc tt) l i e.dflt [] hi,sub_eq _ _ _ _ (Cs _ _ _)]
  have hsel:=Me hd (by rw[List.length_take,List.length_drop,Ce];omega)
  rw[List.getElem?_take_of_lt hj,List.getElem?_drop]at hsel
  have q2:=Dz (μ:=μ) (ver:=st.ver) (ln:=lnT F Γ) e tt (l.getD i e.dflt)
  obtain⟨a,ha,hav⟩:=FM q2 hsel
  have e1:=Qg ha
  rw[e1]
  refine⟨_,rfl,?_⟩
  have hsol:d.AP=true∧d≠.dead:=by
   unfold Qo at hd
   split at hd
   ·cases hd;exact⟨rfl,by simp⟩
   ·split at hd
    ·cases hd;exact⟨rfl,by simp⟩
    ·cases hd
  have:=LS (cs:=[d]) (as:=[a]) (μ:=μ) (ver:=st.ver) (ln:=lnT F Γ) (by simp[hsol.1]) ⟨hav,trivial⟩
  exact this.1
 |_=>exact(R.Af.1 hx).elim
theorem XO{g:Gd}(hg:gv F Γ g=true){k:Nat}{lo hi:Option Opd}{c:TC}{v:TSV}(hx:(Wz F Γ g k lo hi c).ok v){x:Opd}(ha:(st.BX true x).holds fun a=>c.av μ st.ver (lnT F Γ) a):
  (st.A5 true (.slK k x lo hi)).holds fun s=>v.sv μ st.ver (lnT F Γ) s:=by
 simp only[St.A5,M.Aa]
 refine M.Ag ha fun a ha=>?_
 cases c with
 |ref p tt e w=>
  simp only[Wz]at hx
  rw[R.Ah]at hx
  obtain⟨d,h1,hx⟩:=hx
  cases d with
  |sl τ tt' e' l0=>
   cases τ with
   |own=>
    obtain⟨q1,q2⟩:=G2 h h1
    cases w with
    |none=>
     have ha:a=_:=IJ ha q2
     subst ha
     simp only[YJ]at hx
     split at hx
     case isFalse=>exact(R.Af.1 hx).elim
     rename_i hk
     rw[R.Ah]at hx
     obtain⟨⟨l,r⟩,h2,hx⟩:=hx
     obtain rfl:=R.Ai.1 hx
     obtain⟨b1,b2,b3⟩:=Kz h hg h2
     simp only[q1,M.Aa,M.Aj]
     refine⟨trivial,hk,M.Ag b1 ?_⟩
     rintro _ rfl
     refine M.Ab ?_
     subst hk
     cases l with
     |none=>cases r with
      |none=>
       refine⟨_,rfl,?_⟩
       refine⟨l0.length,by simp[loN,hiN],fun n hn=>?_⟩
       rw[q2]at hn
       cases hn
       rfl
      |some b=>exact⟨_,rfl,by simp[TC.av,loN,hiN]⟩
     |some a=>cases r with
      |none=>exact⟨_,rfl,by simp[TC.av,loN,hiN]⟩
      |some b=>exact⟨_,rfl,by simp[TC.av,loN,hiN]⟩
    |some y=>
     obtain⟨lo0,n⟩:=y
     have ha:a=_:=ha
     subst ha
     simp only[YJ]at hx
     split at hx
     case isFalse=>exact(R.Af.1 hx).elim
     rename_i hk
     rw[R.Ah]at hx
     obtain⟨⟨l,r⟩,h2,hx⟩:=hx
     obtain rfl:=R.Ai.1 hx
     obtain⟨b1,b2,b3⟩:=Kz h hg h2
     simp only[q1,M.Aa,M.Aj]
     refine⟨trivial,hk,M.Ag b1 ?_⟩
     rintro _ rfl
     refine M.Ab ?_
     subst hk
     cases l with
     |none=>cases r with
      |none=>exact⟨_,rfl,by simp[TC.av,loN,hiN]⟩
      |some b=>exact⟨_,rfl,by simp[TC.av,loN,hiN]⟩
     |some a=>cases r with
      |none=>exact⟨_,rfl,by simp[TC.av,loN,hiN]⟩
      |some b=>exact⟨_,rfl,by simp[TC.av,loN,hiN]⟩
   |_=>cases w with
    |none=>exact(R.Af.1 hx).elim
    |some y=>exact(R.Af.1 hx).elim
  |_=>cases w with
   |none=>exact(R.Af.1 hx).elim
   |some y=>exact(R.Af.1 hx).elim
 |sl τ tt e l=>
  have ha:a=_:=ha
  subst ha
  simp only[Wz]at hx
  split at hx
  case isFalse=>exact(R.Af.1 hx).elim
  rename_i hk
  obtain⟨hτ,hk⟩:=hk
  rw[R.Ah]at hx
  obtain⟨⟨r1,r2⟩,h2,hx⟩:=hx
  obtain rfl:=R.Ai.1 hx
  obtain⟨b1,b2,b3⟩:=Kz h hg h2
  simp only[M.Aa,M.Aj,List.length_map]
  refine⟨hk,hτ,M.Ag b1 ?_⟩
  rintro _ rfl
  refine M.Ab ⟨_,rfl,?_⟩
  simp only[TC.av]
  rw[←hk,X0 _ _ _ _ b2 b3]
 |nil=>
  have ha:a=_:=ha
  subst ha
  simp only[Wz]at hx
  rw[R.Ah]at hx
  obtain⟨⟨r1,r2⟩,h2,hx⟩:=hx
  obtain rfl:=R.Ai.1 hx
  obtain⟨b1,b2,b3⟩:=Kz h hg h2
  simp only[M.Aa]
  refine M.Ag b1 ?_
  rintro _ rfl
  exact M.Ab ⟨_,rfl,rfl⟩
 |_=>exact(R.Af.1 hx).elim
theorem Xv{g:Gd}(hg:gv F Γ g=true){k:Nat}{n:Int}{c:TC}{v:TSV}(hx:(Xu F Γ g k n c).ok v){x i:Opd}(hi:(st.EX true i).holds (·=n))(ha:(st.BX true x).holds fun a=>c.av μ st.ver (lnT F Γ) a):
  (st.A5 true (.ixA k x i)).holds fun s=>v.sv μ st.ver (lnT F Γ) s:=by
 simp only[St.A5,M.Aa]
 refine M.Ag hi ?_
 rintro _ rfl
 refine M.Ag ha fun a ha=>?_
 cases c with
 |ref p tt e w=>
  simp only[Xu]at hx
  rw[R.Ah]at hx
  obtain⟨d,h1,hx⟩:=hx
  cases d with
  |sl τ tt' e' l0=>
   cases τ with
   |own=>
    obtain⟨q1,q2⟩:=G2 h h1
    cases w with
    |none=>
     have ha:a=_:=IJ ha q2
     subst ha
     simp only[Yo]at hx
     split at hx
     case isFalse=>exact(R.Af.1 hx).elim
     rename_i hk
     rw[R.Ah]at hx
     obtain⟨_,h2,hx⟩:=hx
     have hb:=Bg h2 hg
     obtain rfl:=R.Ai.1 hx
     simp only[q1,M.Aa,M.Aj]
     refine⟨trivial,hk,fun _=>hb,M.Ab ⟨_,rfl,?_⟩⟩
     subst hk
     simp[TC.av]
    |some y=>
     obtain⟨lo0,n0⟩:=y
     have ha:a=_:=ha
     subst ha
     simp only[Yo]at hx
     split at hx
     case isFalse=>exact(R.Af.1 hx).elim
     rename_i hk
     rw[R.Ah]at hx
     obtain⟨_,h2,hx⟩:=hx
     have hb:=Bg h2 hg
     obtain rfl:=R.Ai.1 hx
     simp only[q1,M.Aa,M.Aj]
     refine⟨trivial,hk,fun _=>hb,M.Ab ⟨_,rfl,?_⟩⟩
     subst hk
     simp[TC.av]
   |_=>cases w with
    |none=>exact(R.Af.1 hx).elim
    |some y=>exact(R.Af.1 hx).elim
  |_=>cases w with
   |none=>exact(R.Af.1 hx).elim
   |some y=>exact(R.Af.1 hx).elim
 |sl τ tt e l=>
  have ha:a=_:=ha
  subst ha
  simp only[Xu]at hx
  split at hx
  case isFalse=>exact(R.Af.1 hx).elim
  rename_i hk
  obtain⟨hτ,hk⟩:=hk
  rw[R.Ah]at hx
  obtain⟨_,h2,hx⟩:=hx
  have hb:=Bg h2 hg
  obtain rfl:=R.Ai.1 hx
  simp only[M.Aa,M.Aj,List.length_map]
  refine⟨hk,hτ,fun _=>hb,M.Ab ⟨_,rfl,?_⟩⟩
  subst hk
  exact rfl
 |_=>exact(R.Af.1 hx).elim
theorem Xx{c d:TC}(hx:(UH F Γ c).ok d){a:AV}(ha:c.av μ st.ver (lnT F Γ) a):(Xw a).holds fun n=>d=.int .i64 n:=by
 cases c with
 |ref p tt e w=>
  cases w with
  |none=>
   simp only[UH]at hx
   rw[R.Ah]at hx
   obtain⟨d',h1,hx⟩:=hx
   cases d' with
   |sl τ tt' e' l0=>
    cases τ with
    |own=>
     obtain⟨q1,q2⟩:=G2 h h1
     have ha:a=_:=IJ ha q2
     subst ha
     obtain rfl:=R.Ai.1 hx
     exact M.Ab rfl
    |_=>exact(R.Af.1 hx).elim
   |_=>exact(R.Af.1 hx).elim
  |some y=>
   obtain⟨lo,n⟩:=y
   have ha:a=_:=ha
   subst ha
   simp only[UH]at hx
   obtain rfl:=R.Ai.1 hx
   exact M.Ab rfl
 |sl τ tt e l=>
  have ha:a=_:=ha
  subst ha
  simp only[UH]at hx
  obtain rfl:=R.Ai.1 hx
  simp only[Xw]
  exact M.Ab (by simp)
 |nil=>
  have ha:a=_:=ha
  subst ha
  simp only[UH]at hx
  obtain rfl:=R.Ai.1 hx
  exact M.Ab rfl
 |_=>exact(R.Af.1 hx).elim
theorem TF{g:Gd}(hg:gv F Γ g=true){op:AOp}{v:TSV}(hx:(Fu F Γ g op).ok v):(st.A5 true op).holds fun s=>v.sv μ st.ver (lnT F Γ) s:=by
 have hg':true=true→gv F Γ g=true:=fun _=>hg
 cases op with
 |mv x=>exact El h hg' hx
 |pick c a b=>
  cases c with
  |t n=>
   simp only[Fu]at hx
   rw[R.Ah]at hx
   obtain⟨cb,h1,hx⟩:=hx
   rw[R.Ah]at hx
   obtain⟨av,h2,hx⟩:=hx
   rw[R.Ah]at hx
   obtain⟨bv,h3,hx⟩:=hx
   obtain rfl:=R.Ai.1 hx
   have hslot:EZ F Γ n=some cb:=by
    unfold Qy at h1
    rw[R.Ah]at h1
    obtain⟨v,h4,h5⟩:=h1
    unfold EZ
    simp only[Kn]at h4
    split at h4
    case h_2=>exact(R.Af.1 h4).elim
    rename_i gd v0 hs
    rw[hs]
    cases hsub:gsub gd g with
    |false=>rw[hsub]at h4;exact(R.Af.1 h4).elim
    |true=>
     rw[hsub]at h4
     have h4:=R.Ai.1 h4
     subst h4
     split at h5
     case h_2=>exact(R.Af.1 h5).elim
     rename_i b0 hb0
     obtain rfl:=R.Ai.1 h5
     cases v0 with
     |one c0=>
      cases c0 with
      |bool b1=>simp only[TSV.peek,Pt,TSV.one.injEq,TC.bool.injEq]at hb0;rw[hb0]
      |sl τ tt e l=>cases τ<;>simp[TSV.peek,Pt]at hb0
      |_=>simp[TSV.peek,Pt]at hb0
     |agg l=>simp[TSV.peek]at hb0
     |clo f l=>simp[TSV.peek]at hb0
   simp only[St.A5,M.Aa]
   refine M.Ag (Hz h hg' h1) fun x0 e0=>?_
   rw[e0]
   clear e0 x0
   refine M.Ag (Hz h (b:=true&&cb) ?_ h2) ?_
   ·intro hc
    simp only[Bool.true_and]at hc
    subst hc
    simp only[gv,hslot,hg]
    rfl
   rintro _ rfl
   refine M.Ag (Hz h (b:=true&&!cb) ?_ h3) ?_
   ·intro hc
    simp only[Bool.true_and,Bool.not_eq_true']at hc
    subst hc
    simp only[gv,hslot,hg]
    rfl
   rintro _ rfl
   exact M.Ab ⟨_,rfl,rfl⟩
  |c v=>exact(R.Af.1 hx).elim
  |f nm=>exact(R.Af.1 hx).elim
 |build zero parts=>
  simp only[Fu]at hx
  rw[R.Ah]at hx
  obtain⟨l,h1,hx⟩:=hx
  obtain rfl:=R.Ai.1 hx
  simp only[St.A5,M.Aa]
  have hz:∀zs:List Value,avs μ st.ver (lnT F Γ) (zs.map G6) (zs.map .lit):=by
   intro zs
   induction zs with
   |nil=>exact trivial
   |cons z zs ih=>exact⟨Hm z,ih⟩
  refine M.Ag (Ps h hg h1 (hz zero)) fun as ha=>M.Ab ⟨as,rfl,ha⟩
 |load agg n x=>
  simp only[Fu]at hx
  rw[R.Ah]at hx
  obtain⟨c,h1,hx⟩:=hx
  exact V9 h hg hx (Cb h hg' h1)
 |nilc x=>
  simp only[Fu]at hx
  rw[R.Ah]at hx
  obtain⟨c,h1,hx⟩:=hx
  have h2:=El h hg' h1
  simp only[St.A5,St.BX,M.Aa]
  refine M.Ag h2 fun s hs=>?_
  unfold X8 at hx
  split at hx
  ·obtain rfl:=R.Ai.1 hx
   obtain⟨a,rfl,ha⟩:=hs
   rw[M.Ad]
   have ha:a=_:=ha
   subst ha
   exact M.Ab ⟨_,rfl,rfl⟩
  ·obtain rfl:=R.Ai.1 hx
   obtain⟨a,rfl,ha⟩:=hs
   rw[M.Ad]
   have ha:a=_:=ha
   subst ha
   exact M.Ab ⟨_,rfl,rfl⟩
  ·obtain rfl:=R.Ai.1 hx
   obtain⟨a,rfl,ha⟩:=hs
   rw[M.Ad]
   have ha:a=_:=ha
   subst ha
   exact M.Ab ⟨_,rfl,rfl⟩
  ·obtain rfl:=R.Ai.1 hx
   obtain⟨a,rfl,ha⟩:=hs
   rw[M.Ad]
   have ha:a=_:=ha
   subst ha
   exact M.Ab ⟨_,rfl,rfl⟩
  ·obtain rfl:=R.Ai.1 hx
   obtain⟨k,rfl,ha⟩:=hs
   rw[M.Ad]
   exact M.Ab ⟨k,rfl,ha⟩
  ·exact(R.Af.1 hx).elim
 |bin op x y=>
  simp only[Fu]at hx
  rw[R.Ah]at hx
  obtain⟨c,h1,hx⟩:=hx
  rw[R.Ah]at hx
  obtain⟨d,h2,hx⟩:=hx
  rw[R.Ah]at hx
  obtain⟨r,h3,hx⟩:=hx
  obtain rfl:=R.Ai.1 hx
  simp only[St.A5,M.Aa]
  have k1:=El (v:=.one c) h hg' (by
   unfold FZ at h1;rw[R.Ah]at h1;obtain⟨v,q1,q2⟩:=h1
   split at q2
   ·obtain rfl:=R.Ai.1 q2;exact q1
   ·exact(R.Af.1 q2).elim)
  have k2:=El (v:=.one d) h hg' (by
   unfold FZ at h2;rw[R.Ah]at h2;obtain⟨v,q1,q2⟩:=h2
   split at q2
   ·obtain rfl:=R.Ai.1 q2;exact q1
   ·exact(R.Af.1 q2).elim)
  refine M.Ag k1 fun s hs=>?_
  refine M.Ag k2 fun s' hs'=>?_
  obtain⟨a,rfl,ha⟩:=hs
  obtain⟨b,rfl,hb⟩:=hs'
  obtain⟨u,w,p,v,rfl,rfl,e1,e2,e3⟩:=Ut hg h3 ha hb
  simp only[M.Aa]
  rw[M.Iy]
  exact⟨p,v,e1,e2,M.Ab ⟨_,rfl,e3⟩⟩
 |eqB ne x y=>
  simp only[Fu]at hx
  rw[R.Ah]at hx
  obtain⟨c,h1,hx⟩:=hx
  rw[R.Ah]at hx
  obtain⟨d,h2,hx⟩:=hx
  obtain rfl:=R.Ai.1 hx
  simp only[St.A5,M.Aa]
  refine M.Ag (Hz h hg' h1) ?_
  rintro _ rfl
  refine M.Ag (Hz h hg' h2) ?_
  rintro _ rfl
  refine M.Ab ⟨_,rfl,?_⟩
  cases ne<;>rfl
 |eqA ne ks x y=>
  simp only[Fu]at hx
  rw[R.Ah]at hx
  obtain⟨c,h1,hx⟩:=hx
  rw[R.Ah]at hx
  obtain⟨d,h2,hx⟩:=hx
  rw[R.Ah]at hx
  obtain⟨r,h3,hx⟩:=hx
  obtain rfl:=R.Ai.1 hx
  have h3:=R.BE.1 h3
  simp only[St.A5,M.Aa]
  refine M.Ag (LB h hg' h1) fun s hs=>?_
  refine M.Ag (LB h hg' h2) fun s' hs'=>?_
  obtain⟨a,rfl,ha⟩:=hs
  obtain⟨b,rfl,hb⟩:=hs'
  simp only[M.Aa]
  rw[M.Ca]
  refine⟨r,O2 h3 ha hb,M.Ab ⟨_,rfl,?_⟩⟩
  cases ne<;>rfl
 |mkI t x=>
  simp only[Fu]at hx
  rw[R.Ah]at hx
  obtain⟨c,h1,hx⟩:=hx
  split at hx
  case h_2=>exact(R.Af.1 hx).elim
  obtain rfl:=R.Ai.1 hx
  simp only[St.A5,M.Aa]
  refine M.Ag (Cb h hg' h1) fun a ha=>?_
  have ha:a=_:=ha
  subst ha
  exact M.Ab ⟨_,rfl,rfl⟩
 |un op x=>
  simp only[Fu]at hx
  rw[R.Ah]at hx
  obtain⟨c,h1,hx⟩:=hx
  rw[R.Ah]at hx
  obtain⟨d,h2,hx⟩:=hx
  obtain rfl:=R.Ai.1 hx
  simp only[St.A5,M.Aa]
  refine M.Ag (Cb h hg' h1) fun a ha=>?_
  unfold unT at h2
  split at h2
  ·obtain rfl:=R.Ai.1 h2
   have ha:a=_:=ha
   subst ha
   simp only[M.Aa]
   rw[M.Ca]
   exact⟨_,rfl,M.Ab ⟨_,rfl,rfl⟩⟩
  ·obtain rfl:=R.Ai.1 h2
   have ha:a=_:=ha
   subst ha
   simp only[M.Aa]
   rw[M.Ca]
   exact⟨_,rfl,M.Ab ⟨_,rfl,rfl⟩⟩
  ·obtain rfl:=R.Ai.1 h2
   have ha:a=_:=ha
   subst ha
   simp only[M.Aa]
   rw[M.Ca]
   exact⟨_,rfl,M.Ab ⟨_,rfl,rfl⟩⟩
  ·exact(R.Af.1 h2).elim
 |conv cv x=>
  simp only[Fu]at hx
  rw[R.Ah]at hx
  obtain⟨c,h1,hx⟩:=hx
  rw[R.Ah]at hx
  obtain⟨d,h2,hx⟩:=hx
  obtain rfl:=R.Ai.1 hx
  simp only[St.A5,M.Aa]
  refine M.Ag (Cb h hg' h1) fun a ha=>?_
  unfold X2 at h2
  split at h2
  ·obtain rfl:=R.Ai.1 h2
   have ha:a=_:=ha
   subst ha
   exact M.Ab ⟨_,rfl,rfl⟩
  ·obtain rfl:=R.Ai.1 h2
   have ha:a=_:=ha
   subst ha
   exact M.Ab ⟨_,rfl,rfl⟩
  ·obtain rfl:=R.Ai.1 h2
   have ha:a=_:=ha
   subst ha
   exact M.Ab ⟨_,rfl,by simp[TC.av,Y2]⟩
  ·rw[R.Ah]at h2
   obtain⟨d',h3,h2⟩:=h2
   rename_i p tt w
   unfold VE at h2
   split at h2
   case h_2=>exact(R.Af.1 h2).elim
   rename_i tt' l
   obtain⟨q1,q2⟩:=G2 h h3
   cases w with
   |none=>
    obtain rfl:=R.Ai.1 h2
    have ha:a=_:=IJ ha q2
    subst ha
    simp only[St.whole,q1,M.Aa]
    rw[M.Aj,M.Aj,M.Aj,M.Aj]
    refine⟨by trivial,by trivial,by trivial,by simp,?_⟩
    rw[M.Ad,M.Ca]
    refine⟨l,?_,M.Ab ⟨_,rfl,rfl⟩⟩
    rw[HA,List.drop_zero,List.take_of_length_le (by simp)]
    exact G0 l
   |some y=>
    obtain⟨lo,n⟩:=y
    simp only at h2
    rw[R.Ah]at h2
    obtain⟨_,h4,h2⟩:=h2
    have h4:=R.Fj.1 h4
    obtain rfl:=R.Ai.1 h2
    have ha:a=_:=ha
    subst ha
    simp only[St.whole,q1,M.Aa]
    rw[M.Aj,M.Aj,M.Aj,M.Aj]
    refine⟨by trivial,by trivial,by trivial,by simpa using h4,?_⟩
    rw[M.Ad,M.Ca]
    refine⟨_,?_,M.Ab ⟨_,rfl,rfl⟩⟩
    rw[HA,←List.map_drop,←List.map_take]
    exact G0 _
  ·obtain rfl:=R.Ai.1 h2
   have ha:a=_:=ha
   subst ha
   simp only[St.whole,M.Aa]
   rw[M.Aj]
   refine⟨rfl,?_⟩
   rw[M.Ad,M.Ca]
   exact⟨_,G0 _,M.Ab ⟨_,rfl,rfl⟩⟩
  ·obtain rfl:=R.Ai.1 h2
   have ha:a=_:=ha
   subst ha
   simp only[St.whole,M.Aa]
   rw[M.Ad,M.Ca]
   exact⟨[],rfl,M.Ab ⟨_,rfl,rfl⟩⟩
  ·exact(R.Af.1 h2).elim
 |slS x lo hi=>
  simp only[Fu]at hx
  rw[R.Ah]at hx
  obtain⟨c,h1,hx⟩:=hx
  simp only[St.A5,M.Aa]
  refine M.Ag (Cb h hg' h1) fun a ha=>?_
  unfold Zp at hx
  split at hx
  case h_2=>exact(R.Af.1 hx).elim
  rename_i s
  have ha:a=_:=ha
  subst ha
  rw[R.Ah]at hx
  obtain⟨⟨l,r⟩,h2,hx⟩:=hx
  obtain rfl:=R.Ai.1 hx
  obtain⟨b1,b2,b3⟩:=Kz h hg h2
  have e:(⟨s.toArray⟩:ByteArray).size=s.length:=by simp[ByteArray.size]
  simp only[M.Aa,e]
  refine M.Ag b1 ?_
  rintro _ rfl
  refine M.Ab ⟨_,rfl,?_⟩
  simp only[TC.av,AV.lit.injEq,Value.string.injEq]
  refine ByteArray.ext ?_
  have key:Mk l r s=(s.take (hiN s.length r)).drop (loN l):=by
   cases l with
   |none=>cases r with
    |none=>simp[Mk,loN,hiN]
    |some b=>simp[Mk,loN,hiN]
   |some a=>cases r with
    |none=>simp[Mk,loN,hiN]
    |some b=>simp[Mk,loN,hiN]
  rw[key]
  refine Array.toList_inj.1 ?_
  simp[ByteArray.data_extract,List.extract_eq_take_drop,List.drop_take]
 |slK k x lo hi=>
  simp only[Fu]at hx
  rw[R.Ah]at hx
  obtain⟨c,h1,hx⟩:=hx
  exact XO h hg hx (Cb h hg' h1)
 |fAddr off x=>
  simp only[Fu]at hx
  rw[R.Ah]at hx
  obtain⟨c,h1,hx⟩:=hx
  simp only[St.A5,M.Aa]
  refine M.Ag (Cb h hg' h1) fun a ha=>?_
  unfold VR at hx
  split at hx
  ·obtain rfl:=R.Ai.1 hx
   have ha:a=_:=ha
   subst ha
   exact M.Ab ⟨_,rfl,rfl⟩
  ·obtain rfl:=R.Ai.1 hx
   have ha:a=_:=ha
   subst ha
   exact M.Ab ⟨_,rfl,rfl⟩
  ·obtain rfl:=R.Ai.1 hx
   have ha:a=_:=ha
   subst ha
   exact M.Ab ⟨_,rfl,rfl⟩
  ·exact(R.Af.1 hx).elim
 |fld agg off n x=>
  simp only[Fu]at hx
  rw[R.Ah]at hx
  obtain⟨l,h1,hx⟩:=hx
  split at hx
  case isFalse=>exact(R.Af.1 hx).elim
  rename_i hc
  obtain rfl:=R.Ai.1 hx
  simp only[St.A5,M.Aa]
  refine M.Ag (LB h hg' h1) fun s hs=>?_
  obtain⟨m,rfl,hm⟩:=hs
  have hlen:=Bq hm
  simp only[M.Aa,M.Aj]
  refine⟨by omega,M.Ab ?_⟩
  rw[sub_eq _ _ _ _ rfl]
  exact TY agg (FN hm off n)
 |ixA k x i=>
  simp only[Fu]at hx
  rw[R.Ah]at hx
  obtain⟨n,h1,hx⟩:=hx
  rw[R.Ah]at hx
  obtain⟨c,h2,hx⟩:=hx
  exact Xv h hg hx (GF h hg' h1) (Cb h hg' h2)
 |ixAr n k x i=>
  simp only[Fu]at hx
  rw[R.Ah]at hx
  obtain⟨m,h1,hx⟩:=hx
  rw[R.Ah]at hx
  obtain⟨_,h2,hx⟩:=hx
  rw[R.Ah]at hx
  obtain⟨c,h3,hx⟩:=hx
  have hb:=Bg h2 hg
  simp only[St.A5,M.Aa]
  refine M.Ag (GF h hg' h1) ?_
  rintro _ rfl
  rw[M.Aj]
  refine⟨fun _=>hb,M.Ag (Cb h hg' h3) fun a ha=>?_⟩
  unfold X5 at hx
  split at hx
  ·split at hx
   case isFalse=>exact(R.Af.1 hx).elim
   rename_i hk
   obtain rfl:=R.Ai.1 hx
   have ha:a=_:=ha
   subst ha hk
   exact M.Ab ⟨_,rfl,by simp[TC.av]⟩
  ·split at hx
   case isFalse=>exact(R.Af.1 hx).elim
   rename_i hk
   obtain rfl:=R.Ai.1 hx
   have ha:a=_:=ha
   subst ha hk
   exact M.Ab ⟨_,rfl,by simp[TC.av]⟩
  ·exact(R.Af.1 hx).elim
 |ixS x i=>
  simp only[Fu]at hx
  rw[R.Ah]at hx
  obtain⟨m,h1,hx⟩:=hx
  rw[R.Ah]at hx
  obtain⟨c,h3,hx⟩:=hx
  simp only[St.A5,M.Aa]
  refine M.Ag (GF h hg' h1) ?_
  rintro _ rfl
  refine M.Ag (Cb h hg' h3) fun a ha=>?_
  unfold Y5 at hx
  split at hx
  case h_2=>exact(R.Af.1 hx).elim
  rename_i s
  have ha:a=_:=ha
  subst ha
  rw[R.Ah]at hx
  obtain⟨_,h2,hx⟩:=hx
  have hb:=Bg h2 hg
  obtain rfl:=R.Ai.1 hx
  simp only[M.Aa,M.Aj]
  refine⟨fun _=>by simpa[ByteArray.size]using hb,M.Ab ⟨_,rfl,by simp[TC.av]⟩⟩
 |ixV agg n k x i=>
  simp only[Fu]at hx
  rw[R.Ah]at hx
  obtain⟨m,h1,hx⟩:=hx
  rw[R.Ah]at hx
  obtain⟨l,h2,hx⟩:=hx
  rw[R.Ah]at hx
  obtain⟨d,h3,hx⟩:=hx
  have h3:=R.BE.1 h3
  split at hx
  case isFalse=>exact(R.Af.1 hx).elim
  rename_i hc
  obtain⟨rfl,rfl,hc⟩:=hc
  rw[R.Ah]at hx
  obtain⟨_,h4,hx⟩:=hx
  have hb:=Bg h4 hg
  obtain rfl:=R.Ai.1 hx
  simp only[St.A5,M.Aa]
  refine M.Ag (GF h hg' h1) fun x0 e0=>?_
  rw[e0]
  clear e0 x0
  refine M.Ag (LB h hg' h2) fun s hs=>?_
  obtain⟨as,rfl,ha⟩:=hs
  have hlen:=Bq ha
  simp only[M.Aa,M.Aj]
  refine⟨fun _=>hb,by omega,M.Ab ?_⟩
  rw[sub_eq _ _ _ _ rfl,Nat.mul_one]
  have hlt:m.toNat<n:=by omega
  have hsel:=Me h3 (by simp;omega)
  rw[List.getElem?_take_of_lt hlt]at hsel
  obtain⟨a,ha1,ha2⟩:=FM ha hsel
  rw[Qg ha1]
  exact⟨a,rfl,ha2⟩
 |lenK x=>
  simp only[Fu]at hx
  rw[R.Ah]at hx
  obtain⟨c,h1,hx⟩:=hx
  rw[R.Ah]at hx
  obtain⟨d,h2,hx⟩:=hx
  obtain rfl:=R.Ai.1 hx
  simp only[St.A5,M.Aa]
  refine M.Ag (Cb h hg' h1) fun a ha=>?_
  refine M.Ag (Xx h h2 ha) ?_
  rintro n rfl
  exact M.Ab ⟨_,rfl,rfl⟩
 |lenS x=>
  simp only[Fu]at hx
  rw[R.Ah]at hx
  obtain⟨c,h1,hx⟩:=hx
  simp only[St.A5,M.Aa]
  refine M.Ag (Cb h hg' h1) fun a ha=>?_
  unfold X7 at hx
  split at hx
  case h_2=>exact(R.Af.1 hx).elim
  rename_i s
  have ha:a=_:=ha
  subst ha
  obtain rfl:=R.Ai.1 hx
  exact M.Ab ⟨_,rfl,by simp[TC.av,ByteArray.size]⟩
 |lenC n=>
  simp only[Fu]at hx
  obtain rfl:=R.Ai.1 hx
  exact M.Ab ⟨_,rfl,rfl⟩
 |mm mx x y=>
  simp only[Fu]at hx
  rw[R.Ah]at hx
  obtain⟨c,h1,hx⟩:=hx
  rw[R.Ah]at hx
  obtain⟨d,h2,hx⟩:=hx
  rw[R.Ah]at hx
  obtain⟨r,h3,hx⟩:=hx
  obtain rfl:=R.Ai.1 hx
  simp only[St.A5,M.Aa]
  refine M.Ag (Cb h hg' h1) fun a ha=>?_
  refine M.Ag (Cb h hg' h2) fun b hb=>?_
  unfold mmT at h3
  split at h3
  case h_2=>exact(R.Af.1 h3).elim
  have ha:a=_:=ha
  have hb:b=_:=hb
  subst ha hb
  obtain rfl:=R.Ai.1 h3
  refine M.Ab ⟨_,rfl,?_⟩
  cases mx<;>rfl
 |mkf f caps=>
  simp only[Fu]at hx
  rw[R.Ah]at hx
  obtain⟨l,h1,hx⟩:=hx
  split at hx
  case isFalse=>exact(R.Af.1 hx).elim
  rename_i hf
  obtain rfl:=R.Ai.1 hx
  simp only[St.A5,M.Aa]
  refine M.Ag (QS h hg h1) fun as ha=>?_
  rw[M.Aj]
  exact⟨TH hf ha,M.Ab ⟨as,rfl,ha⟩⟩
 |_=>exact(R.Af.1 hx).elim
end
end Go.VS
namespace Go.VS
def Da(t:Nat)(p:Place):Bool:=match p.root with
 |.slot t' _=>Nat.beq t' t
 |.obj ..=>false
def Ld(p:Place):Bool:=match p.root with
 |.obj ..=>true
 |.slot ..=>false
def Ru(b:Nat)(p:Place):Bool:=match p.root with
 |.obj b' _=>Nat.beq b' b
 |.slot ..=>false
def Gu:Root→Place→Bool
 |.slot t _=>Da t
 |.obj _ _=>Ld
def deep(p:Place):Bool:=match p.path with
 |[]=>false
 |_=>true
def BU:Nat→Bool:=fun _=>false
def TSV.OT:TSV→Nat→TC→TSV
 |.one _,0,d=>.one d
 |.agg l,j,d=>.agg (l.set j d)
 |v,_,_=>v
def DV(F Γ:TS)(qr qa:Place→Bool)(r:Root)(d:TC):Option TS:=
 match r with
 |.slot t j=>match TS.slot F Γ t with
  |some (.val [] v)=>TS.upd F Γ qr qa BU [(t,.val [] ((v.sift qr qa BU).OT j d))] []
  |_=>none
 |.obj b c=>match TS.box F Γ b with
  |some l=>TS.upd F Γ qr qa BU [] [(b,(l.map (TC.sift qr qa BU)).set c d)]
  |none=>none
def Gx(F Γ:TS)(t:Nat)(x:TX):R TS:=bif x.guards t||x.hit (Da t) (Da t) BU then R.fail else R.Cz (TS.upd F Γ (Da t) (Da t) BU [(t,x)] [])
def Ov(F:TS)(mem:Bool)(Γ:TS):TC→R (TC×TS)
 |.ref p _ e w=>match p.path,BP F Γ p.root with
  |[],some (.sl .own tt' e' l)=>if e'.size=e.size then(match w with
    |none=>(do
     let Γ'←R.Cz (DV F Γ (Gu p.root) (Gu p.root) p.root .dead)
     pure (.sl .own tt' e' l,Γ'))
    |some (lo,n)=>(do
     R.need (lo+n≤l.length)
     let Γ'←R.Cz (DV F Γ (Gu p.root) (Gu p.root) p.root .dead)
     pure (.sl .own tt' e' ((l.drop lo).take n),Γ')))
   else R.fail
  |_,_=>R.fail
 |.adr ..=>R.fail
 |.iadr tt e l i c=>bif mem then R.fail else pure (.iadr tt e l i c,Γ)
 |.iadrd tt e l i c n j=>bif mem then R.fail else pure (.iadrd tt e l i c n j,Γ)
 |.dead=>R.fail
 |.sl .own _ _ _=>R.fail
 |c=>pure (c,Γ)
def Kl(F:TS)(mem:Bool)(Γ:TS):List TC→R (List TC×TS)
 |[]=>pure ([],Γ)
 |c::l=>do
  let(d,Γ1)←Ov F mem Γ c
  let(m,Γ2)←Kl F mem Γ1 l
  pure (d::m,Γ2)
def LA(F Γ:TS)(mem:Bool)(x:Opd):R (TSV×TS):=do
 let v←Kn F Γ [] x
 match v with
 |.one c=>do
  let(d,Γ')←Ov F mem Γ c
  pure (.one d,Γ')
 |.agg l=>do
  let(m,Γ')←Kl F mem Γ l
  pure (.agg m,Γ')
 |.clo f l=>bif l.all TC.AP then pure (.clo f l,Γ)else R.fail
section
variable{μ:Nat→Nat}{F Γ Γ':TS}{st:St}{qr qa:Place→Bool}{m:Nat→Bool}
theorem WJ{ns:List (Nat×TX)}{nb:List (Nat×List TC)}(hu:TS.upd F Γ qr qa m ns nb=some Γ')(hss:∀t,(look F.sl t).isSome=true→look Γ.sl t=none)(gd:Gd)(hgd:∀p∈gd,look ns p.1=none):gv F Γ' gd=gv F Γ gd:=by
 have hslot:=Hy hu hss
 refine L9 (t0:=fun t=>look ns t≠none) ?_ gd (fun p hp=>by simpa using hgd p hp)
 intro t ht
 have ht:look ns t=none:=by simpa using ht
 unfold EZ
 rw[hslot t,ht]
 cases hx:TS.slot F Γ t with
 |none=>rfl
 |some x=>exact Om
theorem Kg(v:TSV)(j:Nat){c:TC}(h:(v.sift qr qa m).cells[j]?=some c):∃d,v.cells[j]?=some d∧c=d.sift qr qa m:=by
 cases v with
 |one d=>
  cases j with
  |zero=>simp only[TSV.sift,TSV.cells,List.getElem?_cons_zero,Option.some.injEq]at h⊢;exact⟨d,rfl,h.symm⟩
  |succ j=>simp[TSV.sift,TSV.cells]at h
 |agg l=>
  simp only[TSV.sift,TSV.cells,List.getElem?_map,Option.map_eq_some_iff]at h⊢
  obtain⟨d,h1,h2⟩:=h
  exact⟨d,h1,h2.symm⟩
 |clo f l=>simp[TSV.sift,TSV.cells]at h
theorem FD{ns:List (Nat×TX)}{nb:List (Nat×List TC)}(hu:TS.upd F Γ qr qa m ns nb=some Γ')(hss:∀t,(look F.sl t).isSome=true→look Γ.sl t=none){p:Place}
  (hns:∀t j,p.root=.slot t j→look ns t=none) (hnb:∀b c,p.root=.obj b c→look nb b=none) {n:Nat} (hn:lnT F Γ' p=some n):lnT F Γ p=some n:=by
 unfold lnT atT at hn⊢
 cases hr:p.root with
 |slot t j=>
  rw[hr]at hn
  simp only[BP,Hy hu hss t,hns t j hr]at hn⊢
  cases hs:TS.slot F Γ t with
  |none=>rw[hs]at hn;simp at hn
  |some x=>
   rw[hs]at hn
   cases x with
   |val gd v=>
    cases gd with
    |nil=>
     simp only[Option.map_some,TX.sift]at hn⊢
     cases hc:(v.sift qr qa m).cells[j]?with
     |none=>rw[hc]at hn;simp at hn
     |some c=>
      rw[hc,Option.bind_some]at hn
      obtain⟨d,h1,rfl⟩:=Kg v j hc
      rw[h1,Option.bind_some]
      exact d.Gy p.path n hn
    |cons q gd=>simp[TX.sift]at hn
   |tup l=>simp[TX.sift]at hn
   |gone=>simp[TX.sift]at hn
 |obj b c=>
  rw[hr]at hn
  simp only[BP,Ek hu b,hnb b c hr]at hn⊢
  cases hs:TS.box F Γ b with
  |none=>rw[hs]at hn;simp at hn
  |some l=>
   rw[hs]at hn
   simp only[Option.map_some,Option.bind_some,List.getElem?_map]at hn⊢
   cases hc:l[c]?with
   |none=>rw[hc]at hn;simp at hn
   |some d=>
    rw[hc]at hn
    simp only[Option.map_some,Option.bind_some]at hn⊢
    exact d.Gy p.path n hn
theorem AH{α:Type}(t:Nat)(x:α)(t':Nat):look [(t,x)] t'=if t=t' then some x else none:=by rw[Ao];rfl
theorem Db{t:Nat}{p:Place}:Da t p=true↔∃j,p.root=.slot t j:=by
 unfold Da
 cases p.root with
 |slot t' j=>
  simp only[Root.slot.injEq,exists_and_left,exists_eq',and_true]
  exact⟨fun h=>Nat.eq_of_beq_eq_true h,fun h=>by subst h;simp⟩
 |obj b c=>simp
theorem E7{p:Place}:Ld p=true↔∃b c,p.root=.obj b c:=by
 unfold Ld
 cases p.root<;>simp
theorem Pq{b:Nat}{p:Place}:Ru b p=true↔∃c,p.root=.obj b c:=by
 unfold Ru
 cases p.root with
 |obj t' j=>
  simp only[Root.obj.injEq,exists_and_left,exists_eq',and_true]
  exact⟨fun h=>Nat.eq_of_beq_eq_true h,fun h=>by subst h;simp⟩
 |slot b c=>simp
theorem CG(h:Sim μ F Γ st){t:Nat}{x:TX}(hu:(Gx F Γ t x).ok Γ'){y:TV}(hx:x.tv μ st.ver (lnT F Γ) (gv F Γ) y):Sim μ F Γ' (st.set t y):=by
 unfold Gx at hu
 cases hb:(x.guards t||x.hit (Da t) (Da t) BU)with
 |true=>rw[hb]at hu;exact(R.Af.1 hu).elim
 |false=>
  rw[hb]at hu
  have hu:=R.BE.1 hu
  simp only[Bool.or_eq_false_iff]at hb
  have hver:∀p,Da t p=false→(st.set t y).ver (p.mu μ).root=st.ver (p.mu μ).root:=by
   intro p hp
   cases hr:p.root with
   |slot t' j=>
    have hne:t'≠t:=by rintro rfl;rw[Db.2 ⟨j,hr⟩]at hp;cases hp
    simp only[Place.mu,hr,Root.mu,St.ver,St.set]
    split
    ·simp[upd,hne]
    ·rfl
   |obj b c=>simp only[Place.mu,hr,Root.mu,St.ver,St.set]
  have T:Tr (Da t) (Da t) BU μ μ st.ver (st.set t y).ver (lnT F Γ) (lnT F Γ'):=by
   refine⟨fun _ _=>rfl,fun p hp=>⟨rfl,hver p hp,fun n hn=>?_⟩,fun p hp=>⟨rfl,hver p hp⟩⟩
   refine FD hu h.ss (fun t' j hr=>?_) (fun _ _ _=>rfl) hn
   rw[AH,if_neg]
   rintro rfl
   rw[Db.2 ⟨j,hr⟩]at hp;cases hp
  refine h.upd hu T ?_ ?_ (fun _ _ _ _=>rfl) (fun _ _ h=>nomatch h) (fun _ h=>nomatch h) (fun _ _ _ _ h=>nomatch h) (Nat.le_refl _)
  ·intro t' ht'
   rw[AH]at ht'
   split at ht'
   ·cases ht'
   ·rename_i hne;simp[St.set,upd,Ne.symm hne]
  ·intro t' x' hx'
   rw[AH]at hx'
   split at hx'
   case isFalse=>cases hx'
   rename_i ht
   cases hx'
   subst ht
   have e:(st.set t y).sl t=y:=by simp[St.set,upd]
   rw[e,←TX.Fl hb.2]
   refine T.tv ?_ hx
   rintro gd v rfl
   refine WJ hu h.ss gd fun p hp=>?_
   rw[AH,if_neg]
   intro he
   have:(TX.val gd v).guards t=true:=List.any_eq_true.2 ⟨p,hp,by simp[he]⟩
   rw[this]at hb
   cases hb.1
theorem XN{ver:Root→Nat}{ln:Place→Option Nat}{v:TSV}{s:SV}(hv:v.sv μ ver ln s){j:Nat}{c:TC}(hc:v.cells[j]?=some c){d:TC}{b:AV}(hd:d.av μ ver ln b):(v.OT j d).sv μ ver ln (s.setCell j b):=by
 cases v with
 |one c0=>
  obtain⟨a,rfl,ha⟩:=hv
  cases j with
  |zero=>exact⟨b,rfl,hd⟩
  |succ j=>simp[TSV.cells]at hc
 |agg l=>
  obtain⟨k,rfl,ha⟩:=hv
  exact⟨_,rfl,MW ha j hd⟩
 |clo f l=>simp[TSV.cells]at hc
theorem ME(h:Sim μ F Γ st){r:Root}{c d:TC}(hu:DV F Γ qr qa r d=some Γ')(hr:BP F Γ r=some c){b:AV}{st':St}(hsl:st'.sl=(st.Ar (r.mu μ) b).sl)(hhp:st'.hp=(st.Ar (r.mu μ) b).hp)
  (hver:∀p,qr p=false→st'.ver (p.mu μ).root=st.ver (p.mu μ).root) (hvera:∀p,qa p=false→st'.ver (p.mu μ).root=st.ver (p.mu μ).root)
  (hln:∀p,qr p=false→p.root=r→∀n,lnT F Γ' p=some n→lnT F Γ p=some n) (hd:d.av μ st'.ver (lnT F Γ') b) (hsol:d.AP=true∨∃t j,r=.slot t j):
  Sim μ F Γ' st':=by
 have lnsame:∀{ns:List (Nat×TX)} {nb:List (Nat×List TC)},TS.upd F Γ qr qa BU ns nb=some Γ'→∀p:Place,(∀t j,p.root=.slot t j→look ns t=none)→(∀b c,p.root=.obj b c→look nb b=none)→∀n,lnT F Γ' p=some n→lnT F Γ p=some n:=
  fun hu p h1 h2 n hn=>FD hu h.ss h1 h2 hn
 cases r with
 |slot t j=>
  simp only[DV]at hu
  split at hu
  case h_2=>cases hu
  rename_i v hs
  simp only[BP,hs]at hr
  obtain⟨s,heq,hv⟩:=h.sl t _ hs
  simp only[gv]at heq
  have lnslot:∀p:Place,qr p=false→∀n,lnT F Γ' p=some n→lnT F Γ p=some n:=by
   intro p hp n hn
   cases hpr:p.root with
   |obj b c=>exact lnsame hu p (fun t' j' e=>by rw[hpr]at e;cases e) (fun _ _ _=>rfl) n hn
   |slot t' j'=>
    by_cases ht:t'=t
    ·subst ht
     by_cases hj:j'=j
     ·subst hj;exact hln p hp hpr n hn
     ·unfold lnT atT at hn⊢
      rw[hpr]at hn⊢
      simp only[BP,Hy hu h.ss,AH,if_true,hs]at hn⊢
      have e:((v.sift qr qa BU).OT j d).cells[j']?=(v.sift qr qa BU).cells[j']?:=by
       cases v with
       |one c0=>
        cases j with
        |zero=>cases j' with
         |zero=>exact(hj rfl).elim
         |succ j'=>rfl
        |succ j=>rfl
       |agg l=>simp only[TSV.sift,TSV.OT,TSV.cells];rw[List.getElem?_set_ne (Ne.symm hj)]
       |clo f l=>rfl
      rw[e]at hn
      cases hc:(v.sift qr qa BU).cells[j']?with
      |none=>rw[hc]at hn;simp at hn
      |some c0=>
       rw[hc,Option.bind_some]at hn
       obtain⟨d0,h1,rfl⟩:=Kg v j' hc
       rw[h1,Option.bind_some]
       exact d0.Gy p.path n hn
    ·refine lnsame hu p (fun t'' j'' e=>?_) (fun _ _ _=>rfl) n hn
     rw[hpr]at e;cases e
     rw[AH,if_neg (Ne.symm ht)]
  have T:Tr qr qa BU μ μ st.ver st'.ver (lnT F Γ) (lnT F Γ'):=⟨fun _ _=>rfl,fun p hp=>⟨rfl,hver p hp,lnslot p hp⟩,fun p hp=>⟨rfl,hvera p hp⟩⟩
  refine h.upd hu T ?_ ?_ (fun b l _ _=>by rw[hhp];rfl) (fun _ _ h=>nomatch h) (fun _ h=>nomatch h) (fun _ _ _ _ h=>nomatch h) (by rw[hhp];exact Nat.le_refl _)
  ·intro t' ht'
   rw[AH]at ht'
   split at ht'
   ·cases ht'
   ·rename_i hne;rw[hsl];simp[Root.mu,St.Ar,upd,Ne.symm hne]
  ·intro t' x' hx'
   rw[AH]at hx'
   split at hx'
   case isFalse=>cases hx'
   rename_i ht
   cases hx'
   subst ht
   rw[hsl]
   have e:(st.Ar ((Root.slot t j).mu μ) b).sl t=.val true (s.setCell j b):=by simp[Root.mu,St.Ar,upd,heq,TV.setCell]
   rw[e]
   refine⟨_,rfl,?_⟩
   have hc:∃c',(v.sift qr qa BU).cells[j]?=some c':=by
    cases v with
    |one c0=>cases j with
     |zero=>exact⟨_,rfl⟩
     |succ j=>simp[TSV.cells]at hr
    |agg l=>simp only[TSV.sift,TSV.cells,List.getElem?_map]at hr⊢;rw[hr];exact⟨_,rfl⟩
    |clo f l=>simp[TSV.cells]at hr
   obtain⟨c',hc'⟩:=hc
   exact XN (T.sv hv) hc' hd
 |obj b0 c0=>
  simp only[DV]at hu
  split at hu
  case h_2=>cases hu
  rename_i l hs
  simp only[BP,hs,Option.bind_some]at hr
  obtain⟨k,q1,q2,q3,q4⟩:=h.bx b0 l hs
  have lnslot:∀p:Place,qr p=false→∀n,lnT F Γ' p=some n→lnT F Γ p=some n:=by
   intro p hp n hn
   cases hpr:p.root with
   |slot b c=>exact lnsame hu p (fun _ _ _=>rfl) (fun t' j' e=>by rw[hpr]at e;cases e) n hn
   |obj t' j'=>
    by_cases ht:t'=b0
    ·subst ht
     by_cases hj:j'=c0
     ·subst hj;exact hln p hp hpr n hn
     ·unfold lnT atT at hn⊢
      rw[hpr]at hn⊢
      simp only[BP,Ek hu,AH,if_true,hs,Option.bind_some]at hn⊢
      rw[List.getElem?_set_ne (Ne.symm hj),List.getElem?_map]at hn
      cases hc:l[j']?with
      |none=>rw[hc]at hn;simp at hn
      |some d0=>
       rw[hc]at hn
       simp only[Option.map_some,Option.bind_some]at hn⊢
       exact d0.Gy p.path n hn
    ·refine lnsame hu p (fun _ _ _=>rfl) (fun t'' j'' e=>?_) n hn
     rw[hpr]at e;cases e
     rw[AH,if_neg (Ne.symm ht)]
  have T:Tr qr qa BU μ μ st.ver st'.ver (lnT F Γ) (lnT F Γ'):=⟨fun _ _=>rfl,fun p hp=>⟨rfl,hver p hp,lnslot p hp⟩,fun p hp=>⟨rfl,hvera p hp⟩⟩
  have ehp:st'.hp=st.hp.set (μ b0) (k.set c0 b):=by rw[hhp];simp[Root.mu,St.Ar,q1]
  have esl:st'.sl=st.sl:=by rw[hsl];simp[Root.mu,St.Ar,q1]
  refine h.upd hu T (fun t _=>by rw[esl]) (fun _ _ h=>nomatch h) ?_ ?_ (fun _ h=>nomatch h) ?_ (by rw[ehp];exact Nat.le_refl _)
  ·intro b l' hb hl'
   rw[AH]at hb
   split at hb
   ·cases hb
   ·rename_i hne
    rw[ehp]
    have:μ b≠μ b0:=fun e=>hne (h.inj b0 b l l' hs hl' e.symm)
    simp[Heap.set,upd,this]
  ·intro b l' hb
   rw[AH]at hb
   split at hb
   case isFalse=>cases hb
   rename_i hbb
   cases hb
   subst hbb
   refine⟨k.set c0 b,by rw[ehp];simp[Heap.set,upd],MW (T.avs q2) c0 hd,by rw[ehp];exact q3,?_⟩
   have hds:d.AP=true:=hsol.resolve_right (fun⟨t,j,e⟩=>nomatch e)
   rw[List.all_eq_true]
   intro x hx
   rcases List.mem_or_eq_of_mem_set hx with hx|rfl
   ·obtain⟨y,hy,rfl⟩:=List.mem_map.1 hx
    exact TC.Kh (List.all_eq_true.1 q4 y hy)
   ·exact hds
  ·intro b b' l1 l' hb hb' he
   rw[AH]at hb
   split at hb
   case isFalse=>cases hb
   rename_i hbb
   subst hbb
   rw[Ek hu b',AH]at hb'
   by_cases e:b0=b'
   ·exact e
   ·rw[if_neg e]at hb'
    simp only[Option.map_eq_some_iff]at hb'
    obtain⟨l2,h2,_⟩:=hb'
    exact h.inj _ _ _ _ hs h2 he
end
end Go.VS
namespace Go.VS
theorem HF:∀(rs rs':List Root) (st:St),st.bumps (rs++rs')=(st.bumps rs).bumps rs'
 |[],_,_=>rfl
 |r::rs,rs',st=>HF rs rs' (st.bump r)
theorem Sv{st st':St}(h1:st'.vs=st.vs)(h2:st'.hv=st.hv)(r:Root):(st'.bump r).vs=(st.bump r).vs∧(st'.bump r).hv=(st.bump r).hv:=by
 cases r<;>simp[St.bump,h1,h2]
theorem Ih:∀(rs:List Root) {st st':St},st'.vs=st.vs→st'.hv=st.hv→(st'.bumps rs).vs=(st.bumps rs).vs∧(st'.bumps rs).hv=(st.bumps rs).hv
 |[],_,_,h1,h2=>⟨h1,h2⟩
 |r::rs,st,st',h1,h2=>by
  have:=Sv h1 h2 r
  exact Ih rs this.1 this.2
theorem CZ(st:St)(r:Root)(b:AV):(st.Ar r b).vs=st.vs∧(st.Ar r b).hv=st.hv:=by
 cases r with
 |slot t j=>exact⟨rfl,rfl⟩
 |obj o c=>simp only[St.Ar];split<;>exact⟨rfl,rfl⟩
theorem IL{st1 st2:St}(h1:st1.sl=st2.sl)(h2:st1.hp=st2.hp)(r:Root)(b:AV):(st1.Ar r b).sl=(st2.Ar r b).sl∧(st1.Ar r b).hp=(st2.Ar r b).hp:=by
 cases r with
 |slot t j=>simp[St.Ar,h1,h2]
 |obj o c=>simp only[St.Ar,h2];split<;>simp[h1,h2]
theorem Nj(st:St)(r r':Root)(h:∀t j,r=.slot t j→∀j',r'≠.slot t j')(h2:∀o c,r=.obj o c→∀o' c',r'≠.obj o' c'):(st.bump r).ver r'=st.ver r':=by
 cases r with
 |slot t j=>
  cases r' with
  |slot t' j'=>
   have:t'≠t:=by rintro rfl;exact h _ _ rfl _ rfl
   simp[St.bump,St.ver,upd,this]
  |obj=>rfl
 |obj o c=>
  cases r' with
  |slot=>rfl
  |obj o' c'=>exact(h2 _ _ rfl _ _ rfl).elim
theorem Kb(st:St){μ:Nat→Nat}{r:Root}{p:Place}(h:Gu r p=false):(st.bump (r.mu μ)).ver (p.mu μ).root=st.ver (p.mu μ).root:=by
 refine Nj st _ _ ?_ ?_
 ·intro t j e j' e'
  cases r with
  |slot t0 j0=>
   have e1:t0=t:=by simpa[Root.mu]using congrArg (fun r=>match r with|Root.slot t _=>t|_=>0) e
   subst e1
   have:Da t0 p=false:=h
   cases hr:p.root with
   |slot t1 j1=>
    simp only[Place.mu,hr,Root.mu,Root.slot.injEq]at e'
    rw[Db.2 ⟨j1,by rw[hr,e'.1]⟩]at this;cases this
   |obj b c=>simp[Place.mu,hr,Root.mu]at e'
  |obj b c=>cases e
 ·intro t j e j' c' e'
  cases r with
  |slot t0 j0=>cases e
  |obj b c=>
   have:Ld p=false:=h
   cases hr:p.root with
   |slot t1 j1=>simp[Place.mu,hr,Root.mu]at e'
   |obj b' c2=>rw[E7.2 ⟨b',c2,hr⟩]at this;cases this
theorem Rv{r:Root}{p:Place}(h:p.root=r):Gu r p=true:=by
 cases r with
 |slot t j=>exact Db.2 ⟨j,h⟩
 |obj b c=>exact E7.2 ⟨b,c,h⟩
section
variable{μ:Nat→Nat}{F Γ Γ':TS}{st:St}{qr qa:Place→Bool}
theorem Ln(hss:∀t,(look F.sl t).isSome=true→look Γ.sl t=none){r:Root}{d:TC}(hu:DV F Γ qr qa r d=some Γ'){c:TC}(hc:BP F Γ' r=some c):c=d:=by
 cases r with
 |slot t j=>
  simp only[DV]at hu
  split at hu
  case h_2=>cases hu
  rename_i v hs
  simp only[BP,Hy hu hss,AH,if_true]at hc
  cases v with
  |one c0=>
   cases j with
   |zero=>simpa[TSV.sift,TSV.OT,TSV.cells]using hc.symm
   |succ j=>simp[TSV.sift,TSV.OT,TSV.cells]at hc
  |agg l=>
   simp only[TSV.sift,TSV.OT,TSV.cells]at hc
   rw[List.getElem?_set]at hc
   simp only[if_true]at hc
   split at hc
   ·exact(Option.some.inj hc).symm
   ·cases hc
  |clo f l=>simp[TSV.sift,TSV.OT,TSV.cells]at hc
 |obj b0 c0=>
  simp only[DV]at hu
  split at hu
  case h_2=>cases hu
  simp only[BP,Ek hu,AH,if_true,Option.bind_some]at hc
  rw[List.getElem?_set]at hc
  simp only[if_true]at hc
  split at hc
  ·exact(Option.some.inj hc).symm
  ·cases hc
theorem SS(hss:∀t,(look F.sl t).isSome=true→look Γ.sl t=none){r:Root}{d:TC}(hu:DV F Γ qr qa r d=some Γ'){p:Place}{n:Nat}(hp:p.root=r→lnT F Γ p=some n)(hn:lnT F Γ' p=some n):lnT F Γ p=some n:=by
 by_cases hpr:p.root=r
 ·exact hp hpr
 cases r with
 |slot t j=>
  simp only[DV]at hu
  split at hu
  case h_2=>cases hu
  rename_i v hs
  cases hr:p.root with
  |obj b c=>exact FD hu hss (fun t' j' e=>by rw[hr]at e;cases e) (fun _ _ _=>rfl) hn
  |slot t' j'=>
   by_cases ht:t'=t
   ·subst ht
    have hj:j≠j':=by rintro rfl;exact hpr hr
    unfold lnT atT at hn⊢
    rw[hr]at hn⊢
    simp only[BP,Hy hu hss,AH,if_true,hs]at hn⊢
    have e:((v.sift qr qa BU).OT j d).cells[j']?=(v.sift qr qa BU).cells[j']?:=by
     cases v with
     |one c0=>
      cases j with
      |zero=>cases j' with
       |zero=>exact(hj rfl).elim
       |succ j'=>rfl
      |succ j=>rfl
     |agg l=>simp only[TSV.sift,TSV.OT,TSV.cells];rw[List.getElem?_set_ne hj]
     |clo f l=>rfl
    rw[e]at hn
    cases hc:(v.sift qr qa BU).cells[j']?with
    |none=>rw[hc]at hn;simp at hn
    |some c0=>
     rw[hc,Option.bind_some]at hn
     obtain⟨d0,h1,rfl⟩:=Kg v j' hc
     rw[h1,Option.bind_some]
     exact d0.Gy p.path n hn
   ·refine FD hu hss (fun t'' j'' e=>?_) (fun _ _ _=>rfl) hn
    rw[hr]at e;cases e
    rw[AH,if_neg (Ne.symm ht)]
 |obj b0 c0=>
  simp only[DV]at hu
  split at hu
  case h_2=>cases hu
  rename_i l hs
  cases hr:p.root with
  |slot b c=>exact FD hu hss (fun _ _ _=>rfl) (fun t' j' e=>by rw[hr]at e;cases e) hn
  |obj t' j'=>
   by_cases ht:t'=b0
   ·subst ht
    have hj:c0≠j':=by rintro rfl;exact hpr hr
    unfold lnT atT at hn⊢
    rw[hr]at hn⊢
    simp only[BP,Ek hu,AH,if_true,hs,Option.bind_some]at hn⊢
    rw[List.getElem?_set_ne hj,List.getElem?_map]at hn
    cases hc:l[j']?with
    |none=>rw[hc]at hn;simp at hn
    |some d0=>
     rw[hc]at hn
     simp only[Option.map_some,Option.bind_some]at hn⊢
     exact d0.Gy p.path n hn
   ·refine FD hu hss (fun _ _ _=>rfl) (fun t'' j'' e=>?_) hn
    rw[hr]at e;cases e
    rw[AH,if_neg (Ne.symm ht)]
theorem Vt{ver:Root→Nat}{ln ln':Place→Option Nat}(hl:∀p n,ln' p=some n→ln p=some n){c:TC}{a:AV}(h:c.av μ ver ln a):c.av μ ver ln' a:=by
 cases c with
 |ref p tt e w=>
  cases w with
  |none=>obtain⟨m,h1,h2⟩:=h;exact⟨m,h1,fun n hn=>h2 n (hl p n hn)⟩
  |some x=>exact h
 |_=>exact h
theorem Ni{ver:Root→Nat}{ln ln':Place→Option Nat}(hl:∀p n,ln' p=some n→ln p=some n):∀{l:List TC} {k:List AV},avs μ ver ln l k→avs μ ver ln' l k
 |[],[],_=>trivial
 |c::l,a::k,h=>⟨Vt hl h.1,Ni hl h.2⟩
 |[],_::_,h=>h.elim
 |_::_,[],h=>h.elim
theorem Mi{rs:List Root}{v0:Root→Nat}{mem:Bool}(h:Sim μ F Γ (st.bumps rs)){c c':TC}{a:AV}(ha:c.av μ v0 (lnT F Γ) a)(hx:(Ov F mem Γ c).ok (c',Γ')):
  (st.DR v0 mem a).holds fun(b,st',rs')=>c'.av μ v0 (lnT F Γ') b∧Sim μ F Γ' (st'.bumps (rs++rs'))∧∀p n,lnT F Γ' p=some n→lnT F Γ p=some n:=by
 have same:(st.DR v0 mem a=pure (a,st,[]))→c'=c→Γ'=Γ→(st.DR v0 mem a).holds fun(b,st',rs')=>c'.av μ v0 (lnT F Γ') b∧Sim μ F Γ' (st'.bumps (rs++rs'))∧∀p n,lnT F Γ' p=some n→lnT F Γ p=some n:=by
  rintro e rfl rfl
  rw[e]
  exact M.Ab ⟨ha,by simpa using h,fun _ _ h=>h⟩
 cases c with
 |ref p tt0 e w=>
  simp only[Ov]at hx
  split at hx
  case h_2=>exact(R.Af.1 hx).elim
  rename_i tt' e' l hp hr
  split at hx
  case isFalse=>exact(R.Af.1 hx).elim
  rename_i hk
  have hat:(atT F Γ p)=some (.sl .own tt' e' l):=by simp[atT,hr,hp,TC.atS]
  have hln:lnT F Γ p=some l.length:=by simp[lnT,hat,TC.len?]
  obtain⟨b0,hb0,hbv⟩:=Od h hr
  have hbv:b0=_:=hbv
  subst hbv
  have hroot:st.root (p.root.mu μ)=some (.sl .own e'.size (l.map (e'.enc tt'))):=by
   rw[←hb0]
   have:=A1 st rs
   cases p.root with
   |slot t j=>simp[Root.mu,St.root,this.1]
   |obj b c=>simp[Root.mu,St.root,this.2]
  have hstat:st.at (p.mu μ)=some (.sl .own e'.size (l.map (e'.enc tt'))):=by
   simp only[St.at,Place.mu,hroot,hp,Option.bind_some];rfl
  have hput:st.putAt (p.mu μ) .dead=st.Ar (p.root.mu μ) .dead:=by
   simp only[St.putAt,Place.mu,hroot,hp,AV.put]
  have fin:∀{Γ2:TS},DV F Γ (Gu p.root) (Gu p.root) p.root .dead=some Γ2→Sim μ F Γ2 ((st.putAt (p.mu μ) .dead).bumps (rs++[p.root.mu μ]))∧∀q n,lnT F Γ2 q=some n→lnT F Γ q=some n:=by
   intro Γ2 hu
   have dead:∀q:Place,q.root=p.root→lnT F Γ2 q=none:=by
    intro q hq
    unfold lnT atT
    rw[hq]
    cases hc:BP F Γ2 p.root with
    |none=>rfl
    |some c=>
     have:=Ln h.ss hu hc
     subst this
     cases q.path<;>simp[TC.atS,TC.len?]
   refine⟨?_,?_⟩
   ·refine ME h hu hr (b:=.dead) ?_ ?_ ?_ ?_ ?_ trivial (.inl rfl)
    ·rw[(A1 _ _).1,hput]
     exact(IL (A1 st rs).1.symm (A1 st rs).2.symm _ _).1
    ·rw[(A1 _ _).2,hput]
     exact(IL (A1 st rs).1.symm (A1 st rs).2.symm _ _).2
    ·intro q hq
     rw[HF,hput]
     have e1:=Ih rs (CZ st (p.root.mu μ) .dead).1 (CZ st (p.root.mu μ) .dead).2
     rw[show(((st.Ar (p.root.mu μ) .dead).bumps rs).bumps [p.root.mu μ])=((st.Ar (p.root.mu μ) .dead).bumps rs).bump (p.root.mu μ)from rfl,Kb _ hq]
     exact Dn e1.1 e1.2 _
    ·intro q hq
     rw[HF,hput]
     have e1:=Ih rs (CZ st (p.root.mu μ) .dead).1 (CZ st (p.root.mu μ) .dead).2
     rw[show(((st.Ar (p.root.mu μ) .dead).bumps rs).bumps [p.root.mu μ])=((st.Ar (p.root.mu μ) .dead).bumps rs).bump (p.root.mu μ)from rfl,Kb _ hq]
     exact Dn e1.1 e1.2 _
    ·intro q hq hqr n hn
     rw[dead q hqr]at hn;cases hn
   ·intro q n hn
    refine SS h.ss hu (fun hq=>?_) hn
    rw[dead q hq]at hn;cases hn
  cases w with
  |none=>
   have ha:a=_:=IJ ha hln
   subst ha
   dsimp only at hx
   rw[R.Ah]at hx
   obtain⟨Γ2,h1,hx⟩:=hx
   have h1:=R.BE.1 h1
   have:=R.Ai.1 hx
   cases this
   obtain⟨f1,f2⟩:=fin h1
   simp only[St.DR,hstat,M.Aa,M.Aj]
   refine⟨trivial,hk,by simp,M.Ab ⟨?_,f1,f2⟩⟩
   show AV.sl .own _ _=_
   rw[hk]
   unfold window
   simp
  |some y=>
   obtain⟨lo,n⟩:=y
   have ha:a=_:=ha
   subst ha
   dsimp only at hx
   rw[R.Ah]at hx
   obtain⟨_,h0,hx⟩:=hx
   have h0:=R.Fj.1 h0
   rw[R.Ah]at hx
   obtain⟨Γ2,h1,hx⟩:=hx
   have h1:=R.BE.1 h1
   have:=R.Ai.1 hx
   cases this
   obtain⟨f1,f2⟩:=fin h1
   simp only[St.DR,hstat,M.Aa,M.Aj]
   refine⟨trivial,hk,by simpa using h0,M.Ab ⟨?_,f1,f2⟩⟩
   show AV.sl .own _ _=_
   rw[hk]
   unfold window
   split
   ·rename_i he
    obtain⟨h3,h4⟩:=he
    subst h3
    simp only[List.length_map]at h4
    subst h4
    simp
   ·simp
 |adr p tt e i c=>exact(R.Af.1 hx).elim
 |iadr tt e l i c=>
  have ha:a=_:=ha
  subst ha
  cases mem with
  |true=>exact(R.Af.1 hx).elim
  |false=>have:=R.Ai.1 hx;cases this;exact same rfl rfl rfl
 |iadrd tt e l i c n j=>
  have ha:a=_:=ha
  subst ha
  cases mem with
  |true=>exact(R.Af.1 hx).elim
  |false=>have:=R.Ai.1 hx;cases this;exact same rfl rfl rfl
 |dead=>exact(R.Af.1 hx).elim
 |sl τ tt e l=>
  have ha:a=_:=ha
  subst ha
  cases τ with
  |own=>exact(R.Af.1 hx).elim
  |imm=>have:=R.Ai.1 hx;cases this;exact same rfl rfl rfl
  |brw=>have:=R.Ai.1 hx;cases this;exact same rfl rfl rfl
 |_=>
  have ha:a=_:=ha
  subst ha
  have:=R.Ai.1 hx
  cases this
  exact same rfl rfl rfl
theorem Km{v0:Root→Nat}{mem:Bool}:∀{l l':List TC} {as:List AV} {rs:List Root} {st:St} {Γ Γ':TS},Sim μ F Γ (st.bumps rs)→avs μ v0 (lnT F Γ) l as→(Kl F mem Γ l).ok (l',Γ')→
  (st.B5 v0 mem as).holds fun(bs,st',rs')=>avs μ v0 (lnT F Γ') l' bs∧Sim μ F Γ' (st'.bumps (rs++rs'))∧(∀p n,lnT F Γ' p=some n→lnT F Γ p=some n)∧bs.length=as.length
 |[],l',[],rs,st,Γ,Γ',h,ha,hx=>by
  have:=R.Ai.1 hx
  cases this
  simp only[St.B5]
  exact M.Ab ⟨trivial,by simpa using h,fun _ _ h=>h,rfl⟩
 |c::l,l',a::as,rs,st,Γ,Γ',h,ha,hx=>by
  simp only[Kl]at hx
  rw[R.Ah]at hx
  obtain⟨⟨d,Γ1⟩,h1,hx⟩:=hx
  rw[R.Ah]at hx
  obtain⟨⟨m,Γ2⟩,h2,hx⟩:=hx
  have:=R.Ai.1 hx
  cases this
  simp only[St.B5,M.Aa]
  refine M.Ag (Mi h ha.1 h1) ?_
  rintro⟨b,st1,rs1⟩ ⟨k1,k2,k3⟩
  refine M.Ag (Km k2 (Ni k3 ha.2) h2) ?_
  rintro⟨bs,st2,rs2⟩ ⟨m1,m2,m3,m4⟩
  exact M.Ab ⟨⟨Vt m3 k1,m1⟩,by rw[←List.append_assoc];exact m2,fun p n hn=>k3 p n (m3 p n hn),by simp[m4]⟩
 |[],_,_::_,_,_,_,_,_,h,_=>h.elim
 |_::_,_,[],_,_,_,_,_,h,_=>h.elim
def TSV.Gz:TSV→Bool
 |.one c=>c.AP
 |.agg l=>l.all TC.AP
 |.clo _ l=>l.all TC.AP
theorem IW{mem:Bool}{c c':TC}(hx:(Ov F mem Γ c).ok (c',Γ')):c'.AP=true:=by
 cases c with
 |ref p tt0 e w=>
  simp only[Ov]at hx
  split at hx
  case h_2=>exact(R.Af.1 hx).elim
  split at hx
  case isFalse=>exact(R.Af.1 hx).elim
  cases w with
  |none=>
   dsimp only at hx
   rw[R.Ah]at hx
   obtain⟨Γ2,h1,hx⟩:=hx
   have:=R.Ai.1 hx
   cases this
   rfl
  |some y=>
   obtain⟨lo,n⟩:=y
   dsimp only at hx
   rw[R.Ah]at hx
   obtain⟨_,h0,hx⟩:=hx
   rw[R.Ah]at hx
   obtain⟨Γ2,h1,hx⟩:=hx
   have:=R.Ai.1 hx
   cases this
   rfl
 |adr p tt e i c=>exact(R.Af.1 hx).elim
 |iadr tt e l i c=>
  cases mem with
  |true=>exact(R.Af.1 hx).elim
  |false=>have:=R.Ai.1 hx;cases this;rfl
 |iadrd tt e l i c n j=>
  cases mem with
  |true=>exact(R.Af.1 hx).elim
  |false=>have:=R.Ai.1 hx;cases this;rfl
 |dead=>exact(R.Af.1 hx).elim
 |sl τ tt e l=>
  cases τ with
  |own=>exact(R.Af.1 hx).elim
  |imm=>have:=R.Ai.1 hx;cases this;rfl
  |brw=>have:=R.Ai.1 hx;cases this;rfl
 |_=>
  have:=R.Ai.1 hx
  cases this
  rfl
theorem HV{mem:Bool}:∀{l l':List TC} {Γ Γ':TS},(Kl F mem Γ l).ok (l',Γ')→l'.all TC.AP=true
 |[],l',Γ,Γ',hx=>by
  have:=R.Ai.1 hx
  cases this
  rfl
 |c::l,l',Γ,Γ',hx=>by
  simp only[Kl]at hx
  rw[R.Ah]at hx
  obtain⟨⟨d,Γ1⟩,h1,hx⟩:=hx
  rw[R.Ah]at hx
  obtain⟨⟨m,Γ2⟩,h2,hx⟩:=hx
  have:=R.Ai.1 hx
  cases this
  simp[IW h1,HV h2]
theorem Hw{ver ver':Root→Nat}{ln ln':Place→Option Nat}{c:TC}(hs:c.AP=true){a:AV}(h:c.av μ ver ln a):c.av μ ver' ln' a:=by
 cases c with
 |ref=>cases hs
 |adr=>cases hs
 |_=>exact h
theorem DW{ver ver':Root→Nat}{ln ln':Place→Option Nat}:∀{l:List TC},l.all TC.AP=true→∀{k:List AV},avs μ ver ln l k→avs μ ver' ln' l k
 |[],_,[],_=>trivial
 |c::l,hs,a::k,h=>by
  simp only[List.all_cons,Bool.and_eq_true]at hs
  exact⟨Hw hs.1 h.1,DW hs.2 h.2⟩
 |[],_,_::_,h=>h.elim
 |_::_,_,[],h=>h.elim
theorem Lv{ver ver':Root→Nat}{ln ln':Place→Option Nat}{v:TSV}(hs:v.Gz=true){s:SV}(h:v.sv μ ver ln s):v.sv μ ver' ln' s:=by
 cases v with
 |one c=>obtain⟨a,e,h⟩:=h;exact⟨a,e,Hw hs h⟩
 |agg l=>obtain⟨a,e,h⟩:=h;exact⟨a,e,DW hs h⟩
 |clo f l=>obtain⟨a,e,h⟩:=h;exact⟨a,e,DW hs h⟩
theorem Hx(h:Sim μ F Γ st){mem:Bool}{x:Opd}{v:TSV}(hx:(LA F Γ mem x).ok (v,Γ')):
  v.Gz=true∧(st.take mem x).holds fun(s,st')=>v.sv μ st'.ver (lnT F Γ') s∧Sim μ F Γ' st':=by
 unfold LA at hx
 rw[R.Ah]at hx
 obtain⟨v0,h1,hx⟩:=hx
 have hu:=El h (b:=true) (fun _=>rfl) h1
 cases v0 with
 |one c=>
  dsimp only at hx
  rw[R.Ah]at hx
  obtain⟨⟨d,Γ2⟩,h2,hx⟩:=hx
  have:=R.Ai.1 hx
  cases this
  have hs:=IW h2
  refine⟨hs,?_⟩
  simp only[St.take,M.Aa]
  refine M.Ag hu ?_
  rintro _ ⟨a,rfl,ha⟩
  simp only[SV.cells,St.B5,M.Aa]
  have h0:Sim μ F Γ (st.bumps []):=h
  refine M.Ag (Mi h0 ha h2) ?_
  rintro⟨b,st1,rs1⟩ ⟨k1,k2,k3⟩
  refine M.Ab (M.Ab (M.Ab ?_))
  simp only[List.append_nil,SV.with,List.headD]
  exact⟨⟨b,rfl,Hw hs k1⟩,k2⟩
 |agg l=>
  dsimp only at hx
  rw[R.Ah]at hx
  obtain⟨⟨d,Γ2⟩,h2,hx⟩:=hx
  have:=R.Ai.1 hx
  cases this
  have hs:=HV h2
  refine⟨hs,?_⟩
  simp only[St.take,M.Aa]
  refine M.Ag hu ?_
  rintro _ ⟨a,rfl,ha⟩
  have h0:Sim μ F Γ (st.bumps []):=h
  refine M.Ag (Km h0 ha h2) ?_
  rintro⟨b,st1,rs1⟩ ⟨k1,k2,k3,k4⟩
  refine M.Ab ?_
  exact⟨⟨b,rfl,DW hs k1⟩,k2⟩
 |clo f l=>
  dsimp only at hx
  cases hs:l.all TC.AP with
  |false=>rw[hs]at hx;exact(R.Af.1 hx).elim
  |true=>
   rw[hs]at hx
   have:=R.Ai.1 hx
   cases this
   refine⟨hs,?_⟩
   simp only[St.take,M.Aa]
   refine M.Ag hu ?_
   rintro _ ⟨k,rfl,ha⟩
   simp only[SV.cells,St.B5,St.DR,M.Aa]
   refine M.Ab (M.Ab (M.Ab (M.Ab ?_)))
   exact⟨⟨k,rfl,ha⟩,h⟩
end
end Go.VS
namespace Go.VS
mutual
theorem Co.trans:∀{a b:AV},Co a b→∀{c:AV},Co b c→Co a c
 |_,_,.refl _,_,h=>h
 |_,_,.nil τ k,_,h=>by
  cases h with
  |refl=>exact .nil τ k
  |sl _ τ' _ _ ys _ hl=>cases hl;exact .nil τ' k
 |_,_,.sl τ τ' k xs ys ht hl,_,h=>by
  cases h with
  |refl=>exact .sl τ τ' k xs ys ht hl
  |sl _ τ2 _ _ zs ht2 hl2=>
   refine .sl τ τ2 k xs zs ?_ (B6.trans hl hl2)
   rcases ht with rfl|⟨rfl,rfl⟩
   ·exact ht2
   ·rcases ht2 with h|⟨h,_⟩
    ·exact .inr ⟨rfl,h.symm⟩
    ·cases h
theorem CoL.trans:∀{a b:List AV},CoL a b→∀{c:List AV},CoL b c→CoL a c
 |_,_,.nil,_,h=>h
 |_,_,.cons _ _ _ _ h t,_,h2=>by
  cases h2 with
  |cons _ c _ n h' t'=>exact .cons _ _ _ _ (Co.trans h h') (CoL.trans t t')
theorem B6.trans:∀{a b:List (List AV)},B6 a b→∀{c:List (List AV)},B6 b c→B6 a c
 |_,_,.nil,_,h=>h
 |_,_,.cons _ _ _ _ h t,_,h2=>by
  cases h2 with
  |cons _ c _ n h' t'=>exact .cons _ _ _ _ (CoL.trans h h') (B6.trans t t')
end
theorem CoL.set{l m:List AV}(h:CoL l m)(j:Nat){a b:AV}(hab:Co a b):CoL (l.set j a) (m.set j b):=by
 induction l generalizing m j with
 |nil=>cases h;exact .nil
 |cons c l ih=>
  cases h with
  |cons _ d _ m h t=>
   cases j with
   |zero=>exact .cons _ _ _ _ hab t
   |succ j=>exact .cons _ _ _ _ h (ih t j)
theorem B6.set{l m:List (List AV)}(h:B6 l m)(j:Nat){a b:List AV}(hab:CoL a b):B6 (l.set j a) (m.set j b):=by
 induction l generalizing m j with
 |nil=>cases h;exact .nil
 |cons c l ih=>
  cases h with
  |cons _ d _ m h t=>
   cases j with
   |zero=>exact .cons _ _ _ _ hab t
   |succ j=>exact .cons _ _ _ _ h (ih t j)
theorem B6.append:∀{l m:List (List AV)},B6 l m→∀{l' m':List (List AV)},B6 l' m'→B6 (l++l') (m++m')
 |_,_,.nil,_,_,h=>h
 |_,_,.cons a b l m h t,_,_,k=>.cons a b _ _ h (t.append k)
def Ms(e e':BT)(l:List e'.D):Option (List e.D):=if h:e'=e then some (h▸l)else none
def W9(e:BT)(tt:TT)(zero:List Value):Option e.D:=e.K4 tt (zero.map G6)
def TT.D0:TT→Bool
 |.leaf=>true
 |.node .own _=>false
 |.node _ _=>true
 |.pair a b=>a.D0&&b.D0
def Ow(F:TS)(e:BT)(tt:TT):TS→List e.D→List (Nat×Opd)→R (List e.D×TS)
 |Γ,l,[]=>pure (l,Γ)
 |Γ,l,(i,x)::r=>do
  let(v,Γ1)←LA F Γ true x
  match v with
  |.clo _ _=>R.fail
  |v=>do
   let y←R.Cz (e.K4 tt v.cells)
   Ow F e tt Γ1 (l.set i y) r
def YP(Γ:TS)(e:BT)(tt:TT)(k:Nat):Option (Nat×Nat)→TC→R (List e.D×TS)
 |none,.sl .own tt2 e2 l2=>if tt2.co tt∧tt2.D0∧k=e.size then(do
   let l'←R.Cz (Ms e e2 l2)
   pure (l',Γ))
  else R.fail
 |some (lo,n),.sl .own tt2 e2 l2=>if tt2.co tt∧tt2.D0∧k=e.size then(do
   let l'←R.Cz (Ms e e2 l2)
   R.need (lo+n≤l'.length)
   pure ((l'.drop lo).take n,Γ))
  else R.fail
 |_,_=>R.fail
def YO(F Γ:TS)(e:BT)(tt:TT)(m:Nat):TC→R (List e.D×TS)
 |.sl .own tt' e' l=>if tt'.co tt then(do
   let l'←R.Cz (Ms e e' l)
   let Γ'←Gx F Γ m .gone
   pure (l',Γ'))
  else R.fail
 |.sl _ tt' e' l=>if tt'.co tt then(do
   let l'←R.Cz (Ms e e' l)
   pure (l',Γ))
  else R.fail
 |.nil=>pure ([],Γ)
 |.ref p _ e' w=>do
  let d←atR F Γ p
  YP Γ e tt e'.size w d
 |_=>R.fail
def YQ(F Γ:TS)(e:BT)(tt:TT):Opd→R (List e.D×TS)
 |.c (.slice none 0 0)=>pure ([],Γ)
 |.t m=>match TS.slot F Γ m with
  |some (.val [] (.one c))=>YO F Γ e tt m c
  |_=>R.fail
 |_=>R.fail
def VA(e:BT)(tt:TT):TSV→R (List e.D)
 |.one (.sl .own tt' e' l)=>if tt'.co tt then R.Cz (Ms e e' l)else R.fail
 |.one .nil=>pure []
 |_=>R.fail
def ownish:TC→Bool
 |.sl .own _ _ _=>true
 |.dead=>true
 |_=>false
def CI(bump:Bool)(b c n:Nat)(p:Place):Bool:=match p.root with
 |.obj b' c'=>bump||(Nat.beq b' b&&(Nat.ble c c'&&Nat.blt c' (c+n)))
 |.slot ..=>false
def Sc(i:Nat)(d:TC):Nat→List TC→Option (List TC)
 |_,[]=>some []
 |j,c::l=>match c,d,Sc i d (j+1) l with
  |.int k a,.int k' b,some m=>if k=k' then some (.int k (if i=j then b else a)::m)else none
  |.str a,.str b,some m=>some (.str (if i=j then b else a)::m)
  |_,_,_=>none
def MD:TC→List Stp→TC→R TC
 |_,[],b=>pure b
 |.sl .own tt e l,s::r,b=>if s.k=e.size then(match(e.ex tt (l.getD s.i e.dflt))[s.c]?with
   |some c=>(do
    let c'←MD c r b
    let x←R.Cz (e.K4 tt ((e.ex tt (l.getD s.i e.dflt)).set s.c c'))
    pure (.sl .own tt e (l.set s.i x)))
   |none=>R.fail)
  else R.fail
 |_,_,_=>R.fail
def Ql(bump:Bool)(r:Root)(p:Place):Bool:=Gu r p&&(bump||deep p)
def Oo(F Γ:TS)(n:Nat)(cells:List TC)(p:Place)(k i c:Nat):TC→R TS
 |.sl .own tt e l=>if e.size=k∧c+n≤k then(do
   R.need (i<l.length)
   let x←R.Cz (e.K4 tt (MU (e.ex tt (l.getD i e.dflt)) c cells))
   let c0←R.Cz (BP F Γ p.root)
   let c1←MD c0 p.path (.sl .own tt e (l.set i x))
   let bump:=(((e.ex tt (l.getD i e.dflt)).drop c).take n).any ownish
   R.Cz (DV F Γ (Ql bump p.root) (fun p'=>Gu p.root p'&&bump) p.root c1))
  else R.fail
 |_=>R.fail
def Mf(F Γ:TS)(n:Nat)(cells:List TC):TC→R TS
 |.box b c=>match TS.box F Γ b with
  |some l=>if c+n≤l.length∧cells.length=n then
    R.Cz (TS.upd F Γ (CI (((l.drop c).take n).any ownish) b c n) (CI (((l.drop c).take n).any ownish) b c n) BU []
     [(b,MU (l.map (TC.sift (CI (((l.drop c).take n).any ownish) b c n) (CI (((l.drop c).take n).any ownish) b c n) BU)) c cells)])
   else R.fail
  |none=>R.fail
 |.boxd b c m i=>match TS.box F Γ b,cells with
  |some l,[d]=>match Sc i d 0 ((l.drop c).take m)with
   |some l2=>if c+m≤l.length∧n=1 then(do
     R.need (i<m)
     R.Cz (TS.upd F Γ (CI false b c m) (CI false b c m) BU [] [(b,MU (l.map (TC.sift (CI false b c m) (CI false b c m) BU)) c l2)]))
    else R.fail
   |none=>R.fail
  |_,_=>R.fail
 |.adr p _ e i c=>if cells.length=n then(do
   let d←atR F Γ p
   Oo F Γ n cells p e.size i c d)
  else R.fail
 |_=>R.fail
def Gs(d B:Nat)(p:Place):Bool:=Da d p||Ru B p
def Sk(F Γ:TS)(d B:Nat)(cells:List TC):R TS:=
 bif cells.all TC.AP&&!(cells.any (TC.hit (Gs d B) (Gs d B) (Nat.beq B)))then R.Cz (TS.upd F Γ (Gs d B) (Gs d B) (Nat.beq B) [(d,.val [] (.one (.box B 0)))] [(B,cells)])
 else R.fail
def PU(F Γ:TS)(d:Nat)(cells:List TC):R TS:=Sk F Γ d (d+rbase) cells
def TC.husk:TC→TC
 |.sl .own _ _ _=>.dead
 |c=>c
def TSV.husk:TSV→TSV
 |.one c=>.one c.husk
 |.agg l=>.agg (l.map TC.husk)
 |v=>v
def TC.known:TC→Bool
 |.dead=>false
 |.ref ..=>false
 |.adr ..=>false
 |_=>true
def TSV.known:TSV→Bool
 |.one c=>c.known
 |.agg l=>l.all TC.known
 |.clo _ l=>l.all TC.known
def WI(F Γ:TS)(x:Opd):R (TSV×TS):=do
 let v←Kn F Γ [] x
 match v with
 |.one (.adr p tt e i c)=>pure (.one (.adr p tt e i c),Γ)
 |_=>LA F Γ false x
def H5(F Γ:TS)(dst:Option Nat)(ty:Option (BT×TT)):AOp→R TS
 |.asg x=>match dst with
  |some d=>do
   let(v,Γ1)←WI F Γ x
   Gx F Γ1 d (.val [] v)
  |none=>R.fail
 |.alloc zero=>match dst with
  |some d=>PU F Γ d (zero.map G6)
  |none=>R.fail
 |.box x=>match dst with
  |some d=>do
   let(v,Γ1)←LA F Γ true x
   match v with
   |.clo _ _=>R.fail
   |v=>PU F Γ1 d v.cells
  |none=>R.fail
 |.buildSl k zero len parts=>match dst,ty with
  |some d,some (e,tt)=>if e.size=k then(do
    let z←R.Cz (W9 e tt zero)
    let(l,Γ1)←Ow F e tt Γ (List.replicate len z) parts
    Gx F Γ1 d (.val [] (.one (.sl .own tt e l))))
   else R.fail
  |_,_=>R.fail
 |.mkSl k bytes zero l c=>match dst,ty with
  |some d,some (e,tt)=>if e.size=k∧0<bytes then(do
    let l←Qz F Γ [] l
    let c←Qz F Γ [] c
    let z←R.Cz (W9 e tt zero)
    R.need (0≤l∧l≤c∧bytes*c≤281474976710656)
    Gx F Γ d (.val [] (.one (.sl .own tt e (List.replicate l.toNat z)))))
   else R.fail
  |_,_=>R.fail
 |.store n a x=>do
  let(v,Γ1)←LA F Γ true x
  match v with
  |.clo _ _=>R.fail
  |v=>do
   let c←FZ F Γ1 [] a
   Mf F Γ1 n v.cells c
 |.app k bytes s x=>match dst,ty with
  |some d,some (e,tt)=>if e.size=k∧0<bytes then(do
    let(ys,Γ1)←YQ F Γ e tt x
    let(v,Γ2)←LA F Γ1 false s
    let xs←VA e tt v
    R.need ((xs.length+ys.length)*bytes≤140737488355328)
    Gx F Γ2 d (.val [] (.one (.sl .own tt e (xs++ys)))))
   else R.fail
  |_,_=>R.fail
 |.ext x i=>match x,dst with
  |.t n,some d=>match TS.slot F Γ n with
   |some (.tup l)=>match l[i]?with
    |some v=>if v.known then(do
      let Γ1←Gx F Γ n (.tup (l.set i v.husk))
      Gx F Γ1 d (.val [] v))
     else R.fail
    |none=>R.fail
   |_=>R.fail
  |_,_=>R.fail
 |_=>R.fail
end Go.VS
namespace Go.VS
def CX(n:Nat)(μ μ':Nat→Nat):Prop:=(∀b,b<rbase→μ' b=μ b)∧∀b,μ' b=μ b∨n≤μ' b
theorem CX.refl(n:Nat)(μ:Nat→Nat):CX n μ μ:=⟨fun _ _=>rfl,fun _=>.inl rfl⟩
theorem CX.trans{n n':Nat}{μ μ' μ'':Nat→Nat}(h:CX n μ μ')(k:CX n' μ' μ'')(hn:n≤n'):CX n μ μ'':=by
 refine⟨fun b hb=>by rw[k.1 b hb,h.1 b hb],fun b=>?_⟩
 rcases k.2 b with e|e
 ·rw[e];exact h.2 b
 ·exact .inr (Nat.le_trans hn e)
def WOk(μ:Nat→Nat)(n:Nat)(F Γ:TS)(st:St):Prop:=∃μ' st',Cy st st'∧Sim μ' F Γ st'∧CX n μ μ'
theorem Cy.refl(st:St):Cy st st:=⟨fun _=>.refl _,fun o=>by cases h:st.hp.get o with|none=>exact .inl ⟨rfl,rfl⟩|some l=>exact .inr ⟨l,l,rfl,rfl,CoL.refl l⟩,rfl,rfl,rfl⟩
theorem Cy.set{st:St}{t:Nat}{y y':TV}(h:CoT y y'):Cy (st.set t y) (st.set t y'):=by
 refine⟨fun t'=>?_,(Cy.refl st).hp,rfl,rfl,rfl⟩
 simp only[St.set,upd]
 split
 ·exact h
 ·exact .refl _
theorem Gf{e e':BT}{l:List e'.D}{m:List e.D}(h:Ms e e' l=some m):∃he:e'=e,m=he▸l:=by
 unfold Ms at h
 split at h
 ·rename_i he;exact⟨he,(Option.some.inj h).symm⟩
 ·cases h
section
variable{μ:Nat→Nat}{ver:Root→Nat}{ln:Place→Option Nat}{F Γ Γ':TS}{st:St}
theorem KJ{v:TSV}(hv:∀f l,v≠.clo f l){s:SV}(h:v.sv μ ver ln s):avs μ ver ln v.cells s.cells:=by
 cases v with
 |one c=>obtain⟨a,rfl,ha⟩:=h;exact⟨ha,trivial⟩
 |agg l=>obtain⟨k,rfl,ha⟩:=h;exact ha
 |clo f l=>exact(hv f l rfl).elim
theorem Um{e:BT}{tt:TT}{zero:List Value}{z:e.D}(h:W9 e tt zero=some z):CoL (zero.map .lit) (e.enc tt z):=by
 have hz:∀zs:List Value,avs (fun n=>n) (fun _=>0) (fun _=>none) (zs.map G6) (zs.map .lit):=by
  intro zs
  induction zs with
  |nil=>exact trivial
  |cons z zs ih=>exact⟨Hm z,ih⟩
 exact Eb h (hz zero)
theorem Qk{α:Type}(f:α→List AV){x:List AV}{z:α}(h:CoL x (f z)):∀n,B6 (List.replicate n x) ((List.replicate n z).map f)
 |0=>.nil
 |n+1=>.cons _ _ _ _ h (Qk f h n)
theorem NO{α β:Type}(f:α→β)(l:List α)(i:Nat)(y:α):(l.set i y).map f=(l.map f).set i (f y):=List.map_set
theorem Ox{e:BT}{tt:TT}:∀{parts:List (Nat×Opd)} {l l':List e.D} {xs:List (List AV)} {st:St} {Γ Γ':TS},Sim μ F Γ st→B6 xs (l.map (e.enc tt))→(Ow F e tt Γ l parts).ok (l',Γ')→
  (DY st e.size xs parts).holds fun(xs',st')=>B6 xs' (l'.map (e.enc tt))∧Sim μ F Γ' st'
 |[],l,l',xs,st,Γ,Γ',h,hc,hx=>by
  have:=R.Ai.1 hx
  cases this
  exact M.Ab ⟨hc,h⟩
 |(i,x)::r,l,l',xs,st,Γ,Γ',h,hc,hx=>by
  simp only[Ow]at hx
  rw[R.Ah]at hx
  obtain⟨⟨v,Γ1⟩,h1,hx⟩:=hx
  obtain⟨hs,h2⟩:=Hx h h1
  have hv:∀f l,v≠.clo f l:=by rintro f l rfl;exact R.Af.1 hx
  have hx:(do
   let y←R.Cz (e.K4 tt v.cells)
   Ow F e tt Γ1 (l.set i y) r:R (List e.D×TS)).ok (l',Γ'):=by cases v<;>first|exact hx|exact(hv _ _ rfl).elim
  rw[R.Ah]at hx
  obtain⟨y,h3,hx⟩:=hx
  have h3:=R.BE.1 h3
  simp only[DY,M.Aa]
  refine M.Ag h2 ?_
  rintro⟨s,st1⟩ ⟨k1,k2⟩
  have k3:=Eb h3 (KJ hv k1)
  have hlen:s.cells.length=e.size:=by rw[k3.length,Cs]
  rw[if_pos hlen]
  refine Ox k2 ?_ hx
  rw[NO]
  exact hc.set i k3
theorem I8:∀(t:BT) (tt:TT) (_:tt.D0=true) (x:t.D),(t.enc tt x).any AV.Br=false
 |.int _,_,_,_=>rfl
 |.bool,_,_,_=>rfl
 |.str,_,_,_=>rfl
 |.unit,_,_,_=>rfl
 |.sl e,tt,h,l=>by
  cases tt with
  |leaf=>rfl
  |node τ a=>cases τ<;>first|rfl|cases h
  |pair a b=>rfl
 |.pair a b,tt,h,x=>by
  have h1:tt.fst.D0=true∧tt.snd.D0=true:=by
   cases tt with
   |leaf=>exact⟨rfl,rfl⟩
   |node τ a=>exact⟨rfl,rfl⟩
   |pair a b=>simpa[TT.D0,TT.fst,TT.snd]using h
  simp only[BT.enc,List.any_append,I8 a _ h1.1,I8 b _ h1.2,Bool.or_self]
theorem NN{e:BT}{tt tt':TT}(h:tt.co tt'=true)(l:List e.D):B6 (l.map (e.enc tt)) (l.map (e.enc tt')):=B6.map (fun x=>Nn e h x) l
theorem OB{α β:Type}(f:α→β)(l:List α):window 0 l.length (l.map f)=l.map f:=by simp[window]
theorem MM{α β:Type}(f:α→β)(l:List α)(lo n:Nat):window lo n (l.map f)=((l.drop lo).take n).map f:=by
 unfold window
 split
 ·rename_i he
  obtain⟨rfl,he⟩:=he
  simp only[List.length_map]at he
  subst he
  simp
 ·simp
theorem Td{e:BT}{tt:TT}(h:Sim μ F Γ st){x:Opd}{l:List e.D}(hx:(YQ F Γ e tt x).ok (l,Γ')):
  (st.source e.size x).holds fun(ys,st')=>B6 ys (l.map (e.enc tt))∧Sim μ F Γ' st':=by
 unfold YQ at hx
 split at hx
 ·have:=R.Ai.1 hx
  cases this
  exact M.Ab ⟨.nil,h⟩
 ·rename_i m
  split at hx
  case h_2=>exact(R.Af.1 hx).elim
  rename_i c hs
  obtain⟨s,heq,a,rfl,ha⟩:=h.sl m _ hs
  simp only[gv]at heq
  cases c with
  |sl τ tt' e' l0=>
   have ha:a=_:=ha
   subst ha
   have shared:∀σ:Tag,σ≠.own→τ=σ→(if tt'.co tt then(do
     let l'←R.Cz (Ms e e' l0)
     pure (l',Γ))else R.fail:R (List e.D×TS)).ok (l,Γ')→(st.source e.size (.t m)).holds fun(ys,st')=>B6 ys (l.map (e.enc tt))∧Sim μ F Γ' st':=by
    rintro σ hσ rfl hx
    split at hx
    case isFalse=>exact(R.Af.1 hx).elim
    rename_i hco
    rw[R.Ah]at hx
    obtain⟨l2,h1,hx⟩:=hx
    have:=R.Ai.1 hx
    cases this
    obtain⟨rfl,rfl⟩:=Gf (R.BE.1 h1)
    simp only[St.source,heq]
    cases τ with
    |own=>exact(hσ rfl).elim
    |_=>
     simp only[M.Aa,M.Aj]
     exact⟨trivial,trivial,M.Ab ⟨NN hco _,h⟩⟩
   cases τ with
   |own=>
    simp only[YO]at hx
    split at hx
    case isFalse=>exact(R.Af.1 hx).elim
    rename_i hco
    rw[R.Ah]at hx
    obtain⟨l2,h1,hx⟩:=hx
    rw[R.Ah]at hx
    obtain⟨Γ2,h2,hx⟩:=hx
    have:=R.Ai.1 hx
    cases this
    obtain⟨rfl,rfl⟩:=Gf (R.BE.1 h1)
    simp only[St.source,heq,M.Aa,M.Aj]
    exact⟨trivial,trivial,M.Ab ⟨NN hco _,CG h h2 trivial⟩⟩
   |imm=>exact shared .imm (by simp) rfl hx
   |brw=>exact shared .brw (by simp) rfl hx
  |nil=>
   have ha:a=_:=ha
   subst ha
   have:=R.Ai.1 hx
   cases this
   simp only[St.source,heq,M.Aa,M.Aj]
   exact⟨trivial,M.Ab ⟨.nil,h⟩⟩
  |ref p tt0 e' w=>
   simp only[YO]at hx
   rw[R.Ah]at hx
   obtain⟨d,h1,hx⟩:=hx
   cases d with
   |sl τ tt2 e2 l2=>
    cases τ with
    |own=>
     obtain⟨q1,q2⟩:=G2 h h1
     cases w with
     |none=>
      have ha:a=_:=IJ ha q2
      subst ha
      simp only[YP]at hx
      split at hx
      case isFalse=>exact(R.Af.1 hx).elim
      rename_i hco
      rw[R.Ah]at hx
      obtain⟨l3,h2,hx⟩:=hx
      have:=R.Ai.1 hx
      cases this
      obtain⟨rfl,rfl⟩:=Gf (R.BE.1 h2)
      simp only[St.source,heq,q1,M.Aa,M.Aj,OB]
      refine⟨trivial,hco.2.2,trivial,trivial,by simp,?_,M.Ab ⟨NN hco.1 _,h⟩⟩
      intro x hx
      obtain⟨y,_,rfl⟩:=List.mem_map.1 hx
      exact I8 _ _ hco.2.1 y
     |some y=>
      obtain⟨lo,n⟩:=y
      have ha:a=_:=ha
      subst ha
      simp only[YP]at hx
      split at hx
      case isFalse=>exact(R.Af.1 hx).elim
      rename_i hco
      rw[R.Ah]at hx
      obtain⟨l3,h2,hx⟩:=hx
      rw[R.Ah]at hx
      obtain⟨_,h3,hx⟩:=hx
      have h3:=R.Fj.1 h3
      have:=R.Ai.1 hx
      cases this
      obtain⟨rfl,rfl⟩:=Gf (R.BE.1 h2)
      simp only[St.source,heq,q1,M.Aa,M.Aj,MM]
      refine⟨trivial,hco.2.2,trivial,trivial,by simpa using h3,?_,M.Ab ⟨NN hco.1 _,h⟩⟩
      intro x hx
      obtain⟨y,_,rfl⟩:=List.mem_map.1 hx
      exact I8 _ _ hco.2.1 y
    |_=>cases w with
     |none=>exact(R.Af.1 hx).elim
     |some y=>exact(R.Af.1 hx).elim
   |_=>cases w with
    |none=>exact(R.Af.1 hx).elim
    |some y=>exact(R.Af.1 hx).elim
  |_=>exact(R.Af.1 hx).elim
 ·exact(R.Af.1 hx).elim
theorem VB{e:BT}{tt:TT}(h:Sim μ F Γ st){x:Opd}{v:TSV}(hx:(LA F Γ false x).ok (v,Γ')){l:List e.D}(hb:(VA e tt v).ok l):
  (st.base e.size x).holds fun(ys,st')=>B6 ys (l.map (e.enc tt))∧Sim μ F Γ' st':=by
 obtain⟨hs,h2⟩:=Hx h hx
 simp only[St.base,M.Aa]
 refine M.Ag h2 ?_
 rintro⟨s,st1⟩ ⟨k1,k2⟩
 unfold VA at hb
 split at hb
 ·obtain⟨a,rfl,ha⟩:=k1
  have ha:a=_:=ha
  subst ha
  split at hb
  case isFalse=>exact(R.Af.1 hb).elim
  rename_i hco
  obtain⟨rfl,rfl⟩:=Gf (R.BE.1 hb)
  simp only[M.Aa,M.Aj]
  exact⟨trivial,M.Ab ⟨NN hco _,k2⟩⟩
 ·obtain⟨a,rfl,ha⟩:=k1
  have ha:a=_:=ha
  subst ha
  have:=R.Ai.1 hb
  cases this
  exact M.Ab ⟨.nil,k2⟩
 ·exact(R.Af.1 hb).elim
theorem Un(h:Sim μ F Γ st){d B:Nat}{cells:List TC}{as:List AV}(hu:(Sk F Γ d B cells).ok Γ')(ha:avs μ st.ver (lnT F Γ) cells as):
  ∃μ',μ'=upd μ B st.hp.next∧Sim μ' F Γ' (St.set ⟨st.sl,st.hp.alloc as,st.vs,st.hv⟩ d (V (.ptr st.hp.next 0))):=by
 unfold Sk at hu
 cases hb:(cells.all TC.AP&&!(cells.any (TC.hit (Gs d B) (Gs d B) (Nat.beq B))))with
 |false=>rw[hb]at hu;exact(R.Af.1 hu).elim
 |true=>
  rw[hb]at hu
  have hu:=R.BE.1 hu
  simp only[Bool.and_eq_true,Bool.not_eq_true']at hb
  refine⟨upd μ B st.hp.next,rfl,?_⟩
  generalize hst:St.set ⟨st.sl,st.hp.alloc as,st.vs,st.hv⟩ d (V (.ptr st.hp.next 0))=st'
  have esl:st'.sl=upd st.sl d (V (.ptr st.hp.next 0)):=by rw[←hst];rfl
  have ehp:st'.hp=st.hp.alloc as:=by rw[←hst];rfl
  have hmu:∀b,Nat.beq B b=false→upd μ B st.hp.next b=μ b:=by
   intro b hb'
   have:b≠B:=by rintro rfl;simp at hb'
   simp[upd,this]
  have hnb:∀p,Gs d B p=false→p.mu (upd μ B st.hp.next)=p.mu μ∧st'.ver (p.mu (upd μ B st.hp.next)).root=st.ver (p.mu μ).root:=by
   intro p hp
   simp only[Gs,Bool.or_eq_false_iff]at hp
   have e:p.mu (upd μ B st.hp.next)=p.mu μ:=by
    cases hr:p.root with
    |slot t j=>simp[Place.mu,hr,Root.mu]
    |obj b c=>
     have:b≠B:=by rintro rfl;rw[Pq.2 ⟨c,hr⟩]at hp;cases hp.2
     simp[Place.mu,hr,Root.mu,upd,this]
   refine⟨e,?_⟩
   rw[e,←hst]
   cases hr:p.root with
   |slot t j=>
    have hne:t≠d:=by rintro rfl;rw[Db.2 ⟨j,hr⟩]at hp;cases hp.1
    simp only[Place.mu,hr,Root.mu,St.ver,St.set]
    split
    ·simp[upd,hne]
    ·rfl
   |obj b c=>simp only[Place.mu,hr,Root.mu,St.ver,St.set]
  have T:Tr (Gs d B) (Gs d B) (Nat.beq B) μ (upd μ B st.hp.next) st.ver st'.ver (lnT F Γ) (lnT F Γ'):=by
   refine⟨hmu,fun p hp=>⟨(hnb p hp).1,(hnb p hp).2,fun n hn=>?_⟩,fun p hp=>hnb p hp⟩
   simp only[Gs,Bool.or_eq_false_iff]at hp
   refine FD hu h.ss (fun t j hr=>?_) (fun b c hr=>?_) hn
   ·rw[AH,if_neg]
    rintro rfl
    rw[Db.2 ⟨j,hr⟩]at hp;cases hp.1
   ·rw[AH,if_neg]
    rintro rfl
    rw[Pq.2 ⟨c,hr⟩]at hp;cases hp.2
  refine h.upd hu T ?_ ?_ ?_ ?_ ?_ ?_ (by rw[ehp];exact Nat.le_succ _)
  ·intro t ht
   rw[AH]at ht
   split at ht
   ·cases ht
   ·rename_i hne;rw[esl];simp[upd,Ne.symm hne]
  ·intro t x hx
   rw[AH]at hx
   split at hx
   case isFalse=>cases hx
   rename_i ht
   cases hx
   subst ht
   rw[esl]
   simp only[upd,if_true]
   exact⟨.one (.ptr st.hp.next 0),rfl,_,rfl,by simp[TC.av,upd]⟩
  ·intro b l hb' hl
   rw[ehp]
   obtain⟨k,q1,q2,q3,q4⟩:=h.bx b l hl
   have:μ b≠st.hp.next:=by omega
   simp[Heap.alloc,upd,this]
  ·intro b l hb'
   rw[AH]at hb'
   split at hb'
   case isFalse=>cases hb'
   rename_i hbb
   cases hb'
   subst hbb
   refine⟨as,by rw[ehp];simp[Heap.alloc,upd],?_,by rw[ehp];simp[Heap.alloc,upd],hb.1⟩
   have:=T.avs ha
   rwa [Fx hb.2]at this
  ·intro b hb'
   have:B=b:=Nat.eq_of_beq_eq_true hb'
   subst this
   simp[AH]
  ·intro b b' l l' hb' hl' he
   rw[AH]at hb'
   split at hb'
   case isFalse=>cases hb'
   rename_i hbb
   subst hbb
   rw[Ek hu b',AH]at hl'
   by_cases e:B=b'
   ·exact e
   ·rw[if_neg e]at hl'
    simp only[Option.map_eq_some_iff]at hl'
    obtain⟨l2,h2,_⟩:=hl'
    obtain⟨k,q1,q2,q3,q4⟩:=h.bx b' l2 h2
    simp only[upd,if_true,if_neg (Ne.symm e)]at he
    omega
theorem Nc(h:Sim μ F Γ st){d:Nat}{cells:List TC}{as:List AV}(hu:(PU F Γ d cells).ok Γ')(ha:avs μ st.ver (lnT F Γ) cells as):
  WOk μ st.hp.next F Γ' (St.set ⟨st.sl,st.hp.alloc as,st.vs,st.hv⟩ d (V (.ptr st.hp.next 0))):=by
 obtain⟨μ',rfl,k⟩:=Un h hu ha
 refine⟨_,_,Cy.refl _,k,fun b hb=>?_,fun b=>?_⟩
 ·have:b≠d+rbase:=by omega
  simp[upd,this]
 ·simp only[upd]
  split
  ·exact .inr (Nat.le_refl _)
  ·exact .inl rfl
theorem SO{c:TC}(h:ownish c=false)(hs:c.AP=true){a:AV}(ha:c.av μ ver ln a):a.Br=false:=by
 cases c with
 |sl τ tt e l=>
  have ha:a=_:=ha
  subst ha
  cases τ<;>first|rfl|cases h
 |dead=>cases h
 |ref=>cases hs
 |adr=>cases hs
 |_=>(have ha:a=_:=ha);subst ha;rfl
theorem Kd:∀{l:List TC},l.any ownish=false→l.all TC.AP=true→∀{as:List AV},avs μ ver ln l as→as.any AV.Br=false
 |[],_,_,[],_=>rfl
 |c::l,h,hs,a::as,ha=>by
  simp only[List.any_cons,Bool.or_eq_false_iff]at h
  simp only[List.all_cons,Bool.and_eq_true]at hs
  simp only[List.any_cons,SO h.1 hs.1 ha.1,Kd h.2 hs.2 ha.2,Bool.or_self]
 |[],_,_,_::_,h=>h.elim
 |_::_,_,_,[],h=>h.elim
theorem Oj:∀(vs l:List TC) (c j:Nat),j<c∨c+vs.length≤j→(MU l c vs)[j]?=l[j]?
 |[],l,c,j,_=>rfl
 |v::vs,l,c,j,h=>by
  rw[MU,Oj vs _ (c+1) j (by simp at h;omega),List.getElem?_set_ne (by simp at h;omega)]
theorem Ol:∀(vs l:List TC) (c:Nat),l.all TC.AP=true→vs.all TC.AP=true→(MU l c vs).all TC.AP=true
 |[],l,c,h,_=>h
 |v::vs,l,c,h,hv=>by
  simp only[List.all_cons,Bool.and_eq_true]at hv
  refine Ol vs _ (c+1) ?_ hv.2
  rw[List.all_eq_true]at h⊢
  intro x hx
  rcases List.mem_or_eq_of_mem_set hx with hx|rfl
  ·exact h x hx
  ·exact hv.1
theorem KE(h:Sim μ F Γ st){b c n:Nat}{l cells:List TC}{k:List AV}{bump:Bool}(hl:TS.box F Γ b=some l)(hn:cells.length=n)(hk:st.hp.get (μ b)=some k)
  (hu:TS.upd F Γ (CI bump b c n) (CI bump b c n) BU [] [(b,MU (l.map (TC.sift (CI bump b c n) (CI bump b c n) BU)) c cells)]=some Γ')
  (hs:cells.all TC.AP=true) {k':List AV} (hk':∀(ver':Root→Nat) (ln':Place→Option Nat),avs μ ver' ln' (l.map (TC.sift (CI bump b c n) (CI bump b c n) BU)) k→avs μ ver' ln' (MU (l.map (TC.sift (CI bump b c n) (CI bump b c n) BU)) c cells) k')
  {st':St} (esl:st'.sl=st.sl) (ehp:st'.hp=st.hp.set (μ b) k') (evs:st'.vs=st.vs) (ehv:bump=false→st'.hv=st.hv):Sim μ F Γ' st':=by
 obtain⟨k0,q1,q2,q3,q4⟩:=h.bx b l hl
 rw[hk]at q1
 cases q1
 have hver:∀p,CI bump b c n p=false→st'.ver (p.mu μ).root=st.ver (p.mu μ).root:=by
  intro p hp
  cases hr:p.root with
  |slot t j=>simp only[Place.mu,hr,Root.mu,St.ver,evs]
  |obj b' c'=>
   simp only[CI,hr,Bool.or_eq_false_iff]at hp
   simp only[Place.mu,hr,Root.mu,St.ver,ehv hp.1]
 have T:Tr (CI bump b c n) (CI bump b c n) BU μ μ st.ver st'.ver (lnT F Γ) (lnT F Γ'):=by
  refine⟨fun _ _=>rfl,fun p hp=>⟨rfl,hver p hp,fun m hm=>?_⟩,fun p hp=>⟨rfl,hver p hp⟩⟩
  cases hr:p.root with
  |slot t j=>exact FD hu h.ss (fun _ _ _=>rfl) (fun _ _ e=>by rw[hr]at e;cases e) hm
  |obj b' c'=>
   by_cases hb:b'=b
   ·subst hb
    simp only[CI,hr,Bool.or_eq_false_iff]at hp
    have hout:c'<c∨c+n≤c':=by
     have h1:=hp.2
     have e1:Nat.beq b' b'=true:=by simp
     rw[e1,Bool.true_and]at h1
     cases h2:Nat.ble c c' with
     |false=>left;exact Nat.lt_of_not_le (fun h=>by rw[←Nat.ble_eq]at h;rw[h]at h2;cases h2)
     |true=>
      rw[h2,Bool.true_and]at h1
      right
      refine Nat.le_of_not_lt fun h3=>?_
      have:Nat.blt c' (c+n)=true:=by simp[Nat.blt];omega
      rw[this]at h1;cases h1
    unfold lnT atT at hm⊢
    rw[hr]at hm⊢
    simp only[BP,Ek hu,AH,if_true,hl,Option.bind_some]at hm⊢
    rw[Oj _ _ _ _ (by rw[hn];exact hout),List.getElem?_map]at hm
    cases hc:l[c']?with
    |none=>rw[hc]at hm;simp at hm
    |some d0=>
     rw[hc]at hm
     simp only[Option.map_some,Option.bind_some]at hm⊢
     exact d0.Gy p.path m hm
   ·refine FD hu h.ss (fun _ _ _=>rfl) (fun _ _ e=>?_) hm
    rw[hr]at e;cases e
    rw[AH,if_neg (Ne.symm hb)]
 refine h.upd hu T (fun t _=>by rw[esl]) (fun _ _ h=>nomatch h) ?_ ?_ (fun _ h=>nomatch h) ?_ (by rw[ehp];exact Nat.le_refl _)
 ·intro b' l' hb hl'
  rw[AH]at hb
  split at hb
  ·cases hb
  ·rename_i hne
   rw[ehp]
   have:μ b'≠μ b:=fun e=>hne (h.inj b b' l l' hl hl' e.symm)
   simp[Heap.set,upd,this]
 ·intro b' l' hb
  rw[AH]at hb
  split at hb
  case isFalse=>cases hb
  rename_i hbb
  cases hb
  subst hbb
  refine⟨k',by rw[ehp];simp[Heap.set,upd],hk' _ _ (T.avs q2),by rw[ehp];exact q3,?_⟩
  refine Ol _ _ _ ?_ hs
  rw[List.all_map,List.all_eq_true]
  intro x hx
  exact TC.Kh (List.all_eq_true.1 q4 x hx)
 ·intro b1 b' l1 l' hb hb' he
  rw[AH]at hb
  split at hb
  case isFalse=>cases hb
  rename_i hbb
  subst hbb
  rw[Ek hu b',AH]at hb'
  by_cases e:b=b'
  ·exact e
  ·rw[if_neg e]at hb'
   simp only[Option.map_eq_some_iff]at hb'
   obtain⟨l2,h2,_⟩:=hb'
   exact h.inj _ _ _ _ hl h2 he
theorem M4{i:Nat}{d:TC}{b:AV}(hd:d.av μ ver ln b):∀{l l2:List TC} {k:List AV} (j:Nat),Sc i d j l=some l2→avs μ ver ln l k→avs μ ver ln l2 (if j≤i then k.set (i -j) b else k)∧l2.all TC.AP=true∧l2.length=l.length
 |[],l2,[],j,h,_=>by
  simp only[Sc,Option.some.injEq]at h
  subst h
  refine⟨?_,rfl,rfl⟩
  split<;>simp[avs]
 |c::l,l2,a::k,j,h,ha=>by
  simp only[Sc]at h
  have step:∀(c':TC) (m:List TC),Sc i d (j+1) l=some m→l2=c'::m→c'.AP=true→(c'.av μ ver ln (if i=j then b else a))→avs μ ver ln l2 (if j≤i then(a::k).set (i -j) b else a::k)∧l2.all TC.AP=true∧l2.length=(c::l).length:=by
   rintro c' m hm rfl hs hc'
   obtain⟨h1,h2,h3⟩:=M4 hd (j+1) hm ha.2
   refine⟨?_,by simp[hs,h2],by simp[h3]⟩
   by_cases hij:i=j
   ·subst hij
    rw[if_pos rfl]at hc'
    rw[if_neg (by omega)]at h1
    simpa[avs]using⟨hc',h1⟩
   ·rw[if_neg hij]at hc'
    by_cases hle:j≤i
    ·rw[if_pos hle]
     rw[if_pos (by omega)]at h1
     have:i -j=(i -(j+1))+1:=by omega
     rw[this]
     exact⟨hc',h1⟩
    ·rw[if_neg hle]
     rw[if_neg (by omega)]at h1
     exact⟨hc',h1⟩
  split at h
  ·rename_i k0 x k1 y m hm
   split at h
   case isFalse=>cases h
   rename_i hk
   cases h
   subst hk
   refine step _ m hm rfl rfl ?_
   have h1:a=_:=ha.1
   have h2:b=_:=hd
   subst h1 h2
   split<;>exact rfl
  ·rename_i x y m hm
   cases h
   refine step _ m hm rfl rfl ?_
   have h1:a=_:=ha.1
   have h2:b=_:=hd
   subst h1 h2
   split<;>exact rfl
  ·cases h
 |[],_,_::_,_,_,h=>h.elim
 |_::_,_,[],_,_,h=>h.elim
theorem MK:∀(vs l:List AV) (c:Nat),c+vs.length≤l.length→setCells l c vs=l.take c++(vs++l.drop (c+vs.length))
 |[],l,c,h=>by simp[setCells]
 |v::vs,l,c,h=>by
  simp only[List.length_cons]at h
  rw[setCells,MK vs _ (c+1) (by simp;omega)]
  have hlt:c<l.length:=by omega
  rw[List.set_eq_take_append_cons_drop,if_pos hlt]
  have e1:(l.take c++v::l.drop (c+1)).take (c+1)=l.take c++[v]:=by
   have hl:(l.take c).length=c:=by simp;omega
   rw[List.take_append,List.take_of_length_le (by omega),hl]
   simp
  have e2:(l.take c++v::l.drop (c+1)).drop (c+1+vs.length)=l.drop (c+(vs.length+1)):=by
   rw[List.drop_append]
   simp only[List.length_take,Nat.min_eq_left (Nat.le_of_lt hlt)]
   rw[List.drop_eq_nil_of_le (by simp;omega)]
   have:c+1+vs.length -c=vs.length+1:=by omega
   rw[this,List.drop_succ_cons,List.drop_drop,List.nil_append]
   congr 1;omega
  rw[e1,e2]
  simp
theorem YI{l:List AV}{c m i:Nat}{a:AV}(hi:i<m)(hc:c+m≤l.length):l.set (c+i) a=setCells l c (((l.drop c).take m).set i a):=by
 have hlen:(((l.drop c).take m).set i a).length=m:=by simp;omega
 rw[MK _ _ _ (by rw[hlen];exact hc),hlen]
 apply List.ext_getElem?
 intro j
 rw[List.getElem?_set]
 by_cases hj:j<c
 ·rw[if_neg (by omega),List.getElem?_append_left (by simp;omega),List.getElem?_take_of_lt hj]
 ·rw[List.getElem?_append_right (by simp;omega)]
  simp only[List.length_take,Nat.min_eq_left (show c≤l.length by omega)]
  by_cases hj2:j<c+m
  ·rw[List.getElem?_append_left (by rw[hlen];omega),List.getElem?_set]
   by_cases he:c+i=j
   ·subst he
    rw[if_pos rfl,if_pos (by omega),if_pos (by omega),if_pos (by simp;omega)]
   ·rw[if_neg he,if_neg (by omega),List.getElem?_take_of_lt (by omega),List.getElem?_drop]
    congr 1;omega
  ·rw[if_neg (by omega),List.getElem?_append_right (by rw[hlen];omega),hlen,List.getElem?_drop]
   congr 1;omega
end
def M.all{α:Type}(x:M α)(K:α→Prop):Prop:=match x with
 |none=>True
 |some (_,a)=>K a
theorem M.all_bind{α β:Type}{x:M α}{f:α→M β}{K:β→Prop}(h:x.all fun a=>(f a).all K):(x>>=f).all K:=by
 show(M.bind x f).all K
 match x,h with
 |none,_=>trivial
 |some (p,a),h=>
  show(M.bind (some (p,a)) f).all K
  unfold M.bind
  have h:(f a).all K:=h
  dsimp only
  cases hf:f a with
  |none=>trivial
  |some y=>obtain⟨q,b⟩:=y;rw[hf]at h;exact h
theorem M.A7{α:Type}{a:α}{K:α→Prop}(h:K a):(Pure.pure a:M α).all K:=h
theorem M.Bp{p:Prop}{K:Unit→Prop}(h:K ()):(M.need p).all K:=h
theorem M.Bj{α:Type}{K:α→Prop}:(M.fail:M α).all K:=trivial
theorem M.all_true{α:Type}(x:M α){K:α→Prop}(h:∀a,K a):x.all K:=by
 match x with
 |none=>trivial
 |some (_,a)=>exact h a
theorem M.Cr{α:Type}{x:M α}{K K':α→Prop}(h:x.all K)(hk:∀a,K a→K' a):x.all K':=by
 match x,h with
 |none,_=>trivial
 |some (_,a),h=>exact hk a h
theorem M.Jb{α:Type}{x:M α}{K K':α→Prop}(h:x.holds K)(h':x.all K'):x.holds fun a=>K a∧K' a:=by
 match x,h,h' with
 |some (_,a),h,h'=>exact⟨h.1,h.2,h'⟩
theorem LU(st:St)(r:Root):(st.bump r).hp.next=st.hp.next:=by cases r<;>rfl
theorem JQ:∀(rs:List Root) (st:St),(st.bumps rs).hp.next=st.hp.next
 |[],_=>rfl
 |r::rs,st=>by rw[St.bumps,JQ rs,LU]
theorem Qq(st:St)(r:Root)(b:AV):(st.Ar r b).hp.next=st.hp.next:=by
 cases r with
 |slot t j=>rfl
 |obj o c=>simp only[St.Ar];split<;>rfl
theorem Ke(st:St)(p:Place)(b:AV):(st.putAt p b).hp.next=st.hp.next:=by
 unfold St.putAt
 split
 ·exact Qq _ _ _
 ·rfl
theorem OU(v0:Root→Nat)(mem:Bool)(st:St)(a:AV):(st.DR v0 mem a).all fun p=>p.2.1.hp.next=st.hp.next:=by
 unfold St.DR
 split
 ·split
  ·exact M.all_bind (M.Bp (M.all_bind (M.Bp (M.all_bind (M.Bp (M.A7 (Ke _ _ _)))))))
  ·exact M.Bj
 ·cases mem<;>first|exact M.Bj|exact M.A7 rfl
 ·cases mem<;>first|exact M.Bj|exact M.A7 rfl
 ·exact M.Bj
 ·exact M.Bj
 ·exact M.A7 rfl
theorem GD(v0:Root→Nat)(mem:Bool):∀(l:List AV) (st:St),(st.B5 v0 mem l).all fun p=>p.2.1.hp.next=st.hp.next
 |[],st=>M.A7 rfl
 |a::l,st=>by
  refine M.all_bind (M.Cr (OU v0 mem st a) ?_)
  rintro⟨b,st1,rs⟩ h1
  refine M.all_bind (M.Cr (GD v0 mem l st1) ?_)
  rintro⟨m,st2,rs'⟩ h2
  exact M.A7 (h2.trans h1)
theorem Et(st:St)(mem:Bool)(x:Opd):(st.take mem x).all fun p=>p.2.hp.next=st.hp.next:=by
 unfold St.take
 refine M.all_bind (M.all_true _ fun s=>M.all_bind (M.Cr (GD _ _ _ _) ?_))
 rintro⟨l,st1,rs⟩ h1
 exact M.A7 ((JQ _ _).trans h1)
end Go.VS
namespace Go.VS
section
variable{μ:Nat→Nat}{ver:Root→Nat}{ln:Place→Option Nat}{F Γ Γ':TS}{st:St}
theorem NT{α:Type}{l:List α}{i:Nat}{x:α}(h:l[i]?=some x)(f:α→α):l.modify i f=l.set i (f x):=by
 rw[modify_eq f l i x h,F7 l i x (f x) h]
theorem SK{α:Type}{l:List α}{i:Nat}(h:l.length≤i)(f:α→α):l.modify i f=l:=by
 apply List.ext_getElem?
 intro j
 rw[List.getElem?_modify]
 by_cases hj:i=j
 ·subst hj;simp[List.getElem?_eq_none h]
 ·simp[hj]
theorem RJ:∀{path:List Stp} {c b c1:TC} {a b' u:AV},(MD c path b).ok c1→c.av μ ver ln a→b.av μ ver ln b'→Co u b'→∃a1,c1.av μ ver ln a1∧Co (a.put path u) a1
 |[],c,b,c1,a,b',u,hx,ha,hb,hc=>by
  have hx:(Pure.pure b:R TC).ok c1:=by cases c<;>first|exact hx|(rename_i τ _ _ _;cases τ<;>exact hx)
  have:=R.Ai.1 hx
  subst this
  exact⟨b',hb,by cases a<;>exact hc⟩
 |s::r,c,b,c1,a,b',u,hx,ha,hb,hc=>by
  cases c with
  |sl τ tt e l=>
   cases τ with
   |own=>
    simp only[MD]at hx
    split at hx
    case isFalse=>exact(R.Af.1 hx).elim
    rename_i hk
    split at hx
    case h_2=>exact(R.Af.1 hx).elim
    rename_i c2 hc2
    rw[R.Ah]at hx
    obtain⟨c',h1,hx⟩:=hx
    rw[R.Ah]at hx
    obtain⟨x,h2,hx⟩:=hx
    have:=R.Ai.1 hx
    subst this
    have h2:=R.BE.1 h2
    have ha:a=_:=ha
    subst ha
    refine⟨_,rfl,?_⟩
    simp only[AV.put,if_pos hk]
    refine .sl _ _ _ _ _ (.inl rfl) ?_
    by_cases hi:s.i<l.length
    ·have e1:l.getD s.i e.dflt=l[s.i]:=by simp[List.getD_eq_getElem?_getD,List.getElem?_eq_getElem hi]
     rw[e1]at hc2 h2
     obtain⟨a2,ha2,hav2⟩:=FM (Dz (μ:=μ) (ver:=ver) (ln:=ln) e tt l[s.i]) hc2
     obtain⟨a3,ha3,hco3⟩:=RJ h1 hav2 hb hc
     have e2:(l.map (e.enc tt))[s.i]?=some (e.enc tt l[s.i]):=by simp[List.getElem?_eq_getElem hi]
     rw[NT e2,NT ha2,NO]
     refine(B6.refl _).set s.i ?_
     exact((CoL.refl _).set s.c hco3).trans (Eb h2 (MW (Dz e tt l[s.i]) s.c ha3))
    ·rw[SK (by simpa using hi),List.set_eq_of_length_le (by simpa using hi)]
     exact B6.refl _
   |_=>exact(R.Af.1 hx).elim
  |_=>exact(R.Af.1 hx).elim
theorem Px:∀{path:List Stp} {c b c1:TC},(MD c path b).ok c1→path≠[]→c1.len?=c.len?∧c1.AP=true
 |[],_,_,_,_,h=>(h rfl).elim
 |s::r,c,b,c1,hx,_=>by
  cases c with
  |sl τ tt e l=>
   cases τ with
   |own=>
    simp only[MD]at hx
    split at hx
    case isFalse=>exact(R.Af.1 hx).elim
    split at hx
    case h_2=>exact(R.Af.1 hx).elim
    rw[R.Ah]at hx
    obtain⟨c',h1,hx⟩:=hx
    rw[R.Ah]at hx
    obtain⟨x,h2,hx⟩:=hx
    have:=R.Ai.1 hx
    subst this
    exact⟨by simp[TC.len?],rfl⟩
   |_=>exact(R.Af.1 hx).elim
  |_=>exact(R.Af.1 hx).elim
theorem Cy.Ar(st:St)(r:Root){b b':AV}(h:Co b b'):Cy (st.Ar r b) (st.Ar r b'):=by
 cases r with
 |slot t j=>
  refine⟨fun t'=>?_,(Cy.refl st).hp,rfl,rfl,rfl⟩
  simp only[St.Ar,upd]
  split
  ·cases st.sl t with
   |val g s=>
    refine .val g _ _ ?_
    cases s with
    |one a=>cases j with
     |zero=>exact .one _ _ h
     |succ j=>exact .one _ _ (.refl _)
    |agg l=>exact .agg _ _ ((CoL.refl l).set j h)
   |_=>exact .refl _
  ·exact .refl _
 |obj o c=>
  simp only[St.Ar]
  cases hg:st.hp.get o with
  |none=>exact Cy.refl st
  |some l=>
   refine⟨fun _=>.refl _,fun o'=>?_,rfl,rfl,rfl⟩
   simp only[Heap.set,upd]
   split
   ·exact .inr ⟨_,_,rfl,rfl,(CoL.refl l).set c h⟩
   ·exact(Cy.refl st).hp o'
theorem Cy.bump{st st':St}(h:Cy st st')(r:Root):Cy (st.bump r) (st'.bump r):=by
 cases r with
 |slot t j=>exact⟨h.sl,h.hp,h.nx,by simp[St.bump,h.vs],h.hv⟩
 |obj o c=>exact⟨h.sl,h.hp,h.nx,h.vs,by simp[St.bump,h.hv]⟩
theorem Qs(h:Sim μ F Γ st){n:Nat}{cells:List TC}{p:Place}{k i c:Nat}{d:TC}(hd:(atR F Γ p).ok d)(hx:(Oo F Γ n cells p k i c d).ok Γ'){as:List AV}(ha:avs μ st.ver (lnT F Γ) cells as):
  ∃xs,st.at (p.mu μ)=some (.sl .own k xs)∧i<xs.length∧c+n≤k∧
   WOk μ st.hp.next F Γ' (if(((xs.getD i []).drop c).take n).any AV.Br then(st.putAt (p.mu μ) (.sl .own k (xs.set i (setCells (xs.getD i []) c as)))).bump (p.mu μ).root else st.putAt (p.mu μ) (.sl .own k (xs.set i (setCells (xs.getD i []) c as)))):=by
 cases d with
 |sl τ tt e l=>
  cases τ with
  |own=>
   simp only[Oo]at hx
   split at hx
   case isFalse=>exact(R.Af.1 hx).elim
   rename_i hc
   obtain⟨hk,hcn⟩:=hc
   subst hk
   rw[R.Ah]at hx
   obtain⟨_,h1,hx⟩:=hx
   have hi:=R.Fj.1 h1
   rw[R.Ah]at hx
   obtain⟨x,h2,hx⟩:=hx
   have h2:=R.BE.1 h2
   rw[R.Ah]at hx
   obtain⟨c0,h3,hx⟩:=hx
   have h3:=R.BE.1 h3
   rw[R.Ah]at hx
   obtain⟨c1,h4,hx⟩:=hx
   have hu:=R.BE.1 hx
   obtain⟨q1,q2⟩:=G2 h hd
   refine⟨_,q1,by simpa using hi,hcn,?_⟩
   rw[Lb (e.enc tt) l i e.dflt [] hi]
   generalize hbT:(((e.ex tt (l.getD i e.dflt)).drop c).take n).any ownish=bump at hu
   generalize hbA:(((e.enc tt (l.getD i e.dflt)).drop c).take n).any AV.Br=bumpA
   have hbump:bump=false→bumpA=false:=by
    intro hb
    rw[←hbA]
    rw[←hbT]at hb
    exact Kd hb (Ea (Gj _ _ _) c n) (FN (Dz (μ:=μ) (ver:=st.ver) (ln:=lnT F Γ) e tt _) c n)
   obtain⟨a0,ha0,hav0⟩:=Od h h3
   have hput:∀u,st.putAt (p.mu μ) u=st.Ar (p.root.mu μ) (a0.put p.path u):=by
    intro u
    simp only[St.putAt,Place.mu,ha0]
   rw[hput]
   have hcoL:CoL (setCells (e.enc tt (l.getD i e.dflt)) c as) (e.enc tt x):=Eb h2 (IM c (Dz (μ:=μ) (ver:=st.ver) (ln:=lnT F Γ) e tt _) ha)
   obtain⟨a1,hav1,hco1⟩:=RJ (u:=.sl .own e.size ((l.map (e.enc tt)).set i (setCells (e.enc tt (l.getD i e.dflt)) c as))) h4 hav0 (show(TC.sl .own tt e (l.set i x)).av μ st.ver (lnT F Γ) _ from rfl)
    (.sl _ _ _ _ _ (.inl rfl) (by rw[NO];exact(B6.refl _).set i hcoL))
   have hsol1:c1.AP=true:=by
    cases hp:p.path with
    |nil=>
     rw[hp]at h4
     have h4:(Pure.pure (TC.sl .own tt e (l.set i x)):R TC).ok c1:=by cases c0<;>first|exact h4|(rename_i τ _ _ _;cases τ<;>exact h4)
     have:=R.Ai.1 h4
     subst this
     rfl
    |cons s r=>exact(Px h4 (by rw[hp];simp)).2
   have fin:∀st':St,st'.sl=(st.Ar (p.root.mu μ) a1).sl→st'.hp=(st.Ar (p.root.mu μ) a1).hp→(∀q,(Gu p.root q=false∨bump=false)→st'.ver (q.mu μ).root=st.ver (q.mu μ).root)→Sim μ F Γ' st':=by
    intro st' e1 e2 hv
    refine ME h hu h3 (b:=a1) e1 e2 ?_ ?_ ?_ (Hw hsol1 hav1) (.inl hsol1)
    ·intro q hq
     simp only[Ql,Bool.and_eq_false_iff,Bool.or_eq_false_iff]at hq
     exact hv q (hq.imp id (·.1))
    ·intro q hq
     simp only[Bool.and_eq_false_iff]at hq
     exact hv q hq
    ·intro q hq hqr m hm
     have h5:=Rv hqr
     simp only[Ql,h5,Bool.true_and,Bool.or_eq_false_iff]at hq
     have hpath:q.path=[]:=by
      cases hqp:q.path with
      |nil=>rfl
      |cons s r=>simp[deep,hqp]at hq
     unfold lnT atT at hm⊢
     rw[hqr,hpath]at hm⊢
     cases hc1:BP F Γ' p.root with
     |none=>rw[hc1]at hm;simp at hm
     |some c1'=>
      rw[hc1,Option.bind_some]at hm
      have:=Ln h.ss hu hc1
      subst this
      rw[h3,Option.bind_some]
      have eS:∀c:TC,c.atS []=some c:=by intro c;cases c<;>first|rfl|(rename_i τ _ _ _;cases τ<;>rfl)
      rw[eS,Option.bind_some]at hm⊢
      cases hp:p.path with
      |nil=>
       rw[hp]at h4
       have h4:(Pure.pure (TC.sl .own tt e (l.set i x)):R TC).ok c1':=by cases c0<;>first|exact h4|(rename_i τ _ _ _;cases τ<;>exact h4)
       have:=R.Ai.1 h4
       subst this
       have h6:=PW hd
       simp only[atT,h3,hp,Option.bind_some,eS,Option.some.injEq]at h6
       subst h6
       simpa[TC.len?]using hm
      |cons s r=>rw[←(Px h4 (by rw[hp];simp)).1];exact hm
   cases hbA2:bumpA with
   |true=>
    rw[if_pos rfl]
    refine⟨μ,_,(Cy.Ar st (p.root.mu μ) hco1).bump _,fin _ ?_ ?_ ?_,CX.refl _ _⟩
    ·simp only[Place.mu];cases p.root<;>rfl
    ·simp only[Place.mu];cases p.root<;>rfl
    ·intro q hq
     rcases hq with hq|hq
     ·have e5:=Kb (st.Ar (p.root.mu μ) a1) (μ:=μ) hq
      simp only[Place.mu]at e5⊢
      rw[e5]
      exact Dn (CZ _ _ _).1 (CZ _ _ _).2 _
     ·have:=hbump hq;rw[hbA2]at this;cases this
   |false=>
    rw[if_neg (by simp)]
    refine⟨μ,_,Cy.Ar st (p.root.mu μ) hco1,fin _ rfl rfl ?_,CX.refl _ _⟩
    intro q _
    exact Dn (CZ _ _ _).1 (CZ _ _ _).2 _
  |_=>exact(R.Af.1 hx).elim
 |_=>exact(R.Af.1 hx).elim
theorem To(h:Sim μ F Γ st){n:Nat}{cells:List TC}{c:TC}{Γ':TS}(hx:(Mf F Γ n cells c).ok Γ')(hs:cells.all TC.AP=true){as:List AV}(ha:avs μ st.ver (lnT F Γ) cells as){a:AV}(hc:c.av μ st.ver (lnT F Γ) a):
  as.length=n∧(match(generalizing:=false) a with
   |.ptr o c=>match st.hp.get o with
    |some l=>do
     M.need (c+n≤l.length)
     let st2:St:=⟨st.sl,st.hp.set o (setCells l c as),st.vs,st.hv⟩
     pure (if((l.drop c).take n).any AV.Br then st2.bump (.obj o c)else st2)
    |none=>M.fail
   |.adr p v k' i c=>match st.at p with
    |some (.sl .own k xs)=>do
     M.need (v=st.ver p.root)
     M.need (k'=k)
     M.need (i<xs.length)
     M.need (c+n≤k)
     let st2:=st.putAt p (.sl .own k (xs.set i (setCells (xs.getD i []) c as)))
     pure (if(((xs.getD i []).drop c).take n).any AV.Br then st2.bump p.root else st2)
    |_=>M.fail
   |_=>M.fail:M St).holds fun st'=>WOk μ st.hp.next F Γ' st':=by
 have hlenA:=Bq ha
 cases c with
 |box b c=>
  have hc:a=_:=hc
  subst hc
  simp only[Mf]at hx
  split at hx
  case h_2=>exact(R.Af.1 hx).elim
  rename_i l hl
  split at hx
  case isFalse=>exact(R.Af.1 hx).elim
  rename_i hcn
  have hu:=R.BE.1 hx
  obtain⟨k,q1,q2,q3,q4⟩:=h.bx b l hl
  have hlen:=Bq q2
  refine⟨by omega,?_⟩
  simp only[q1,M.Aa,M.Aj]
  refine⟨by omega,M.Ab ⟨μ,_,Cy.refl _,?_,CX.refl _ _⟩⟩
  refine KE h hl hcn.2 q1 hu hs (k':=setCells k c as) (fun ver' ln' hk'=>IM c hk' (DW hs ha)) ?_ ?_ ?_ ?_
  ·split<;>rfl
  ·split<;>rfl
  ·split<;>rfl
  ·intro hb
   rw[if_neg]
   rw[Kd hb (Ea q4 c n) (FN q2 c n)]
   simp
 |boxd b c m i=>
  have hc:a=_:=hc
  subst hc
  simp only[Mf]at hx
  split at hx
  case h_2=>exact(R.Af.1 hx).elim
  rename_i l d hl
  split at hx
  case h_2=>exact(R.Af.1 hx).elim
  rename_i l2 hl2
  split at hx
  case isFalse=>exact(R.Af.1 hx).elim
  rename_i hcn
  obtain⟨hcm,rfl⟩:=hcn
  rw[R.Ah]at hx
  obtain⟨_,h1,hx⟩:=hx
  have hi:=R.Fj.1 h1
  have hu:=R.BE.1 hx
  obtain⟨k,q1,q2,q3,q4⟩:=h.bx b l hl
  have hlen:=Bq q2
  match as,ha with
  |[a0],ha=>
   refine⟨rfl,?_⟩
   simp only[q1,M.Aa,M.Aj]
   refine⟨by omega,M.Ab ⟨μ,_,Cy.refl _,?_,CX.refl _ _⟩⟩
   have hsd:d.AP=true:=by simpa using hs
   have nob:((k.drop (c+i)).take 1).any AV.Br=false:=by
    have hlt:c+i<k.length:=by omega
    rw[Qg (List.getElem?_eq_getElem hlt)]
    have hll:((l.drop c).take m)[i]?=some l[c+i]:=by
     rw[List.getElem?_take_of_lt hi,List.getElem?_drop,List.getElem?_eq_getElem (by omega)]
    obtain⟨a',ha',hav⟩:=FM q2 (List.getElem?_eq_getElem (by omega:c+i<l.length))
    have e0:k[c+i]=a':=by simpa[List.getElem?_eq_getElem hlt]using ha'
    rw[e0]
    have hkind:∀(ll l2:List TC) (j0 i0:Nat) (x:TC),Sc i d j0 ll=some l2→ll[i0]?=some x→(∃k n,x=.int k n)∨∃s,x=.str s:=by
     intro ll
     induction ll with
     |nil=>intro l2 j0 i0 x _ hx;simp at hx
     |cons y ll ih=>
      intro l2 j0 i0 x hup hx
      simp only[Sc]at hup
      split at hup
      ·rename_i m' hm
       cases i0 with
       |zero=>simp at hx;exact .inl ⟨_,_,hx.symm⟩
       |succ i0=>exact ih _ _ i0 x hm (by simpa using hx)
      ·rename_i m' hm
       cases i0 with
       |zero=>simp at hx;exact .inr ⟨_,hx.symm⟩
       |succ i0=>exact ih _ _ i0 x hm (by simpa using hx)
      ·cases hup
    rcases hkind _ _ 0 i _ hl2 hll with⟨k',n',e1⟩|⟨s',e1⟩
    ·rw[e1]at hav;have hav:a'=_:=hav;subst hav;rfl
    ·rw[e1]at hav;have hav:a'=_:=hav;subst hav;rfl
   rw[nob,if_neg (by simp)]
   refine KE (n:=m) h hl ?_ q1 hu ?_ (k':=setCells k (c+i) [a0]) ?_ rfl rfl rfl (fun _=>rfl)
   ·have:=(M4 ha.1 0 hl2 (FN q2 c m)).2.2
    rw[this];simp;omega
   ·exact(M4 ha.1 0 hl2 (FN q2 c m)).2.1
   ·intro ver' ln' hk'
    have h5:=(M4 ha.1 0 hl2 (FN q2 c m))
    have h6:avs μ ver' ln' l2 (((k.drop c).take m).set i a0):=by
     have:=DW (ver':=ver') (ln':=ln') h5.2.1 h5.1
     simpa using this
    have:=IM c hk' h6
    rw[←YI hi (by omega)]at this
    exact this
  |[],ha=>exact ha.elim
  |_::_::_,ha=>exact ha.2.elim
 |adr p tt0 e i c=>
  have hc:a=_:=hc
  subst hc
  simp only[Mf]at hx
  split at hx
  case isFalse=>exact(R.Af.1 hx).elim
  rename_i hn
  rw[R.Ah]at hx
  obtain⟨d,h1,hx⟩:=hx
  obtain⟨xs,e1,e2,e3,e4⟩:=Qs h h1 hx ha
  refine⟨by omega,?_⟩
  simp only[e1,M.Aa,M.Aj]
  exact⟨trivial,trivial,e2,e3,M.Ab e4⟩
 |_=>exact(R.Af.1 hx).elim
theorem TK{c:TC}(hk:c.known=true){a:AV}(h:c.av μ ver ln a):c.husk.av μ ver ln (if a.Br then .dead else a):=by
 cases c with
 |sl τ tt e l=>
  have h:a=_:=h
  subst h
  cases τ with
  |own=>exact trivial
  |_=>exact rfl
 |dead=>cases hk
 |ref=>cases hk
 |adr=>cases hk
 |_=>(have h:a=_:=h);subst h;exact rfl
theorem Rh:∀{l:List TC},l.all TC.known=true→∀{as:List AV},avs μ ver ln l as→avs μ ver ln (l.map TC.husk) (as.map fun a=>if a.Br then .dead else a)
 |[],_,[],_=>trivial
 |c::l,hk,a::as,h=>by
  simp only[List.all_cons,Bool.and_eq_true]at hk
  exact⟨TK hk.1 h.1,Rh hk.2 h.2⟩
 |[],_,_::_,h=>h.elim
 |_::_,_,[],h=>h.elim
theorem Mx{c:TC}(hk:c.known=true){a:AV}(h:c.av μ ver ln a):c.AP=true∧a.solid=true:=by
 cases c with
 |dead=>cases hk
 |ref=>cases hk
 |adr=>cases hk
 |_=>(have h:a=_:=h);subst h;exact⟨rfl,rfl⟩
theorem FU:∀{l:List TC},l.all TC.known=true→∀{as:List AV},avs μ ver ln l as→l.all TC.AP=true∧as.all AV.solid=true
 |[],_,[],_=>⟨rfl,rfl⟩
 |c::l,hk,a::as,h=>by
  simp only[List.all_cons,Bool.and_eq_true]at hk⊢
  obtain⟨h1,h2⟩:=Mx hk.1 h.1
  obtain⟨h3,h4⟩:=FU hk.2 h.2
  exact⟨⟨h1,h3⟩,h2,h4⟩
 |[],_,_::_,h=>h.elim
 |_::_,_,[],h=>h.elim
theorem Qt:∀{l:List TSV} {m:List SV},svs μ ver ln l m→∀{i:Nat} {v:TSV},l[i]?=some v→∃s,m[i]?=some s∧v.sv μ ver ln s
 |[],[],_,i,v,h=>by simp at h
 |x::l,y::m,h,0,v,hv=>by simp at hv;subst hv;exact⟨y,rfl,h.1⟩
 |x::l,y::m,h,i+1,v,hv=>by simpa using Qt h.2 (i:=i) (by simpa using hv)
 |[],_::_,h,_,_,_=>h.elim
 |_::_,[],h,_,_,_=>h.elim
theorem Uj:∀{l:List TSV} {m:List SV},svs μ ver ln l m→∀(i:Nat) {v:TSV} {s:SV},v.sv μ ver ln s→svs μ ver ln (l.set i v) (m.set i s)
 |[],[],_,i,v,s,_=>by simp[svs]
 |x::l,y::m,h,0,v,s,hv=>⟨hv,h.2⟩
 |x::l,y::m,h,i+1,v,s,hv=>⟨h.1,Uj h.2 i hv⟩
 |[],_::_,h,_,_,_,_=>h.elim
 |_::_,[],h,_,_,_,_=>h.elim
theorem Va(h:Sim μ F Γ st){x:Opd}{v:TSV}(hx:(WI F Γ x).ok (v,Γ')):(st.take false x).holds fun(s,st')=>v.sv μ st'.ver (lnT F Γ') s∧Sim μ F Γ' st':=by
 unfold WI at hx
 rw[R.Ah]at hx
 obtain⟨v0,h1,hx⟩:=hx
 split at hx
 ·have:=R.Ai.1 hx
  cases this
  have hu:=El h (b:=true) (fun _=>rfl) h1
  simp only[St.take,M.Aa]
  refine M.Ag hu ?_
  rintro _ ⟨a,rfl,ha⟩
  have ha:a=_:=ha
  subst ha
  simp only[SV.cells,St.B5,St.DR,M.Aa]
  refine M.Ab (M.Ab (M.Ab (M.Ab ?_)))
  exact⟨⟨_,rfl,rfl⟩,h⟩
 ·exact(Hx h hx).2
theorem VM(h:Sim μ F Γ st){dst:Option Nat}{ty:Option (BT×TT)}{op:AOp}(hW:op.isW=true)(hx:(H5 F Γ dst ty op).ok Γ'):(st.Fv dst op).holds fun st'=>WOk μ st.hp.next F Γ' st':=by
 cases op with
 |asg x=>
  cases dst with
  |none=>exact(R.Af.1 hx).elim
  |some d=>
   simp only[H5]at hx
   rw[R.Ah]at hx
   obtain⟨⟨v,Γ1⟩,h1,hx⟩:=hx
   have h2:=Va h h1
   simp only[St.Fv,M.Aa]
   refine M.Ag h2 ?_
   rintro⟨s,st1⟩ ⟨k1,k2⟩
   exact M.Ab ⟨μ,_,Cy.refl _,CG k2 hx ⟨s,rfl,k1⟩,CX.refl _ _⟩
 |alloc zero=>
  cases dst with
  |none=>exact(R.Af.1 hx).elim
  |some d=>
   simp only[H5]at hx
   simp only[St.Fv]
   have hz:∀zs:List Value,avs μ st.ver (lnT F Γ) (zs.map G6) (zs.map .lit):=by
    intro zs
    induction zs with
    |nil=>exact trivial
    |cons z zs ih=>exact⟨Hm z,ih⟩
   exact M.Ab (Nc h hx (hz zero))
 |box x=>
  cases dst with
  |none=>exact(R.Af.1 hx).elim
  |some d=>
   simp only[H5]at hx
   rw[R.Ah]at hx
   obtain⟨⟨v,Γ1⟩,h1,hx⟩:=hx
   obtain⟨hs,h2⟩:=Hx h h1
   have hv:∀f l,v≠.clo f l:=by rintro f l rfl;exact R.Af.1 hx
   have hx:(PU F Γ1 d v.cells).ok Γ':=by cases v<;>first|exact hx|exact(hv _ _ rfl).elim
   simp only[St.Fv,M.Aa]
   refine M.Ag (M.Jb h2 (Et st true x)) ?_
   rintro⟨s,st1⟩ ⟨⟨k1,k2⟩,k0⟩
   have:=Nc k2 hx (KJ hv k1)
   rw[show st1.hp.next=st.hp.next from k0]at this
   rw[show st1.hp.next=st.hp.next from k0]
   exact M.Ab this
 |buildSl k zero len parts=>
  cases dst with
  |none=>exact(R.Af.1 hx).elim
  |some d=>
   cases ty with
   |none=>exact(R.Af.1 hx).elim
   |some ety=>
    obtain⟨e,tt⟩:=ety
    simp only[H5]at hx
    split at hx
    case isFalse=>exact(R.Af.1 hx).elim
    rename_i hk
    subst hk
    rw[R.Ah]at hx
    obtain⟨z,h1,hx⟩:=hx
    rw[R.Ah]at hx
    obtain⟨⟨l,Γ1⟩,h2,hx⟩:=hx
    have hz:=Um (R.BE.1 h1)
    simp only[St.Fv,M.Aa]
    refine M.Ag (Ox h (Qk (e.enc tt) hz len) h2) ?_
    rintro⟨xs,st1⟩ ⟨k1,k2⟩
    exact M.Ab ⟨μ,_,Cy.set (.val _ _ _ (.one _ _ (.sl _ _ _ _ _ (.inl rfl) k1))),CG k2 hx ⟨_,rfl,_,rfl,rfl⟩,CX.refl _ _⟩
 |store n a x=>
  simp only[H5]at hx
  rw[R.Ah]at hx
  obtain⟨⟨v,Γ1⟩,h1,hx⟩:=hx
  obtain⟨hs,h2⟩:=Hx h h1
  have hv:∀f l,v≠.clo f l:=by rintro f l rfl;exact R.Af.1 hx
  have hx:(do
   let c←FZ F Γ1 [] a
   Mf F Γ1 n v.cells c:R TS).ok Γ':=by cases v<;>first|exact hx|exact(hv _ _ rfl).elim
  rw[R.Ah]at hx
  obtain⟨c,h3,hx⟩:=hx
  have hss:v.cells.all TC.AP=true:=by
   cases v with
   |one c=>simpa[TSV.cells,TSV.Gz]using hs
   |agg l=>exact hs
   |clo f l=>rfl
  simp only[St.Fv,M.Aa]
  refine M.Ag (M.Jb h2 (Et st true x)) ?_
  rintro⟨s,st1⟩ ⟨⟨k1,k2⟩,k0⟩
  have k0:st1.hp.next=st.hp.next:=k0
  rw[←k0]
  have k3:=KJ hv k1
  have key:=fun a ha=>To k2 hx hss k3 (a:=a) ha
  obtain⟨u,hu1,hu2⟩:=(M.Aw _ _).1 (Cb k2 (b:=true) (fun _=>rfl) h3)
  have hlen:=(key u hu2).1
  rw[if_pos hlen]
  simp only[M.Aa]
  refine M.Ag hu1 ?_
  rintro _ rfl
  exact(key _ hu2).2
 |app k bytes s x=>
  cases dst with
  |none=>exact(R.Af.1 hx).elim
  |some d=>
   cases ty with
   |none=>exact(R.Af.1 hx).elim
   |some ety=>
    obtain⟨e,tt⟩:=ety
    simp only[H5]at hx
    split at hx
    case isFalse=>exact(R.Af.1 hx).elim
    rename_i hk
    obtain⟨rfl,hby⟩:=hk
    rw[R.Ah]at hx
    obtain⟨⟨ys,Γ1⟩,h1,hx⟩:=hx
    rw[R.Ah]at hx
    obtain⟨⟨v,Γ2⟩,h2,hx⟩:=hx
    rw[R.Ah]at hx
    obtain⟨xs,h3,hx⟩:=hx
    rw[R.Ah]at hx
    obtain⟨_,h4,hx⟩:=hx
    have h4:(xs.length+ys.length)*bytes≤140737488355328:=R.Fj.1 h4
    simp only[St.Fv,M.Aa]
    refine M.Ag (Td h h1) ?_
    rintro⟨ysA,st1⟩ ⟨k1,k2⟩
    refine M.Ag (VB k2 h2 h3) ?_
    rintro⟨xsA,st2⟩ ⟨k3,k4⟩
    simp only[M.Aj]
    have e1:ysA.length=ys.length:=by simpa using k1.length
    have e2:xsA.length=xs.length:=by simpa using k3.length
    refine⟨by rw[e1,e2];exact h4,?_,M.Ab ⟨μ,_,Cy.set (.val _ _ _ (.one _ _ (.sl _ _ _ _ _ (.inl rfl) (k3.append k1)))),CG k4 hx ⟨_,rfl,_,rfl,?_⟩,CX.refl _ _⟩⟩
    ·rw[e1,e2]
     have:(xs.length+ys.length)*1≤(xs.length+ys.length)*bytes:=Nat.mul_le_mul_left _ hby
     omega
    ·simp[TC.av]
 |ext x i=>
  cases x with
  |c v=>exact(R.Af.1 hx).elim
  |f nm=>exact(R.Af.1 hx).elim
  |t n=>
   cases dst with
   |none=>exact(R.Af.1 hx).elim
   |some d=>
    simp only[H5]at hx
    split at hx
    case h_2=>exact(R.Af.1 hx).elim
    rename_i l hl
    split at hx
    case h_2=>exact(R.Af.1 hx).elim
    rename_i v hv
    split at hx
    case isFalse=>exact(R.Af.1 hx).elim
    rename_i hkn
    rw[R.Ah]at hx
    obtain⟨Γ1,h1,hx⟩:=hx
    obtain⟨m,heq,hm⟩:=h.sl n _ hl
    obtain⟨s,hs,hsv⟩:=Qt hm hv
    have hsol:v.Gz=true∧s.cells.all AV.solid=true∧v.husk.sv μ st.ver (lnT F Γ) s.husk:=by
     cases v with
     |one c=>
      obtain⟨a,rfl,ha⟩:=hsv
      obtain⟨q1,q2⟩:=Mx hkn ha
      exact⟨q1,by simp[SV.cells,q2],_,rfl,TK hkn ha⟩
     |agg l'=>
      obtain⟨a,rfl,ha⟩:=hsv
      obtain⟨q1,q2⟩:=FU hkn ha
      exact⟨q1,q2,_,rfl,Rh hkn ha⟩
     |clo f l'=>
      obtain⟨a,rfl,ha⟩:=hsv
      obtain⟨q1,q2⟩:=FU hkn ha
      exact⟨q1,rfl,a,rfl,ha⟩
    have k1:=CG h h1 (y:=.tup (m.set i s.husk)) ⟨_,rfl,Uj hm i hsol.2.2⟩
    have k2:=CG k1 hx (y:=.val true s) ⟨s,rfl,Lv hsol.1 hsv⟩
    simp only[St.Fv,heq,hs,M.Aa,M.Aj]
    exact⟨hsol.2.1,M.Ab ⟨μ,_,Cy.refl _,k2,CX.refl _ _⟩⟩
 |panic x=>cases dst<;>cases ty<;>exact(R.Af.1 hx).elim
 |_=>cases hW
theorem Yr(h:Sim μ F Γ st){dst:Option Nat}{ty:Option (BT×TT)}{k bytes:Nat}{zero:List Value}{l c:Opd}(hx:(H5 F Γ dst ty (.mkSl k bytes zero l c)).ok Γ'):
  (st.A5 true (.mkSl k bytes zero l c)).holds fun s=>WOk μ st.hp.next F Γ' (st.GM dst (.val true s)):=by
 cases dst with
 |none=>exact(R.Af.1 hx).elim
 |some d=>
  cases ty with
  |none=>exact(R.Af.1 hx).elim
  |some ety=>
   obtain⟨e,tt⟩:=ety
   simp only[H5]at hx
   split at hx
   case isFalse=>exact(R.Af.1 hx).elim
   rename_i hk
   obtain⟨rfl,hby⟩:=hk
   rw[R.Ah]at hx
   obtain⟨n,h1,hx⟩:=hx
   rw[R.Ah]at hx
   obtain⟨m,h2,hx⟩:=hx
   rw[R.Ah]at hx
   obtain⟨z,h3,hx⟩:=hx
   rw[R.Ah]at hx
   obtain⟨_,h4,hx⟩:=hx
   have h4:=R.Fj.1 h4
   have hz:=Um (R.BE.1 h3)
   simp only[St.A5,M.Aa]
   refine M.Ag (GF h (b:=true) (fun _=>rfl) h1) fun x0 e0=>?_
   rw[e0]
   clear e0 x0
   refine M.Ag (GF h (b:=true) (fun _=>rfl) h2) fun x0 e0=>?_
   rw[e0]
   clear e0 x0
   simp only[M.Aj]
   refine⟨fun _=>h4,fun _=>?_,trivial,M.Ab ⟨μ,_,Cy.set (.val _ _ _ (.one _ _ (.sl _ _ _ _ _ (.inl rfl) (Qk (e.enc tt) hz n.toNat)))),CG h hx ⟨_,rfl,_,rfl,rfl⟩,CX.refl _ _⟩⟩
   have hb1:(1:Int)≤bytes:=by omega
   have hm0:0≤m:=by omega
   have:(1:Int)*m≤bytes*m:=Int.mul_le_mul_of_nonneg_right hb1 hm0
   omega
end
theorem IX(k:Nat):∀(l:List (Nat×Opd)) (xs:List (List AV)) (st:St),(DY st k xs l).all fun p=>p.2.hp.next=st.hp.next
 |[],xs,st=>M.A7 rfl
 |(i,x)::r,xs,st=>by
  refine M.all_bind (M.Cr (Et st true x) ?_)
  rintro⟨s,st1⟩ h1
  show M.all (if s.cells.length=k then DY st1 k (xs.set i s.cells) r else M.fail) _
  split
  ·exact M.Cr (IX k r _ st1) fun p hp=>hp.trans h1
  ·exact M.Bj
theorem RW(st:St)(k:Nat)(x:Opd):(st.source k x).all fun p=>p.2.hp.next=st.hp.next:=by
 unfold St.source
 split
 ·exact M.A7 rfl
 ·split
  ·exact M.all_bind (M.Bp (M.all_bind (M.Bp (M.A7 rfl))))
  ·exact M.all_bind (M.Bp (M.all_bind (M.Bp (M.A7 rfl))))
  ·exact M.all_bind (M.Bp (M.A7 rfl))
  ·split
   ·exact M.all_bind (M.Bp (M.all_bind (M.Bp (M.all_bind (M.Bp (M.all_bind (M.Bp (M.all_bind (M.Bp (M.all_bind (M.Bp (M.A7 rfl))))))))))))
   ·exact M.Bj
  ·exact M.Bj
 ·exact M.Bj
theorem Uq(st:St)(k:Nat)(x:Opd):(st.base k x).all fun p=>p.2.hp.next=st.hp.next:=by
 unfold St.base
 refine M.all_bind (M.Cr (Et st false x) ?_)
 rintro⟨s,st1⟩ h1
 dsimp only
 split
 ·exact M.all_bind (M.Bp (M.A7 h1))
 ·exact M.A7 h1
 ·exact M.Bj
theorem Ux(st:St)(dst:Option Nat)(op:AOp):(st.Fv dst op).all fun st'=>st.hp.next≤st'.hp.next:=by
 cases op with
 |asg x=>
  cases dst with
  |none=>exact M.Bj
  |some d=>
   refine M.all_bind (M.Cr (Et st false x) ?_)
   rintro⟨s,st1⟩ h1
   exact M.A7 (Nat.le_of_eq h1.symm)
 |alloc zero=>
  cases dst with
  |none=>exact M.Bj
  |some d=>exact M.A7 (Nat.le_succ _)
 |box x=>
  cases dst with
  |none=>exact M.Bj
  |some d=>
   refine M.all_bind (M.Cr (Et st true x) ?_)
   rintro⟨s,st1⟩ h1
   exact M.A7 (Nat.le_trans (Nat.le_of_eq h1.symm) (Nat.le_succ _))
 |buildSl k zero len parts=>
  cases dst with
  |none=>exact M.Bj
  |some d=>
   refine M.all_bind (M.Cr (IX k parts _ st) ?_)
   rintro⟨s,st1⟩ h1
   exact M.A7 (Nat.le_of_eq h1.symm)
 |store n a x=>
  refine M.all_bind (M.Cr (Et st true x) ?_)
  rintro⟨s,st1⟩ h1
  have h1:st.hp.next≤st1.hp.next:=Nat.le_of_eq h1.symm
  dsimp only
  split
  case isFalse=>exact M.Bj
  refine M.all_bind (M.all_true _ fun a=>?_)
  split
  ·split
   ·refine M.all_bind (M.Bp (M.A7 ?_))
    split
    ·rw[LU];exact h1
    ·exact h1
   ·exact M.Bj
  ·split
   ·refine M.all_bind (M.Bp (M.all_bind (M.Bp (M.all_bind (M.Bp (M.all_bind (M.Bp (M.A7 ?_))))))))
    split
    ·rw[LU,Ke];exact h1
    ·rw[Ke];exact h1
   ·exact M.Bj
  ·exact M.Bj
 |app k bytes s x=>
  cases dst with
  |none=>exact M.Bj
  |some d=>
   refine M.all_bind (M.Cr (RW st k x) ?_)
   rintro⟨ys,st1⟩ h1
   refine M.all_bind (M.Cr (Uq st1 k s) ?_)
   rintro⟨xs,st2⟩ h2
   exact M.all_bind (M.Bp (M.all_bind (M.Bp (M.A7 (Nat.le_of_eq (h2.trans h1).symm)))))
 |ext x i=>
  cases dst with
  |none=>cases x<;>exact M.Bj
  |some d=>
   cases x with
   |t n=>
    simp only[St.Fv]
    split
    ·split
     ·exact M.all_bind (M.Bp (M.A7 (Nat.le_refl _)))
     ·exact M.Bj
    ·exact M.Bj
   |_=>exact M.Bj
 |_=>exact M.Bj
end Go.VS
namespace Go.VS
inductive PT
 |val (agg:Bool) (t:BT) (tt:TT)
 |ptr (t:BT) (tt:TT)
 |clo (f:String×Bool) (n:Nat)
 |cap (t:BT) (tt:TT)
 |fnp (names:List String)
def PT.bt:PT→BT
 |.val _ t _=>t
 |.ptr t _=>t
 |.clo _ _=>.unit
 |.cap t _=>t
 |.fnp _=>.int .i64
def PT.tt:PT→TT
 |.val _ _ tt=>tt
 |.ptr _ tt=>tt
 |.clo _ _=>.leaf
 |.cap _ tt=>tt
 |.fnp _=>.leaf
def PT.DN:PT→Bool
 |.val ..=>false
 |.ptr ..=>true
 |.clo ..=>false
 |.cap ..=>true
 |.fnp _=>false
def PT.Hs:PT→Bool
 |.fnp _=>false
 |_=>true
def nameAt(names:List String):List TC→String×Bool
 |.int _ n::_=>(names.getD n.toNat "",true)
 |_=>("",true)
def NW(f:String×Bool):List String→Nat→Option Nat
 |[],_=>none
 |x::l,i=>if f=(x,true)then some i else NW f l (i+1)
def VH:Nat→Nat→List TC
 |_,0=>[]
 |i,n+1=>.box i 0::VH (i+1) n
structure Sig where
 ps:List PT
 rs:List PT
 deriving Inhabited
def tyP:List PT→BT
 |[]=>.unit
 |[p]=>p.bt
 |p::r=>.pair p.bt (tyP r)
def ttP:List PT→TT
 |[]=>.leaf
 |[p]=>p.tt
 |p::r=>.pair p.tt (ttP r)
@[reducible] def DP(l:List PT):Type:=(tyP l).D
def Ap(l:List PT)(x:DP l):List TC:=(tyP l).ex (ttP l) x
def Ud(l:List PT)(cs:List TC):Option (DP l):=(tyP l).K4 (ttP l) cs
def ptrs(l:List PT):List PT:=l.filter PT.DN
def AG:List PT→Nat→List TC→List TSV
 |[],_,_=>[]
 |.val agg t _::r,i,cs=>mkT agg (cs.take t.size)::AG r (i+1) (cs.drop t.size)
 |.ptr t _::r,i,cs=>.one (.box i 0)::AG r (i+1) (cs.drop t.size)
 |.clo f n::r,i,cs=>.clo f (VH (i+1) n)::AG r (i+1) cs
 |.cap t _::r,i,cs=>AG r (i+1) (cs.drop t.size)
 |.fnp names::r,i,cs=>.clo (nameAt names cs) [.box 0 0]::AG r (i+1) (cs.drop 1)
def AN:List PT→Nat→List TC→List (Nat×List TC)
 |[],_,_=>[]
 |.val _ t _::r,i,cs=>AN r (i+1) (cs.drop t.size)
 |.ptr t _::r,i,cs=>(i,cs.take t.size)::AN r (i+1) (cs.drop t.size)
 |.clo _ _::r,i,cs=>AN r (i+1) cs
 |.cap t _::r,i,cs=>(i,cs.take t.size)::AN r (i+1) (cs.drop t.size)
 |.fnp _::r,i,cs=>AN r (i+1) (cs.drop 1)
def Az:List PT→Nat→List TC→List (Nat×List TC)
 |[],_,_=>[]
 |.val ..::r,i,cs=>Az r (i+1) cs
 |.ptr t _::r,i,cs=>(i,cs.take t.size)::Az r (i+1) (cs.drop t.size)
 |.clo ..::r,i,cs=>Az r (i+1) cs
 |.cap t _::r,i,cs=>(i,cs.take t.size)::Az r (i+1) (cs.drop t.size)
 |.fnp _::r,i,cs=>Az r (i+1) cs
def dv:Root→Nat:=fun _=>0
def dl:Place→Option Nat:=fun _=>none
structure PL(μ:Nat→Nat)(B:List (Nat×List TC))(H:Heap):Prop where
 get:∀b l,look B b=some l→∃m,H.get (μ b)=some m∧avs μ dv dl l m∧μ b<H.next
 inj:∀b b' l l',look B b=some l→look B b'=some l'→μ b=μ b'→b=b'
 only:∀o m,H.get o=some m→∃b l,look B b=some l∧μ b=o
structure M5(S:Sig)(μ:Nat→Nat)(H:Heap)(d:DP S.rs)(d':DP (ptrs S.ps))(r:TV)(H':Heap):Prop where
 res:∃μ' ss ss',(∀i,i<rbase→μ' i=μ i)∧r=gather ss∧DA ss ss'∧svs μ' dv dl (AG S.rs rbase (Ap S.rs d)) ss'∧
  (∀b l,look (Az S.ps 0 (Ap (ptrs S.ps) d')++AN S.rs rbase (Ap S.rs d)) b=some l→∃m m',H'.get (μ' b)=some m∧CoL m m'∧avs μ' dv dl l m'∧μ' b<H'.next)∧
  (∀b,rbase≤b→H.next≤μ' b)∧H.next≤H'.next
def Fn(P:Pg)(nm:String)(S:Sig)(x:DP S.ps)(K:DP S.rs→DP (ptrs S.ps)→Prop):Prop:=
 ∀(μ:Nat→Nat) (H:Heap) (as:List SV),svs μ dv dl (AG S.ps 0 (Ap S.ps x)) as→PL μ (AN S.ps 0 (Ap S.ps x)) H→
  GN P nm as H fun r H'=>∃d d',M5 S μ H d d' r H'∧K d d'
theorem Fn.mono{P:Pg}{nm:String}{S:Sig}{x:DP S.ps}{K K':DP S.rs→DP (ptrs S.ps)→Prop}(h:Fn P nm S x K)(hk:∀d d',K d d'→K' d d'):Fn P nm S x K':=
 fun μ H as h1 h2=>(h μ H as h1 h2).mono fun _ _ ⟨d,d',h3,h4⟩=>⟨d,d',h3,hk d d' h4⟩
def TT.lend:TT→TT
 |.leaf=>.leaf
 |.node .own e=>.node .brw e.lend
 |.node τ e=>.node τ e
 |.pair a b=>.pair a.lend b.lend
def TT.frz:TT→TT
 |.leaf=>.leaf
 |.node .own e=>.node .imm e.frz
 |.node τ e=>.node τ e
 |.pair a b=>.pair a.frz b.frz
section
variable(F Γ:TS)
def Yd(w:Option (Nat×Nat))(k:Nat):TC→R TC
 |.sl .own tt e l=>if e.size=k then(match w with
   |none=>pure (.sl .brw tt.lend e l)
   |some (lo,n)=>(do
    R.need (lo+n≤l.length)
    pure (.sl .brw tt.lend e ((l.drop lo).take n))))
  else R.fail
 |_=>R.fail
def Xf(imp:Bool):TC→R TC
 |.ref p _ e w=>if(imp&&Ld p)=false then(do
   let d←atR F Γ p
   Yd w e.size d)
  else R.fail
 |.sl .own tt e l=>pure (.sl .imm tt.frz e l)
 |.adr ..=>R.fail
 |.iadr ..=>R.fail
 |.iadrd ..=>R.fail
 |.dead=>R.fail
 |c=>pure c
def Tz(imp:Bool):List TC→R (List TC)
 |[]=>pure []
 |c::l=>do
  let d←Xf F Γ imp c
  let m←Tz imp l
  pure (d::m)
def Xg(imp:Bool):TSV→R TSV
 |.one c=>do
  let d←Xf F Γ imp c
  pure (.one d)
 |.agg l=>do
  let m←Tz F Γ imp l
  pure (.agg m)
 |.clo f l=>pure (.clo f l)
def Ye(imp:Bool)(g:Gd):Opd→R TSV
 |.c v=>pure (.one (G6 v))
 |.f nm=>pure (.clo (nm,false) [])
 |.t n=>match TS.slot F Γ n with
  |some (.val gd v)=>bif gsub gd g then Xg F Γ imp v else R.fail
  |_=>R.fail
def QK(imp:Bool)(g:Gd):List Opd→R (List TSV)
 |[]=>pure []
 |x::r=>do
  let a←Ye F Γ imp g x
  let l←QK imp g r
  pure (a::l)
def KI(imp:Bool)(g:Gd):AOp→R (String×List TSV)
 |.call f xs=>do
  let a←QK F Γ imp g xs
  pure (f,a)
 |.callv f xs=>do
  let v←Kn F Γ g f
  match v with
  |.clo nm caps=>do
   let a←QK F Γ imp g xs
   if caps.all TC.known then pure (nm.1,bif nm.2 then caps.map .one++a else a++caps.map .one)else R.fail
  |_=>R.fail
 |_=>R.fail
def AJ:List PT→Nat→List TSV→List TC→Option (List TC×List (Nat×Nat))
 |[],_,[],[]=>some ([],[])
 |.val agg t _::ps,i,v::vs,[]=>match v,agg,AJ ps (i+1) vs []with
  |.one c,false,some (cs,bs)=>if t.size=1 then some (c::cs,bs)else none
  |.agg l,true,some (cs,bs)=>if l.length=t.size then some (l++cs,bs)else none
  |_,_,_=>none
 |.ptr t _::ps,i,.one (.box b 0)::vs,[]=>match look Γ.bx b,AJ ps (i+1) vs []with
  |some l,some (cs,bs)=>if bs.any (fun p=>Nat.beq p.2 b)=false∧l.length=t.size then some (l++cs,(i,b)::bs)else none
  |_,_=>none
 |.clo f n::ps,i,.clo f' caps::vs,[]=>if f'=f∧caps.length=n then AJ ps (i+1) vs caps else none
 |.cap t _::ps,i,vs,.box b 0::pend=>match look Γ.bx b,AJ ps (i+1) vs pend with
  |some l,some (cs,bs)=>if bs.any (fun p=>Nat.beq p.2 b)=false∧l.length=t.size then some (l++cs,(i,b)::bs)else none
  |_,_=>none
 |.fnp names::ps,i,.clo f [.box 0 0]::vs,[]=>match NW f names 0,AJ ps (i+1) vs []with
  |some k,some (cs,bs)=>some (.int .i64 k::cs,bs)
  |_,_=>none
 |_,_,_,_=>none
def Xs(Γ:TS):Opd→R TS
 |.t n=>match TS.slot F Γ n with
  |some (.val _ v)=>bif v.cells.any ownish then Gx F Γ n .gone else pure Γ
  |_=>Gx F Γ n .gone
 |_=>pure Γ
def Pa(Γ:TS):List Opd→R TS
 |[]=>pure Γ
 |x::r=>do
  let Γ1←Xs F Γ x
  Pa Γ1 r
end
def EK(bs:List (Nat×Nat)):List (Nat×List TC)→List (Nat×List TC)
 |[]=>[]
 |(i,l)::r=>match look bs i with
  |some b=>(b,l)::EK bs r
  |none=>EK bs r
def RP(bs:List (Nat×Nat)):TSV→TSV
 |.clo f _=>match look bs 0 with
  |some b=>.clo f [.box b 0]
  |none=>.one .dead
 |v=>v
def Ob(g:Gd):List TSV→TX
 |[v]=>.val g v
 |l=>.tup l
def B0(imp:Bool)(dst:Option Nat)(rp:Bool)(p:Place):Bool:=(imp&&Ld p)||(match dst with|some d=>Da d p||(rp&&Ru (d+rbase) p)|none=>false)
def Sig.imp(S:Sig):Bool:=S.ps.any PT.DN||S.rs.any PT.DN
def O0(F Γ1:TS)(S:Sig)(g:Gd)(dst:Option Nat)(bs:List (Nat×Nat))(d:DP S.rs)(d':DP (ptrs S.ps)):Option TS:=
 match dst with
 |none=>bif S.rs.any PT.DN then none else TS.upd F Γ1 (B0 S.imp none false) (B0 S.imp none false) BU [] (EK bs (Az S.ps 0 (Ap (ptrs S.ps) d')))
 |some t=>
  bif S.rs.any PT.DN then
   (match g,S.rs with
   |[],[.ptr _ _]=>bif (look (EK bs (Az S.ps 0 (Ap (ptrs S.ps) d'))) (t+rbase)).isSome then none else
     TS.upd F Γ1 (B0 S.imp (some t) true) (B0 S.imp (some t) true) (fun b=>Nat.beq b (t+rbase)) [(t,.val [] (.one (.box (t+rbase) 0)))] (EK bs (Az S.ps 0 (Ap (ptrs S.ps) d'))++[(t+rbase,Ap S.rs d)])
   |_,_=>none)
  else bif (Ob g ((AG S.rs rbase (Ap S.rs d)).map (RP bs))).guards t then none
  else TS.upd F Γ1 (B0 S.imp (some t) false) (B0 S.imp (some t) false) BU [(t,Ob g ((AG S.rs rbase (Ap S.rs d)).map (RP bs)))] (EK bs (Az S.ps 0 (Ap (ptrs S.ps) d')))
end Go.VS
namespace Go.VS
section
variable{μ μ':Nat→Nat}{ver:Root→Nat}{ln:Place→Option Nat}{F Γ Γ':TS}{st:St}
theorem Kj:∀{l m:List TSV} {a b:List SV},svs μ ver ln l a→svs μ ver ln m b→svs μ ver ln (l++m) (a++b)
 |[],_,[],_,_,h=>h
 |x::l,m,y::a,b,h,k=>⟨h.1,Kj h.2 k⟩
 |[],_,_::_,_,h,_=>h.elim
 |_::_,_,[],_,h,_=>h.elim
theorem K7:∀(t:BT) (tt:TT) (x:t.D),(t.enc tt x).map AV.lend=t.enc tt.lend x
 |.int _,_,_=>rfl
 |.bool,_,_=>rfl
 |.str,_,_=>rfl
 |.unit,_,_=>rfl
 |.sl e,tt,l=>by
  cases tt with
  |leaf=>rfl
  |node τ a=>
   cases τ with
   |own=>
    simp only[BT.enc,TT.tag,TT.elt,TT.lend,List.map_cons,List.map_nil,AV.lend,Jc,List.map_map]
    congr 2
    refine List.map_congr_left fun x _=>?_
    exact K7 e a x
   |_=>rfl
  |pair a b=>rfl
 |.pair a b,tt,x=>by
  have h1:tt.lend.fst=tt.fst.lend∧tt.lend.snd=tt.snd.lend:=by
   cases tt with
   |leaf=>exact⟨rfl,rfl⟩
   |node τ a=>cases τ<;>exact⟨rfl,rfl⟩
   |pair a b=>exact⟨rfl,rfl⟩
  simp only[BT.enc,List.map_append,K7 a,K7 b,h1.1,h1.2]
theorem M3:∀(t:BT) (tt:TT) (x:t.D),(t.enc tt x).map AV.frz=t.enc tt.frz x
 |.int _,_,_=>rfl
 |.bool,_,_=>rfl
 |.str,_,_=>rfl
 |.unit,_,_=>rfl
 |.sl e,tt,l=>by
  cases tt with
  |leaf=>rfl
  |node τ a=>
   cases τ with
   |own=>
    simp only[BT.enc,TT.tag,TT.elt,TT.frz,List.map_cons,List.map_nil,AV.frz,KR,List.map_map]
    congr 2
    refine List.map_congr_left fun x _=>?_
    exact M3 e a x
   |_=>rfl
  |pair a b=>rfl
 |.pair a b,tt,x=>by
  have h1:tt.frz.fst=tt.fst.frz∧tt.frz.snd=tt.snd.frz:=by
   cases tt with
   |leaf=>exact⟨rfl,rfl⟩
   |node τ a=>cases τ<;>exact⟨rfl,rfl⟩
   |pair a b=>exact⟨rfl,rfl⟩
  simp only[BT.enc,List.map_append,M3 a,M3 b,h1.1,h1.2]
theorem NK(e:BT)(tt:TT)(l:List e.D):Gq (l.map (e.enc tt))=l.map (e.enc tt.lend):=by
 rw[Jc,List.map_map]
 exact List.map_congr_left fun x _=>K7 e tt x
theorem O8(e:BT)(tt:TT)(l:List e.D):Iu (l.map (e.enc tt))=l.map (e.enc tt.frz):=by
 rw[KR,List.map_map]
 exact List.map_congr_left fun x _=>M3 e tt x
variable{V:Vis}{imp:Bool}
theorem QI(h:Sim μ F Γ st)(hV:imp=false→V=none){c d:TC}{a:AV}(hx:(Xf F Γ imp c).ok d)(ha:c.av μ st.ver (lnT F Γ) a):
  d.AP=true∧(st.Dy V a).holds fun b=>d.av μ st.ver (lnT F Γ) b:=by
 cases c with
 |ref p tt0 e w=>
  simp only[Xf]at hx
  split at hx
  case isFalse=>exact(R.Af.1 hx).elim
  rename_i hi
  rw[R.Ah]at hx
  obtain⟨d0,h1,hx⟩:=hx
  have hhid:(p.mu μ).root.hid V=true:=by
   cases hr:p.root with
   |slot t j=>simp[Place.mu,hr,Root.mu,Root.hid]
   |obj b c=>
    have ho:Ld p=true:=E7.2 ⟨b,c,hr⟩
    rw[ho,Bool.and_true]at hi
    rw[hV hi]
    simp[Place.mu,hr,Root.mu,Root.hid,Vis.sees]
  cases d0 with
  |sl τ tt e2 l=>
   cases τ with
   |own=>
    obtain⟨q1,q2⟩:=G2 h h1
    cases w with
    |none=>
     have ha:a=_:=IJ ha q2
     subst ha
     simp only[Yd]at hx
     split at hx
     case isFalse=>exact(R.Af.1 hx).elim
     rename_i hk
     have:=R.Ai.1 hx
     subst this
     refine⟨rfl,?_⟩
     simp only[St.Dy,q1,M.Aa,M.Aj,hhid]
     refine⟨trivial,trivial,hk,by simp,M.Ab ?_⟩
     rw[OB,NK,←hk]
     exact rfl
    |some y=>
     obtain⟨lo,n⟩:=y
     have ha:a=_:=ha
     subst ha
     simp only[Yd]at hx
     split at hx
     case isFalse=>exact(R.Af.1 hx).elim
     rename_i hk
     rw[R.Ah]at hx
     obtain⟨_,h2,hx⟩:=hx
     have h2:=R.Fj.1 h2
     have:=R.Ai.1 hx
     subst this
     refine⟨rfl,?_⟩
     simp only[St.Dy,q1,M.Aa,M.Aj,hhid]
     refine⟨trivial,trivial,hk,by simpa using h2,M.Ab ?_⟩
     rw[MM,NK,←hk]
     exact rfl
   |_=>exact(R.Af.1 hx).elim
  |_=>exact(R.Af.1 hx).elim
 |sl τ tt e l=>
  have ha:a=_:=ha
  subst ha
  cases τ with
  |own=>
   have:=R.Ai.1 hx
   subst this
   refine⟨rfl,?_⟩
   simp only[St.Dy]
   refine M.Ab ?_
   rw[O8]
   exact rfl
  |imm=>have:=R.Ai.1 hx;subst this;exact⟨rfl,M.Ab rfl⟩
  |brw=>have:=R.Ai.1 hx;subst this;exact⟨rfl,M.Ab rfl⟩
 |adr=>exact(R.Af.1 hx).elim
 |iadr=>exact(R.Af.1 hx).elim
 |iadrd=>exact(R.Af.1 hx).elim
 |dead=>exact(R.Af.1 hx).elim
 |_=>
  have ha:a=_:=ha
  subst ha
  have:=R.Ai.1 hx
  subst this
  exact⟨rfl,M.Ab rfl⟩
theorem OX(h:Sim μ F Γ st)(hV:imp=false→V=none):∀{l m:List TC} {as:List AV},(Tz F Γ imp l).ok m→avs μ st.ver (lnT F Γ) l as→
  m.all TC.AP=true∧(st.EA V as).holds fun bs=>avs μ st.ver (lnT F Γ) m bs
 |[],m,[],hx,_=>by
  have:=R.Ai.1 hx
  subst this
  exact⟨rfl,M.Ab trivial⟩
 |c::l,m,a::as,hx,ha=>by
  simp only[Tz]at hx
  rw[R.Ah]at hx
  obtain⟨d,h1,hx⟩:=hx
  rw[R.Ah]at hx
  obtain⟨m',h2,hx⟩:=hx
  have:=R.Ai.1 hx
  subst this
  obtain⟨s1,k1⟩:=QI h hV h1 ha.1
  obtain⟨s2,k2⟩:=OX h hV h2 ha.2
  refine⟨by simp[s1,s2],?_⟩
  simp only[St.EA,M.Aa]
  refine M.Ag k1 fun b hb=>M.Ag k2 fun bs hbs=>M.Ab ⟨hb,hbs⟩
 |[],_,_::_,_,h=>h.elim
 |_::_,_,[],_,h=>h.elim
theorem Vp(h:Sim μ F Γ st)(hV:imp=false→V=none){g:Gd}(hg:gv F Γ g=true){x:Opd}{v:TSV}(hx:(Ye F Γ imp g x).ok v):(st.arg V true x).holds fun s=>v.sv μ st.ver (lnT F Γ) s:=by
 cases x with
 |c u=>
  have:=R.Ai.1 hx
  subst this
  exact M.Ab ⟨_,rfl,Hm u⟩
 |f nm=>
  have:=R.Ai.1 hx
  subst this
  exact M.Ab ⟨[],rfl,trivial⟩
 |t n=>
  simp only[Ye]at hx
  split at hx
  case h_2=>exact(R.Af.1 hx).elim
  rename_i gd v0 hs
  cases hsub:gsub gd g with
  |false=>rw[hsub]at hx;exact(R.Af.1 hx).elim
  |true=>
   rw[hsub]at hx
   have hx:(Xg F Γ imp v0).ok v:=hx
   obtain⟨s,heq,hv⟩:=h.sl n _ hs
   simp only[St.arg,heq,M.Aa,M.Aj]
   refine⟨fun _=>Pf hsub hg,?_⟩
   cases v0 with
   |one c=>
    obtain⟨a,rfl,ha⟩:=hv
    simp only[Xg]at hx
    rw[R.Ah]at hx
    obtain⟨d,h1,hx⟩:=hx
    have:=R.Ai.1 hx
    subst this
    obtain⟨s1,k1⟩:=QI h hV h1 ha
    simp only[SV.cells,St.EA,M.Aa]
    refine M.Ag k1 fun b hb=>M.Ab (M.Ab (M.Ab ⟨b,rfl,hb⟩))
   |agg l=>
    obtain⟨a,rfl,ha⟩:=hv
    simp only[Xg]at hx
    rw[R.Ah]at hx
    obtain⟨d,h1,hx⟩:=hx
    have:=R.Ai.1 hx
    subst this
    obtain⟨s1,k1⟩:=OX h hV h1 ha
    refine M.Ag k1 fun b hb=>M.Ab ⟨b,rfl,hb⟩
   |clo f l=>
    obtain⟨a,rfl,ha⟩:=hv
    have:=R.Ai.1 hx
    subst this
    simp only[SV.cells,St.EA,St.Dy,M.Aa]
    exact M.Ab (M.Ab (M.Ab (M.Ab ⟨a,rfl,ha⟩)))
theorem LP(h:Sim μ F Γ st)(hV:imp=false→V=none){g:Gd}(hg:gv F Γ g=true):∀{xs:List Opd} {vs:List TSV},(QK F Γ imp g xs).ok vs→(st.args V true xs).holds fun as=>svs μ st.ver (lnT F Γ) vs as
 |[],vs,hx=>by
  have:=R.Ai.1 hx
  subst this
  exact M.Ab trivial
 |x::xs,vs,hx=>by
  simp only[QK]at hx
  rw[R.Ah]at hx
  obtain⟨d,h1,hx⟩:=hx
  rw[R.Ah]at hx
  obtain⟨m',h2,hx⟩:=hx
  have:=R.Ai.1 hx
  subst this
  simp only[St.args,M.Aa]
  refine M.Ag (Vp h hV hg h1) fun s hs=>M.Ag (LP h hV hg h2) fun as has=>M.Ab ⟨hs,has⟩
theorem Nk:∀{l:List TC} {k:List AV},avs μ ver ln l k→svs μ ver ln (l.map TSV.one) (k.map SV.one)
 |[],[],_=>trivial
 |c::l,a::k,h=>⟨⟨a,rfl,h.1⟩,Nk h.2⟩
 |[],_::_,h=>h.elim
 |_::_,[],h=>h.elim
theorem JR(h:Sim μ F Γ st)(hV:imp=false→V=none){g:Gd}(hg:gv F Γ g=true){op:AOp}{nm:String}{vs:List TSV}(hx:(KI F Γ imp g op).ok (nm,vs)):
  (st.callee V op).holds fun(nm',as)=>nm'=nm∧svs μ st.ver (lnT F Γ) vs as:=by
 cases op with
 |call f xs=>
  simp only[KI]at hx
  rw[R.Ah]at hx
  obtain⟨a,h1,hx⟩:=hx
  have:=R.Ai.1 hx
  cases this
  simp only[St.callee,M.Aa]
  exact M.Ag (LP h hV hg h1) fun as has=>M.Ab ⟨rfl,has⟩
 |callv f xs=>
  simp only[KI]at hx
  rw[R.Ah]at hx
  obtain⟨v,h1,hx⟩:=hx
  cases v with
  |clo nm' caps=>
   dsimp only at hx
   rw[R.Ah]at hx
   obtain⟨a,h2,hx⟩:=hx
   split at hx
   case isFalse=>exact(R.Af.1 hx).elim
   rename_i hk
   have:=R.Ai.1 hx
   cases this
   simp only[St.callee,St.BX,M.Aa]
   refine M.Ag (El h (b:=true) (fun _=>hg) h1) ?_
   rintro _ ⟨k,rfl,ha⟩
   refine M.Ab ?_
   simp only[M.Aa,M.Aj]
   refine⟨(FU hk ha).2,M.Ag (LP h hV hg h2) fun as has=>M.Ab ⟨rfl,?_⟩⟩
   obtain⟨nm1,b⟩:=nm'
   cases b with
   |false=>exact Kj has (Nk ha)
   |true=>exact Kj (Nk ha) has
  |_=>exact(R.Af.1 hx).elim
 |_=>exact(R.Af.1 hx).elim
theorem CoL.split:∀{l1 l2 m:List AV},CoL (l1++l2) m→CoL l1 (m.take l1.length)∧CoL l2 (m.drop l1.length)
 |[],l2,m,h=>⟨.nil,by simpa using h⟩
 |a::l1,l2,_,.cons _ b _ m h t=>by
  obtain⟨h1,h2⟩:=CoL.split t
  exact⟨.cons _ _ _ _ h (by simpa using h1),by simpa using h2⟩
theorem DA.refl:∀l,DA l l
 |[]=>.nil
 |a::l=>.cons a a l l (CoS.refl a) (DA.refl l)
theorem NP{names:List String}{ps:List PT}{i:Nat}{vs:List TSV}{pend cs:List TC}{bs:List (Nat×Nat)}(h:AJ Γ (.fnp names::ps) i vs pend=some (cs,bs)):
  ∃f vs' k cs',vs=.clo f [.box 0 0]::vs'∧pend=[]∧NW f names 0=some k∧AJ Γ ps (i+1) vs' []=some (cs',bs)∧cs=.int .i64 (k:Nat)::cs':=by
 cases vs with
 |nil=>simp[AJ]at h
 |cons v vs=>
  cases pend with
  |cons=>cases v<;>simp[AJ]at h
  |nil=>
   cases v with
   |clo f l=>
    cases l with
    |nil=>simp[AJ]at h
    |cons c l=>
     cases l with
     |cons=>simp[AJ]at h
     |nil=>
      cases c with
      |box b c0=>
       cases b with
       |succ=>simp[AJ]at h
       |zero=>
        cases c0 with
        |succ=>simp[AJ]at h
        |zero=>
         simp only[AJ]at h
         split at h
         ·rename_i k cs' bs' hk hm
          cases h
          exact⟨f,vs,k,cs',rfl,rfl,hk,hm,rfl⟩
         ·cases h
      |_=>simp[AJ]at h
   |_=>simp[AJ]at h
theorem MA{f:String×Bool}:∀{l:List String} {i k:Nat},NW f l i=some k→∃j,k=i+j∧f=(l.getD j "",true)
 |[],_,_,h=>nomatch h
 |x::l,i,k,h=>by
  rw[NW]at h
  split at h
  ·rename_i hf
   cases h
   exact⟨0,rfl,by simpa using hf⟩
  ·obtain⟨j,h1,h2⟩:=MA h
   exact⟨j+1,by omega,by simpa using h2⟩
theorem IC:∀{ps:List PT} {i:Nat} {vs:List TSV} {pend:List TC} {cs:List TC} {bs:List (Nat×Nat)},AJ Γ ps i vs pend=some (cs,bs)→∀j b,look bs j=some b→i≤j:=by
 have box:∀{i b0:Nat} {bs:List (Nat×Nat)},(∀j b,look bs j=some b→i+1≤j)→∀j b,look ((i,b0)::bs) j=some b→i≤j:=by
  intro i b0 bs h j b hj
  rw[Ao]at hj
  split at hj
  ·omega
  ·have:=h j b hj;omega
 intro ps
 induction ps with
 |nil=>
  intro i vs pend cs bs h j b hj
  cases vs with
  |cons=>simp[AJ]at h
  |nil=>
   cases pend with
   |cons=>simp[AJ]at h
   |nil=>
    simp only[AJ,Option.some.injEq,Prod.mk.injEq]at h
    obtain⟨_,rfl⟩:=h
    cases hj
 |cons p ps ih=>
  intro i vs pend cs bs h j b hj
  cases p with
  |val agg t tt=>
   cases vs with
   |nil=>simp[AJ]at h
   |cons v vs=>
    cases pend with
    |cons=>simp[AJ]at h
    |nil=>
     simp only[AJ]at h
     split at h
     ·rename_i hm
      split at h
      ·cases h;have:=ih hm j b hj;omega
      ·cases h
     ·rename_i hm
      split at h
      ·cases h;have:=ih hm j b hj;omega
      ·cases h
     ·cases h
  |ptr t tt=>
   cases vs with
   |nil=>simp[AJ]at h
   |cons v vs=>
    cases pend with
    |cons=>simp[AJ]at h
    |nil=>
     cases v with
     |one c=>
      cases c with
      |box b0 c0=>
       cases c0 with
       |zero=>
        simp only[AJ]at h
        split at h
        case h_2=>cases h
        rename_i hm
        split at h
        case isFalse=>cases h
        cases h
        exact box (ih hm) j b hj
       |succ=>simp[AJ]at h
      |_=>simp[AJ]at h
     |_=>simp[AJ]at h
  |clo f n=>
   cases vs with
   |nil=>simp[AJ]at h
   |cons v vs=>
    cases pend with
    |cons=>cases v<;>simp[AJ]at h
    |nil=>
     cases v with
     |clo f' caps=>
      simp only[AJ]at h
      split at h
      case isFalse=>cases h
      have:=ih h j b hj;omega
     |_=>simp[AJ]at h
  |fnp names=>
   obtain⟨f,vs',k,cs',rfl,rfl,h1,h2,rfl⟩:=NP h
   have:=ih h2 j b hj;omega
  |cap t tt=>
   cases pend with
   |nil=>simp[AJ]at h
   |cons c pend=>
    cases c with
    |box b0 c0=>
     cases c0 with
     |zero=>
      simp only[AJ]at h
      split at h
      case h_2=>cases h
      rename_i hm
      split at h
      case isFalse=>cases h
      cases h
      exact box (ih hm) j b hj
     |succ=>simp[AJ]at h
    |_=>simp[AJ]at h
def TC.exT:TC→Bool
 |.int ..=>true
 |.bool _=>true
 |.str _=>true
 |.sl ..=>true
 |_=>false
theorem LY:∀(t:BT) (tt:TT) (x:t.D),(t.ex tt x).all TC.exT=true
 |.int _,_,_=>rfl
 |.bool,_,_=>rfl
 |.str,_,_=>rfl
 |.unit,_,_=>rfl
 |.sl _,_,_=>rfl
 |.pair a b,tt,x=>by simp only[BT.ex,List.all_append,LY a,LY b,Bool.and_self]
theorem QX{C:List TC}(h:C.all TC.exT=true)(n:Nat):(C.drop n).all TC.exT=true:=by
 rw[List.all_eq_true]at h⊢
 exact fun c hc=>h c (List.mem_of_mem_drop hc)
def Matched(μ μ':Nat→Nat)(F Γ:TS)(st:St)(ps:List PT)(i:Nat)(pend cs:List TC)(bs:List (Nat×Nat))(as:List SV)(pk:List AV):Prop:=
 (∃A,avs μ st.ver (lnT F Γ) cs A∧∀C E,CoL A E→avs μ' dv dl C E→C.all TC.exT=true→
   (∃as',svs μ' dv dl (AG ps i C) as'∧DA as as')∧
   (∀j l,look (AN ps i C) j=some l→∃b m m',look bs j=some b∧(look Γ.bx b).isSome=true∧st.hp.get (μ b)=some m∧CoL m m'∧avs μ' dv dl l m'∧μ b<st.hp.next)∧
   (∀j b,look bs j=some b→∃l,look (AN ps i C) j=some l))∧
  (∀j b,look bs j=some b→i≤j∧(look Γ.bx b).isSome=true)∧(∀j j' b,look bs j=some b→look bs j'=some b→j=j')∧avs μ' dv dl (VH i pend.length) pk
theorem Pk(h:Sim μ F Γ st){ps:List PT}{i b:Nat}{t:BT}{l cs' pend':List TC}{bs':List (Nat×Nat)}{as:List SV}{pk':List AV}(hl:look Γ.bx b=some l)(hsz:bs'.any (fun p=>Nat.beq p.2 b)=false∧l.length=t.size)(hib:μ' i=μ b)
  (hkey:∀j b,look bs' j=some b→i+1≤j) (hM:Matched μ μ' F Γ st ps (i+1) pend' cs' bs' as pk'):
  (∃A,avs μ st.ver (lnT F Γ) (l++cs') A∧∀C E,CoL A E→avs μ' dv dl C E→C.all TC.exT=true→
   (∃as',svs μ' dv dl (AG ps (i+1) (C.drop t.size)) as'∧DA as as')∧
   (∀j l',look ((i,C.take t.size)::AN ps (i+1) (C.drop t.size)) j=some l'→∃b0 m m',look ((i,b)::bs') j=some b0∧(look Γ.bx b0).isSome=true∧st.hp.get (μ b0)=some m∧CoL m m'∧avs μ' dv dl l' m'∧μ b0<st.hp.next)∧
   (∀j b0,look ((i,b)::bs') j=some b0→∃l',look ((i,C.take t.size)::AN ps (i+1) (C.drop t.size)) j=some l'))∧
  (∀j b0,look ((i,b)::bs') j=some b0→i≤j∧(look Γ.bx b0).isSome=true)∧(∀j j' b0,look ((i,b)::bs') j=some b0→look ((i,b)::bs') j'=some b0→j=j'):=by
 obtain⟨⟨A,hA,hrest⟩,hb1,hb2,_⟩:=hM
 have hbox:TS.box F Γ b=some l:=by simp[TS.box,hl]
 obtain⟨k,q1,q2,q3,q4⟩:=h.bx b l hbox
 have hkl:k.length=t.size:=by rw[Bq q2];exact hsz.2
 refine⟨⟨k++A,DH q2 hA,?_⟩,?_,?_⟩
 ·intro C E hco hav hex
  obtain⟨c1,c2⟩:=CoL.split hco
  rw[hkl]at c1 c2
  obtain⟨r1,r3,r4⟩:=hrest (C.drop t.size) (E.drop t.size) c2 (Ga hav _) (QX hex _)
  refine⟨r1,?_,?_⟩
  ·intro j l' hj
   rw[Ao]at hj
   split at hj
   ·rename_i hji
    cases hj
    subst hji
    exact⟨b,k,E.take t.size,by rw[Ao,if_pos rfl],by simp[hl],q1,c1,Gb hav _,q3⟩
   ·rename_i hji
    obtain⟨b',m,m',w1,w2⟩:=r3 j l' hj
    exact⟨b',m,m',by rw[Ao,if_neg hji];exact w1,w2⟩
  ·intro j b' hj
   rw[Ao]at hj
   split at hj
   ·rename_i hji
    exact⟨_,by rw[Ao,if_pos hji]⟩
   ·rename_i hji
    obtain⟨l',hl'⟩:=r4 j b' hj
    exact⟨l',by rw[Ao,if_neg hji];exact hl'⟩
 ·intro j b' hj
  rw[Ao]at hj
  split at hj
  ·cases hj;exact⟨by omega,by simp[hl]⟩
  ·have:=hb1 j b' hj;exact⟨by omega,this.2⟩
 ·have hnot:∀j,look bs' j≠some b:=by
   intro j hj
   have:=List.any_eq_false.1 hsz.1 (j,b) (Dg hj)
   simp at this
  intro j j' b' hj hj'
  rw[Ao]at hj hj'
  split at hj
  ·rename_i e1
   cases hj
   split at hj'
   ·rename_i e2;omega
   ·exact(hnot _ hj').elim
  ·split at hj'
   ·cases hj';exact(hnot _ hj).elim
   ·exact hb2 j j' b' hj hj'
theorem SJ(h:Sim μ F Γ st):∀{ps:List PT} {i:Nat} {vs:List TSV} {pend cs:List TC} {bs:List (Nat×Nat)} {as:List SV} {pk:List AV},svs μ st.ver (lnT F Γ) vs as→avs μ st.ver (lnT F Γ) pend pk→AJ Γ ps i vs pend=some (cs,bs)→(∀j b,look bs j=some b→μ' j=μ b)→(ps.all PT.Hs=true∨μ' 0=μ 0)→
  Matched μ μ' F Γ st ps i pend cs bs as pk:=by
 intro ps
 induction ps with
 |nil=>
  intro i vs pend cs bs as pk hv hp hm hμ h0
  cases vs with
  |cons=>simp[AJ]at hm
  |nil=>
   cases pend with
   |cons=>simp[AJ]at hm
   |nil=>
    cases as with
    |cons=>exact hv.elim
    |nil=>
     cases pk with
     |cons=>exact hp.elim
     |nil=>
      simp only[AJ,Option.some.injEq,Prod.mk.injEq]at hm
      obtain⟨rfl,rfl⟩:=hm
      exact⟨⟨[],trivial,fun C E _ _ _=>⟨⟨[],trivial,.nil⟩,(fun _ _ h=>nomatch h),(fun _ _ h=>nomatch h)⟩⟩,(fun _ _ h=>nomatch h),(fun _ _ _ h=>nomatch h),trivial⟩
 |cons p ps ih=>
  intro i vs pend cs bs as pk hv hp hm hμ h0
  have h0':ps.all PT.Hs=true∨μ' 0=μ 0:=h0.imp (fun h=>by rw[List.all_cons,Bool.and_eq_true]at h;exact h.2) id
  cases p with
  |fnp names=>
   obtain⟨f,vs',k,cs',rfl,rfl,h1,h2,rfl⟩:=NP hm
   have hz:μ' 0=μ 0:=h0.resolve_left (by simp[PT.Hs])
   cases as with
   |nil=>exact hv.elim
   |cons s as=>
   cases pk with
   |cons=>exact hp.elim
   |nil=>
   obtain⟨m,rfl,ha⟩:=hv.1
   obtain⟨⟨A,hA,hrest⟩,k2,k3,_⟩:=ih hv.2 (pend:=[]) (pk:=[]) trivial h2 hμ h0'
   obtain⟨j,e1,e2⟩:=MA h1
   rw[Nat.zero_add]at e1
   subst e1
   match m,ha with
   |[a],ha=>
    have ha:a=_:=ha.1
    subst ha
    refine⟨⟨.lit (.int .i64 ((k:Nat):Int))::A,⟨rfl,hA⟩,fun C E hco hav hex=>?_⟩,fun j b hj=>⟨by have:=(k2 j b hj).1;omega,(k2 j b hj).2⟩,k3,trivial⟩
    cases hco with
    |cons _ b _ E' hab hrest2=>
     have hb:b=.lit (.int .i64 ((k:Nat):Int)):=by cases hab;rfl
     subst hb
     cases C with
     |nil=>exact hav.elim
     |cons c C=>
      simp only[List.all_cons,Bool.and_eq_true]at hex
      obtain⟨⟨as',r1,r2⟩,r3,r4⟩:=hrest C E' hrest2 hav.2 hex.2
      refine⟨⟨.one (.clo f [.ptr (μ 0) 0])::as',⟨?_,r1⟩,.cons _ _ _ _ (CoS.refl _) r2⟩,r3,r4⟩
      have hc:c.av μ' dv dl (.lit (.int .i64 ((k:Nat):Int))):=hav.1
      have hex1:=hex.1
      cases c with
      |int k' n=>
       have hc:(AV.lit (.int .i64 ((k:Nat):Int)))=.lit (.int k' n):=hc
       cases hc
       exact⟨[.ptr (μ 0) 0],by rw[e2];rfl,by simp[TC.av,hz],trivial⟩
      |bool b=>cases hc
      |str b=>cases hc
      |sl τ tt e l=>cases hc
      |_=>cases hex1
   |[],ha=>exact ha.elim
   |_::_::_,ha=>exact ha.2.elim
  |val agg t tt=>
   cases vs with
   |nil=>simp[AJ]at hm
   |cons v vs=>
   cases pend with
   |cons=>simp[AJ]at hm
   |nil=>
   cases as with
   |nil=>exact hv.elim
   |cons s as=>
   cases pk with
   |cons=>exact hp.elim
   |nil=>
   have fin:∀(l:List TC) (k:List AV) (cs':List TC) (bs':List (Nat×Nat)),AJ Γ ps (i+1) vs []=some (cs',bs')→cs=l++cs'→bs=bs'→avs μ st.ver (lnT F Γ) l k→l.length=t.size→(∀m n,CoL k n→avs μ' dv dl m n→m.length=t.size→∃s',(mkT agg m).sv μ' dv dl s'∧CoS s s')→
     Matched μ μ' F Γ st (.val agg t tt::ps) i [] cs bs (s::as) []:=by
    rintro l k cs' bs' hm' rfl rfl hl hlen hmk
    obtain⟨⟨A,hA,hrest⟩,hb1,hb2,_⟩:=ih hv.2 (pend:=[]) (pk:=[]) trivial hm' hμ h0'
    have hkl:k.length=t.size:=by rw[Bq hl];exact hlen
    refine⟨⟨k++A,DH hl hA,?_⟩,fun j b hj=>⟨by have:=(hb1 j b hj).1;omega,(hb1 j b hj).2⟩,hb2,trivial⟩
    intro C E hco hav hex
    obtain⟨c1,c2⟩:=CoL.split hco
    rw[hkl]at c1 c2
    obtain⟨⟨as',r1,r2⟩,r3,r4⟩:=hrest (C.drop t.size) (E.drop t.size) c2 (Ga hav _) (QX hex _)
    obtain⟨s',q1,q2⟩:=hmk (C.take t.size) (E.take t.size) c1 (Gb hav _) (by
     have e1:=Bq hav
     have e2:=hco.length
     simp only[List.length_append,hkl]at e2
     simp;omega)
    exact⟨⟨s'::as',⟨q1,r1⟩,.cons _ _ _ _ q2 r2⟩,r3,r4⟩
   simp only[AJ]at hm
   split at hm
   ·rename_i c cs' bs' hm'
    split at hm
    case isFalse=>cases hm
    rename_i hsz
    simp only[Option.some.injEq,Prod.mk.injEq]at hm
    obtain⟨rfl,rfl⟩:=hm
    obtain⟨a,rfl,ha⟩:=hv.1
    refine fin [c] [a] cs' _ hm' rfl rfl ⟨ha,trivial⟩ (by simp[hsz]) ?_
    intro m n hmn hav hml
    cases hmn with
    |cons _ b _ n' hab hnil=>
     cases hnil
     match m,hav with
     |[c'],hav=>exact⟨.one b,⟨b,rfl,hav.1⟩,.one _ _ hab⟩
     |[],hav=>exact hav.elim
     |_::_::_,hav=>exact hav.2.elim
   ·rename_i l cs' bs' hm'
    split at hm
    case isFalse=>cases hm
    rename_i hsz
    simp only[Option.some.injEq,Prod.mk.injEq]at hm
    obtain⟨rfl,rfl⟩:=hm
    obtain⟨k,rfl,ha⟩:=hv.1
    refine fin l k cs' _ hm' rfl rfl ha hsz ?_
    intro m n hmn hav hml
    exact⟨.agg n,⟨n,rfl,hav⟩,.agg _ _ hmn⟩
   ·cases hm
  |ptr t tt=>
   cases vs with
   |nil=>simp[AJ]at hm
   |cons v vs=>
   cases pend with
   |cons=>simp[AJ]at hm
   |nil=>
   cases as with
   |nil=>exact hv.elim
   |cons s as=>
   cases pk with
   |cons=>exact hp.elim
   |nil=>
   cases v with
   |one c=>
    cases c with
    |box b c0=>
     cases c0 with
     |zero=>
      simp only[AJ]at hm
      split at hm
      case h_2=>cases hm
      rename_i l cs' bs' hl hm'
      split at hm
      case isFalse=>cases hm
      rename_i hsz
      simp only[Option.some.injEq,Prod.mk.injEq]at hm
      obtain⟨rfl,rfl⟩:=hm
      have hkeys:=IC hm'
      have hμ2:∀j b',look bs' j=some b'→μ' j=μ b':=fun j b' hj=>hμ j b' (by
       have:=hkeys j b' hj
       rw[Ao,if_neg (by omega)];exact hj)
      have hib:μ' i=μ b:=hμ i b (by rw[Ao,if_pos rfl])
      obtain⟨a,rfl,ha⟩:=hv.1
      have ha:a=_:=ha
      subst ha
      obtain⟨⟨A,hA,hrest⟩,k2,k3⟩:=Pk h hl hsz hib hkeys (ih hv.2 (pend:=[]) (pk:=[]) trivial hm' hμ2 h0')
      refine⟨⟨A,hA,fun C E hco hav hex=>?_⟩,k2,k3,trivial⟩
      obtain⟨⟨as',r1,r2⟩,r3,r4⟩:=hrest C E hco hav hex
      exact⟨⟨.one (.ptr (μ b) 0)::as',⟨⟨_,rfl,by simp[TC.av,hib]⟩,r1⟩,.cons _ _ _ _ (CoS.refl _) r2⟩,r3,r4⟩
     |succ=>simp[AJ]at hm
    |_=>simp[AJ]at hm
   |_=>simp[AJ]at hm
  |clo f n=>
   cases vs with
   |nil=>simp[AJ]at hm
   |cons v vs=>
   cases pend with
   |cons=>cases v<;>simp[AJ]at hm
   |nil=>
   cases as with
   |nil=>exact hv.elim
   |cons s as=>
   cases pk with
   |cons=>exact hp.elim
   |nil=>
   cases v with
   |clo f' caps=>
    simp only[AJ]at hm
    split at hm
    case isFalse=>cases hm
    rename_i hfn
    obtain⟨rfl,rfl⟩:=hfn
    obtain⟨m,rfl,ha⟩:=hv.1
    obtain⟨⟨A,hA,hrest⟩,k2,k3,k4⟩:=ih hv.2 ha hm hμ h0'
    refine⟨⟨A,hA,fun C E hco hav hex=>?_⟩,fun j b hj=>⟨by have:=(k2 j b hj).1;omega,(k2 j b hj).2⟩,k3,trivial⟩
    obtain⟨⟨as',r1,r2⟩,r3,r4⟩:=hrest C E hco hav hex
    exact⟨⟨.one (.clo f' m)::as',⟨⟨m,rfl,k4⟩,r1⟩,.cons _ _ _ _ (CoS.refl _) r2⟩,r3,r4⟩
   |_=>simp[AJ]at hm
  |cap t tt=>
   cases pend with
   |nil=>simp[AJ]at hm
   |cons c pend=>
   cases pk with
   |nil=>exact hp.elim
   |cons a pk=>
   cases c with
   |box b c0=>
    cases c0 with
    |zero=>
     simp only[AJ]at hm
     split at hm
     case h_2=>cases hm
     rename_i l cs' bs' hl hm'
     split at hm
     case isFalse=>cases hm
     rename_i hsz
     simp only[Option.some.injEq,Prod.mk.injEq]at hm
     obtain⟨rfl,rfl⟩:=hm
     have hkeys:=IC hm'
     have hμ2:∀j b',look bs' j=some b'→μ' j=μ b':=fun j b' hj=>hμ j b' (by
      have:=hkeys j b' hj
      rw[Ao,if_neg (by omega)];exact hj)
     have hib:μ' i=μ b:=hμ i b (by rw[Ao,if_pos rfl])
     have hM:=ih hv hp.2 hm' hμ2 h0'
     have hcap:=hM.2.2.2
     obtain⟨⟨A,hA,hrest⟩,k2,k3⟩:=Pk h hl hsz hib hkeys hM
     refine⟨⟨A,hA,fun C E hco hav hex=>hrest C E hco hav hex⟩,k2,k3,?_,hcap⟩
     have ha:a=_:=hp.1
     subst ha
     simp[TC.av,hib]
    |succ=>simp[AJ]at hm
   |_=>simp[AJ]at hm
theorem Jd(h:Sim μ F Γ st){ps:List PT}{i:Nat}{vs:List TSV}{cs:List TC}{bs:List (Nat×Nat)}{as:List SV}(hv:svs μ st.ver (lnT F Γ) vs as)(hm:AJ Γ ps i vs []=some (cs,bs))(hμ:∀j b,look bs j=some b→μ' j=μ b)(h0:ps.all PT.Hs=true∨μ' 0=μ 0):
  (∃A,avs μ st.ver (lnT F Γ) cs A∧∀C E,CoL A E→avs μ' dv dl C E→C.all TC.exT=true→
   (∃as',svs μ' dv dl (AG ps i C) as'∧DA as as')∧
   (∀j l,look (AN ps i C) j=some l→∃b m m',look bs j=some b∧(look Γ.bx b).isSome=true∧st.hp.get (μ b)=some m∧CoL m m'∧avs μ' dv dl l m'∧μ b<st.hp.next)∧
   (∀j b,look bs j=some b→∃l,look (AN ps i C) j=some l))∧
  (∀j b,look bs j=some b→i≤j∧(look Γ.bx b).isSome=true)∧(∀j j' b,look bs j=some b→look bs j'=some b→j=j'):=by
 obtain⟨h1,h2,h3,_⟩:=SJ h hv (pend:=[]) (pk:=[]) trivial hm hμ h0
 exact⟨h1,h2,h3⟩
end
end Go.VS
namespace Go.VS
section
variable{μ μ':Nat→Nat}{ver:Root→Nat}{ln:Place→Option Nat}{F Γ Γ':TS}{st:St}
theorem Lh{c:TC}(h:ownish c=false){a:AV}(ha:c.av μ ver ln a):a.Br=false:=by
 cases c with
 |sl τ tt e l=>
  have ha:a=_:=ha
  subst ha
  cases τ<;>first|rfl|cases h
 |dead=>cases h
 |ref p tt e w=>
  cases w with
  |none=>obtain⟨m,rfl,_⟩:=ha;rfl
  |some x=>have ha:a=_:=ha;subst ha;rfl
 |_=>(have ha:a=_:=ha);subst ha;rfl
theorem JB{v:TSV}(h:v.cells.any ownish=false){s:SV}(hv:v.sv μ ver ln s):s.BV=false:=by
 have key:∀{l:List TC},l.any ownish=false→∀{as:List AV},avs μ ver ln l as→as.any AV.Br=false:=by
  intro l
  induction l with
  |nil=>intro _ as ha;cases as with
   |nil=>rfl
   |cons=>exact ha.elim
  |cons c l ih=>intro h as ha;cases as with
   |nil=>exact ha.elim
   |cons a as=>
    simp only[List.any_cons,Bool.or_eq_false_iff]at h
    simp only[List.any_cons,Lh h.1 ha.1,ih h.2 ha.2,Bool.or_self]
 cases v with
 |one c=>
  obtain⟨a,rfl,ha⟩:=hv
  simp only[TSV.cells,List.any_cons,List.any_nil,Bool.or_false]at h
  simp[SV.BV,SV.cells,Lh h ha]
 |agg l=>obtain⟨a,rfl,ha⟩:=hv;exact key h ha
 |clo f l=>obtain⟨a,rfl,ha⟩:=hv;rfl
theorem ND(h:Sim μ F Γ st){n:Nat}(hx:(Gx F Γ n .gone).ok Γ')(y:TV):Sim μ F Γ' (st.set n y)∧((st.sl n).BV=false→Sim μ F Γ' st):=by
 refine⟨CG h hx trivial,fun ho=>?_⟩
 have:=CG h hx (y:=st.sl n) trivial
 have e:st.set n (st.sl n)=st:=by
  have e1:upd st.sl n (st.sl n)=st.sl:=by funext t;simp only[upd];split<;>simp_all
  simp only[St.set,ho,e1]
  rfl
 rwa [e]at this
theorem VZ(h:Sim μ F Γ st){x:Opd}(hx:(Xs F Γ x).ok Γ'):Sim μ F Γ' (st.CT x):=by
 have gone:∀n,(Gx F Γ n .gone).ok Γ'→Sim μ F Γ' (st.CT (.t n)):=by
  intro n hx
  simp only[St.CT]
  split
  ·exact(ND h hx _).1
  ·rename_i ho;exact(ND h hx .dead).2 (by simpa using ho)
 cases x with
 |c v=>have:=R.Ai.1 hx;subst this;exact h
 |f nm=>have:=R.Ai.1 hx;subst this;exact h
 |t n=>
  simp only[Xs]at hx
  split at hx
  ·rename_i gd v hs
   cases ho:v.cells.any ownish with
   |true=>rw[ho]at hx;exact gone n hx
   |false=>
    rw[ho]at hx
    have:=R.Ai.1 hx
    subst this
    obtain⟨s,heq,hv⟩:=h.sl n _ hs
    have:(st.sl n).BV=false:=by rw[heq];exact JB ho hv
    simp only[St.CT,this]
    exact h
  ·exact gone n hx
theorem Pc:∀{xs:List Opd} {st:St} {Γ Γ':TS},Sim μ F Γ st→(Pa F Γ xs).ok Γ'→Sim μ F Γ' (st.EF xs)
 |[],st,Γ,Γ',h,hx=>by have:=R.Ai.1 hx;subst this;exact h
 |x::xs,st,Γ,Γ',h,hx=>by
  simp only[Pa]at hx
  rw[R.Ah]at hx
  obtain⟨Γ1,h1,hx⟩:=hx
  exact Pc (xs:=xs) (VZ h h1) hx
theorem JY:∀(xs:List Opd) (st:St),(st.EF xs).hp=st.hp
 |[],_=>rfl
 |x::xs,st=>by
  rw[St.EF,JY xs]
  cases x<;>simp only[St.CT]<;>(try split)<;>rfl
theorem RT{n:Nat}{x:TX}(hx:(Gx F Γ n x).ok Γ'){b:Nat}:(look Γ'.bx b).isSome=(look Γ.bx b).isSome:=by
 unfold Gx at hx
 cases hb:(x.guards n||x.hit (Da n) (Da n) BU)with
 |true=>rw[hb]at hx;exact(R.Af.1 hx).elim
 |false=>
  rw[hb]at hx
  have hu:=R.BE.1 hx
  have:=(PK hu).2.2.2 b
  cases h1:look Γ'.bx b<;>cases h2:look Γ.bx b<;>simp_all [look]
theorem Pb:∀{xs:List Opd} {Γ Γ':TS},(Pa F Γ xs).ok Γ'→∀b,(look Γ'.bx b).isSome=(look Γ.bx b).isSome
 |[],Γ,Γ',hx,b=>by have:=R.Ai.1 hx;subst this;rfl
 |x::xs,Γ,Γ',hx,b=>by
  simp only[Pa]at hx
  rw[R.Ah]at hx
  obtain⟨Γ1,h1,hx⟩:=hx
  rw[Pb hx b]
  cases x with
  |c v=>have:=R.Ai.1 h1;subst this;rfl
  |f nm=>have:=R.Ai.1 h1;subst this;rfl
  |t n=>
   simp only[Xs]at h1
   split at h1
   ·rename_i gd v hs
    cases ho:v.cells.any ownish with
    |true=>rw[ho]at h1;exact RT (show(Gx F Γ n .gone).ok Γ1 from h1)
    |false=>rw[ho]at h1;have:=R.Ai.1 h1;subst this;rfl
   ·exact RT h1
mutual
theorem Co.free:∀{a b:AV},Co a b→b.free=true→a.free=true
 |_,_,.refl _,h=>h
 |_,_,.nil _ _,_=>rfl
 |_,_,.sl τ τ' k xs ys ht hl,h=>by
  have h2:EE xs=true:=by
   refine B6.free hl ?_
   cases τ'<;>first|exact h|cases h
  cases τ with
  |brw=>
   rcases ht with rfl|⟨h3,_⟩
   ·cases h
   ·cases h3
  |_=>exact h2
theorem CoL.free:∀{a b:List AV},CoL a b→BJ b=true→BJ a=true
 |_,_,.nil,_=>rfl
 |_,_,.cons _ _ _ _ h t,hb=>by
  simp only[BJ,Bool.and_eq_true]at hb⊢
  exact⟨Co.free h hb.1,CoL.free t hb.2⟩
theorem B6.free:∀{a b:List (List AV)},B6 a b→EE b=true→EE a=true
 |_,_,.nil,_=>rfl
 |_,_,.cons _ _ _ _ h t,hb=>by
  simp only[EE,Bool.and_eq_true]at hb⊢
  exact⟨CoL.free h hb.1,B6.free t hb.2⟩
end
mutual
theorem Co.plain:∀{a b:AV},Co a b→b.plain=true→a.plain=true
 |_,_,.refl _,h=>h
 |_,_,.nil _ _,_=>rfl
 |_,_,.sl τ τ' k xs ys ht hl,h=>by
  have h2:Ej xs=true:=by
   refine B6.plain hl ?_
   cases τ'<;>first|exact h|cases h
  cases τ with
  |brw=>
   rcases ht with rfl|⟨h3,_⟩
   ·cases h
   ·cases h3
  |_=>exact h2
theorem CoL.plain:∀{a b:List AV},CoL a b→A6 b=true→A6 a=true
 |_,_,.nil,_=>rfl
 |_,_,.cons _ _ _ _ h t,hb=>by
  simp only[A6,Bool.and_eq_true]at hb⊢
  exact⟨Co.plain h hb.1,CoL.plain t hb.2⟩
theorem B6.plain:∀{a b:List (List AV)},B6 a b→Ej b=true→Ej a=true
 |_,_,.nil,_=>rfl
 |_,_,.cons _ _ _ _ h t,hb=>by
  simp only[Ej,Bool.and_eq_true]at hb⊢
  exact⟨CoL.plain h hb.1,B6.plain t hb.2⟩
end
def PT.Q5(p:PT):Bool:=TC.AY.TT.AY p.tt
def PT.wf:PT→Bool
 |.val agg t _=>agg||Nat.beq t.size 1
 |.ptr _ _=>true
 |.clo ..=>false
 |.cap ..=>false
 |.fnp _=>true
def O1:List PT→Bool
 |[]=>true
 |.clo _ n::r=>Nat.ble n r.length&&O1 r
 |_::r=>O1 r
def QZ:List PT→Bool
 |.ptr ..::_=>true
 |_=>false
def Sig.free(S:Sig):Bool:=(ptrs S.ps).all PT.Q5&&(S.rs.all PT.Q5&&(S.rs.all PT.wf&&(Nat.ble S.ps.length rbase&&(O1 S.ps&&((S.ps.all PT.Hs)&&(S.rs.all PT.Hs||QZ S.ps))))))
theorem HX{tt:TT}(h:TC.AY.TT.AY tt=true):TC.AY.TT.AY tt.fst=true∧TC.AY.TT.AY tt.snd=true:=by
 cases tt with
 |leaf=>exact⟨rfl,rfl⟩
 |node τ a=>exact⟨rfl,rfl⟩
 |pair a b=>simpa[TC.AY.TT.AY,TT.fst,TT.snd]using h
def TC.CF:TC→Bool
 |.int ..=>true
 |.bool _=>true
 |.str _=>true
 |.sl τ tt _ _=>(match τ with|.brw=>false|_=>true)&&TC.AY.TT.AY tt
 |_=>false
theorem P2:∀(t:BT) (tt:TT) (_:TC.AY.TT.AY tt=true) (x:t.D),(t.ex tt x).all TC.CF=true
 |.int _,_,_,_=>rfl
 |.bool,_,_,_=>rfl
 |.str,_,_,_=>rfl
 |.unit,_,_,_=>rfl
 |.sl e,tt,h,l=>by
  cases tt with
  |leaf=>rfl
  |node τ a=>cases τ<;>simp_all [BT.ex,TC.CF,TT.tag,TT.elt,TC.AY.TT.AY]
  |pair a b=>rfl
 |.pair a b,tt,h,x=>by
  simp only[BT.ex,List.all_append,P2 a _ (HX h).1,P2 b _ (HX h).2,Bool.and_self]
theorem Sa:∀{l:List PT},l.all PT.Q5=true→TC.AY.TT.AY (ttP l)=true
 |[],_=>rfl
 |[p],h=>by simpa[PT.Q5,ttP]using h
 |p::q::r,h=>by
  rw[List.all_cons,Bool.and_eq_true]at h
  show(TC.AY.TT.AY p.tt&&TC.AY.TT.AY (ttP (q::r)))=true
  rw[Bool.and_eq_true]
  exact⟨h.1,Sa h.2⟩
theorem G1{l:List PT}(h:l.all PT.Q5=true)(x:DP l):(Ap l x).all TC.CF=true:=P2 _ _ (Sa h) x
theorem IH{c:TC}(h:c.CF=true):c.AP=true:=by
 cases c<;>first|rfl|cases h
theorem RG{c:TC}(h:c.CF=true){a:AV}{μ':Nat→Nat}{ver':Root→Nat}{ln':Place→Option Nat}(ha:c.av μ ver ln a):c.av μ' ver' ln' a:=by
 cases c<;>first|exact ha|cases h
theorem Ht{μ':Nat→Nat}{ver':Root→Nat}{ln':Place→Option Nat}:∀{l:List TC},l.all TC.CF=true→∀{as:List AV},avs μ ver ln l as→avs μ' ver' ln' l as
 |[],_,[],_=>trivial
 |c::l,h,a::as,ha=>by
  simp only[List.all_cons,Bool.and_eq_true]at h
  exact⟨RG h.1 ha.1,Ht h.2 ha.2⟩
 |[],_,_::_,h=>h.elim
 |_::_,_,[],h=>h.elim
theorem BL{l m:List TC}{q:TC→Bool}(h:l.all q=true)(hm:∀c∈m,c∈l):m.all q=true:=by
 rw[List.all_eq_true]at h⊢
 exact fun c hc=>h c (hm c hc)
theorem DI:∀(ps:List PT) (i:Nat) (cs:List TC) (j:Nat) (l:List TC),look (AN ps i cs) j=some l→∀c∈l,c∈cs
 |[],_,_,_,_,h=>nomatch h
 |.val agg t tt::r,i,cs,j,l,h=>fun c hc=>List.mem_of_mem_drop (DI r (i+1) _ j l h c hc)
 |.ptr t tt::r,i,cs,j,l,h=>by
  simp only[AN,Ao]at h
  split at h
  ·cases h;exact fun c hc=>List.mem_of_mem_take hc
  ·exact fun c hc=>List.mem_of_mem_drop (DI r (i+1) _ j l h c hc)
 |.clo f n::r,i,cs,j,l,h=>DI r (i+1) _ j l h
 |.fnp names::r,i,cs,j,l,h=>fun c hc=>List.mem_of_mem_drop (DI r (i+1) _ j l h c hc)
 |.cap t tt::r,i,cs,j,l,h=>by
  simp only[AN,Ao]at h
  split at h
  ·cases h;exact fun c hc=>List.mem_of_mem_take hc
  ·exact fun c hc=>List.mem_of_mem_drop (DI r (i+1) _ j l h c hc)
theorem BN:∀(ps:List PT) (i:Nat) (cs:List TC) (j:Nat) (l:List TC),look (Az ps i cs) j=some l→(∀c∈l,c∈cs)∧i≤j∧j<i+ps.length
 |[],_,_,_,_,h=>nomatch h
 |.val agg t tt::r,i,cs,j,l,h=>by
  have:=BN r (i+1) _ j l h
  exact⟨this.1,by omega,by simp;omega⟩
 |.ptr t tt::r,i,cs,j,l,h=>by
  simp only[Az,Ao]at h
  split at h
  ·cases h;exact⟨fun c hc=>List.mem_of_mem_take hc,by omega,by simp;omega⟩
  ·have:=BN r (i+1) _ j l h
   exact⟨fun c hc=>List.mem_of_mem_drop (this.1 c hc),by omega,by simp;omega⟩
 |.clo f n::r,i,cs,j,l,h=>by
  have:=BN r (i+1) _ j l h
  exact⟨this.1,by omega,by simp;omega⟩
 |.fnp names::r,i,cs,j,l,h=>by
  have:=BN r (i+1) _ j l h
  exact⟨this.1,by omega,by simp;omega⟩
 |.cap t tt::r,i,cs,j,l,h=>by
  simp only[Az,Ao]at h
  split at h
  ·cases h;exact⟨fun c hc=>List.mem_of_mem_take hc,by omega,by simp;omega⟩
  ·have:=BN r (i+1) _ j l h
   exact⟨fun c hc=>List.mem_of_mem_drop (this.1 c hc),by omega,by simp;omega⟩
theorem C6:∀(ps:List PT) (i:Nat) (cs ds:List TC) (j:Nat) (l:List TC),look (AN ps i cs) j=some l→∃l',look (Az ps i ds) j=some l'
 |[],_,_,_,_,_,h=>nomatch h
 |.val agg t tt::r,i,cs,ds,j,l,h=>C6 r (i+1) _ ds j l h
 |.ptr t tt::r,i,cs,ds,j,l,h=>by
  simp only[AN,Az,Ao]at h⊢
  split at h
  ·rename_i hj;rw[if_pos hj];exact⟨_,rfl⟩
  ·rename_i hj;rw[if_neg hj];exact C6 r (i+1) _ _ j l h
 |.clo f n::r,i,cs,ds,j,l,h=>C6 r (i+1) _ ds j l h
 |.fnp names::r,i,cs,ds,j,l,h=>C6 r (i+1) _ ds j l h
 |.cap t tt::r,i,cs,ds,j,l,h=>by
  simp only[AN,Az,Ao]at h⊢
  split at h
  ·rename_i hj;rw[if_pos hj];exact⟨_,rfl⟩
  ·rename_i hj;rw[if_neg hj];exact C6 r (i+1) _ _ j l h
theorem Cm{ps:List PT}(h:ps.any PT.DN=false):∀(i:Nat) (cs:List TC),Az ps i cs=[]:=by
 induction ps with
 |nil=>intro i cs;rfl
 |cons p ps ih=>
  simp only[List.any_cons,Bool.or_eq_false_iff]at h
  intro i cs
  cases p with
  |val=>exact ih h.2 _ _
  |ptr=>cases h.1
  |clo=>exact ih h.2 _ _
  |fnp=>exact ih h.2 _ _
  |cap=>cases h.1
theorem AF{ps:List PT}(h:ps.any PT.DN=false):∀(i:Nat) (cs:List TC),AN ps i cs=[]:=by
 induction ps with
 |nil=>intro i cs;rfl
 |cons p ps ih=>
  simp only[List.any_cons,Bool.or_eq_false_iff]at h
  intro i cs
  cases p with
  |val=>exact ih h.2 _ _
  |ptr=>cases h.1
  |clo=>exact ih h.2 _ _
  |fnp=>exact ih h.2 _ _
  |cap=>cases h.1
theorem Mc{bs:List (Nat×Nat)}:∀{B:List (Nat×List TC)} {b:Nat} {l:List TC},look (EK bs B) b=some l→∃j,look bs j=some b∧(j,l)∈B
 |[],_,_,h=>nomatch h
 |(i,l0)::B,b,l,h=>by
  simp only[EK]at h
  split at h
  ·rename_i b0 hb0
   rw[Ao]at h
   split at h
   ·rename_i hbb;cases h;subst hbb;exact⟨i,hb0,by simp⟩
   ·obtain⟨j,h1,h2⟩:=Mc h;exact⟨j,h1,by simp[h2]⟩
  ·obtain⟨j,h1,h2⟩:=Mc h;exact⟨j,h1,by simp[h2]⟩
theorem Oa{bs:List (Nat×Nat)}:∀{B:List (Nat×List TC)} {j b:Nat} {l:List TC},look bs j=some b→look B j=some l→∃l',look (EK bs B) b=some l'
 |[],_,_,_,_,h=>nomatch h
 |(i,l0)::B,j,b,l,hb,h=>by
  rw[Ao]at h
  simp only[EK]
  split at h
  ·rename_i hij
   subst hij
   rw[hb]
   exact⟨l0,by rw[Ao,if_pos rfl]⟩
  ·split
   ·rename_i b0 hb0
    rw[Ao]
    split
    ·exact⟨_,rfl⟩
    ·exact Oa hb h
   ·exact Oa hb h
theorem DT:∀(ps:List PT) (i:Nat) (cs:List TC) (j:Nat) (l:List TC),(j,l)∈Az ps i cs→look (Az ps i cs) j=some l∧i≤j
 |[],_,_,_,_,h=>nomatch h
 |.val agg t tt::r,i,cs,j,l,h=>by
  have:=DT r (i+1) cs j l h
  exact⟨this.1,by omega⟩
 |.ptr t tt::r,i,cs,j,l,h=>by
  simp only[Az,List.mem_cons,Prod.mk.injEq]at h
  rcases h with⟨rfl,rfl⟩|h
  ·exact⟨by simp[Az,Ao],Nat.le_refl _⟩
  ·have:=DT r (i+1) _ j l h
   refine⟨?_,by omega⟩
   simp only[Az,Ao]
   rw[if_neg (by omega)]
   exact this.1
 |.clo f n::r,i,cs,j,l,h=>by
  have:=DT r (i+1) cs j l h
  exact⟨this.1,by omega⟩
 |.fnp names::r,i,cs,j,l,h=>by
  have:=DT r (i+1) cs j l h
  exact⟨this.1,by omega⟩
 |.cap t tt::r,i,cs,j,l,h=>by
  simp only[Az,List.mem_cons,Prod.mk.injEq]at h
  rcases h with⟨rfl,rfl⟩|h
  ·exact⟨by simp[Az,Ao],Nat.le_refl _⟩
  ·have:=DT r (i+1) _ j l h
   refine⟨?_,by omega⟩
   simp only[Az,Ao]
   rw[if_neg (by omega)]
   exact this.1
theorem GZ{rs:List PT}(h:rs.any PT.DN=false)(hw:rs.all PT.wf=true)(hq:rs.all PT.Hs=true):∀(i:Nat) (cs:List TC),cs.all TC.CF=true→∀v∈AG rs i cs,v.Gz=true∧(∀c∈v.cells,c=.dead∨c.CF=true)∧(∀f l,v≠.clo f l):=by
 induction rs with
 |nil=>intro i cs _ v hv;cases hv
 |cons p rs ih=>
  simp only[List.any_cons,Bool.or_eq_false_iff]at h
  simp only[List.all_cons,Bool.and_eq_true]at hw hq
  intro i cs hc v hv
  cases p with
  |ptr=>cases h.1
  |clo=>cases hw.1
  |cap=>cases h.1
  |fnp=>cases hq.1
  |val agg t tt=>
   simp only[AG,List.mem_cons]at hv
   rcases hv with rfl|hv
   ·have h1:(cs.take t.size).all TC.CF=true:=BL hc fun c hc=>List.mem_of_mem_take hc
    cases agg with
    |true=>
     refine⟨?_,fun c hc=>.inr (List.all_eq_true.1 h1 c hc),fun f l=>by simp[mkT]⟩
     exact List.all_eq_true.2 fun c hc=>IH (List.all_eq_true.1 h1 c hc)
    |false=>
     cases hl:cs.take t.size with
     |nil=>simp[mkT,TSV.Gz,TC.AP,TSV.cells]
     |cons c l=>
      rw[hl]at h1
      simp only[List.all_cons,Bool.and_eq_true]at h1
      exact⟨IH h1.1,by simp[mkT,TSV.cells,h1.1],by simp[mkT]⟩
   ·exact ih h.2 hw.2 hq.2 _ _ (BL hc fun c hc=>List.mem_of_mem_drop hc) v hv
theorem T8{v:TSV}(h:∀c∈v.cells,c=.dead∨c.CF=true)(hv:∀f l,v≠.clo f l){s:SV}{μ':Nat→Nat}{ver':Root→Nat}{ln':Place→Option Nat}(hs:v.sv μ ver ln s):v.sv μ' ver' ln' s:=by
 have one:∀{c:TC} {a:AV},(c=.dead∨c.CF=true)→c.av μ ver ln a→c.av μ' ver' ln' a:=by
  rintro c a (rfl|h) ha
  ·exact trivial
  ·exact RG h ha
 cases v with
 |one c=>obtain⟨a,rfl,ha⟩:=hs;exact⟨a,rfl,one (h c (by simp[TSV.cells])) ha⟩
 |agg l=>
  obtain⟨k,rfl,ha⟩:=hs
  refine⟨k,rfl,?_⟩
  have:∀{l:List TC} {k:List AV},(∀c∈l,c=.dead∨c.CF=true)→avs μ ver ln l k→avs μ' ver' ln' l k:=by
   intro l
   induction l with
   |nil=>intro k _ ha;cases k with
    |nil=>exact trivial
    |cons=>exact ha.elim
   |cons c l ih=>intro k h ha;cases k with
    |nil=>exact ha.elim
    |cons a k=>exact⟨one (h c (by simp)) ha.1,ih (fun d hd=>h d (by simp[hd])) ha.2⟩
  exact this h ha
 |clo f l=>exact(hv f l rfl).elim
theorem RH{μ':Nat→Nat}{ver':Root→Nat}{ln':Place→Option Nat}:∀{vs:List TSV} {ss:List SV},(∀v∈vs,(∀c∈v.cells,c=.dead∨c.CF=true)∧(∀f l,v≠.clo f l))→svs μ ver ln vs ss→svs μ' ver' ln' vs ss
 |[],[],_,_=>trivial
 |v::vs,s::ss,h,hs=>⟨T8 (h v (by simp)).1 (h v (by simp)).2 hs.1,RH (fun w hw=>h w (by simp[hw])) hs.2⟩
 |[],_::_,_,h=>h.elim
 |_::_,[],_,h=>h.elim
theorem DA.length:∀{l m:List SV},DA l m→l.length=m.length
 |_,_,.nil=>rfl
 |_,_,.cons _ _ _ _ _ t=>by simp[t.length]
theorem Pd{ss ss':List SV}(h:DA ss ss'):CoT (gather ss) (gather ss'):=by
 cases h with
 |nil=>exact .refl _
 |cons a b l m h t=>
  cases t with
  |nil=>exact .val true _ _ h
  |cons a2 b2 l2 m2 h2 t2=>exact .tup _ _ (.cons _ _ _ _ h (.cons _ _ _ _ h2 t2))
theorem XG{g:Gd}{gv:Gd→Bool}(hg:gv g=true){vs:List TSV}{ss:List SV}(h:svs μ ver ln vs ss):(Ob g vs).tv μ ver ln gv (gather ss):=by
 match vs,ss,h with
 |[],[],_=>exact⟨[],rfl,trivial⟩
 |[v],[s],h=>exact⟨s,by rw[hg];rfl,h.1⟩
 |v::w::vs,s::t::ss,h=>exact⟨_,rfl,h⟩
 |[_],[],h=>exact h.elim
 |[_],_::_::_,h=>exact h.2.elim
 |_::_::_,[],h=>exact h.elim
 |_::_::_,[_],h=>exact h.2.elim
end
end Go.VS
