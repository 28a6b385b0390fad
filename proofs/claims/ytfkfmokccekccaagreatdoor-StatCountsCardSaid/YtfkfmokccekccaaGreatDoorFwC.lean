/- A semantics of values for the model, shown sound for it, and the lifting of functions to plain propositions: part 3. -/
import Derived.Test.YtfkfmokccekccaaGreatDoorFwB
set_option linter.unusedVariables false
set_option linter.unusedSimpArgs false
set_option linter.unusedSectionVars false
open Option renaming bind_some → Qa0, map_eq_some_iff → Qa7, map_some → Qb7, bind_eq_some_iff → Qc1
open Bool renaming or_eq_false_iff → Qa1, and_eq_true → Qa2, true_and → Qc8, and_self → Qd2, and_eq_false_iff → Qd9, or_self → Qe2
open List renaming getElem?_eq_getElem → Qa3, all_cons → Qa5, mem_of_mem_drop → Qa6, all_eq_true → Qa8, getElem?_take_of_lt → Qa9, any_cons → Qb1, getElem?_drop → Qb2, mem_of_mem_take → Qb4, getElem?_map → Qb5, getD_eq_getElem?_getD → Qb8, getElem?_set_ne → Qb9, map_congr_left → Qc2, length_map → Qc4, getElem?_set → Qc5, take_of_length_le → Qc6, map_cons → Qc7, all_append → Qc9, replicate → Qd1, getElem?_append_right → Qd3, mem_or_eq_of_mem_set → Qd4, getElem?_append_left → Qd5, all_map → Qd6, length_take → Qd7, map_map → Qd8, mem_cons → Qe0
open Option.some renaming injEq → Qa4, inj → Qc3
open Nat renaming beq → Qb0, eq_of_beq_eq_true → Qb6, le_refl → Qc0, le_of_eq → Qd0, zero_add → Qe1
open BitVec renaming ofInt → Qb3
namespace Go.VS
abbrev Gd:=List (Nat×Bool)
inductive TSV
 |one (c:TC)
 |agg (l:List TC)
 |clo (f:String×Bool) (caps:List TC)
 deriving Inhabited
inductive TX
 |val (gd:Gd) (v:TSV)
 |tup (l:List TSV)
 |gone
structure TS where
 sl:List (Nat×TX)
 bx:List (Nat×List TC)
def look{α:Type}:List (Nat×α)→Nat→Option α
 |[],_=>none
 |(k,x)::l,t=>bif Qb0 k t then some x else look l t
theorem Am{α:Type}(k:Nat)(x:α)(l:List (Nat×α))(t:Nat):look ((k,x)::l) t=if k=t then some x else look l t:=by
 simp only[look]
 by_cases h:k=t
 ·subst h;simp
 ·rw[if_neg h]
  have:Qb0 k t=false:=by
   cases hb:Qb0 k t
   ·rfl
   ·exact absurd (Qb6 hb) h
  rw[this];rfl
theorem A9{α:Type}(l m:List (Nat×α))(t:Nat):look (l++m) t=match look l t with|some x=>some x|none=>look m t:=by
 induction l with
 |nil=>rfl
 |cons a l ih=>
  obtain⟨k,x⟩:=a;rw[List.cons_append,Am,Am]
  by_cases h:k=t
  ·simp[h]
  ·simp[h,ih]
theorem Jg{α β:Type}(f:α→β)(l:List (Nat×α))(t:Nat):look (l.map fun p=>(p.1,f p.2)) t=(look l t).map f:=by
 induction l with
 |nil=>rfl
 |cons a l ih=>
  obtain⟨k,x⟩:=a;rw[Qc7,Am,Am]
  by_cases h:k=t
  ·simp[h]
  ·simp[h,ih]
theorem Em{α:Type}{l:List (Nat×α)}{t:Nat}{x:α}(h:look l t=some x):(t,x)∈l:=by
 induction l with
 |nil=>cases h
 |cons a l ih=>
  obtain⟨k,y⟩:=a;rw[Am]at h;split at h
  ·rename_i hk;cases h;subst hk;simp
  ·exact List.mem_cons_of_mem _ (ih h)
def TSV.cells:TSV→List TC
 |.one c=>[c]
 |.agg l=>l
 |.clo _ _=>[]
def TS.slot(F Γ:TS)(t:Nat):Option TX:=match look Γ.sl t with
 |some x=>some x
 |none=>look F.sl t
def TS.box(F Γ:TS)(b:Nat):Option (List TC):=match look Γ.bx b with
 |some l=>some l
 |none=>look F.bx b
def Cy(F Γ:TS):Root→Option TC
 |.slot t j=>match TS.slot F Γ t with
  |some (.val [] v)=>v.cells[j]?
  |_=>none
 |.obj b c=>(TS.box F Γ b).bind (·[c]?)
def atT(F Γ:TS)(p:Place):Option TC:=(Cy F Γ p.root).bind (·.atS p.path)
def TC.len?:TC→Option Nat
 |.sl _ _ _ l=>some l.length
 |_=>none
def lnT(F Γ:TS)(p:Place):Option Nat:=(atT F Γ p).bind TC.len?
def GN(F Γ:TS)(t:Nat):Option Bool:=match TS.slot F Γ t with
 |some (.val _ (.one (.bool b)))=>some b
 |_=>none
def gv(F Γ:TS):Gd→Bool
 |[]=>true
 |(t,w)::r=>(match GN F Γ t with|some b=>b==w|none=>false)&&gv F Γ r
section
variable(μ:Nat→Nat)(ver:Root→Nat)(ln:Place→Option Nat)
def TSV.sv:TSV→SV→Prop
 |.one c,s=>∃a,s=.one a∧c.av μ ver ln a
 |.agg l,s=>∃m,s=.agg m∧avs μ ver ln l m
 |.clo f caps,s=>∃m,s=.one (.clo f m)∧avs μ ver ln caps m
def svs:List TSV→List SV→Prop
 |[],[]=>True
 |v::l,s::m=>v.sv μ ver ln s∧svs l m
 |_,_=>False
def TX.tv(gv:Gd→Bool):TX→TV→Prop
 |.val gd v,y=>∃s,y=.val (gv gd) s∧v.sv μ ver ln s
 |.tup l,y=>∃m,y=.tup m∧svs μ ver ln l m
 |.gone,_=>True
end
def TC.A5:TC→Bool
 |.ref ..=>false
 |.adr ..=>false
 |_=>true
structure Sim(μ:Nat→Nat)(F Γ:TS)(st:St):Prop where
 sl:∀t x,TS.slot F Γ t=some x→x.tv μ st.ver (lnT F Γ) (gv F Γ) (st.sl t)
 bx:∀b l,TS.box F Γ b=some l→∃m,st.hp.get (μ b)=some m∧avs μ st.ver (lnT F Γ) l m∧μ b<st.hp.next∧l.all TC.A5=true
 inj:∀b b' l l',TS.box F Γ b=some l→TS.box F Γ b'=some l'→μ b=μ b'→b=b'
 ss:∀t,(look F.sl t).isSome=true→look Γ.sl t=none
 sb:∀b,(look F.bx b).isSome=true→look Γ.bx b=none
def TC.sift(qr qa:Place→Bool)(m:Nat→Bool):TC→TC
 |.ref p tt e w=>if qr p then .dead else .ref p tt e w
 |.adr p tt e i c=>if qa p then .dead else .adr p tt e i c
 |.box b c=>if m b then .dead else .box b c
 |.boxd b c n i=>if m b then .dead else .boxd b c n i
 |c=>c
def TC.hit(qr qa:Place→Bool)(m:Nat→Bool):TC→Bool
 |.ref p _ _ _=>qr p
 |.adr p _ _ _ _=>qa p
 |.box b _=>m b
 |.boxd b _ _ _=>m b
 |_=>false
def TSV.sift(qr qa:Place→Bool)(m:Nat→Bool):TSV→TSV
 |.one c=>.one (c.sift qr qa m)
 |.agg l=>.agg (l.map (TC.sift qr qa m))
 |.clo f caps=>.clo f (caps.map (TC.sift qr qa m))
def TSV.hit(qr qa:Place→Bool)(m:Nat→Bool):TSV→Bool
 |.one c=>c.hit qr qa m
 |.agg l=>l.any (TC.hit qr qa m)
 |.clo _ caps=>caps.any (TC.hit qr qa m)
def TX.sift(qr qa:Place→Bool)(m:Nat→Bool):TX→TX
 |.val gd v=>.val gd (v.sift qr qa m)
 |.tup l=>.tup (l.map (TSV.sift qr qa m))
 |.gone=>.gone
def TX.hit(qr qa:Place→Bool)(m:Nat→Bool):TX→Bool
 |.val _ v=>v.hit qr qa m
 |.tup l=>l.any (TSV.hit qr qa m)
 |.gone=>false
def TX.guards(t:Nat):TX→Bool
 |.val gd _=>gd.any fun p=>Qb0 p.1 t
 |.tup _=>false
 |.gone=>false
def TS.hit(Γ:TS)(qr qa:Place→Bool)(m:Nat→Bool):Bool:=Γ.sl.any (fun p=>p.2.hit qr qa m)||Γ.bx.any (fun p=>p.2.any (TC.hit qr qa m))
def TS.sift(Γ:TS)(qr qa:Place→Bool)(m:Nat→Bool):TS:=⟨Γ.sl.map fun p=>(p.1,p.2.sift qr qa m),Γ.bx.map fun p=>(p.1,p.2.map (TC.sift qr qa m))⟩
def TS.guards(Γ:TS)(t:Nat):Bool:=Γ.sl.any fun p=>p.2.guards t
def TS.upd(F Γ:TS)(qr qa:Place→Bool)(m:Nat→Bool)(ns:List (Nat×TX))(nb:List (Nat×List TC)):Option TS:=
 bif F.hit qr qa m||ns.any (fun p=>(look F.sl p.1).isSome||F.guards p.1||Γ.guards p.1)||nb.any (fun p=>(look F.bx p.1).isSome)then none
 else bif Γ.hit qr qa m then some ⟨ns++(Γ.sift qr qa m).sl,nb++(Γ.sift qr qa m).bx⟩
 else some ⟨ns++Γ.sl,nb++Γ.bx⟩
section
variable{qr qa:Place→Bool}{m:Nat→Bool}
theorem TC.HG{c:TC}(h:c.hit qr qa m=false):c.sift qr qa m=c:=by
 cases c<;>simp_all [TC.hit,TC.sift]
theorem HT{l:List TC}(h:l.any (TC.hit qr qa m)=false):l.map (TC.sift qr qa m)=l:=by
 induction l with
 |nil=>rfl
 |cons c l ih=>
  simp only[Qb1,Qa1]at h;rw[Qc7,TC.HG h.1,ih h.2]
theorem TSV.HG{v:TSV}(h:v.hit qr qa m=false):v.sift qr qa m=v:=by
 cases v with
 |one c=>simp only[TSV.sift,TC.HG h]
 |agg l=>simp only[TSV.sift,HT h]
 |clo f l=>simp only[TSV.sift,HT h]
theorem TX.HG{x:TX}(h:x.hit qr qa m=false):x.sift qr qa m=x:=by
 cases x with
 |val gd v=>simp only[TX.sift,TSV.HG h]
 |tup l=>
  simp only[TX.sift,TX.tup.injEq];simp only[TX.hit]at h
  induction l with
  |nil=>rfl
  |cons v l ih=>
   simp only[Qb1,Qa1]at h;rw[Qc7,TSV.HG h.1,ih h.2]
 |gone=>rfl
theorem TC.ZX(c:TC):c.sift qr qa m=c∨c.sift qr qa m=.dead:=by
 cases c with
 |ref p tt e w=>simp only[TC.sift];split<;>simp
 |adr p tt e i c=>simp only[TC.sift];split<;>simp
 |box b c=>simp only[TC.sift];split<;>simp
 |boxd b c n i=>simp only[TC.sift];split<;>simp
 |_=>exact .inl rfl
theorem TC.PL{c:TC}(h:c.A5=true):(c.sift qr qa m).A5=true:=by
 rcases c.ZX (qr:=qr) (qa:=qa) (m:=m)with e|e<;>rw[e]
 ·exact h
 ·rfl
theorem TC.Jq(c:TC)(p:List Stp)(n:Nat)(h:((c.sift qr qa m).atS p).bind TC.len?=some n):(c.atS p).bind TC.len?=some n:=by
 rcases c.ZX (qr:=qr) (qa:=qa) (m:=m)with e|e<;>rw[e]at h
 ·exact h
 ·cases p<;>simp[TC.atS,TC.len?]at h
variable{μ μ':Nat→Nat}{ver ver':Root→Nat}{ln ln':Place→Option Nat}{F Γ Γ':TS}
structure Tr(qr qa:Place→Bool)(m:Nat→Bool)(μ μ':Nat→Nat)(ver ver':Root→Nat)(ln ln':Place→Option Nat):Prop where
 mu:∀b,m b=false→μ' b=μ b
 rr:∀p,qr p=false→p.mu μ'=p.mu μ∧ver' (p.mu μ').root=ver (p.mu μ).root∧∀n,ln' p=some n→ln p=some n
 ra:∀p,qa p=false→p.mu μ'=p.mu μ∧ver' (p.mu μ').root=ver (p.mu μ).root
theorem Tr.av(T:Tr qr qa m μ μ' ver ver' ln ln'){c:TC}{a:AV}(h:c.av μ ver ln a):(c.sift qr qa m).av μ' ver' ln' a:=by
 cases c with
 |box b c=>
  simp only[TC.sift];split
  ·trivial
  ·rename_i hm;have:=T.mu b (by simpa using hm);simp only[TC.av]at h⊢;rw[this];exact h
 |boxd b c n i=>
  simp only[TC.sift];split
  ·trivial
  ·rename_i hm;have:=T.mu b (by simpa using hm);simp only[TC.av]at h⊢;rw[this];exact h
 |ref p tt e w=>
  simp only[TC.sift];split
  ·trivial
  ·rename_i hq;obtain⟨h1,h2,h3⟩:=T.rr p (by simpa using hq)
   cases w with
   |none=>
    obtain⟨n,h,hn⟩:=h;refine⟨n,?_,fun m hm=>hn m (h3 m hm)⟩;rw[h2,h1];exact h
   |some x=>
    obtain⟨lo,n⟩:=x;simp only[TC.av]at h⊢;rw[h2,h1];exact h
 |adr p tt e i c=>
  simp only[TC.sift];split
  ·trivial
  ·rename_i hq;obtain⟨h1,h2⟩:=T.ra p (by simpa using hq);simp only[TC.av]at h⊢;rw[h2,h1];exact h
 |_=>exact h
theorem Tr.avs(T:Tr qr qa m μ μ' ver ver' ln ln'):∀{l:List TC} {k:List AV},avs μ ver ln l k→VS.avs μ' ver' ln' (l.map (TC.sift qr qa m)) k
 |[],[],_=>trivial
 |c::l,a::k,h=>⟨T.av h.1,T.avs h.2⟩
 |[],_::_,h=>h.elim
 |_::_,[],h=>h.elim
theorem Tr.sv(T:Tr qr qa m μ μ' ver ver' ln ln'){v:TSV}{s:SV}(h:v.sv μ ver ln s):(v.sift qr qa m).sv μ' ver' ln' s:=by
 cases v with
 |one c=>obtain⟨a,e,h⟩:=h;exact⟨a,e,T.av h⟩
 |agg l=>obtain⟨a,e,h⟩:=h;exact⟨a,e,T.avs h⟩
 |clo f l=>obtain⟨a,e,h⟩:=h;exact⟨a,e,T.avs h⟩
theorem Tr.svs(T:Tr qr qa m μ μ' ver ver' ln ln'):∀{l:List TSV} {k:List SV},svs μ ver ln l k→VS.svs μ' ver' ln' (l.map (TSV.sift qr qa m)) k
 |[],[],_=>trivial
 |c::l,a::k,h=>⟨T.sv h.1,T.svs h.2⟩
 |[],_::_,h=>h.elim
 |_::_,[],h=>h.elim
theorem Tr.tv(T:Tr qr qa m μ μ' ver ver' ln ln'){g g':Gd→Bool}{x:TX}{y:TV}(hg:∀gd v,x=.val gd v→g' gd=g gd)(h:x.tv μ ver ln g y):(x.sift qr qa m).tv μ' ver' ln' g' y:=by
 cases x with
 |val gd v=>
  obtain⟨s,e,h⟩:=h;have hgd:=hg gd v rfl;exact⟨s,by rw[hgd];exact e,T.sv h⟩
 |tup l=>obtain⟨k,e,h⟩:=h;exact⟨k,e,T.svs h⟩
 |gone=>exact trivial
theorem LF{ns:List (Nat×TX)}{nb:List (Nat×List TC)}(hu:TS.upd F Γ qr qa m ns nb=some Γ')(hss:∀t,(look F.sl t).isSome=true→look Γ.sl t=none)(t:Nat):
  TS.slot F Γ' t=match look ns t with|some x=>some x|none=>(TS.slot F Γ t).map (TX.sift qr qa m):=by
 unfold TS.upd at hu
 cases hc:(F.hit qr qa m||ns.any (fun p=>(look F.sl p.1).isSome||F.guards p.1||Γ.guards p.1)||nb.any (fun p=>(look F.bx p.1).isSome))with
 |true=>rw[hc]at hu;cases hu
 |false=>
  rw[hc]at hu;simp only[Qa1]at hc;obtain⟨⟨hF,hns⟩,hnb⟩:=hc
  have fr:∀x,look F.sl t=some x→x.sift qr qa m=x:=by
   intro x hx;refine TX.HG ?_;have:=Em hx;simp only[TS.hit,Qa1]at hF;have h1:=List.any_eq_false.1 hF.1 (t,x) this;simpa using h1
  have main:∀L:List (Nat×TX),look L t=(look Γ.sl t).map (TX.sift qr qa m)→(match look (ns++L) t with|some x=>some x|none=>look F.sl t)=match look ns t with|some x=>some x|none=>(TS.slot F Γ t).map (TX.sift qr qa m):=by
   intro L hL;rw[A9]
   cases hn:look ns t with
   |some x=>rfl
   |none=>
    rw[hL];unfold TS.slot
    cases hg:look Γ.sl t with
    |some x=>rfl
    |none=>
     cases hf:look F.sl t with
     |none=>rfl
     |some x=>simp[fr x hf]
  cases hh:Γ.hit qr qa m with
  |true=>
   rw[hh]at hu;cases hu;exact main _ (Jg _ _ _)
  |false=>
   rw[hh]at hu;cases hu;refine main _ ?_
   cases hg:look Γ.sl t with
   |none=>rfl
   |some x=>
    have:=Em hg;simp only[TS.hit,Qa1]at hh;have h1:=List.any_eq_false.1 hh.1 (t,x) this;simp[TX.HG (by simpa using h1:x.hit qr qa m=false)]
theorem FL{ns:List (Nat×TX)}{nb:List (Nat×List TC)}(hu:TS.upd F Γ qr qa m ns nb=some Γ')(b:Nat):
  TS.box F Γ' b=match look nb b with|some x=>some x|none=>(TS.box F Γ b).map (List.map (TC.sift qr qa m)):=by
 unfold TS.upd at hu
 cases hc:(F.hit qr qa m||ns.any (fun p=>(look F.sl p.1).isSome||F.guards p.1||Γ.guards p.1)||nb.any (fun p=>(look F.bx p.1).isSome))with
 |true=>rw[hc]at hu;cases hu
 |false=>
  rw[hc]at hu;simp only[Qa1]at hc;obtain⟨⟨hF,hns⟩,hnb⟩:=hc
  have fr:∀x,look F.bx b=some x→x.map (TC.sift qr qa m)=x:=by
   intro x hx;refine HT ?_;have:=Em hx;simp only[TS.hit,Qa1]at hF;have h1:=List.any_eq_false.1 hF.2 (b,x) this;simpa using h1
  have main:∀L:List (Nat×List TC),look L b=(look Γ.bx b).map (List.map (TC.sift qr qa m))→(match look (nb++L) b with|some x=>some x|none=>look F.bx b)=match look nb b with|some x=>some x|none=>(TS.box F Γ b).map (List.map (TC.sift qr qa m)):=by
   intro L hL;rw[A9]
   cases hn:look nb b with
   |some x=>rfl
   |none=>
    rw[hL];unfold TS.box
    cases hg:look Γ.bx b with
    |some x=>rfl
    |none=>
     cases hf:look F.bx b with
     |none=>rfl
     |some x=>simp[fr x hf]
  cases hh:Γ.hit qr qa m with
  |true=>
   rw[hh]at hu;cases hu;exact main _ (Jg _ _ _)
  |false=>
   rw[hh]at hu;cases hu;refine main _ ?_
   cases hg:look Γ.bx b with
   |none=>rfl
   |some x=>
    have:=Em hg;simp only[TS.hit,Qa1]at hh;have h1:=List.any_eq_false.1 hh.2 (b,x) this;simp[HT (by simpa using h1:x.any (TC.hit qr qa m)=false)]
theorem YI{ns:List (Nat×TX)}{nb:List (Nat×List TC)}(hu:TS.upd F Γ qr qa m ns nb=some Γ'):
  (∀t x,look ns t=some x→look F.sl t=none∧F.guards t=false∧Γ.guards t=false)∧(∀b l,look nb b=some l→look F.bx b=none)∧
  (∀t,look Γ'.sl t=none↔look ns t=none∧look Γ.sl t=none)∧(∀b,look Γ'.bx b=none↔look nb b=none∧look Γ.bx b=none):=by
 unfold TS.upd at hu
 cases hc:(F.hit qr qa m||ns.any (fun p=>(look F.sl p.1).isSome||F.guards p.1||Γ.guards p.1)||nb.any (fun p=>(look F.bx p.1).isSome))with
 |true=>rw[hc]at hu;cases hu
 |false=>
  rw[hc]at hu;simp only[Qa1]at hc;obtain⟨⟨hF,hns⟩,hnb⟩:=hc;refine⟨?_,?_,?_,?_⟩
  ·intro t x hx;have:=List.any_eq_false.1 hns (t,x) (Em hx);simp at this;simpa[and_assoc]using this
  ·intro b l hx;have:=List.any_eq_false.1 hnb (b,l) (Em hx);simpa using this
  ·intro t
   have e:∀L:List (Nat×TX),(look L t=none↔look Γ.sl t=none)→(look (ns++L) t=none↔look ns t=none∧look Γ.sl t=none):=by
    intro L hL;rw[A9]
    cases look ns t<;>simp[hL]
   cases hh:Γ.hit qr qa m<;>rw[hh]at hu<;>cases hu
   ·exact e _ Iff.rfl
   ·refine e _ ?_;show look (Γ.sl.map fun p=>(p.1,p.2.sift qr qa m)) t=none↔_;rw[Jg];simp
  ·intro t
   have e:∀L:List (Nat×List TC),(look L t=none↔look Γ.bx t=none)→(look (nb++L) t=none↔look nb t=none∧look Γ.bx t=none):=by
    intro L hL;rw[A9]
    cases look nb t<;>simp[hL]
   cases hh:Γ.hit qr qa m<;>rw[hh]at hu<;>cases hu
   ·exact e _ Iff.rfl
   ·refine e _ ?_;show look (Γ.bx.map fun p=>(p.1,p.2.map (TC.sift qr qa m))) t=none↔_;rw[Jg];simp
theorem V0{x:TX}:(match some (x.sift qr qa m)with|some (.val _ (.one (.bool b)))=>some b|_=>none)=(match some x with|some (.val _ (.one (.bool b)))=>some b|_=>none:Option Bool):=by
 cases x with
 |tup l=>rfl
 |gone=>rfl
 |val gd v=>
  cases v with
  |one c=>
   have e:=c.ZX (qr:=qr) (qa:=qa) (m:=m)
   cases c with
   |bool b=>rfl
   |_=>rcases e with e|e<;>simp only[TX.sift,TSV.sift,e]
  |_=>rfl
theorem RY{Γ Γ':TS}{t0:Nat→Prop}(hs:∀t,¬t0 t→GN F Γ' t=GN F Γ t):∀gd:Gd,(∀p∈gd,¬t0 p.1)→gv F Γ' gd=gv F Γ gd
 |[],_=>rfl
 |(t,w)::r,h=>by
  simp only[gv];rw[hs t (h (t,w) (by simp)),RY hs r (fun p hp=>h p (by simp[hp]))]
theorem Sim.upd{st st':St}{ns:List (Nat×TX)}{nb:List (Nat×List TC)}(h:Sim μ F Γ st)(hu:TS.upd F Γ qr qa m ns nb=some Γ')(T:Tr qr qa m μ μ' st.ver st'.ver (lnT F Γ) (lnT F Γ'))
  (hsl:∀t,look ns t=none→st'.sl t=st.sl t)
  (hns:∀t x,look ns t=some x→x.tv μ' st'.ver (lnT F Γ') (gv F Γ') (st'.sl t))
  (hhp:∀b l,look nb b=none→TS.box F Γ b=some l→st'.hp.get (μ b)=st.hp.get (μ b))
  (hnb:∀b l,look nb b=some l→∃k,st'.hp.get (μ' b)=some k∧VS.avs μ' st'.ver (lnT F Γ') l k∧μ' b<st'.hp.next∧l.all TC.A5=true)
  (hm:∀b,m b=true→(look nb b).isSome=true)
  (hinj:∀b b' l l',look nb b=some l→TS.box F Γ' b'=some l'→μ' b=μ' b'→b=b')
  (hnx:st.hp.next≤st'.hp.next):Sim μ' F Γ' st':=by
 obtain⟨f1,f2,f3,f4⟩:=YI hu;have hslot:=LF hu h.ss;have hbox:=FL hu
 have hgv:∀gd:Gd,(∀p∈gd,look ns p.1=none)→gv F Γ' gd=gv F Γ gd:=by
  intro gd hgd;refine RY (t0:=fun t=>look ns t≠none) ?_ gd (fun p hp=>by simpa using hgd p hp);intro t ht
  have ht:look ns t=none:=by simpa using ht
  unfold GN;rw[hslot t,ht]
  cases hx:TS.slot F Γ t with
  |none=>rfl
  |some x=>exact V0
 have mfalse:∀b,look nb b=none→m b=false:=by
  intro b hb
  cases hmb:m b with
  |false=>rfl
  |true=>have:=hm b hmb;rw[hb]at this;cases this
 refine⟨?_,?_,?_,?_,?_⟩
 ·intro t x hx;rw[hslot t]at hx
  cases hn:look ns t with
  |some y=>rw[hn]at hx;cases hx;exact hns t _ hn
  |none=>
   rw[hn]at hx;simp only[Qa7]at hx;obtain⟨x0,hx0,rfl⟩:=hx;rw[hsl t hn];refine T.tv ?_ (h.sl t x0 hx0);rintro gd v rfl
   refine hgv gd fun p hp=>?_
   cases hl:look ns p.1 with
   |none=>rfl
   |some y=>
    exfalso;obtain⟨_,g1,g2⟩:=f1 p.1 y hl
    have hmem:(∃k,(k,TX.val gd v)∈Γ.sl)∨(∃k,(k,TX.val gd v)∈F.sl):=by
     unfold TS.slot at hx0
     cases hg:look Γ.sl t with
     |some x1=>rw[hg]at hx0;cases hx0;exact .inl ⟨t,Em hg⟩
     |none=>rw[hg]at hx0;exact .inr ⟨t,Em hx0⟩
    have bad:∀(L:List (Nat×TX)) k,(k,TX.val gd v)∈L→(L.any fun q=>q.2.guards p.1)=true:=by
     intro L k hk;refine List.any_eq_true.2 ⟨(k,.val gd v),hk,?_⟩;simp only[TX.guards];refine List.any_eq_true.2 ⟨p,hp,by simp⟩
    rcases hmem with⟨k,hk⟩|⟨k,hk⟩
    ·rw[show Γ.guards p.1=true from bad _ k hk]at g2;cases g2
    ·rw[show F.guards p.1=true from bad _ k hk]at g1;cases g1
 ·intro b l hl;rw[hbox b]at hl
  cases hn:look nb b with
  |some y=>rw[hn]at hl;cases hl;exact hnb b _ hn
  |none=>
   rw[hn]at hl;simp only[Qa7]at hl;obtain⟨l0,hl0,rfl⟩:=hl;obtain⟨k,q1,q2,q3,q4⟩:=h.bx b l0 hl0;have e:=T.mu b (mfalse b hn);refine⟨k,by rw[e,hhp b l0 hn hl0];exact q1,T.avs q2,by rw[e];exact Nat.lt_of_lt_of_le q3 hnx,?_⟩
   simp only[Qd6,Qa8]at q4⊢;intro c hc;exact TC.PL (q4 c hc)
 ·intro b b' l l' hb hb' he
  cases hn:look nb b with
  |some y=>exact hinj b b' y l' hn hb' he
  |none=>
   cases hn':look nb b' with
   |some y=>exact(hinj b' b y l hn' hb he.symm).symm
   |none=>
    rw[hbox b,hn]at hb;rw[hbox b',hn']at hb';simp only[Qa7]at hb hb';obtain⟨l0,hl0,_⟩:=hb;obtain⟨l1,hl1,_⟩:=hb';refine h.inj b b' l0 l1 hl0 hl1 ?_;rw[←T.mu b (mfalse b hn),←T.mu b' (mfalse b' hn')];exact he
 ·intro t ht;refine(f3 t).2 ⟨?_,h.ss t ht⟩
  cases hn:look ns t with
  |none=>rfl
  |some x=>rw[(f1 t x hn).1]at ht;cases ht
 ·intro b hb;refine(f4 b).2 ⟨?_,h.sb b hb⟩
  cases hn:look nb b with
  |none=>rfl
  |some x=>rw[f2 b x hn]at hb;cases hb
end
end Go.VS
namespace Go.VS
def R(α:Type):Type:=Option (List Prop×α)
namespace R
def pure{α:Type}(a:α):R α:=some ([],a)
def need(p:Prop):R Unit:=some ([p],())
def fail{α:Type}:R α:=none
def bind{α β:Type}(x:R α)(f:α→R β):R β:=
 match x with
 |none=>none
 |some (p,a)=>match f a with
  |none=>none
  |some (q,b)=>some (p++q,b)
instance:Monad R where
 pure:=R.pure
 bind:=R.bind
def Aae:List Prop→Prop
 |[]=>True
 |p::ps=>p∧Aae ps
theorem MQ:∀(ps qs:List Prop),Aae (ps++qs)↔Aae ps∧Aae qs
 |[],qs=>by simp[Aae]
 |p::ps,qs=>by simp[Aae,MQ ps qs,and_assoc]
def ok{α:Type}(x:R α)(a:α):Prop:=∃ps,x=some (ps,a)∧Aae ps
theorem Ah{α β:Type}{x:R α}{f:α→R β}{b:β}:(x>>=f).ok b↔∃a,x.ok a∧(f a).ok b:=by
 show(R.bind x f).ok b↔_;unfold R.bind ok;constructor
 ·rintro⟨ps,h,hp⟩;split at h
  case h_1=>cases h
  rename_i p a;split at h
  case h_1=>cases h
  rename_i q b' hf;cases h;rw[MQ]at hp;exact⟨a,⟨p,rfl,hp.1⟩,⟨q,hf,hp.2⟩⟩
 ·rintro⟨a,⟨p,rfl,hp⟩,⟨q,hf,hq⟩⟩;refine⟨p++q,?_,(MQ _ _).2 ⟨hp,hq⟩⟩;simp only[hf];rfl
theorem Ai{α:Type}{a b:α}:(Pure.pure a:R α).ok b↔a=b:=by
 constructor
 ·rintro⟨ps,h,_⟩;cases h;rfl
 ·rintro rfl;exact⟨[],rfl,trivial⟩
theorem HE{p:Prop}{u:Unit}:(R.need p).ok u↔p:=by
 constructor
 ·rintro⟨ps,h,h2⟩;cases h;exact h2.1
 ·intro h;exact⟨[p],rfl,h,trivial⟩
theorem Ae{α:Type}{a:α}:(R.fail:R α).ok a↔False:=by
 constructor
 ·rintro⟨ps,h,_⟩;cases h
 ·exact False.elim
def Dz{α:Type}:Option α→R α
 |some a=>Pure.pure a
 |none=>R.fail
theorem Cd{α:Type}{x:Option α}{a:α}:(Dz x).ok a↔x=some a:=by
 cases x with
 |none=>simp[Dz,Ae]
 |some b=>simp[Dz,Ai]
end R
def Km:Value→TC
 |.int k n=>.int k n
 |.bool b=>.bool b
 |.string s=>.str s.data.toList
 |.slice none 0 0=>.nil
 |v=>.lit v
def gsub(gd g:Gd):Bool:=gd.all fun p=>g.any fun q=>Qb0 p.1 q.1&&(bif p.2 then q.2 else !q.2)
def Yj(p:Place):TC→TC
 |.sl .own tt e _=>.ref p tt e none
 |c=>c
def Yk(mk:Nat→Place):Nat→List TC→List TC
 |_,[]=>[]
 |j,c::l=>Yj (mk j) c::Yk mk (j+1) l
def TSV.peek(n:Nat):TSV→TSV
 |.one c=>.one (Yj ⟨.slot n 0,[]⟩ c)
 |.agg l=>.agg (Yk (fun j=>⟨.slot n j,[]⟩) 0 l)
 |.clo f l=>.clo f l
def atC:TC→List Stp→R TC
 |c,[]=>pure c
 |.sl .own tt e l,s::r=>if s.k=e.size then do
   R.need (s.i<l.length)
   match(e.ex tt (l.getD s.i e.dflt))[s.c]?with
   |some c=>atC c r
   |none=>R.fail
  else R.fail
 |_,_=>R.fail
def AiY:List TC→Option (IntKind×List Int)
 |[]=>none
 |[.int k n]=>some (k,[n])
 |.int k n::l=>match AiY l with
  |some (k',ns)=>if k=k' then some (k,n::ns)else none
  |none=>none
 |_=>none
def Alc:List TC→Option (List (List UInt8))
 |[]=>some []
 |.str s::l=>match Alc l with
  |some ns=>some (s::ns)
  |none=>none
 |_=>none
def ZV(l:List TC)(i:Nat):Option TC:=match AiY l with
 |some (k,ns)=>some (.int k (ns.getD i 0))
 |none=>match Alc l with
  |some ns=>some (.str (ns.getD i []))
  |none=>none
def mkT(agg:Bool)(l:List TC):TSV:=bif agg then .agg l else .one (l.headD .dead)
def Tw(l:List TC)(c:Nat):List TC→List TC
 |[]=>l
 |a::as=>Tw (l.set c a) (c+1) as
def eqC:CK→TC→TC→Option Bool
 |.int,.int k a,.int k' b=>if k=k' then some (a==b)else none
 |.str,.str a,.str b=>some (a==b)
 |.bool,.bool a,.bool b=>some (a==b)
 |_,_,_=>none
def Akk:List CK→List TC→List TC→Option Bool
 |[],[],[]=>some true
 |k::ks,a::l,b::m=>match eqC k a b,Akk ks l m with
  |some x,some y=>some (x&&y)
  |_,_=>none
 |_,_,_=>none
def Ss{α:Type}(lo hi:Option Int)(l:List α):List α:=match lo,hi with
 |none,none=>l
 |some a,none=>l.drop a.toNat
 |none,some b=>l.take b.toNat
 |some a,some b=>(l.take b.toNat).drop a.toNat
section
variable(F Γ:TS)
def gimp:Gd→Prop→Prop
 |[],p=>p
 |(t,w)::r,p=>match GN F Γ t with
  |some b=>b=w→gimp r p
  |none=>p
def Gw(g:Gd)(p:Prop):R Unit:=R.need (gimp F Γ g p)
def P0(g:Gd):Opd→R TSV
 |.c v=>pure (.one (Km v))
 |.f nm=>pure (.clo (nm,false) [])
 |.t n=>match TS.slot F Γ n with
  |some (.val gd v)=>bif gsub gd g then pure (v.peek n)else R.fail
  |_=>R.fail
def IC(g:Gd)(x:Opd):R TC:=do
 match←P0 F Γ g x with
 |.one c=>pure c
 |_=>R.fail
def Aaa(g:Gd)(x:Opd):R Int:=do
 match←P0 F Γ g x with
 |.one (.int _ n)=>pure n
 |_=>R.fail
def Z9(g:Gd)(x:Opd):R Bool:=do
 match←P0 F Γ g x with
 |.one (.bool b)=>pure b
 |_=>R.fail
def Ahf(g:Gd)(x:Opd):R (List TC):=do
 match←P0 F Γ g x with
 |.agg l=>pure l
 |_=>R.fail
def atR(p:Place):R TC:=match Cy F Γ p.root with
 |some c=>atC c p.path
 |none=>R.fail
def AhO(g:Gd)(op:BinOp)(k k':IntKind)(a b:Int):R TC:=
 match op with
 |.add=>if k=k' then pure (.int k (k.wrap (a+b)))else R.fail
 |.sub=>if k=k' then pure (.int k (k.wrap (a -b)))else R.fail
 |.mul=>if k=k' then pure (.int k (k.wrap (a*b)))else R.fail
 |.quo=>if k=k' then do Gw F Γ g (b≠0);pure (.int k (k.wrap (a.tdiv b)))else R.fail
 |.rem=>if k=k' then do Gw F Γ g (b≠0);pure (.int k (a.tmod b))else R.fail
 |.and=>if k=k' then pure (.int k (k.wrap (Qb3 k.bits a&&&Qb3 k.bits b).toNat))else R.fail
 |.or=>if k=k' then pure (.int k (k.wrap (Qb3 k.bits a|||Qb3 k.bits b).toNat))else R.fail
 |.xor=>if k=k' then pure (.int k (k.wrap (Qb3 k.bits a^^^Qb3 k.bits b).toNat))else R.fail
 |.andNot=>if k=k' then pure (.int k (k.wrap (Qb3 k.bits a&&&~~~Qb3 k.bits b).toNat))else R.fail
 |.eql=>if k=k' then pure (.bool (a==b))else R.fail
 |.neq=>if k=k' then pure (.bool (a !=b))else R.fail
 |.lss=>if k=k' then pure (.bool (a<b))else R.fail
 |.leq=>if k=k' then pure (.bool (a≤b))else R.fail
 |.gtr=>if k=k' then pure (.bool (a>b))else R.fail
 |.geq=>if k=k' then pure (.bool (a≥b))else R.fail
 |.shl=>do Gw F Γ g (0≤b);pure (.int k (k.wrap (a*2^(min b.toNat k.bits))))
 |.shr=>do Gw F Γ g (0≤b);pure (.int k (a.fdiv (2^(min b.toNat k.bits))))
def AhP(g:Gd)(op:BinOp)(a b:List UInt8):R TC:=
 match op with
 |.add=>do Gw F Γ g (a.length+b.length≤9223372036854775807);pure (.str (a++b))
 |.eql=>pure (.bool (a==b))
 |.neq=>pure (.bool (!(a==b)))
 |.lss=>pure (.bool (Op.bytesLess a b))
 |.leq=>pure (.bool (Op.bytesLess a b||a==b))
 |.gtr=>pure (.bool (!(Op.bytesLess a b||a==b)))
 |.geq=>pure (.bool (!(Op.bytesLess a b)))
 |_=>R.fail
def AiC(g:Gd):Option Opd→R (Option Int)
 |none=>pure none
 |some x=>do let n←Aaa F Γ g x;pure (some n)
def Adb(g:Gd)(n:Nat)(lo hi:Option Opd):R (Option Int×Option Int):=do
 let h←AiC F Γ g hi
 let l←AiC F Γ g lo
 match l,h with
 |none,none=>pure (l,h)
 |some a,none=>do Gw F Γ g (0≤a∧a≤n);pure (l,h)
 |none,some b=>do Gw F Γ g (0≤b∧b≤n);pure (l,h)
 |some a,some b=>do Gw F Γ g (0≤a∧a≤b∧b≤n);pure (l,h)
def Sb(g:Gd)(cells:List TC):List (Nat×Nat×Opd)→R (List TC)
 |[]=>pure cells
 |(off,n,x)::r=>do
  let v←P0 F Γ g x
  match v with
  |.clo _ _=>R.fail
  |_=>if v.cells.length=n then Sb g (Tw cells off v.cells) r else R.fail
def Aax(g:Gd):List Opd→R (List TC)
 |[]=>pure []
 |x::r=>do
  let a←IC F Γ g x
  let l←Aax g r
  pure (a::l)
def TC.BC:TC→Bool
 |.sl .brw _ _ _=>false
 |.sl _ tt _ _=>TT.BC tt
 |.ref ..=>false
 |.adr ..=>false
 |.iadr ..=>false
 |.iadrd ..=>false
 |.dead=>false
 |_=>true
where TT.BC:TT→Bool
 |.leaf=>true
 |.node .brw _=>false
 |.node _ e=>TT.BC e
 |.pair a b=>TT.BC a&&TT.BC b
def Ae7(g:Gd)(agg:Bool)(n:Nat)(p:Place)(k i c:Nat):TC→R TSV
 |.sl .own tt e' l=>if e'.size=k∧c+n≤k then(do
   Gw F Γ g (i<l.length)
   pure (mkT agg (Yk (fun j=>⟨p.root,p.path++[⟨i,k,c+j⟩]⟩) 0 (((e'.ex tt (l.getD i e'.dflt)).drop c).take n))))
  else R.fail
 |_=>R.fail
def loadT(g:Gd)(agg:Bool)(n:Nat):TC→R TSV
 |.box b c=>match TS.box F Γ b with
  |some l=>if c+n≤l.length then pure (mkT agg (Yk (fun j=>⟨.obj b (c+j),[]⟩) 0 ((l.drop c).take n)))else R.fail
  |none=>R.fail
 |.boxd b c m i=>match TS.box F Γ b with
  |some l=>match ZV ((l.drop c).take m) i with
   |some d=>if n=1∧agg=false∧c+m≤l.length then(do Gw F Γ g (i<m);pure (.one d))else R.fail
   |none=>R.fail
  |none=>R.fail
 |.adr p _ e i c=>do
  let d←atR F Γ p
  Ae7 F Γ g agg n p e.size i c d
 |.iadr tt e l i c=>if c+n≤e.size then(do
   Gw F Γ g (i<l.length)
   pure (mkT agg (((e.ex tt (l.getD i e.dflt)).drop c).take n)))
  else R.fail
 |.iadrd tt e l i c m j=>match ZV (((e.ex tt (l.getD i e.dflt)).drop c).take m) j with
  |some d=>if n=1∧agg=false∧c+m≤e.size then(do Gw F Γ g (i<l.length∧j<m);pure (.one d))else R.fail
  |none=>R.fail
 |_=>R.fail
def AnF(p:Place)(tt:TT)(e:BT)(lo0 n:Nat):Option Int→Option Int→TSV
 |none,none=>.one (.ref p tt e (some (lo0,n)))
 |some a,none=>.one (.ref p tt e (some (lo0+a.toNat,n -a.toNat)))
 |none,some b=>.one (.ref p tt e (some (lo0,b.toNat)))
 |some a,some b=>.one (.ref p tt e (some (lo0+a.toNat,b.toNat -a.toNat)))
def AmA(p:Place)(tt:TT)(e:BT)(n:Nat):Option Int→Option Int→TSV
 |none,none=>.one (.ref p tt e none)
 |some a,none=>.one (.ref p tt e (some (a.toNat,n -a.toNat)))
 |none,some b=>.one (.ref p tt e (some (0,b.toNat)))
 |some a,some b=>.one (.ref p tt e (some (a.toNat,b.toNat -a.toNat)))
def AmE(g:Gd)(k:Nat)(lo hi:Option Opd)(p:Place)(tt:TT)(e:BT):Option (Nat×Nat)→TC→R TSV
 |none,.sl .own _ _ l0=>if e.size=k then(do
   let(l,h)←Adb F Γ g l0.length lo hi
   pure (AmA p tt e l0.length l h))
  else R.fail
 |some (lo0,n),.sl .own _ _ _=>if e.size=k then(do
   let(l,h)←Adb F Γ g n lo hi
   pure (AnF p tt e lo0 n l h))
  else R.fail
 |_,_=>R.fail
def Ai2(g:Gd)(k:Nat)(lo hi:Option Opd):TC→R TSV
 |.ref p tt e w=>do
  let d←atR F Γ p
  AmE F Γ g k lo hi p tt e w d
 |.sl τ tt e l=>if τ≠.own∧e.size=k then(do
   let(a,b)←Adb F Γ g l.length lo hi
   pure (.one (.sl τ tt e (Ss a b l))))
  else R.fail
 |.nil=>do
  let _←Adb F Γ g 0 lo hi
  pure (.one .nil)
 |_=>R.fail
def Amd(g:Gd)(k:Nat)(i:Int)(p:Place)(tt:TT)(e:BT):Option (Nat×Nat)→TC→R TSV
 |none,.sl .own _ _ l=>if e.size=k then(do Gw F Γ g (0≤i∧i<l.length);pure (.one (.adr p tt e i.toNat 0)))else R.fail
 |some (lo,n),.sl .own _ _ _=>if e.size=k then(do Gw F Γ g (0≤i∧i<n);pure (.one (.adr p tt e (lo+i.toNat) 0)))else R.fail
 |_,_=>R.fail
def Akr(g:Gd)(k:Nat)(i:Int):TC→R TSV
 |.ref p tt e w=>do
  let d←atR F Γ p
  Amd F Γ g k i p tt e w d
 |.sl τ tt e l=>if τ≠.own∧e.size=k then(do Gw F Γ g (0≤i∧i<l.length);pure (.one (.iadr tt e l i.toNat 0)))else R.fail
 |_=>R.fail
def AlJ(n k:Nat)(i:Int):TC→R TSV
 |.box b c=>if k=1 then pure (.one (.boxd b c n i.toNat))else R.fail
 |.iadr tt e l j c=>if k=1 then pure (.one (.iadrd tt e l j c n i.toNat))else R.fail
 |_=>R.fail
def Agg:TC→R TC
 |.ref p _ _ none=>do
  let d←atR F Γ p
  match d with
  |.sl .own _ _ l=>pure (.int .i64 l.length)
  |_=>R.fail
 |.ref _ _ _ (some (_,n))=>pure (.int .i64 n)
 |.sl _ _ _ l=>pure (.int .i64 l.length)
 |.nil=>pure (.int .i64 0)
 |_=>R.fail
def AlY(g:Gd)(op:BinOp):TC→TC→R TC
 |.int k a,.int k' b=>AhO F Γ g op k k' a b
 |.str a,.str b=>AhP F Γ g op a b
 |_,_=>R.fail
def unT:UnOp→TC→R TC
 |.neg,.int k n=>pure (.int k (k.wrap (0 -n)))
 |.xor,.int k n=>pure (.int k (k.wrap (Qb3 k.bits (if k.signed then-1 else k.max)^^^Qb3 k.bits n).toNat))
 |.not,.bool b=>pure (.bool !b)
 |_,_=>R.fail
def Af1(n:Int):List UInt8:=(Utf8.encode n).data.toList
def AhQ(w:Option (Nat×Nat)):TC→R TC
 |.sl .own _ (.int .u8) l=>(match w with
  |none=>pure (.str (strOf l))
  |some (lo,n)=>(do
   R.need (lo+n≤l.length)
   pure (.str (strOf ((l.drop lo).take n)))))
 |_=>R.fail
def AlF:Cv→TC→R TC
 |.toInt k,.int _ n=>pure (.int k (k.wrap n))
 |.ident,.str s=>pure (.str s)
 |.ofInt,.int _ n=>pure (.str (Af1 n))
 |.bytesToStr,.ref p _ (.int .u8) w=>do
  let d←atR F Γ p
  AhQ w d
 |.bytesToStr,.sl _ _ (.int .u8) l=>pure (.str (strOf l))
 |.bytesToStr,.nil=>pure (.str [])
 |_,_=>R.fail
def AlN:TSV→R TSV
 |.one (.box b c)=>pure (.one (.box b c))
 |.one (.boxd b c n i)=>pure (.one (.boxd b c n i))
 |.one (.adr p tt e i c)=>pure (.one (.adr p tt e i c))
 |.one (.iadr tt e l i c)=>pure (.one (.iadr tt e l i c))
 |.clo f l=>pure (.clo f l)
 |_=>R.fail
def Ah7(off:Nat):TC→R TSV
 |.box b c=>pure (.one (.box b (c+off)))
 |.adr p tt e i c=>pure (.one (.adr p tt e i (c+off)))
 |.iadr tt e l i c=>pure (.one (.iadr tt e l i (c+off)))
 |_=>R.fail
def mmT(mx:Bool):TC→TC→R TC
 |.int k a,.int _ b=>pure (.int k (bif mx then(if b>a then b else a)else(if b<a then b else a)))
 |_,_=>R.fail
def AnI(g:Gd)(lo hi:Option Opd):TC→R TSV
 |.str s=>do
  let(l,h)←Adb F Γ g s.length lo hi
  pure (.one (.str (Ss l h s)))
 |_=>R.fail
def Ano(g:Gd)(i:Int):TC→R TSV
 |.str s=>do
  Gw F Γ g (0≤i∧i<s.length)
  pure (.one (.int .u8 (s.getD i.toNat 0).toNat))
 |_=>R.fail
def AlL:TC→R TSV
 |.str s=>pure (.one (.int .i64 s.length))
 |_=>R.fail
def HQ(g:Gd):AOp→R TSV
 |.mv x=>P0 F Γ g x
 |.pick c a b=>match c with
  |.t n=>do
   let cb←Z9 F Γ g (.t n)
   let av←Z9 F Γ ((n,true)::g) a
   let bv←Z9 F Γ ((n,false)::g) b
   pure (.one (.bool (bif cb then av else bv)))
  |_=>R.fail
 |.build zero parts=>do
  let l←Sb F Γ g (zero.map Km) parts
  pure (.agg l)
 |.load agg n x=>do
  let c←IC F Γ g x
  loadT F Γ g agg n c
 |.nilc x=>do
  let v←P0 F Γ g x
  AlN v
 |.bin op x y=>do
  let a←IC F Γ g x
  let b←IC F Γ g y
  let c←AlY F Γ g op a b
  pure (.one c)
 |.eqB ne x y=>do
  let a←Z9 F Γ g x
  let b←Z9 F Γ g y
  pure (.one (.bool (bif ne then !(a==b)else(a==b))))
 |.eqA ne ks x y=>do
  let l←Ahf F Γ g x
  let m←Ahf F Γ g y
  let b←R.Dz (Akk ks l m)
  pure (.one (.bool (bif ne then !b else b)))
 |.un op x=>do
  let a←IC F Γ g x
  let c←unT op a
  pure (.one c)
 |.conv c x=>do
  let a←IC F Γ g x
  let c←AlF F Γ c a
  pure (.one c)
 |.slS x lo hi=>do
  let c←IC F Γ g x
  AnI F Γ g lo hi c
 |.slK k x lo hi=>do
  let c←IC F Γ g x
  Ai2 F Γ g k lo hi c
 |.fAddr off x=>do
  let c←IC F Γ g x
  Ah7 off c
 |.fld agg off n x=>do
  let l←Ahf F Γ g x
  if off+n≤l.length then pure (mkT agg ((l.drop off).take n))else R.fail
 |.ixA k x i=>do
  let i←Aaa F Γ g i
  let c←IC F Γ g x
  Akr F Γ g k i c
 |.ixAr n k x i=>do
  let i←Aaa F Γ g i
  Gw F Γ g (0≤i∧i<n)
  let c←IC F Γ g x
  AlJ n k i c
 |.ixS x i=>do
  let i←Aaa F Γ g i
  let c←IC F Γ g x
  Ano F Γ g i c
 |.ixV agg n k x i=>do
  let i←Aaa F Γ g i
  let l←Ahf F Γ g x
  let d←R.Dz (ZV (l.take n) i.toNat)
  if k=1∧agg=false∧n≤l.length then(do Gw F Γ g (0≤i∧i<n);pure (.one d))else R.fail
 |.lenK x=>do
  let c←IC F Γ g x
  let d←Agg F Γ c
  pure (.one d)
 |.lenS x=>do
  let c←IC F Γ g x
  AlL c
 |.lenC n=>pure (.one (.int .i64 n))
 |.mm mx x y=>do
  let a←IC F Γ g x
  let b←IC F Γ g y
  let c←mmT mx a b
  pure (.one c)
 |.mkf f caps=>do
  let l←Aax F Γ g caps
  if l.all TC.BC then pure (.clo f l)else R.fail
 |.mkI t x=>do
  let a←IC F Γ g x
  match a with
  |.int k n=>pure (.one (.lit (.iface t (.int k n))))
  |_=>R.fail
 |_=>R.fail
end
end Go.VS
namespace Go.VS
theorem M.Ab{α:Type}{a:α}{K:α→Prop}(h:K a):(Pure.pure a:M α).holds K:=by rw[M.Ad];exact h
section
variable{μ:Nat→Nat}{ver:Root→Nat}{ln:Place→Option Nat}{F Γ:TS}{st:St}
theorem Aii:∀gd:Gd,gv F Γ gd=true↔∀p∈gd,GN F Γ p.1=some p.2
 |[]=>by simp[gv]
 |(t,w)::r=>by
  simp only[gv,Qa2,Aii r,List.forall_mem_cons];refine and_congr ?_ Iff.rfl
  cases GN F Γ t<;>simp
theorem X6{gd g:Gd}(h:gsub gd g=true)(hg:gv F Γ g=true):gv F Γ gd=true:=by
 rw[Aii]at hg⊢;intro p hp;have h1:=List.all_eq_true.1 h p hp;obtain⟨q,hq,h2⟩:=List.any_eq_true.1 h1;simp only[Qa2]at h2;have:=hg q hq;rw[Qb6 h2.1,this];obtain⟨_,h3⟩:=h2
 cases hp2:p.2<;>cases hq2:q.2<;>simp_all
theorem Oc:∀{g:Gd} {p:Prop},gimp F Γ g p→gv F Γ g=true→p
 |[],p,h,_=>h
 |(t,w)::r,p,h,hg=>by
  simp only[gimp]at h;simp only[gv,Qa2]at hg
  cases hs:GN F Γ t with
  |none=>rw[hs]at hg;simp at hg
  |some b=>
   rw[hs]at h hg;simp only[beq_iff_eq]at hg;exact Oc (h hg.1) hg.2
theorem BQ{g:Gd}{p:Prop}{u:Unit}(h:(Gw F Γ g p).ok u)(hg:gv F Γ g=true):p:=Oc (R.HE.1 h) hg
theorem Lt(v:Value):(Km v).av μ ver ln (.lit v):=by
 unfold Km;split
 ·rfl
 ·rfl
 ·rename_i s;simp[TC.av]
 ·rfl
 ·rfl
theorem AeL:∀(p:List Stp) {c d:TC},(atC c p).ok d→c.atS p=some d
 |[],c,d,h=>by
  have h:(Pure.pure c:R TC).ok d:=by cases c<;>first|exact h|(rename_i τ _ _ _;cases τ<;>exact h)
  rw[R.Ai]at h;subst h
  cases c<;>first|rfl|(rename_i τ _ _ _;cases τ<;>rfl)
 |s::r,c,d,h=>by
  cases c with
  |sl τ tt e l=>
   cases τ with
   |own=>
    simp only[atC]at h;split at h
    case isFalse=>exact(R.Ae.1 h).elim
    rename_i hk;rw[R.Ah]at h;obtain⟨_,h1,h⟩:=h;have hi:=R.HE.1 h1;split at h
    case h_2=>exact(R.Ae.1 h).elim
    rename_i c' hc;have:=AeL r h;simp only[TC.atS,if_pos hk];rw[Qa3 hi]
    have e1:l.getD s.i e.dflt=l[s.i]:=by simp[Qb8,Qa3 hi]
    rw[e1]at hc;simp[hc,this]
   |_=>exact(R.Ae.1 h).elim
  |_=>exact(R.Ae.1 h).elim
theorem AhC:∀(p:List Stp) {c d:TC} {a:AV},c.atS p=some d→c.av μ ver ln a→∃b,a.at p=some b∧d.av μ ver ln b
 |[],c,d,a,h,ha=>by
  have h:c=d:=by cases c<;>first|exact Qc3 h|(rename_i τ _ _ _;cases τ<;>exact Qc3 h)
  subst h;exact⟨a,by cases a<;>rfl,ha⟩
 |s::r,c,d,a,h,ha=>by
  cases c with
  |sl τ tt e l=>
   cases τ with
   |own=>
    simp only[TC.atS]at h;split at h
    case isFalse=>cases h
    rename_i hk;rw[Qc1]at h;obtain⟨c',hx,h⟩:=h;rw[Qc1]at hx;obtain⟨x,hx,hc⟩:=hx;obtain⟨a',ha',hav⟩:=Il (E9 (μ:=μ) (ver:=ver) (ln:=ln) e tt x) hc;obtain⟨b,hb,hbv⟩:=AhC r h hav;refine⟨b,?_,hbv⟩;have ha:a=.sl .own e.size (l.map (e.enc tt)):=ha;subst ha
    simp only[AV.at,if_pos hk,Qb5,hx,Qb7,Qa0,ha',hb]
   |_=>simp[TC.atS]at h
  |_=>simp[TC.atS]at h
theorem Up:∀(p q:List Stp) (c:TC),c.atS (p++q)=(c.atS p).bind (·.atS q)
 |[],q,c=>by cases c<;>first|rfl|(rename_i τ _ _ _;cases τ<;>rfl)
 |s::r,q,c=>by
  cases c with
  |sl τ tt e l=>
   cases τ with
   |own=>
    simp only[List.cons_append,TC.atS];split
    ·cases hx:l[s.i]?with
     |none=>simp
     |some x=>
      simp only[Qa0]
      cases hc:(e.ex tt x)[s.c]?with
      |none=>simp
      |some c'=>simp[Up r q c']
    ·rfl
   |_=>rfl
  |_=>rfl
variable(h:Sim μ F Γ st)
include h
theorem VR{r:Root}{c:TC}(hr:Cy F Γ r=some c):∃a,st.root (r.mu μ)=some a∧c.av μ st.ver (lnT F Γ) a:=by
 cases r with
 |slot t j=>
  simp only[Cy]at hr;split at hr
  case h_2=>cases hr
  rename_i v hv;obtain⟨s,hs,hsv⟩:=h.sl t _ hv;simp only[gv]at hs
  cases v with
  |one c0=>
   obtain⟨a,rfl,ha⟩:=hsv;simp only[TSV.cells]at hr
   cases j with
   |zero=>simp at hr;subst hr;exact⟨a,by simp[Root.mu,St.root,hs,TV.cell,SV.cells],ha⟩
   |succ j=>simp at hr
  |agg l=>
   obtain⟨k,rfl,ha⟩:=hsv;obtain⟨a,h1,h2⟩:=Il ha hr;exact⟨a,by simp[Root.mu,St.root,hs,TV.cell,SV.cells,h1],h2⟩
  |clo f l=>simp[TSV.cells]at hr
 |obj b c0=>
  simp only[Cy]at hr;rw[Qc1]at hr;obtain⟨l,hl,hc⟩:=hr;obtain⟨k,q1,q2,_⟩:=h.bx b l hl;obtain⟨a,h1,h2⟩:=Il q2 hc;exact⟨a,by simp[Root.mu,St.root,q1,h1],h2⟩
theorem AlX{p:Place}{d:TC}(hp:atT F Γ p=some d):∃a,st.at (p.mu μ)=some a∧d.av μ st.ver (lnT F Γ) a:=by
 unfold atT at hp;rw[Qc1]at hp;obtain⟨c,hc,hp⟩:=hp;obtain⟨a,ha,hav⟩:=VR h hc;obtain⟨b,hb,hbv⟩:=AhC p.path hp hav;exact⟨b,by simp only[St.at,Place.mu,ha,Qa0,hb],hbv⟩
omit h in
theorem YV{p:Place}{d:TC}(hp:(atR F Γ p).ok d):atT F Γ p=some d:=by
 unfold atR at hp;unfold atT;split at hp
 ·rename_i c hc;rw[hc,Qa0];exact AeL p.path hp
 ·exact(R.Ae.1 hp).elim
theorem Kg{p:Place}{tt:TT}{e:BT}{l:List e.D}(hp:(atR F Γ p).ok (.sl .own tt e l)):st.at (p.mu μ)=some (.sl .own e.size (l.map (e.enc tt)))∧lnT F Γ p=some l.length:=by
 have h1:=YV hp;obtain⟨a,h2,h3⟩:=AlX h h1;have h3:a=_:=h3;subst h3;exact⟨h2,by simp[lnT,h1,TC.len?]⟩
omit h in
theorem VD{p:Place}{c:TC}{a:AV}(ha:c.av μ ver ln a)(hl:∀τ tt e l,c=.sl τ tt e l→∀n,ln p=some n→n=l.length):
  (Yj p c).av μ ver ln (seen (fun k n=>.ref (p.mu μ) (ver (p.mu μ).root) k 0 n) a):=by
 cases c with
 |sl τ tt e l=>
  have ha:a=_:=ha;subst ha
  cases τ with
  |own=>
   exact⟨_,rfl,fun n hn=>by rw[hl _ _ _ _ rfl n hn];simp⟩
  |imm=>exact rfl
  |brw=>exact rfl
 |dead=>exact trivial
 |ref p' tt e w=>
  cases w with
  |none=>
   obtain⟨m,rfl,hm⟩:=ha;exact⟨m,rfl,hm⟩
  |some x=>obtain⟨lo,n⟩:=x;simp only[TC.av]at ha;subst ha;exact rfl
 |_=>first|(have ha:a=_:=ha;subst ha;exact rfl)|(simp only[TC.av]at ha;subst ha;exact rfl)
omit h in
theorem AbL{mk:Nat→Place}{mkA:Nat→Nat→Nat→AV}(hmk:∀j k n,mkA j k n=.ref ((mk j).mu μ) (ver ((mk j).mu μ).root) k 0 n):
  ∀{cs:List TC} {as:List AV} (j:Nat),avs μ ver ln cs as→(∀i τ tt e l,cs[i]?=some (.sl τ tt e l)→∀n,ln (mk (j+i))=some n→n=l.length)→avs μ ver ln (Yk mk j cs) (Fy mkA j as)
 |[],[],j,_,_=>trivial
 |c::cs,a::as,j,ha,hl=>by
  refine⟨?_,AbL hmk (j+1) ha.2 (fun i τ tt e l hi n hn=>hl (i+1) τ tt e l (by simpa using hi) n (by rw[show j+(i+1)=j+1+i by omega];exact hn))⟩
  have:=VD (p:=mk j) ha.1 (fun τ tt e l hc n hn=>hl 0 τ tt e l (by simp[hc]) n (by simpa using hn))
  have e:seen (fun k n=>.ref ((mk j).mu μ) (ver ((mk j).mu μ).root) k 0 n) a=(match(generalizing:=false) a with|.sl .own k xs=>mkA j k xs.length|a=>a):=by
   cases a with
   |sl τ k xs=>cases τ<;>simp only[seen,hmk]
   |_=>rfl
  rw[e]at this;exact this
 |[],_::_,_,ha,_=>ha.elim
 |_::_,[],_,ha,_=>ha.elim
omit h in
theorem VE{mk:Nat→Place}{mkA:Nat→Nat→Nat→AV}(hmk:∀j k n,mkA j k n=.ref ((mk j).mu μ) (ver ((mk j).mu μ).root) k 0 n):
  ∀{cs:List TC} {as:List AV} (j:Nat),avs μ ver ln cs as→cs.all TC.A5=true→(∀i τ tt e l,cs[i]?=some (.sl τ tt e l)→∀n,ln (mk (j+i))=some n→n=l.length)→avs μ ver ln (Yk mk j cs) (FI mkA j as)
 |[],[],j,_,_,_=>trivial
 |c::cs,a::as,j,ha,hs,hl=>by
  simp only[Qa5,Qa2]at hs;refine⟨?_,VE hmk (j+1) ha.2 hs.2 (fun i τ tt e l hi n hn=>hl (i+1) τ tt e l (by simpa using hi) n (by rw[show j+(i+1)=j+1+i by omega];exact hn))⟩
  have:=VD (p:=mk j) ha.1 (fun τ tt e l hc n hn=>hl 0 τ tt e l (by simp[hc]) n (by simpa using hn))
  have e:(∃p v k lo n,a=.ref p v k lo n)∨(∃p v k i n,a=.adr p v k i n)∨seen (fun k n=>.ref ((mk j).mu μ) (ver ((mk j).mu μ).root) k 0 n) a=(match(generalizing:=false) a with|.sl .own k xs=>mkA j k xs.length|a=>Vz a):=by
   cases a with
   |sl τ k xs=>cases τ<;>simp only[seen,hmk,Vz]<;>simp
   |ref p v k lo n=>exact .inl ⟨_,_,_,_,_,rfl⟩
   |adr p v k i n=>exact .inr (.inl ⟨_,_,_,_,_,rfl⟩)
   |_=>exact .inr (.inr rfl)
  rcases e with⟨p,v,k,lo,n,rfl⟩|⟨p,v,k,i,n,rfl⟩|e
  ·cases c with
   |ref=>simp[TC.A5]at hs
   |dead=>exact trivial
   |adr=>simp[TC.A5]at hs
   |_=>exfalso;have h0:=ha.1;simp[TC.av]at h0
  ·cases c with
   |adr=>simp[TC.A5]at hs
   |dead=>exact trivial
   |ref=>simp[TC.A5]at hs
   |_=>exfalso;have h0:=ha.1;simp[TC.av]at h0
  ·rw[e]at this;exact this
 |[],_::_,_,ha,_,_=>ha.elim
 |_::_,[],_,ha,_,_=>ha.elim
omit h in
theorem Ja:∀(t:BT) (tt:TT) (x:t.D),(t.ex tt x).all TC.A5=true
 |.int _,_,_=>rfl
 |.bool,_,_=>rfl
 |.str,_,_=>rfl
 |.unit,_,_=>rfl
 |.sl _,_,_=>rfl
 |.pair a b,tt,x=>by simp only[BT.ex,Qc9,Ja a,Ja b,Qd2]
theorem FM{g:Gd}{b:Bool}(hg:b=true→gv F Γ g=true){x:Opd}{v:TSV}(hx:(P0 F Γ g x).ok v):(st.use b x).holds fun s=>v.sv μ st.ver (lnT F Γ) s:=by
 cases x with
 |c u=>
  simp only[P0]at hx;rw[R.Ai]at hx;subst hx;simp only[St.use];exact M.Ab ⟨_,rfl,Lt u⟩
 |f nm=>
  simp only[P0]at hx;rw[R.Ai]at hx;subst hx;simp only[St.use];exact M.Ab ⟨[],rfl,trivial⟩
 |t n=>
  simp only[P0]at hx;split at hx
  case h_2=>exact(R.Ae.1 hx).elim
  rename_i gd v0 hs
  cases hsub:gsub gd g with
  |false=>rw[hsub]at hx;exact(R.Ae.1 hx).elim
  |true=>
   rw[hsub]at hx;have hx:=R.Ai.1 hx;subst hx;obtain⟨s,heq,hv⟩:=h.sl n _ hs;simp only[St.use,heq,M.Aa,M.Aj];refine⟨fun hb=>X6 hsub (hg hb),M.Ab ?_⟩
   have hroot:∀(j:Nat) (τ tt e l),v0.cells[j]?=some (.sl τ tt e l)→∀m,lnT F Γ ⟨.slot n j,[]⟩=some m→m=l.length:=by
    intro j τ tt e l hj m hm;simp only[lnT,atT,Cy,hs]at hm
    cases gd with
    |nil=>
     simp only[hj,Qa0]at hm
     have e1:(TC.sl τ tt e l).atS []=some (TC.sl τ tt e l):=by cases τ<;>rfl
     rw[e1]at hm;simpa[TC.len?]using hm.symm
    |cons q gd=>simp at hm
   clear hsub
   cases v0 with
   |one c=>
    obtain⟨a,rfl,ha⟩:=hv;refine⟨_,rfl,?_⟩;have:=VD (p:=⟨.slot n 0,[]⟩) ha (fun τ tt e l hc m hm=>hroot 0 τ tt e l (by simp[TSV.cells,hc]) m hm)
    have e:seen (fun k m=>.ref ((⟨.slot n 0,[]⟩:Place).mu μ) (st.ver ((⟨.slot n 0,[]⟩:Place).mu μ).root) k 0 m) a=(match(generalizing:=false) a with|.sl .own k xs=>(.ref ⟨.slot n 0,[]⟩ (st.vs n) k 0 xs.length)|a=>a):=by
     cases a with
     |sl τ k xs=>cases τ<;>rfl
     |_=>rfl
    rw[e]at this;exact this
   |agg l=>
    obtain⟨k,rfl,ha⟩:=hv;exact⟨_,rfl,AbL (mk:=fun j=>⟨.slot n j,[]⟩) (fun j k n'=>rfl) 0 ha (fun i τ tt e l' hi m hm=>hroot i τ tt e l' hi m (by simpa using hm))⟩
   |clo f l=>obtain⟨k,rfl,ha⟩:=hv;exact⟨k,rfl,ha⟩
theorem CX{g:Gd}{b:Bool}(hg:b=true→gv F Γ g=true){x:Opd}{c:TC}(hx:(IC F Γ g x).ok c):(st.CD b x).holds fun a=>c.av μ st.ver (lnT F Γ) a:=by
 unfold IC at hx;rw[R.Ah]at hx;obtain⟨v,h1,h2⟩:=hx;split at h2
 case h_2=>exact(R.Ae.1 h2).elim
 rename_i c';obtain rfl:=R.Ai.1 h2;unfold St.CD;rw[M.Aa]
 refine M.Af (FM h hg h1) fun s hs=>?_
 obtain⟨a,rfl,ha⟩:=hs;exact M.Ab ha
theorem JC{g:Gd}{b:Bool}(hg:b=true→gv F Γ g=true){x:Opd}{n:Int}(hx:(Aaa F Γ g x).ok n):(st.GJ b x).holds (·=n):=by
 unfold Aaa at hx;rw[R.Ah]at hx;obtain⟨v,h1,h2⟩:=hx;split at h2
 case h_2=>exact(R.Ae.1 h2).elim
 rename_i k c';obtain rfl:=R.Ai.1 h2;unfold St.GJ;rw[M.Aa]
 refine M.Af (FM h hg h1) fun s hs=>?_
 obtain⟨a,rfl,ha⟩:=hs;have ha:a=_:=ha;subst ha;exact M.Ab rfl
theorem LG{g:Gd}{b:Bool}(hg:b=true→gv F Γ g=true){x:Opd}{n:Bool}(hx:(Z9 F Γ g x).ok n):(st.HH b x).holds (·=n):=by
 unfold Z9 at hx;rw[R.Ah]at hx;obtain⟨v,h1,h2⟩:=hx;split at h2
 case h_2=>exact(R.Ae.1 h2).elim
 rename_i c';obtain rfl:=R.Ai.1 h2;unfold St.HH;rw[M.Aa]
 refine M.Af (FM h hg h1) fun s hs=>?_
 obtain⟨a,rfl,ha⟩:=hs;have ha:a=_:=ha;subst ha;exact M.Ab rfl
theorem Rm{g:Gd}{b:Bool}(hg:b=true→gv F Γ g=true){x:Opd}{l:List TC}(hx:(Ahf F Γ g x).ok l):(st.use b x).holds fun s=>∃m,s=.agg m∧avs μ st.ver (lnT F Γ) l m:=by
 unfold Ahf at hx;rw[R.Ah]at hx;obtain⟨v,h1,h2⟩:=hx;split at h2
 case h_2=>exact(R.Ae.1 h2).elim
 rename_i c';obtain rfl:=R.Ai.1 h2;exact FM h hg h1
end
end Go.VS
namespace Go.VS
section
variable{μ:Nat→Nat}{ver:Root→Nat}{ln:Place→Option Nat}{F Γ:TS}{st:St}
theorem Im{cs:List TC}{as:List AV}(h:avs μ ver ln cs as)(c n:Nat):avs μ ver ln ((cs.drop c).take n) ((as.drop c).take n):=I4 (I3 h c) n
theorem Ae9{cs:List TC}{as:List AV}(agg:Bool)(h:avs μ ver ln cs as):(mkT agg cs).sv μ ver ln (Xh agg as):=by
 cases agg with
 |true=>exact⟨as,rfl,h⟩
 |false=>
  refine⟨as.headD .dead,rfl,?_⟩
  match cs,as,h with
  |[],[],_=>exact trivial
  |c::cs,a::as,h=>exact h.1
theorem RH:∀{cs:List TC} {as:List AV},cs.all TC.A5=true→avs μ ver ln cs as→avs μ ver ln cs (as.map Vz)
 |[],[],_,_=>trivial
 |c::cs,a::as,hs,h=>by
  simp only[Qa5,Qa2]at hs;refine⟨?_,RH hs.2 h.2⟩;have h1:=h.1
  cases a with
  |ref=>cases c<;>first|exact trivial|(exfalso;simp[TC.av]at h1;done)|(exfalso;have h2:=hs.1;simp[TC.A5]at h2)
  |adr=>cases c<;>first|exact trivial|(exfalso;simp[TC.av]at h1;done)|(exfalso;have h2:=hs.1;simp[TC.A5]at h2)
  |_=>exact h1
 |[],_::_,_,h=>h.elim
 |_::_,[],_,h=>h.elim
theorem Fv{l:List TC}(h:l.all TC.A5=true)(c n:Nat):((l.drop c).take n).all TC.A5=true:=by
 rw[Qa8]at h⊢;intro x hx;exact h x (Qa6 (Qb4 hx))
theorem Yy:∀{l:List TC} {k:IntKind} {ns:List Int},AiY l=some (k,ns)→∀i,i<l.length→l[i]?=some (.int k (ns.getD i 0))
 |[],k,ns,h,i,hi=>by cases h
 |[c],k,ns,h,i,hi=>by
  cases c with
  |int k' n=>
   simp only[AiY,Qa4,Prod.mk.injEq]at h;obtain⟨rfl,rfl⟩:=h
   obtain rfl:i=0:=by simpa using hi
   rfl
  |_=>cases h
 |c::d::l,k,ns,h,i,hi=>by
  cases c with
  |int k' n=>
   simp only[AiY]at h;split at h
   case h_2=>cases h
   rename_i k2 ns2 h2;split at h
   case isFalse=>cases h
   rename_i hk;subst hk;simp only[Qa4,Prod.mk.injEq]at h;obtain⟨rfl,rfl⟩:=h
   cases i with
   |zero=>rfl
   |succ i=>simpa using Yy h2 i (by simpa using hi)
  |_=>cases h
theorem Yz:∀{l:List TC} {ns:List (List UInt8)},Alc l=some ns→∀i,i<l.length→l[i]?=some (.str (ns.getD i []))
 |[],ns,h,i,hi=>by simp at hi
 |c::l,ns,h,i,hi=>by
  cases c with
  |str s=>
   simp only[Alc]at h;split at h
   case h_2=>cases h
   rename_i ns2 h2;simp only[Qa4]at h;subst h
   cases i with
   |zero=>rfl
   |succ i=>simpa using Yz h2 i (by simpa using hi)
  |_=>cases h
theorem Si{l:List TC}{i:Nat}{d:TC}(h:ZV l i=some d)(hi:i<l.length):l[i]?=some d:=by
 unfold ZV at h;split at h
 ·rename_i k ns hs;cases h;exact Yy hs i hi
 ·split at h
  ·rename_i ns hs;cases h;exact Yz hs i hi
  ·cases h
theorem NJ:∀{vs:List TC} {as:List AV} {cs:List TC} {l:List AV} (c:Nat),avs μ ver ln cs l→avs μ ver ln vs as→avs μ ver ln (Tw cs c vs) (setCells l c as)
 |[],[],cs,l,c,h,_=>h
 |v::vs,a::as,cs,l,c,h,hv=>NJ (c+1) (TE h c hv.1) hv.2
 |[],_::_,_,_,_,_,h=>h.elim
 |_::_,[],_,_,_,_,h=>h.elim
theorem Ah6{k:CK}{c d:TC}{r:Bool}(h:eqC k c d=some r){a b:AV}(ha:c.av μ ver ln a)(hb:d.av μ ver ln b):Ps k a b=some r:=by
 unfold eqC at h;split at h
 ·have ha:a=_:=ha;have hb:b=_:=hb;subst ha;subst hb;exact h
 ·have ha:a=_:=ha;have hb:b=_:=hb;subst ha;subst hb;simp only[Ps];simpa using h
 ·have ha:a=_:=ha;have hb:b=_:=hb;subst ha;subst hb;exact h
 ·cases h
theorem XT:∀{ks:List CK} {l m:List TC} {r:Bool},Akk ks l m=some r→∀{a b:List AV},avs μ ver ln l a→avs μ ver ln m b→Cg ks a b=some r
 |[],[],[],r,h,[],[],_,_=>h
 |k::ks,c::l,d::m,r,h,a::as,b::bs,ha,hb=>by
  simp only[Akk]at h;split at h
  case h_2=>cases h
  rename_i x y h1 h2;simp only[Cg,Ah6 h1 ha.1 hb.1,XT h2 ha.2 hb.2];exact h
 |[],[],[],_,_,[],_::_,_,h=>h.elim
 |[],[],[],_,_,_::_,_,h,_=>h.elim
 |[],_::_,_,_,h,_,_,_,_=>by cases h
 |[],[],_::_,_,h,_,_,_,_=>by cases h
 |_::_,[],_,_,h,_,_,_,_=>by cases h
 |_::_,_::_,[],_,h,_,_,_,_=>by cases h
 |_::_,_::_,_::_,_,_,[],_,h,_=>h.elim
 |_::_,_::_,_::_,_,_,_::_,[],_,h=>h.elim
theorem AfL{g:Gd}(hg:gv F Γ g=true){op:BinOp}{k k':IntKind}{x y:Int}{c:TC}(h:(AhO F Γ g op k k' x y).ok c):
  ∃p v,Aat op (.int k x) (.int k' y) true=some (p,v)∧p∧c.av μ ver ln (.lit v):=by
 unfold AhO at h
 cases op<;>simp only[Aat]at h⊢
 case shl=>rw[R.Ah]at h;obtain⟨_,h1,h⟩:=h;obtain rfl:=R.Ai.1 h;exact⟨_,_,rfl,fun _=>BQ h1 hg,rfl⟩
 case shr=>rw[R.Ah]at h;obtain⟨_,h1,h⟩:=h;obtain rfl:=R.Ai.1 h;exact⟨_,_,rfl,fun _=>BQ h1 hg,rfl⟩
 case quo=>
  split at h
  case isFalse=>exact(R.Ae.1 h).elim
  rename_i hk;rw[R.Ah]at h;obtain⟨_,h1,h⟩:=h;obtain rfl:=R.Ai.1 h;exact⟨_,_,if_pos hk,fun _=>BQ h1 hg,rfl⟩
 case rem=>
  split at h
  case isFalse=>exact(R.Ae.1 h).elim
  rename_i hk;rw[R.Ah]at h;obtain⟨_,h1,h⟩:=h;obtain rfl:=R.Ai.1 h;exact⟨_,_,if_pos hk,fun _=>BQ h1 hg,rfl⟩
 all_goals
  split at h
  case isFalse=>exact(R.Ae.1 h).elim
  rename_i hk;obtain rfl:=R.Ai.1 h;exact⟨_,_,if_pos hk,trivial,rfl⟩
theorem AfM{g:Gd}(hg:gv F Γ g=true){op:BinOp}{x y:List UInt8}{c:TC}(h:(AhP F Γ g op x y).ok c):
  ∃p v,Aat op (.string ⟨x.toArray⟩) (.string ⟨y.toArray⟩) true=some (p,v)∧p∧c.av μ ver ln (.lit v):=by
 unfold AhP at h
 cases op<;>simp only[Aat]at h⊢
 case add=>
  rw[R.Ah]at h;obtain⟨_,h1,h⟩:=h;obtain rfl:=R.Ai.1 h;refine⟨_,_,rfl,fun _=>?_,?_⟩
  ·have:=BQ h1 hg;simpa[ByteArray.size]using this
  ·simp[TC.av]
 all_goals first
  |(exact(R.Ae.1 h).elim;done)
  |(obtain rfl:=R.Ai.1 h;exact⟨_,_,rfl,trivial,by simp[TC.av]⟩)
theorem AfN{g:Gd}(hg:gv F Γ g=true){op:BinOp}{x y c:TC}(h:(AlY F Γ g op x y).ok c){a b:AV}(ha:x.av μ ver ln a)(hb:y.av μ ver ln b):
  ∃u w p v,a=.lit u∧b=.lit w∧Aat op u w true=some (p,v)∧p∧c.av μ ver ln (.lit v):=by
 unfold AlY at h;split at h
 ·obtain⟨p,v,h1,h2,h3⟩:=AfL (μ:=μ) (ver:=ver) (ln:=ln) hg h;exact⟨_,_,p,v,ha,hb,h1,h2,h3⟩
 ·obtain⟨p,v,h1,h2,h3⟩:=AfM (μ:=μ) (ver:=ver) (ln:=ln) hg h;exact⟨_,_,p,v,ha,hb,h1,h2,h3⟩
 ·exact(R.Ae.1 h).elim
def loN:Option Int→Nat
 |none=>0
 |some a=>a.toNat
def hiN(n:Nat):Option Int→Nat
 |none=>n
 |some b=>b.toNat
variable(h:Sim μ F Γ st)
include h
theorem AbG{g:Gd}(hg:gv F Γ g=true){x:Option Opd}{r:Option Int}(hx:(AiC F Γ g x).ok r):(x=none∧r=none)∨∃y n,x=some y∧r=some n∧(st.GJ true y).holds (·=n):=by
 cases x with
 |none=>simp only[AiC]at hx;exact .inl ⟨rfl,(R.Ai.1 hx).symm⟩
 |some y=>
  simp only[AiC]at hx;rw[R.Ah]at hx;obtain⟨n,h1,h2⟩:=hx;exact .inr ⟨y,n,rfl,(R.Ai.1 h2).symm,JC h (fun _=>hg) h1⟩
theorem Qr{g:Gd}(hg:gv F Γ g=true){n:Nat}{lo hi:Option Opd}{l r:Option Int}(hx:(Adb F Γ g n lo hi).ok (l,r)):
  (HP st true n lo hi).holds (·=(loN l,hiN n r))∧loN l≤hiN n r∧hiN n r≤n:=by
 unfold Adb at hx;rw[R.Ah]at hx;obtain⟨r',h1,hx⟩:=hx;rw[R.Ah]at hx;obtain⟨l',h2,hx⟩:=hx
 have key:l'=l∧r'=r∧(∀b,r=some b→0≤b∧b≤n)∧(∀a,l=some a→0≤a∧a≤hiN n r):=by
  split at hx
  ·have:=R.Ai.1 hx;cases this;exact⟨rfl,rfl,by simp,by simp⟩
  ·rw[R.Ah]at hx;obtain⟨_,h3,hx⟩:=hx;have:=R.Ai.1 hx;cases this;have h4:=BQ h3 hg;exact⟨rfl,rfl,by simp,by intro a ha;cases ha;exact h4⟩
  ·rw[R.Ah]at hx;obtain⟨_,h3,hx⟩:=hx;have:=R.Ai.1 hx;cases this;have h4:=BQ h3 hg;exact⟨rfl,rfl,by intro a ha;cases ha;exact h4,by simp⟩
  ·rw[R.Ah]at hx;obtain⟨_,h3,hx⟩:=hx;have:=R.Ai.1 hx;cases this;obtain⟨q1,q2,q3⟩:=BQ h3 hg;exact⟨rfl,rfl,by intro a ha;cases ha;exact⟨by omega,q3⟩,by intro a ha;cases ha;exact⟨q1,by simp only[hiN];omega⟩⟩
 obtain⟨rfl,rfl,k1,k2⟩:=key
 have hh:(Ain st true n hi).holds (·=hiN n r'):=by
  rcases AbG h hg h1 with⟨rfl,rfl⟩|⟨y,b,rfl,rfl,hb⟩
  ·exact M.Ab rfl
  ·simp only[Ain,M.Aa];refine M.Af hb ?_;rintro _ rfl;rw[M.Aj];obtain⟨q1,q2⟩:=k1 _ rfl;exact⟨fun _=>⟨q1,by omega⟩,M.Ab rfl⟩
 have hl:(Agl st true (hiN n r') lo).holds (·=loN l'):=by
  rcases AbG h hg h2 with⟨rfl,rfl⟩|⟨y,b,rfl,rfl,hb⟩
  ·exact M.Ab rfl
  ·simp only[Agl,M.Aa];refine M.Af hb ?_;rintro _ rfl;rw[M.Aj];obtain⟨q1,q2⟩:=k2 _ rfl;exact⟨fun _=>⟨q1,by omega⟩,M.Ab rfl⟩
 refine⟨?_,?_,?_⟩
 ·simp only[HP,M.Aa];refine M.Af hh ?_;rintro _ rfl;refine M.Af hl ?_;rintro _ rfl;exact M.Ab rfl
 ·cases l' with
  |none=>exact Nat.zero_le _
  |some a=>obtain⟨q1,q2⟩:=k2 a rfl;simp only[loN];omega
 ·cases r' with
  |none=>exact Qc0 _
  |some b=>obtain⟨q1,q2⟩:=k1 b rfl;simp only[hiN];omega
theorem Yi{g:Gd}(hg:gv F Γ g=true):∀{ps:List (Nat×Nat×Opd)} {cells r:List TC} {as:List AV},(Sb F Γ g cells ps).ok r→avs μ st.ver (lnT F Γ) cells as→(Iy st true as ps).holds fun l=>avs μ st.ver (lnT F Γ) r l
 |[],cells,r,as,hx,ha=>by
  simp only[Sb]at hx;obtain rfl:=R.Ai.1 hx;simp only[Iy];exact M.Ab ha
 |(off,n,x)::ps,cells,r,as,hx,ha=>by
  simp only[Sb]at hx;rw[R.Ah]at hx;obtain⟨v,h1,hx⟩:=hx;simp only[Iy,M.Aa]
  refine M.Af (FM h (fun _=>hg) h1) fun s hs=>?_
  have key:∀l:List TC,avs μ st.ver (lnT F Γ) l s.cells→(if l.length=n then Sb F Γ g (Tw cells off l) ps else R.fail).ok r→M.holds (if s.cells.length=n then Iy st true (setCells as off s.cells) ps else M.fail) fun l=>avs μ st.ver (lnT F Γ) r l:=by
   intro l hl hx;have e:=B2 hl;split at hx
   case isFalse=>exact(R.Ae.1 hx).elim
   rename_i hn;rw[if_pos (by rw[e];exact hn)]
   exact Yi hg hx (NJ off ha hl)
  cases v with
  |one c=>obtain⟨a,rfl,hc⟩:=hs;exact key [c] ⟨hc,trivial⟩ hx
  |agg l=>obtain⟨k,rfl,hc⟩:=hs;exact key l hc hx
  |clo f l=>exact(R.Ae.1 hx).elim
theorem Aay{g:Gd}(hg:gv F Γ g=true):∀{xs:List Opd} {r:List TC},(Aax F Γ g xs).ok r→(Nf st true xs).holds fun l=>avs μ st.ver (lnT F Γ) r l
 |[],r,hx=>by
  simp only[Aax]at hx;obtain rfl:=R.Ai.1 hx;simp only[Nf];exact M.Ab trivial
 |x::xs,r,hx=>by
  simp only[Aax]at hx;rw[R.Ah]at hx;obtain⟨c,h1,hx⟩:=hx;rw[R.Ah]at hx;obtain⟨l,h2,hx⟩:=hx;obtain rfl:=R.Ai.1 hx;simp only[Nf,M.Aa]
  refine M.Af (CX h (fun _=>hg) h1) fun a ha=>?_
  refine M.Af (Aay hg h2) fun m hm=>?_
  exact M.Ab ⟨ha,hm⟩
end
end Go.VS
namespace Go.VS
theorem QT{α β:Type}(f:α→β)(l:List α)(i:Nat)(d:α)(d':β)(h:i<l.length):(l.map f).getD i d'=f (l.getD i d):=by
 simp[Qb8,Qa3 h]
theorem ZB{α:Type}{l:List α}{i:Nat}{a:α}(h:l[i]?=some a):(l.drop i).take 1=[a]:=by
 have hlt:=(List.getElem?_eq_some_iff.1 h).1;rw[List.drop_eq_getElem_cons hlt]
 have:l[i]=a:=by simpa[Qa3 hlt]using h
 simp[this]
theorem Alv{α β:Type}(f:α→β)(xs:List α)(l r:Option Int)(h1:loN l≤hiN xs.length r)(h2:hiN xs.length r≤xs.length):
  window (loN l) (hiN xs.length r -loN l) (xs.map f)=(Ss l r xs).map f:=by
 have key:(Ss l r xs)=(xs.drop (loN l)).take (hiN xs.length r -loN l):=by
  cases l with
  |none=>cases r with
   |none=>simp[Ss,loN,hiN]
   |some b=>simp[Ss,loN,hiN]
  |some a=>cases r with
   |none=>simp only[Ss,loN,hiN];rw[Qc6 (by simp)]
   |some b=>simp only[Ss,loN,hiN];rw[List.drop_take]
 rw[key];unfold window;split
 ·rename_i h;obtain⟨h3,h4⟩:=h;rw[h3]at*;simp only[Qc4,Nat.sub_zero]at h4;rw[List.drop_zero,Nat.sub_zero,h4,List.take_length]
 ·simp
theorem Kc{tt:TT}:∀l:List Int,bytesOf (l.map ((BT.int .u8).enc tt))=some l
 |[]=>rfl
 |n::l=>by
  show bytesOf ([.lit (.int .u8 n)]::l.map ((BT.int .u8).enc tt))=some (n::l);rw[bytesOf,Kc l];rfl
section
variable{μ:Nat→Nat}{ver:Root→Nat}{ln:Place→Option Nat}
theorem Qx:∀(t:BT) (tt:TT) (_:TC.BC.TT.BC tt=true) (x:t.D),(t.enc tt x).all AV.free=true
 |.int _,_,_,_=>rfl
 |.bool,_,_,_=>rfl
 |.str,_,_,_=>rfl
 |.unit,_,_,_=>rfl
 |.sl e,tt,h,l=>by
  have h1:tt.tag≠.brw∧TC.BC.TT.BC tt.elt=true:=by
   cases tt with
   |leaf=>exact⟨by simp[TT.tag],rfl⟩
   |node τ a=>cases τ<;>simp_all [TC.BC.TT.BC,TT.tag,TT.elt]
   |pair a b=>exact⟨by simp[TT.tag],rfl⟩
  have h2:Gs (l.map (e.enc tt.elt))=true:=by
   rw[RT,Qd6,Qa8];intro x _;exact Qx e _ h1.2 x
  simp only[BT.enc,Qa5,List.all_nil,Bool.and_true]
  cases ht:tt.tag with
  |brw=>exact(h1.1 ht).elim
  |_=>exact h2
 |.pair a b,tt,h,x=>by
  have h1:TC.BC.TT.BC tt.fst=true∧TC.BC.TT.BC tt.snd=true:=by
   cases tt with
   |leaf=>exact⟨rfl,rfl⟩
   |node τ a=>exact⟨rfl,rfl⟩
   |pair a b=>simpa[TC.BC.TT.BC,TT.fst,TT.snd]using h
  simp only[BT.enc,Qc9,Qx a _ h1.1,Qx b _ h1.2,Qd2]
theorem Aic{c:TC}(h:c.BC=true){a:AV}(ha:c.av μ ver ln a):a.free=true:=by
 cases c with
 |ref=>cases h
 |adr=>cases h
 |iadr=>cases h
 |iadrd=>cases h
 |dead=>cases h
 |sl τ tt e l=>
  have ha:a=_:=ha;subst ha
  have h2:τ≠.brw∧TC.BC.TT.BC tt=true:=by cases τ<;>simp_all [TC.BC]
  have h3:Gs (l.map (e.enc tt))=true:=by
   rw[RT,Qd6,Qa8];intro x _;exact Qx e _ h2.2 x
  cases τ with
  |brw=>exact(h2.1 rfl).elim
  |_=>exact h3
 |_=>(have ha:a=_:=ha);subst ha;rfl
theorem AeV:∀{l:List TC},l.all TC.BC=true→∀{as:List AV},avs μ ver ln l as→as.all AV.free=true
 |[],_,[],_=>rfl
 |c::l,h,a::as,ha=>by
  simp only[Qa5,Qa2]at h⊢;exact⟨Aic h.1 ha.1,AeV h.2 ha.2⟩
 |[],_,_::_,h=>h.elim
 |_::_,_,[],h=>h.elim
end
section
variable{μ:Nat→Nat}{F Γ:TS}{st:St}(h:Sim μ F Γ st)
include h
theorem Agh{p:Place}{s:Stp}{tt:TT}{e:BT}{l:List e.D}(hp:atT F Γ p=some (.sl .own tt e l))(hk:s.k=e.size)(hi:s.i<l.length){τ2:Tag}{tt2:TT}{e2:BT}{l2:List e2.D}
  (hc:(e.ex tt (l.getD s.i e.dflt))[s.c]?=some (.sl τ2 tt2 e2 l2)) {n:Nat} (hn:lnT F Γ ⟨p.root,p.path++[s]⟩=some n):n=l2.length:=by
 unfold lnT atT at hn;unfold atT at hp
 cases hr:Cy F Γ p.root with
 |none=>rw[hr]at hp;cases hp
 |some c=>
  rw[hr,Qa0]at hp;simp only[hr,Qa0,Up,hp]at hn;simp only[TC.atS,if_pos hk,Qa3 hi,Qa0]at hn
  have e1:l.getD s.i e.dflt=l[s.i]:=by simp[Qb8,Qa3 hi]
  rw[e1]at hc;rw[hc]at hn
  have e3:(TC.sl τ2 tt2 e2 l2).atS []=some (.sl τ2 tt2 e2 l2):=by cases τ2<;>rfl
  simpa[e3,TC.len?]using hn.symm
theorem Aix{g:Gd}(hg:gv F Γ g=true){agg:Bool}{n:Nat}{c:TC}{v:TSV}(hx:(loadT F Γ g agg n c).ok v){x:Opd}(ha:(st.CD true x).holds fun a=>c.av μ st.ver (lnT F Γ) a):
  (st.BF true (.load agg n x)).holds fun s=>v.sv μ st.ver (lnT F Γ) s:=by
 simp only[St.BF,M.Aa]
 refine M.Af ha fun a ha=>?_
 cases c with
 |box b c=>
  have ha:a=_:=ha;subst ha;simp only[loadT]at hx;split at hx
  case h_2=>exact(R.Ae.1 hx).elim
  rename_i l hl;split at hx
  case isFalse=>exact(R.Ae.1 hx).elim
  rename_i hc;obtain rfl:=R.Ai.1 hx;obtain⟨k,q1,q2,q3,q4⟩:=h.bx b l hl;simp only[q1,M.Aa,M.Aj];have hlen:=B2 q2;refine⟨by omega,M.Ab ?_⟩;rw[sub_eq k c n k.length rfl];refine Ae9 agg (VE (mk:=fun j=>⟨.obj b (c+j),[]⟩) (fun j k' n'=>rfl) 0 (Im q2 c n) (Fv q4 c n) ?_);intro i τ tt e l' hi m hm;simp only[Qe1,lnT,atT,Cy,hl,Qa0]at hm
  have hi2:l[c+i]?=some (.sl τ tt e l'):=by
   rw[List.getElem?_take]at hi;split at hi
   ·rw[Qb2]at hi;exact hi
   ·cases hi
  rw[hi2]at hm
  have e3:(TC.sl τ tt e l').atS []=some (.sl τ tt e l'):=by cases τ<;>rfl
  simpa[e3,TC.len?]using hm.symm
 |boxd b c m i=>
  have ha:a=_:=ha;subst ha;simp only[loadT]at hx;split at hx
  case h_2=>exact(R.Ae.1 hx).elim
  rename_i l hl;split at hx
  case h_2=>exact(R.Ae.1 hx).elim
  rename_i d hd;split at hx
  case isFalse=>exact(R.Ae.1 hx).elim
  rename_i hc;obtain⟨rfl,rfl,hc⟩:=hc;rw[R.Ah]at hx;obtain⟨_,h1,hx⟩:=hx;have hi:=BQ h1 hg;obtain rfl:=R.Ai.1 hx;obtain⟨k,q1,q2,q3,q4⟩:=h.bx b l hl;simp only[q1,M.Aa,M.Aj];have hlen:=B2 q2;refine⟨by omega,M.Ab ?_⟩;rw[sub_eq k _ _ k.length rfl];have hsel:=Si hd (by simp;omega)
  rw[Qa9 hi,Qb2]at hsel;obtain⟨a,ha,hav⟩:=Il q2 hsel;have e1:=ZB ha;rw[e1];refine⟨_,rfl,?_⟩;simp only[FI,List.headD]
  cases a with
  |sl τ k' xs=>
   cases τ with
   |own=>
    exfalso;unfold ZV at hd;split at hd
    ·cases hd;simp[TC.av]at hav
    ·split at hd
     ·cases hd;simp[TC.av]at hav
     ·cases hd
   |_=>exact hav
  |ref=>
   exfalso;unfold ZV at hd;split at hd
   ·cases hd;simp[TC.av]at hav
   ·split at hd
    ·cases hd;simp[TC.av]at hav
    ·cases hd
  |adr=>
   exfalso;unfold ZV at hd;split at hd
   ·cases hd;simp[TC.av]at hav
   ·split at hd
    ·cases hd;simp[TC.av]at hav
    ·cases hd
  |_=>exact hav
 |adr p tt0 e i c=>
  have ha:a=_:=ha;subst ha;simp only[loadT]at hx;rw[R.Ah]at hx;obtain⟨d,h1,hx⟩:=hx
  cases d with
  |sl τ tt e' l=>
   cases τ with
   |own=>
    simp only[Ae7]at hx;split at hx
    case isFalse=>exact(R.Ae.1 hx).elim
    rename_i hk;obtain⟨hk,hc⟩:=hk;rw[R.Ah]at hx;obtain⟨_,h2,hx⟩:=hx;have hi:=BQ h2 hg;obtain rfl:=R.Ai.1 hx;obtain⟨q1,q2⟩:=Kg h h1;have q0:=YV h1;simp only[q1,M.Aa,M.Aj];refine⟨trivial,hk,fun _=>by simpa using hi,hc,M.Ab ?_⟩;rw[QT (e'.enc tt) l i e'.dflt [] hi,sub_eq _ c n _ (by rw[Dr,hk])]
    refine Ae9 agg (VE (mk:=fun j=>⟨p.root,p.path++[⟨i,e.size,c+j⟩]⟩) (fun j k' n'=>rfl) 0 (Im (E9 e' tt _) c n) (Fv (Ja _ _ _) c n) ?_);intro j τ tt2 e2 l' hj m hm;rw[Qe1]at hm
    have hj2:(e'.ex tt (l.getD i e'.dflt))[c+j]?=some (.sl τ tt2 e2 l'):=by
     rw[List.getElem?_take]at hj;split at hj
     ·rw[Qb2]at hj;exact hj
     ·cases hj
    exact Agh h (s:=⟨i,e.size,c+j⟩) q0 hk.symm hi hj2 hm
   |_=>exact(R.Ae.1 hx).elim
  |_=>exact(R.Ae.1 hx).elim
 |iadr tt e l i c=>
  have ha:a=_:=ha;subst ha;simp only[loadT]at hx;split at hx
  case isFalse=>exact(R.Ae.1 hx).elim
  rename_i hc;rw[R.Ah]at hx;obtain⟨_,h2,hx⟩:=hx;have hi:=BQ h2 hg;obtain rfl:=R.Ai.1 hx;simp only[M.Aa,M.Aj];refine⟨fun _=>by simpa using hi,hc,M.Ab ?_⟩;rw[QT (e.enc tt) l i e.dflt [] hi,sub_eq _ c n _ (Dr _ _ _)];exact Ae9 agg (RH (Fv (Ja _ _ _) c n) (Im (E9 e tt _) c n))
 |iadrd tt e l i c m j=>
  have ha:a=_:=ha;subst ha;simp only[loadT]at hx;split at hx
  case h_2=>exact(R.Ae.1 hx).elim
  rename_i d hd;split at hx
  case isFalse=>exact(R.Ae.1 hx).elim
  rename_i hc;obtain⟨rfl,rfl,hc⟩:=hc;rw[R.Ah]at hx;obtain⟨_,h2,hx⟩:=hx;obtain⟨hi,hj⟩:=BQ h2 hg;obtain rfl:=R.Ai.1 hx;simp only[M.Aa,M.Aj];refine⟨fun _=>by simpa using hi,by omega,M.Ab ?_⟩;rw[QT (e.enc tt) l i e.dflt [] hi,sub_eq _ _ _ _ (Dr _ _ _)];have hsel:=Si hd (by rw[Qd7,List.length_drop,DC];omega)
  rw[Qa9 hj,Qb2]at hsel;have q2:=E9 (μ:=μ) (ver:=st.ver) (ln:=lnT F Γ) e tt (l.getD i e.dflt);obtain⟨a,ha,hav⟩:=Il q2 hsel;have e1:=ZB ha;rw[e1];refine⟨_,rfl,?_⟩
  have hsol:d.A5=true∧d≠.dead:=by
   unfold ZV at hd;split at hd
   ·cases hd;exact⟨rfl,by simp⟩
   ·split at hd
    ·cases hd;exact⟨rfl,by simp⟩
    ·cases hd
  have:=RH (cs:=[d]) (as:=[a]) (μ:=μ) (ver:=st.ver) (ln:=lnT F Γ) (by simp[hsol.1]) ⟨hav,trivial⟩;exact this.1
 |_=>exact(R.Ae.1 hx).elim
theorem Ale{g:Gd}(hg:gv F Γ g=true){k:Nat}{lo hi:Option Opd}{c:TC}{v:TSV}(hx:(Ai2 F Γ g k lo hi c).ok v){x:Opd}(ha:(st.CD true x).holds fun a=>c.av μ st.ver (lnT F Γ) a):
  (st.BF true (.slK k x lo hi)).holds fun s=>v.sv μ st.ver (lnT F Γ) s:=by
 simp only[St.BF,M.Aa]
 refine M.Af ha fun a ha=>?_
 cases c with
 |ref p tt e w=>
  simp only[Ai2]at hx;rw[R.Ah]at hx;obtain⟨d,h1,hx⟩:=hx
  cases d with
  |sl τ tt' e' l0=>
   cases τ with
   |own=>
    obtain⟨q1,q2⟩:=Kg h h1
    cases w with
    |none=>
     have ha:a=_:=NF ha q2;subst ha;simp only[AmE]at hx;split at hx
     case isFalse=>exact(R.Ae.1 hx).elim
     rename_i hk;rw[R.Ah]at hx;obtain⟨⟨l,r⟩,h2,hx⟩:=hx;obtain rfl:=R.Ai.1 hx;obtain⟨b1,b2,b3⟩:=Qr h hg h2;simp only[q1,M.Aa,M.Aj];refine⟨trivial,hk,M.Af b1 ?_⟩;rintro _ rfl;refine M.Ab ?_;subst hk
     cases l with
     |none=>cases r with
      |none=>
       refine⟨_,rfl,?_⟩;refine⟨l0.length,by simp[loN,hiN],fun n hn=>?_⟩;rw[q2]at hn;cases hn;rfl
      |some b=>exact⟨_,rfl,by simp[TC.av,loN,hiN]⟩
     |some a=>cases r with
      |none=>exact⟨_,rfl,by simp[TC.av,loN,hiN]⟩
      |some b=>exact⟨_,rfl,by simp[TC.av,loN,hiN]⟩
    |some y=>
     obtain⟨lo0,n⟩:=y;have ha:a=_:=ha;subst ha;simp only[AmE]at hx;split at hx
     case isFalse=>exact(R.Ae.1 hx).elim
     rename_i hk;rw[R.Ah]at hx;obtain⟨⟨l,r⟩,h2,hx⟩:=hx;obtain rfl:=R.Ai.1 hx;obtain⟨b1,b2,b3⟩:=Qr h hg h2;simp only[q1,M.Aa,M.Aj];refine⟨trivial,hk,M.Af b1 ?_⟩;rintro _ rfl;refine M.Ab ?_;subst hk
     cases l with
     |none=>cases r with
      |none=>exact⟨_,rfl,by simp[TC.av,loN,hiN]⟩
      |some b=>exact⟨_,rfl,by simp[TC.av,loN,hiN]⟩
     |some a=>cases r with
      |none=>exact⟨_,rfl,by simp[TC.av,loN,hiN]⟩
      |some b=>exact⟨_,rfl,by simp[TC.av,loN,hiN]⟩
   |_=>cases w with
    |none=>exact(R.Ae.1 hx).elim
    |some y=>exact(R.Ae.1 hx).elim
  |_=>cases w with
   |none=>exact(R.Ae.1 hx).elim
   |some y=>exact(R.Ae.1 hx).elim
 |sl τ tt e l=>
  have ha:a=_:=ha;subst ha;simp only[Ai2]at hx;split at hx
  case isFalse=>exact(R.Ae.1 hx).elim
  rename_i hk;obtain⟨hτ,hk⟩:=hk;rw[R.Ah]at hx;obtain⟨⟨r1,r2⟩,h2,hx⟩:=hx;obtain rfl:=R.Ai.1 hx;obtain⟨b1,b2,b3⟩:=Qr h hg h2;simp only[M.Aa,M.Aj,Qc4];refine⟨hk,hτ,M.Af b1 ?_⟩;rintro _ rfl;refine M.Ab ⟨_,rfl,?_⟩;simp only[TC.av];rw[←hk,Alv _ _ _ _ b2 b3]
 |nil=>
  have ha:a=_:=ha;subst ha;simp only[Ai2]at hx;rw[R.Ah]at hx;obtain⟨⟨r1,r2⟩,h2,hx⟩:=hx;obtain rfl:=R.Ai.1 hx;obtain⟨b1,b2,b3⟩:=Qr h hg h2;simp only[M.Aa];refine M.Af b1 ?_;rintro _ rfl;exact M.Ab ⟨_,rfl,rfl⟩
 |_=>exact(R.Ae.1 hx).elim
theorem Aks{g:Gd}(hg:gv F Γ g=true){k:Nat}{n:Int}{c:TC}{v:TSV}(hx:(Akr F Γ g k n c).ok v){x i:Opd}(hi:(st.GJ true i).holds (·=n))(ha:(st.CD true x).holds fun a=>c.av μ st.ver (lnT F Γ) a):
  (st.BF true (.ixA k x i)).holds fun s=>v.sv μ st.ver (lnT F Γ) s:=by
 simp only[St.BF,M.Aa];refine M.Af hi ?_;rintro _ rfl
 refine M.Af ha fun a ha=>?_
 cases c with
 |ref p tt e w=>
  simp only[Akr]at hx;rw[R.Ah]at hx;obtain⟨d,h1,hx⟩:=hx
  cases d with
  |sl τ tt' e' l0=>
   cases τ with
   |own=>
    obtain⟨q1,q2⟩:=Kg h h1
    cases w with
    |none=>
     have ha:a=_:=NF ha q2;subst ha;simp only[Amd]at hx;split at hx
     case isFalse=>exact(R.Ae.1 hx).elim
     rename_i hk;rw[R.Ah]at hx;obtain⟨_,h2,hx⟩:=hx;have hb:=BQ h2 hg;obtain rfl:=R.Ai.1 hx;simp only[q1,M.Aa,M.Aj];refine⟨trivial,hk,fun _=>hb,M.Ab ⟨_,rfl,?_⟩⟩;subst hk;simp[TC.av]
    |some y=>
     obtain⟨lo0,n0⟩:=y;have ha:a=_:=ha;subst ha;simp only[Amd]at hx;split at hx
     case isFalse=>exact(R.Ae.1 hx).elim
     rename_i hk;rw[R.Ah]at hx;obtain⟨_,h2,hx⟩:=hx;have hb:=BQ h2 hg;obtain rfl:=R.Ai.1 hx;simp only[q1,M.Aa,M.Aj];refine⟨trivial,hk,fun _=>hb,M.Ab ⟨_,rfl,?_⟩⟩;subst hk;simp[TC.av]
   |_=>cases w with
    |none=>exact(R.Ae.1 hx).elim
    |some y=>exact(R.Ae.1 hx).elim
  |_=>cases w with
   |none=>exact(R.Ae.1 hx).elim
   |some y=>exact(R.Ae.1 hx).elim
 |sl τ tt e l=>
  have ha:a=_:=ha;subst ha;simp only[Akr]at hx;split at hx
  case isFalse=>exact(R.Ae.1 hx).elim
  rename_i hk;obtain⟨hτ,hk⟩:=hk;rw[R.Ah]at hx;obtain⟨_,h2,hx⟩:=hx;have hb:=BQ h2 hg;obtain rfl:=R.Ai.1 hx;simp only[M.Aa,M.Aj,Qc4];refine⟨hk,hτ,fun _=>hb,M.Ab ⟨_,rfl,?_⟩⟩;subst hk;exact rfl
 |_=>exact(R.Ae.1 hx).elim
theorem AkE{c d:TC}(hx:(Agg F Γ c).ok d){a:AV}(ha:c.av μ st.ver (lnT F Γ) a):(AkD a).holds fun n=>d=.int .i64 n:=by
 cases c with
 |ref p tt e w=>
  cases w with
  |none=>
   simp only[Agg]at hx;rw[R.Ah]at hx;obtain⟨d',h1,hx⟩:=hx
   cases d' with
   |sl τ tt' e' l0=>
    cases τ with
    |own=>
     obtain⟨q1,q2⟩:=Kg h h1;have ha:a=_:=NF ha q2;subst ha;obtain rfl:=R.Ai.1 hx;exact M.Ab rfl
    |_=>exact(R.Ae.1 hx).elim
   |_=>exact(R.Ae.1 hx).elim
  |some y=>
   obtain⟨lo,n⟩:=y;have ha:a=_:=ha;subst ha;simp only[Agg]at hx;obtain rfl:=R.Ai.1 hx;exact M.Ab rfl
 |sl τ tt e l=>
  have ha:a=_:=ha;subst ha;simp only[Agg]at hx;obtain rfl:=R.Ai.1 hx;simp only[AkD];exact M.Ab (by simp)
 |nil=>
  have ha:a=_:=ha;subst ha;simp only[Agg]at hx;obtain rfl:=R.Ai.1 hx;exact M.Ab rfl
 |_=>exact(R.Ae.1 hx).elim
theorem AeR{g:Gd}(hg:gv F Γ g=true){op:AOp}{v:TSV}(hx:(HQ F Γ g op).ok v):(st.BF true op).holds fun s=>v.sv μ st.ver (lnT F Γ) s:=by
 have hg':true=true→gv F Γ g=true:=fun _=>hg
 cases op with
 |mv x=>exact FM h hg' hx
 |pick c a b=>
  cases c with
  |t n=>
   simp only[HQ]at hx;rw[R.Ah]at hx;obtain⟨cb,h1,hx⟩:=hx;rw[R.Ah]at hx;obtain⟨av,h2,hx⟩:=hx;rw[R.Ah]at hx;obtain⟨bv,h3,hx⟩:=hx;obtain rfl:=R.Ai.1 hx
   have hslot:GN F Γ n=some cb:=by
    unfold Z9 at h1;rw[R.Ah]at h1;obtain⟨v,h4,h5⟩:=h1;unfold GN;simp only[P0]at h4;split at h4
    case h_2=>exact(R.Ae.1 h4).elim
    rename_i gd v0 hs;rw[hs]
    cases hsub:gsub gd g with
    |false=>rw[hsub]at h4;exact(R.Ae.1 h4).elim
    |true=>
     rw[hsub]at h4;have h4:=R.Ai.1 h4;subst h4;split at h5
     case h_2=>exact(R.Ae.1 h5).elim
     rename_i b0 hb0;obtain rfl:=R.Ai.1 h5
     cases v0 with
     |one c0=>
      cases c0 with
      |bool b1=>simp only[TSV.peek,Yj,TSV.one.injEq,TC.bool.injEq]at hb0;rw[hb0]
      |sl τ tt e l=>cases τ<;>simp[TSV.peek,Yj]at hb0
      |_=>simp[TSV.peek,Yj]at hb0
     |agg l=>simp[TSV.peek]at hb0
     |clo f l=>simp[TSV.peek]at hb0
   simp only[St.BF,M.Aa]
   refine M.Af (LG h hg' h1) fun x0 e0=>?_
   rw[e0];clear e0 x0;refine M.Af (LG h (b:=true&&cb) ?_ h2) ?_
   ·intro hc;simp only[Qc8]at hc;subst hc;simp only[gv,hslot,hg];rfl
   rintro _ rfl;refine M.Af (LG h (b:=true&&!cb) ?_ h3) ?_
   ·intro hc;simp only[Qc8,Bool.not_eq_true']at hc;subst hc;simp only[gv,hslot,hg];rfl
   rintro _ rfl;exact M.Ab ⟨_,rfl,rfl⟩
  |c v=>exact(R.Ae.1 hx).elim
  |f nm=>exact(R.Ae.1 hx).elim
 |build zero parts=>
  simp only[HQ]at hx;rw[R.Ah]at hx;obtain⟨l,h1,hx⟩:=hx;obtain rfl:=R.Ai.1 hx;simp only[St.BF,M.Aa]
  have hz:∀zs:List Value,avs μ st.ver (lnT F Γ) (zs.map Km) (zs.map .lit):=by
   intro zs
   induction zs with
   |nil=>exact trivial
   |cons z zs ih=>exact⟨Lt z,ih⟩
  refine M.Af (Yi h hg h1 (hz zero)) fun as ha=>M.Ab ⟨as,rfl,ha⟩
 |load agg n x=>
  simp only[HQ]at hx;rw[R.Ah]at hx;obtain⟨c,h1,hx⟩:=hx;exact Aix h hg hx (CX h hg' h1)
 |nilc x=>
  simp only[HQ]at hx;rw[R.Ah]at hx;obtain⟨c,h1,hx⟩:=hx;have h2:=FM h hg' h1;simp only[St.BF,St.CD,M.Aa]
  refine M.Af h2 fun s hs=>?_
  unfold AlN at hx;split at hx
  ·obtain rfl:=R.Ai.1 hx;obtain⟨a,rfl,ha⟩:=hs;rw[M.Ad];have ha:a=_:=ha;subst ha;exact M.Ab ⟨_,rfl,rfl⟩
  ·obtain rfl:=R.Ai.1 hx;obtain⟨a,rfl,ha⟩:=hs;rw[M.Ad];have ha:a=_:=ha;subst ha;exact M.Ab ⟨_,rfl,rfl⟩
  ·obtain rfl:=R.Ai.1 hx;obtain⟨a,rfl,ha⟩:=hs;rw[M.Ad];have ha:a=_:=ha;subst ha;exact M.Ab ⟨_,rfl,rfl⟩
  ·obtain rfl:=R.Ai.1 hx;obtain⟨a,rfl,ha⟩:=hs;rw[M.Ad];have ha:a=_:=ha;subst ha;exact M.Ab ⟨_,rfl,rfl⟩
  ·obtain rfl:=R.Ai.1 hx;obtain⟨k,rfl,ha⟩:=hs;rw[M.Ad];exact M.Ab ⟨k,rfl,ha⟩
  ·exact(R.Ae.1 hx).elim
 |bin op x y=>
  simp only[HQ]at hx;rw[R.Ah]at hx;obtain⟨c,h1,hx⟩:=hx;rw[R.Ah]at hx;obtain⟨d,h2,hx⟩:=hx;rw[R.Ah]at hx;obtain⟨r,h3,hx⟩:=hx;obtain rfl:=R.Ai.1 hx;simp only[St.BF,M.Aa]
  have k1:=FM (v:=.one c) h hg' (by
   unfold IC at h1;rw[R.Ah]at h1;obtain⟨v,q1,q2⟩:=h1;split at q2
   ·obtain rfl:=R.Ai.1 q2;exact q1
   ·exact(R.Ae.1 q2).elim)
  have k2:=FM (v:=.one d) h hg' (by
   unfold IC at h2;rw[R.Ah]at h2;obtain⟨v,q1,q2⟩:=h2;split at q2
   ·obtain rfl:=R.Ai.1 q2;exact q1
   ·exact(R.Ae.1 q2).elim)
  refine M.Af k1 fun s hs=>?_
  refine M.Af k2 fun s' hs'=>?_
  obtain⟨a,rfl,ha⟩:=hs;obtain⟨b,rfl,hb⟩:=hs';obtain⟨u,w,p,v,rfl,rfl,e1,e2,e3⟩:=AfN hg h3 ha hb;simp only[M.Aa];rw[M.Nr];exact⟨p,v,e1,e2,M.Ab ⟨_,rfl,e3⟩⟩
 |eqB ne x y=>
  simp only[HQ]at hx;rw[R.Ah]at hx;obtain⟨c,h1,hx⟩:=hx;rw[R.Ah]at hx;obtain⟨d,h2,hx⟩:=hx;obtain rfl:=R.Ai.1 hx;simp only[St.BF,M.Aa];refine M.Af (LG h hg' h1) ?_;rintro _ rfl;refine M.Af (LG h hg' h2) ?_;rintro _ rfl;refine M.Ab ⟨_,rfl,?_⟩
  cases ne<;>rfl
 |eqA ne ks x y=>
  simp only[HQ]at hx;rw[R.Ah]at hx;obtain⟨c,h1,hx⟩:=hx;rw[R.Ah]at hx;obtain⟨d,h2,hx⟩:=hx;rw[R.Ah]at hx;obtain⟨r,h3,hx⟩:=hx;obtain rfl:=R.Ai.1 hx;have h3:=R.Cd.1 h3;simp only[St.BF,M.Aa]
  refine M.Af (Rm h hg' h1) fun s hs=>?_
  refine M.Af (Rm h hg' h2) fun s' hs'=>?_
  obtain⟨a,rfl,ha⟩:=hs;obtain⟨b,rfl,hb⟩:=hs';simp only[M.Aa];rw[M.CW];refine⟨r,XT h3 ha hb,M.Ab ⟨_,rfl,?_⟩⟩
  cases ne<;>rfl
 |mkI t x=>
  simp only[HQ]at hx;rw[R.Ah]at hx;obtain⟨c,h1,hx⟩:=hx;split at hx
  case h_2=>exact(R.Ae.1 hx).elim
  obtain rfl:=R.Ai.1 hx;simp only[St.BF,M.Aa]
  refine M.Af (CX h hg' h1) fun a ha=>?_
  have ha:a=_:=ha;subst ha;exact M.Ab ⟨_,rfl,rfl⟩
 |un op x=>
  simp only[HQ]at hx;rw[R.Ah]at hx;obtain⟨c,h1,hx⟩:=hx;rw[R.Ah]at hx;obtain⟨d,h2,hx⟩:=hx;obtain rfl:=R.Ai.1 hx;simp only[St.BF,M.Aa]
  refine M.Af (CX h hg' h1) fun a ha=>?_
  unfold unT at h2;split at h2
  ·obtain rfl:=R.Ai.1 h2;have ha:a=_:=ha;subst ha;simp only[M.Aa];rw[M.CW];exact⟨_,rfl,M.Ab ⟨_,rfl,rfl⟩⟩
  ·obtain rfl:=R.Ai.1 h2;have ha:a=_:=ha;subst ha;simp only[M.Aa];rw[M.CW];exact⟨_,rfl,M.Ab ⟨_,rfl,rfl⟩⟩
  ·obtain rfl:=R.Ai.1 h2;have ha:a=_:=ha;subst ha;simp only[M.Aa];rw[M.CW];exact⟨_,rfl,M.Ab ⟨_,rfl,rfl⟩⟩
  ·exact(R.Ae.1 h2).elim
 |conv cv x=>
  simp only[HQ]at hx;rw[R.Ah]at hx;obtain⟨c,h1,hx⟩:=hx;rw[R.Ah]at hx;obtain⟨d,h2,hx⟩:=hx;obtain rfl:=R.Ai.1 hx;simp only[St.BF,M.Aa]
  refine M.Af (CX h hg' h1) fun a ha=>?_
  unfold AlF at h2;split at h2
  ·obtain rfl:=R.Ai.1 h2;have ha:a=_:=ha;subst ha;exact M.Ab ⟨_,rfl,rfl⟩
  ·obtain rfl:=R.Ai.1 h2;have ha:a=_:=ha;subst ha;exact M.Ab ⟨_,rfl,rfl⟩
  ·obtain rfl:=R.Ai.1 h2;have ha:a=_:=ha;subst ha;exact M.Ab ⟨_,rfl,by simp[TC.av,Af1]⟩
  ·rw[R.Ah]at h2;obtain⟨d',h3,h2⟩:=h2;rename_i p tt w;unfold AhQ at h2;split at h2
   case h_2=>exact(R.Ae.1 h2).elim
   rename_i tt' l;obtain⟨q1,q2⟩:=Kg h h3
   cases w with
   |none=>
    obtain rfl:=R.Ai.1 h2;have ha:a=_:=NF ha q2;subst ha;simp only[St.whole,q1,M.Aa];rw[M.Aj,M.Aj,M.Aj,M.Aj];refine⟨by trivial,by trivial,by trivial,by simp,?_⟩;rw[M.Ad,M.CW];refine⟨l,?_,M.Ab ⟨_,rfl,rfl⟩⟩;rw[LH,List.drop_zero,Qc6 (by simp)];exact Kc l
   |some y=>
    obtain⟨lo,n⟩:=y;simp only at h2;rw[R.Ah]at h2;obtain⟨_,h4,h2⟩:=h2;have h4:=R.HE.1 h4;obtain rfl:=R.Ai.1 h2;have ha:a=_:=ha;subst ha;simp only[St.whole,q1,M.Aa];rw[M.Aj,M.Aj,M.Aj,M.Aj];refine⟨by trivial,by trivial,by trivial,by simpa using h4,?_⟩;rw[M.Ad,M.CW];refine⟨_,?_,M.Ab ⟨_,rfl,rfl⟩⟩;rw[LH,←List.map_drop,←List.map_take];exact Kc _
  ·obtain rfl:=R.Ai.1 h2;have ha:a=_:=ha;subst ha;simp only[St.whole,M.Aa];rw[M.Aj];refine⟨rfl,?_⟩;rw[M.Ad,M.CW];exact⟨_,Kc _,M.Ab ⟨_,rfl,rfl⟩⟩
  ·obtain rfl:=R.Ai.1 h2;have ha:a=_:=ha;subst ha;simp only[St.whole,M.Aa];rw[M.Ad,M.CW];exact⟨[],rfl,M.Ab ⟨_,rfl,rfl⟩⟩
  ·exact(R.Ae.1 h2).elim
 |slS x lo hi=>
  simp only[HQ]at hx;rw[R.Ah]at hx;obtain⟨c,h1,hx⟩:=hx;simp only[St.BF,M.Aa]
  refine M.Af (CX h hg' h1) fun a ha=>?_
  unfold AnI at hx;split at hx
  case h_2=>exact(R.Ae.1 hx).elim
  rename_i s;have ha:a=_:=ha;subst ha;rw[R.Ah]at hx;obtain⟨⟨l,r⟩,h2,hx⟩:=hx;obtain rfl:=R.Ai.1 hx;obtain⟨b1,b2,b3⟩:=Qr h hg h2
  have e:(⟨s.toArray⟩:ByteArray).size=s.length:=by simp[ByteArray.size]
  simp only[M.Aa,e];refine M.Af b1 ?_;rintro _ rfl;refine M.Ab ⟨_,rfl,?_⟩;simp only[TC.av,AV.lit.injEq,Value.string.injEq];refine ByteArray.ext ?_
  have key:Ss l r s=(s.take (hiN s.length r)).drop (loN l):=by
   cases l with
   |none=>cases r with
    |none=>simp[Ss,loN,hiN]
    |some b=>simp[Ss,loN,hiN]
   |some a=>cases r with
    |none=>simp[Ss,loN,hiN]
    |some b=>simp[Ss,loN,hiN]
  rw[key];refine Array.toList_inj.1 ?_;simp[ByteArray.data_extract,List.extract_eq_take_drop,List.drop_take]
 |slK k x lo hi=>
  simp only[HQ]at hx;rw[R.Ah]at hx;obtain⟨c,h1,hx⟩:=hx;exact Ale h hg hx (CX h hg' h1)
 |fAddr off x=>
  simp only[HQ]at hx;rw[R.Ah]at hx;obtain⟨c,h1,hx⟩:=hx;simp only[St.BF,M.Aa]
  refine M.Af (CX h hg' h1) fun a ha=>?_
  unfold Ah7 at hx;split at hx
  ·obtain rfl:=R.Ai.1 hx;have ha:a=_:=ha;subst ha;exact M.Ab ⟨_,rfl,rfl⟩
  ·obtain rfl:=R.Ai.1 hx;have ha:a=_:=ha;subst ha;exact M.Ab ⟨_,rfl,rfl⟩
  ·obtain rfl:=R.Ai.1 hx;have ha:a=_:=ha;subst ha;exact M.Ab ⟨_,rfl,rfl⟩
  ·exact(R.Ae.1 hx).elim
 |fld agg off n x=>
  simp only[HQ]at hx;rw[R.Ah]at hx;obtain⟨l,h1,hx⟩:=hx;split at hx
  case isFalse=>exact(R.Ae.1 hx).elim
  rename_i hc;obtain rfl:=R.Ai.1 hx;simp only[St.BF,M.Aa]
  refine M.Af (Rm h hg' h1) fun s hs=>?_
  obtain⟨m,rfl,hm⟩:=hs;have hlen:=B2 hm;simp only[M.Aa,M.Aj];refine⟨by omega,M.Ab ?_⟩;rw[sub_eq _ _ _ _ rfl];exact Ae9 agg (Im hm off n)
 |ixA k x i=>
  simp only[HQ]at hx;rw[R.Ah]at hx;obtain⟨n,h1,hx⟩:=hx;rw[R.Ah]at hx;obtain⟨c,h2,hx⟩:=hx;exact Aks h hg hx (JC h hg' h1) (CX h hg' h2)
 |ixAr n k x i=>
  simp only[HQ]at hx;rw[R.Ah]at hx;obtain⟨m,h1,hx⟩:=hx;rw[R.Ah]at hx;obtain⟨_,h2,hx⟩:=hx;rw[R.Ah]at hx;obtain⟨c,h3,hx⟩:=hx;have hb:=BQ h2 hg;simp only[St.BF,M.Aa];refine M.Af (JC h hg' h1) ?_;rintro _ rfl;rw[M.Aj];refine⟨fun _=>hb,M.Af (CX h hg' h3) fun a ha=>?_⟩;unfold AlJ at hx;split at hx
  ·split at hx
   case isFalse=>exact(R.Ae.1 hx).elim
   rename_i hk;obtain rfl:=R.Ai.1 hx;have ha:a=_:=ha;subst ha hk;exact M.Ab ⟨_,rfl,by simp[TC.av]⟩
  ·split at hx
   case isFalse=>exact(R.Ae.1 hx).elim
   rename_i hk;obtain rfl:=R.Ai.1 hx;have ha:a=_:=ha;subst ha hk;exact M.Ab ⟨_,rfl,by simp[TC.av]⟩
  ·exact(R.Ae.1 hx).elim
 |ixS x i=>
  simp only[HQ]at hx;rw[R.Ah]at hx;obtain⟨m,h1,hx⟩:=hx;rw[R.Ah]at hx;obtain⟨c,h3,hx⟩:=hx;simp only[St.BF,M.Aa];refine M.Af (JC h hg' h1) ?_;rintro _ rfl
  refine M.Af (CX h hg' h3) fun a ha=>?_
  unfold Ano at hx;split at hx
  case h_2=>exact(R.Ae.1 hx).elim
  rename_i s;have ha:a=_:=ha;subst ha;rw[R.Ah]at hx;obtain⟨_,h2,hx⟩:=hx;have hb:=BQ h2 hg;obtain rfl:=R.Ai.1 hx;simp only[M.Aa,M.Aj];refine⟨fun _=>by simpa[ByteArray.size]using hb,M.Ab ⟨_,rfl,by simp[TC.av]⟩⟩
 |ixV agg n k x i=>
  simp only[HQ]at hx;rw[R.Ah]at hx;obtain⟨m,h1,hx⟩:=hx;rw[R.Ah]at hx;obtain⟨l,h2,hx⟩:=hx;rw[R.Ah]at hx;obtain⟨d,h3,hx⟩:=hx;have h3:=R.Cd.1 h3;split at hx
  case isFalse=>exact(R.Ae.1 hx).elim
  rename_i hc;obtain⟨rfl,rfl,hc⟩:=hc;rw[R.Ah]at hx;obtain⟨_,h4,hx⟩:=hx;have hb:=BQ h4 hg;obtain rfl:=R.Ai.1 hx;simp only[St.BF,M.Aa]
  refine M.Af (JC h hg' h1) fun x0 e0=>?_
  rw[e0];clear e0 x0
  refine M.Af (Rm h hg' h2) fun s hs=>?_
  obtain⟨as,rfl,ha⟩:=hs;have hlen:=B2 ha;simp only[M.Aa,M.Aj];refine⟨fun _=>hb,by omega,M.Ab ?_⟩;rw[sub_eq _ _ _ _ rfl,Nat.mul_one]
  have hlt:m.toNat<n:=by omega
  have hsel:=Si h3 (by simp;omega)
  rw[Qa9 hlt]at hsel;obtain⟨a,ha1,ha2⟩:=Il ha hsel;rw[ZB ha1];exact⟨a,rfl,ha2⟩
 |lenK x=>
  simp only[HQ]at hx;rw[R.Ah]at hx;obtain⟨c,h1,hx⟩:=hx;rw[R.Ah]at hx;obtain⟨d,h2,hx⟩:=hx;obtain rfl:=R.Ai.1 hx;simp only[St.BF,M.Aa]
  refine M.Af (CX h hg' h1) fun a ha=>?_
  refine M.Af (AkE h h2 ha) ?_;rintro n rfl;exact M.Ab ⟨_,rfl,rfl⟩
 |lenS x=>
  simp only[HQ]at hx;rw[R.Ah]at hx;obtain⟨c,h1,hx⟩:=hx;simp only[St.BF,M.Aa]
  refine M.Af (CX h hg' h1) fun a ha=>?_
  unfold AlL at hx;split at hx
  case h_2=>exact(R.Ae.1 hx).elim
  rename_i s;have ha:a=_:=ha;subst ha;obtain rfl:=R.Ai.1 hx;exact M.Ab ⟨_,rfl,by simp[TC.av,ByteArray.size]⟩
 |lenC n=>
  simp only[HQ]at hx;obtain rfl:=R.Ai.1 hx;exact M.Ab ⟨_,rfl,rfl⟩
 |mm mx x y=>
  simp only[HQ]at hx;rw[R.Ah]at hx;obtain⟨c,h1,hx⟩:=hx;rw[R.Ah]at hx;obtain⟨d,h2,hx⟩:=hx;rw[R.Ah]at hx;obtain⟨r,h3,hx⟩:=hx;obtain rfl:=R.Ai.1 hx;simp only[St.BF,M.Aa]
  refine M.Af (CX h hg' h1) fun a ha=>?_
  refine M.Af (CX h hg' h2) fun b hb=>?_
  unfold mmT at h3;split at h3
  case h_2=>exact(R.Ae.1 h3).elim
  have ha:a=_:=ha;have hb:b=_:=hb;subst ha hb;obtain rfl:=R.Ai.1 h3;refine M.Ab ⟨_,rfl,?_⟩
  cases mx<;>rfl
 |mkf f caps=>
  simp only[HQ]at hx;rw[R.Ah]at hx;obtain⟨l,h1,hx⟩:=hx;split at hx
  case isFalse=>exact(R.Ae.1 hx).elim
  rename_i hf;obtain rfl:=R.Ai.1 hx;simp only[St.BF,M.Aa]
  refine M.Af (Aay h hg h1) fun as ha=>?_
  rw[M.Aj];exact⟨AeV hf ha,M.Ab ⟨as,rfl,ha⟩⟩
 |_=>exact(R.Ae.1 hx).elim
end
end Go.VS
namespace Go.VS
def Ef(t:Nat)(p:Place):Bool:=match p.root with
 |.slot t' _=>Qb0 t' t
 |.obj ..=>false
def QV(p:Place):Bool:=match p.root with
 |.obj ..=>true
 |.slot ..=>false
def AbB(b:Nat)(p:Place):Bool:=match p.root with
 |.obj b' _=>Qb0 b' b
 |.slot ..=>false
def Jj:Root→Place→Bool
 |.slot t _=>Ef t
 |.obj _ _=>QV
def deep(p:Place):Bool:=match p.path with
 |[]=>false
 |_=>true
def CA:Nat→Bool:=fun _=>false
def TSV.Xr:TSV→Nat→TC→TSV
 |.one _,0,d=>.one d
 |.agg l,j,d=>.agg (l.set j d)
 |v,_,_=>v
def E5(F Γ:TS)(qr qa:Place→Bool)(r:Root)(d:TC):Option TS:=
 match r with
 |.slot t j=>match TS.slot F Γ t with
  |some (.val [] v)=>TS.upd F Γ qr qa CA [(t,.val [] ((v.sift qr qa CA).Xr j d))] []
  |_=>none
 |.obj b c=>match TS.box F Γ b with
  |some l=>TS.upd F Γ qr qa CA [] [(b,(l.map (TC.sift qr qa CA)).set c d)]
  |none=>none
def Jp(F Γ:TS)(t:Nat)(x:TX):R TS:=bif x.guards t||x.hit (Ef t) (Ef t) CA then R.fail else R.Dz (TS.upd F Γ (Ef t) (Ef t) CA [(t,x)] [])
def Wa(F:TS)(mem:Bool)(Γ:TS):TC→R (TC×TS)
 |.ref p _ e w=>match p.path,Cy F Γ p.root with
  |[],some (.sl .own tt' e' l)=>if e'.size=e.size then(match w with
    |none=>(do
     let Γ'←R.Dz (E5 F Γ (Jj p.root) (Jj p.root) p.root .dead)
     pure (.sl .own tt' e' l,Γ'))
    |some (lo,n)=>(do
     R.need (lo+n≤l.length)
     let Γ'←R.Dz (E5 F Γ (Jj p.root) (Jj p.root) p.root .dead)
     pure (.sl .own tt' e' ((l.drop lo).take n),Γ')))
   else R.fail
  |_,_=>R.fail
 |.adr ..=>R.fail
 |.iadr tt e l i c=>bif mem then R.fail else pure (.iadr tt e l i c,Γ)
 |.iadrd tt e l i c n j=>bif mem then R.fail else pure (.iadrd tt e l i c n j,Γ)
 |.dead=>R.fail
 |.sl .own _ _ _=>R.fail
 |c=>pure (c,Γ)
def PW(F:TS)(mem:Bool)(Γ:TS):List TC→R (List TC×TS)
 |[]=>pure ([],Γ)
 |c::l=>do
  let(d,Γ1)←Wa F mem Γ c
  let(m,Γ2)←PW F mem Γ1 l
  pure (d::m,Γ2)
def Rk(F Γ:TS)(mem:Bool)(x:Opd):R (TSV×TS):=do
 let v←P0 F Γ [] x
 match v with
 |.one c=>do
  let(d,Γ')←Wa F mem Γ c
  pure (.one d,Γ')
 |.agg l=>do
  let(m,Γ')←PW F mem Γ l
  pure (.agg m,Γ')
 |.clo f l=>bif l.all TC.A5 then pure (.clo f l,Γ)else R.fail
section
variable{μ:Nat→Nat}{F Γ Γ':TS}{st:St}{qr qa:Place→Bool}{m:Nat→Bool}
theorem Ajs{ns:List (Nat×TX)}{nb:List (Nat×List TC)}(hu:TS.upd F Γ qr qa m ns nb=some Γ')(hss:∀t,(look F.sl t).isSome=true→look Γ.sl t=none)(gd:Gd)(hgd:∀p∈gd,look ns p.1=none):gv F Γ' gd=gv F Γ gd:=by
 have hslot:=LF hu hss;refine RY (t0:=fun t=>look ns t≠none) ?_ gd (fun p hp=>by simpa using hgd p hp);intro t ht
 have ht:look ns t=none:=by simpa using ht
 unfold GN;rw[hslot t,ht]
 cases hx:TS.slot F Γ t with
 |none=>rfl
 |some x=>exact V0
theorem PK(v:TSV)(j:Nat){c:TC}(h:(v.sift qr qa m).cells[j]?=some c):∃d,v.cells[j]?=some d∧c=d.sift qr qa m:=by
 cases v with
 |one d=>
  cases j with
  |zero=>simp only[TSV.sift,TSV.cells,List.getElem?_cons_zero,Qa4]at h⊢;exact⟨d,rfl,h.symm⟩
  |succ j=>simp[TSV.sift,TSV.cells]at h
 |agg l=>
  simp only[TSV.sift,TSV.cells,Qb5,Qa7]at h⊢;obtain⟨d,h1,h2⟩:=h;exact⟨d,h1,h2.symm⟩
 |clo f l=>simp[TSV.sift,TSV.cells]at h
theorem H3{ns:List (Nat×TX)}{nb:List (Nat×List TC)}(hu:TS.upd F Γ qr qa m ns nb=some Γ')(hss:∀t,(look F.sl t).isSome=true→look Γ.sl t=none){p:Place}
  (hns:∀t j,p.root=.slot t j→look ns t=none) (hnb:∀b c,p.root=.obj b c→look nb b=none) {n:Nat} (hn:lnT F Γ' p=some n):lnT F Γ p=some n:=by
 unfold lnT atT at hn⊢
 cases hr:p.root with
 |slot t j=>
  rw[hr]at hn;simp only[Cy,LF hu hss t,hns t j hr]at hn⊢
  cases hs:TS.slot F Γ t with
  |none=>rw[hs]at hn;simp at hn
  |some x=>
   rw[hs]at hn
   cases x with
   |val gd v=>
    cases gd with
    |nil=>
     simp only[Qb7,TX.sift]at hn⊢
     cases hc:(v.sift qr qa m).cells[j]?with
     |none=>rw[hc]at hn;simp at hn
     |some c=>
      rw[hc,Qa0]at hn;obtain⟨d,h1,rfl⟩:=PK v j hc;rw[h1,Qa0];exact d.Jq p.path n hn
    |cons q gd=>simp[TX.sift]at hn
   |tup l=>simp[TX.sift]at hn
   |gone=>simp[TX.sift]at hn
 |obj b c=>
  rw[hr]at hn;simp only[Cy,FL hu b,hnb b c hr]at hn⊢
  cases hs:TS.box F Γ b with
  |none=>rw[hs]at hn;simp at hn
  |some l=>
   rw[hs]at hn;simp only[Qb7,Qa0,Qb5]at hn⊢
   cases hc:l[c]?with
   |none=>rw[hc]at hn;simp at hn
   |some d=>
    rw[hc]at hn;simp only[Qb7,Qa0]at hn⊢;exact d.Jq p.path n hn
theorem AR{α:Type}(t:Nat)(x:α)(t':Nat):look [(t,x)] t'=if t=t' then some x else none:=by rw[Am];rfl
theorem Eg{t:Nat}{p:Place}:Ef t p=true↔∃j,p.root=.slot t j:=by
 unfold Ef
 cases p.root with
 |slot t' j=>
  simp only[Root.slot.injEq,exists_and_left,exists_eq',and_true];exact⟨fun h=>Qb6 h,fun h=>by subst h;simp⟩
 |obj b c=>simp
theorem G3{p:Place}:QV p=true↔∃b c,p.root=.obj b c:=by
 unfold QV
 cases p.root<;>simp
theorem Yg{b:Nat}{p:Place}:AbB b p=true↔∃c,p.root=.obj b c:=by
 unfold AbB
 cases p.root with
 |obj t' j=>
  simp only[Root.obj.injEq,exists_and_left,exists_eq',and_true];exact⟨fun h=>Qb6 h,fun h=>by subst h;simp⟩
 |slot b c=>simp
theorem DK(h:Sim μ F Γ st){t:Nat}{x:TX}(hu:(Jp F Γ t x).ok Γ'){y:TV}(hx:x.tv μ st.ver (lnT F Γ) (gv F Γ) y):Sim μ F Γ' (st.set t y):=by
 unfold Jp at hu
 cases hb:(x.guards t||x.hit (Ef t) (Ef t) CA)with
 |true=>rw[hb]at hu;exact(R.Ae.1 hu).elim
 |false=>
  rw[hb]at hu;have hu:=R.Cd.1 hu;simp only[Qa1]at hb
  have hver:∀p,Ef t p=false→(st.set t y).ver (p.mu μ).root=st.ver (p.mu μ).root:=by
   intro p hp
   cases hr:p.root with
   |slot t' j=>
    have hne:t'≠t:=by rintro rfl;rw[Eg.2 ⟨j,hr⟩]at hp;cases hp
    simp only[Place.mu,hr,Root.mu,St.ver,St.set];split
    ·simp[upd,hne]
    ·rfl
   |obj b c=>simp only[Place.mu,hr,Root.mu,St.ver,St.set]
  have T:Tr (Ef t) (Ef t) CA μ μ st.ver (st.set t y).ver (lnT F Γ) (lnT F Γ'):=by
   refine⟨fun _ _=>rfl,fun p hp=>⟨rfl,hver p hp,fun n hn=>?_⟩,fun p hp=>⟨rfl,hver p hp⟩⟩;refine H3 hu h.ss (fun t' j hr=>?_) (fun _ _ _=>rfl) hn;rw[AR,if_neg];rintro rfl;rw[Eg.2 ⟨j,hr⟩]at hp;cases hp
  refine h.upd hu T ?_ ?_ (fun _ _ _ _=>rfl) (fun _ _ h=>nomatch h) (fun _ h=>nomatch h) (fun _ _ _ _ h=>nomatch h) (Qc0 _)
  ·intro t' ht';rw[AR]at ht';split at ht'
   ·cases ht'
   ·rename_i hne;simp[St.set,upd,Ne.symm hne]
  ·intro t' x' hx';rw[AR]at hx';split at hx'
   case isFalse=>cases hx'
   rename_i ht;cases hx';subst ht
   have e:(st.set t y).sl t=y:=by simp[St.set,upd]
   rw[e,←TX.HG hb.2];refine T.tv ?_ hx;rintro gd v rfl
   refine Ajs hu h.ss gd fun p hp=>?_
   rw[AR,if_neg];intro he;have:(TX.val gd v).guards t=true:=List.any_eq_true.2 ⟨p,hp,by simp[he]⟩;rw[this]at hb;cases hb.1
theorem Ald{ver:Root→Nat}{ln:Place→Option Nat}{v:TSV}{s:SV}(hv:v.sv μ ver ln s){j:Nat}{c:TC}(hc:v.cells[j]?=some c){d:TC}{b:AV}(hd:d.av μ ver ln b):(v.Xr j d).sv μ ver ln (s.setCell j b):=by
 cases v with
 |one c0=>
  obtain⟨a,rfl,ha⟩:=hv
  cases j with
  |zero=>exact⟨b,rfl,hd⟩
  |succ j=>simp[TSV.cells]at hc
 |agg l=>
  obtain⟨k,rfl,ha⟩:=hv;exact⟨_,rfl,TE ha j hd⟩
 |clo f l=>simp[TSV.cells]at hc
theorem SZ(h:Sim μ F Γ st){r:Root}{c d:TC}(hu:E5 F Γ qr qa r d=some Γ')(hr:Cy F Γ r=some c){b:AV}{st':St}(hsl:st'.sl=(st.Ap (r.mu μ) b).sl)(hhp:st'.hp=(st.Ap (r.mu μ) b).hp)
  (hver:∀p,qr p=false→st'.ver (p.mu μ).root=st.ver (p.mu μ).root) (hvera:∀p,qa p=false→st'.ver (p.mu μ).root=st.ver (p.mu μ).root)
  (hln:∀p,qr p=false→p.root=r→∀n,lnT F Γ' p=some n→lnT F Γ p=some n) (hd:d.av μ st'.ver (lnT F Γ') b) (hsol:d.A5=true∨∃t j,r=.slot t j):
  Sim μ F Γ' st':=by
 have lnsame:∀{ns:List (Nat×TX)} {nb:List (Nat×List TC)},TS.upd F Γ qr qa CA ns nb=some Γ'→∀p:Place,(∀t j,p.root=.slot t j→look ns t=none)→(∀b c,p.root=.obj b c→look nb b=none)→∀n,lnT F Γ' p=some n→lnT F Γ p=some n:=
  fun hu p h1 h2 n hn=>H3 hu h.ss h1 h2 hn
 cases r with
 |slot t j=>
  simp only[E5]at hu;split at hu
  case h_2=>cases hu
  rename_i v hs;simp only[Cy,hs]at hr;obtain⟨s,heq,hv⟩:=h.sl t _ hs;simp only[gv]at heq
  have lnslot:∀p:Place,qr p=false→∀n,lnT F Γ' p=some n→lnT F Γ p=some n:=by
   intro p hp n hn
   cases hpr:p.root with
   |obj b c=>exact lnsame hu p (fun t' j' e=>by rw[hpr]at e;cases e) (fun _ _ _=>rfl) n hn
   |slot t' j'=>
    by_cases ht:t'=t
    ·subst ht
     by_cases hj:j'=j
     ·subst hj;exact hln p hp hpr n hn
     ·unfold lnT atT at hn⊢;rw[hpr]at hn⊢;simp only[Cy,LF hu h.ss,AR,if_true,hs]at hn⊢
      have e:((v.sift qr qa CA).Xr j d).cells[j']?=(v.sift qr qa CA).cells[j']?:=by
       cases v with
       |one c0=>
        cases j with
        |zero=>cases j' with
         |zero=>exact(hj rfl).elim
         |succ j'=>rfl
        |succ j=>rfl
       |agg l=>simp only[TSV.sift,TSV.Xr,TSV.cells];rw[Qb9 (Ne.symm hj)]
       |clo f l=>rfl
      rw[e]at hn
      cases hc:(v.sift qr qa CA).cells[j']?with
      |none=>rw[hc]at hn;simp at hn
      |some c0=>
       rw[hc,Qa0]at hn;obtain⟨d0,h1,rfl⟩:=PK v j' hc;rw[h1,Qa0];exact d0.Jq p.path n hn
    ·refine lnsame hu p (fun t'' j'' e=>?_) (fun _ _ _=>rfl) n hn;rw[hpr]at e;cases e;rw[AR,if_neg (Ne.symm ht)]
  have T:Tr qr qa CA μ μ st.ver st'.ver (lnT F Γ) (lnT F Γ'):=⟨fun _ _=>rfl,fun p hp=>⟨rfl,hver p hp,lnslot p hp⟩,fun p hp=>⟨rfl,hvera p hp⟩⟩
  refine h.upd hu T ?_ ?_ (fun b l _ _=>by rw[hhp];rfl) (fun _ _ h=>nomatch h) (fun _ h=>nomatch h) (fun _ _ _ _ h=>nomatch h) (by rw[hhp];exact Qc0 _)
  ·intro t' ht';rw[AR]at ht';split at ht'
   ·cases ht'
   ·rename_i hne;rw[hsl];simp[Root.mu,St.Ap,upd,Ne.symm hne]
  ·intro t' x' hx';rw[AR]at hx';split at hx'
   case isFalse=>cases hx'
   rename_i ht;cases hx';subst ht;rw[hsl]
   have e:(st.Ap ((Root.slot t j).mu μ) b).sl t=.val true (s.setCell j b):=by simp[Root.mu,St.Ap,upd,heq,TV.setCell]
   rw[e];refine⟨_,rfl,?_⟩
   have hc:∃c',(v.sift qr qa CA).cells[j]?=some c':=by
    cases v with
    |one c0=>cases j with
     |zero=>exact⟨_,rfl⟩
     |succ j=>simp[TSV.cells]at hr
    |agg l=>simp only[TSV.sift,TSV.cells,Qb5]at hr⊢;rw[hr];exact⟨_,rfl⟩
    |clo f l=>simp[TSV.cells]at hr
   obtain⟨c',hc'⟩:=hc;exact Ald (T.sv hv) hc' hd
 |obj b0 c0=>
  simp only[E5]at hu;split at hu
  case h_2=>cases hu
  rename_i l hs;simp only[Cy,hs,Qa0]at hr;obtain⟨k,q1,q2,q3,q4⟩:=h.bx b0 l hs
  have lnslot:∀p:Place,qr p=false→∀n,lnT F Γ' p=some n→lnT F Γ p=some n:=by
   intro p hp n hn
   cases hpr:p.root with
   |slot b c=>exact lnsame hu p (fun _ _ _=>rfl) (fun t' j' e=>by rw[hpr]at e;cases e) n hn
   |obj t' j'=>
    by_cases ht:t'=b0
    ·subst ht
     by_cases hj:j'=c0
     ·subst hj;exact hln p hp hpr n hn
     ·unfold lnT atT at hn⊢;rw[hpr]at hn⊢;simp only[Cy,FL hu,AR,if_true,hs,Qa0]at hn⊢;rw[Qb9 (Ne.symm hj),Qb5]at hn
      cases hc:l[j']?with
      |none=>rw[hc]at hn;simp at hn
      |some d0=>
       rw[hc]at hn;simp only[Qb7,Qa0]at hn⊢;exact d0.Jq p.path n hn
    ·refine lnsame hu p (fun _ _ _=>rfl) (fun t'' j'' e=>?_) n hn;rw[hpr]at e;cases e;rw[AR,if_neg (Ne.symm ht)]
  have T:Tr qr qa CA μ μ st.ver st'.ver (lnT F Γ) (lnT F Γ'):=⟨fun _ _=>rfl,fun p hp=>⟨rfl,hver p hp,lnslot p hp⟩,fun p hp=>⟨rfl,hvera p hp⟩⟩
  have ehp:st'.hp=st.hp.set (μ b0) (k.set c0 b):=by rw[hhp];simp[Root.mu,St.Ap,q1]
  have esl:st'.sl=st.sl:=by rw[hsl];simp[Root.mu,St.Ap,q1]
  refine h.upd hu T (fun t _=>by rw[esl]) (fun _ _ h=>nomatch h) ?_ ?_ (fun _ h=>nomatch h) ?_ (by rw[ehp];exact Qc0 _)
  ·intro b l' hb hl';rw[AR]at hb;split at hb
   ·cases hb
   ·rename_i hne;rw[ehp]
    have:μ b≠μ b0:=fun e=>hne (h.inj b0 b l l' hs hl' e.symm)
    simp[Heap.set,upd,this]
  ·intro b l' hb;rw[AR]at hb;split at hb
   case isFalse=>cases hb
   rename_i hbb;cases hb;subst hbb;refine⟨k.set c0 b,by rw[ehp];simp[Heap.set,upd],TE (T.avs q2) c0 hd,by rw[ehp];exact q3,?_⟩
   have hds:d.A5=true:=hsol.resolve_right (fun⟨t,j,e⟩=>nomatch e);rw[Qa8];intro x hx
   rcases Qd4 hx with hx|rfl
   ·obtain⟨y,hy,rfl⟩:=List.mem_map.1 hx;exact TC.PL (List.all_eq_true.1 q4 y hy)
   ·exact hds
  ·intro b b' l1 l' hb hb' he;rw[AR]at hb;split at hb
   case isFalse=>cases hb
   rename_i hbb;subst hbb;rw[FL hu b',AR]at hb'
   by_cases e:b0=b'
   ·exact e
   ·rw[if_neg e]at hb';simp only[Qa7]at hb';obtain⟨l2,h2,_⟩:=hb';exact h.inj _ _ _ _ hs h2 he
end
end Go.VS
namespace Go.VS
theorem LZ:∀(rs rs':List Root) (st:St),st.bumps (rs++rs')=(st.bumps rs).bumps rs'
 |[],_,_=>rfl
 |r::rs,rs',st=>LZ rs rs' (st.bump r)
theorem Adc{st st':St}(h1:st'.vs=st.vs)(h2:st'.hv=st.hv)(r:Root):(st'.bump r).vs=(st.bump r).vs∧(st'.bump r).hv=(st.bump r).hv:=by
 cases r<;>simp[St.bump,h1,h2]
theorem Nd:∀(rs:List Root) {st st':St},st'.vs=st.vs→st'.hv=st.hv→(st'.bumps rs).vs=(st.bumps rs).vs∧(st'.bumps rs).hv=(st.bumps rs).hv
 |[],_,_,h1,h2=>⟨h1,h2⟩
 |r::rs,st,st',h1,h2=>by
  have:=Adc h1 h2 r;exact Nd rs this.1 this.2
theorem D3(st:St)(r:Root)(b:AV):(st.Ap r b).vs=st.vs∧(st.Ap r b).hv=st.hv:=by
 cases r with
 |slot t j=>exact⟨rfl,rfl⟩
 |obj o c=>simp only[St.Ap];split<;>exact⟨rfl,rfl⟩
theorem NI{st1 st2:St}(h1:st1.sl=st2.sl)(h2:st1.hp=st2.hp)(r:Root)(b:AV):(st1.Ap r b).sl=(st2.Ap r b).sl∧(st1.Ap r b).hp=(st2.Ap r b).hp:=by
 cases r with
 |slot t j=>simp[St.Ap,h1,h2]
 |obj o c=>simp only[St.Ap,h2];split<;>simp[h1,h2]
theorem Uu(st:St)(r r':Root)(h:∀t j,r=.slot t j→∀j',r'≠.slot t j')(h2:∀o c,r=.obj o c→∀o' c',r'≠.obj o' c'):(st.bump r).ver r'=st.ver r':=by
 cases r with
 |slot t j=>
  cases r' with
  |slot t' j'=>
   have:t'≠t:=by rintro rfl;exact h _ _ rfl _ rfl
   simp[St.bump,St.ver,upd,this]
  |obj=>rfl
 |obj o c=>
  cases r' with
  |slot=>rfl
  |obj o' c'=>exact(h2 _ _ rfl _ _ rfl).elim
theorem PF(st:St){μ:Nat→Nat}{r:Root}{p:Place}(h:Jj r p=false):(st.bump (r.mu μ)).ver (p.mu μ).root=st.ver (p.mu μ).root:=by
 refine Uu st _ _ ?_ ?_
 ·intro t j e j' e'
  cases r with
  |slot t0 j0=>
   have e1:t0=t:=by simpa[Root.mu]using congrArg (fun r=>match r with|Root.slot t _=>t|_=>0) e
   subst e1;have:Ef t0 p=false:=h
   cases hr:p.root with
   |slot t1 j1=>
    simp only[Place.mu,hr,Root.mu,Root.slot.injEq]at e';rw[Eg.2 ⟨j1,by rw[hr,e'.1]⟩]at this;cases this
   |obj b c=>simp[Place.mu,hr,Root.mu]at e'
  |obj b c=>cases e
 ·intro t j e j' c' e'
  cases r with
  |slot t0 j0=>cases e
  |obj b c=>
   have:QV p=false:=h
   cases hr:p.root with
   |slot t1 j1=>simp[Place.mu,hr,Root.mu]at e'
   |obj b' c2=>rw[G3.2 ⟨b',c2,hr⟩]at this;cases this
theorem AbC{r:Root}{p:Place}(h:p.root=r):Jj r p=true:=by
 cases r with
 |slot t j=>exact Eg.2 ⟨j,h⟩
 |obj b c=>exact G3.2 ⟨b,c,h⟩
section
variable{μ:Nat→Nat}{F Γ Γ':TS}{st:St}{qr qa:Place→Bool}
theorem Q6(hss:∀t,(look F.sl t).isSome=true→look Γ.sl t=none){r:Root}{d:TC}(hu:E5 F Γ qr qa r d=some Γ'){c:TC}(hc:Cy F Γ' r=some c):c=d:=by
 cases r with
 |slot t j=>
  simp only[E5]at hu;split at hu
  case h_2=>cases hu
  rename_i v hs;simp only[Cy,LF hu hss,AR,if_true]at hc
  cases v with
  |one c0=>
   cases j with
   |zero=>simpa[TSV.sift,TSV.Xr,TSV.cells]using hc.symm
   |succ j=>simp[TSV.sift,TSV.Xr,TSV.cells]at hc
  |agg l=>
   simp only[TSV.sift,TSV.Xr,TSV.cells]at hc;rw[Qc5]at hc;simp only[if_true]at hc;split at hc
   ·exact(Qc3 hc).symm
   ·cases hc
  |clo f l=>simp[TSV.sift,TSV.Xr,TSV.cells]at hc
 |obj b0 c0=>
  simp only[E5]at hu;split at hu
  case h_2=>cases hu
  simp only[Cy,FL hu,AR,if_true,Qa0]at hc;rw[Qc5]at hc;simp only[if_true]at hc;split at hc
  ·exact(Qc3 hc).symm
  ·cases hc
theorem AdV(hss:∀t,(look F.sl t).isSome=true→look Γ.sl t=none){r:Root}{d:TC}(hu:E5 F Γ qr qa r d=some Γ'){p:Place}{n:Nat}(hp:p.root=r→lnT F Γ p=some n)(hn:lnT F Γ' p=some n):lnT F Γ p=some n:=by
 by_cases hpr:p.root=r
 ·exact hp hpr
 cases r with
 |slot t j=>
  simp only[E5]at hu;split at hu
  case h_2=>cases hu
  rename_i v hs
  cases hr:p.root with
  |obj b c=>exact H3 hu hss (fun t' j' e=>by rw[hr]at e;cases e) (fun _ _ _=>rfl) hn
  |slot t' j'=>
   by_cases ht:t'=t
   ·subst ht
    have hj:j≠j':=by rintro rfl;exact hpr hr
    unfold lnT atT at hn⊢;rw[hr]at hn⊢;simp only[Cy,LF hu hss,AR,if_true,hs]at hn⊢
    have e:((v.sift qr qa CA).Xr j d).cells[j']?=(v.sift qr qa CA).cells[j']?:=by
     cases v with
     |one c0=>
      cases j with
      |zero=>cases j' with
       |zero=>exact(hj rfl).elim
       |succ j'=>rfl
      |succ j=>rfl
     |agg l=>simp only[TSV.sift,TSV.Xr,TSV.cells];rw[Qb9 hj]
     |clo f l=>rfl
    rw[e]at hn
    cases hc:(v.sift qr qa CA).cells[j']?with
    |none=>rw[hc]at hn;simp at hn
    |some c0=>
     rw[hc,Qa0]at hn;obtain⟨d0,h1,rfl⟩:=PK v j' hc;rw[h1,Qa0];exact d0.Jq p.path n hn
   ·refine H3 hu hss (fun t'' j'' e=>?_) (fun _ _ _=>rfl) hn;rw[hr]at e;cases e;rw[AR,if_neg (Ne.symm ht)]
 |obj b0 c0=>
  simp only[E5]at hu;split at hu
  case h_2=>cases hu
  rename_i l hs
  cases hr:p.root with
  |slot b c=>exact H3 hu hss (fun _ _ _=>rfl) (fun t' j' e=>by rw[hr]at e;cases e) hn
  |obj t' j'=>
   by_cases ht:t'=b0
   ·subst ht
    have hj:c0≠j':=by rintro rfl;exact hpr hr
    unfold lnT atT at hn⊢;rw[hr]at hn⊢;simp only[Cy,FL hu,AR,if_true,hs,Qa0]at hn⊢;rw[Qb9 hj,Qb5]at hn
    cases hc:l[j']?with
    |none=>rw[hc]at hn;simp at hn
    |some d0=>
     rw[hc]at hn;simp only[Qb7,Qa0]at hn⊢;exact d0.Jq p.path n hn
   ·refine H3 hu hss (fun _ _ _=>rfl) (fun t'' j'' e=>?_) hn;rw[hr]at e;cases e;rw[AR,if_neg (Ne.symm ht)]
theorem AhE{ver:Root→Nat}{ln ln':Place→Option Nat}(hl:∀p n,ln' p=some n→ln p=some n){c:TC}{a:AV}(h:c.av μ ver ln a):c.av μ ver ln' a:=by
 cases c with
 |ref p tt e w=>
  cases w with
  |none=>obtain⟨m,h1,h2⟩:=h;exact⟨m,h1,fun n hn=>h2 n (hl p n hn)⟩
  |some x=>exact h
 |_=>exact h
theorem Ur{ver:Root→Nat}{ln ln':Place→Option Nat}(hl:∀p n,ln' p=some n→ln p=some n):∀{l:List TC} {k:List AV},avs μ ver ln l k→avs μ ver ln' l k
 |[],[],_=>trivial
 |c::l,a::k,h=>⟨AhE hl h.1,Ur hl h.2⟩
 |[],_::_,h=>h.elim
 |_::_,[],h=>h.elim
theorem Sm{rs:List Root}{v0:Root→Nat}{mem:Bool}(h:Sim μ F Γ (st.bumps rs)){c c':TC}{a:AV}(ha:c.av μ v0 (lnT F Γ) a)(hx:(Wa F mem Γ c).ok (c',Γ')):
  (st.EV v0 mem a).holds fun(b,st',rs')=>c'.av μ v0 (lnT F Γ') b∧Sim μ F Γ' (st'.bumps (rs++rs'))∧∀p n,lnT F Γ' p=some n→lnT F Γ p=some n:=by
 have same:(st.EV v0 mem a=pure (a,st,[]))→c'=c→Γ'=Γ→(st.EV v0 mem a).holds fun(b,st',rs')=>c'.av μ v0 (lnT F Γ') b∧Sim μ F Γ' (st'.bumps (rs++rs'))∧∀p n,lnT F Γ' p=some n→lnT F Γ p=some n:=by
  rintro e rfl rfl;rw[e];exact M.Ab ⟨ha,by simpa using h,fun _ _ h=>h⟩
 cases c with
 |ref p tt0 e w=>
  simp only[Wa]at hx;split at hx
  case h_2=>exact(R.Ae.1 hx).elim
  rename_i tt' e' l hp hr;split at hx
  case isFalse=>exact(R.Ae.1 hx).elim
  rename_i hk
  have hat:(atT F Γ p)=some (.sl .own tt' e' l):=by simp[atT,hr,hp,TC.atS]
  have hln:lnT F Γ p=some l.length:=by simp[lnT,hat,TC.len?]
  obtain⟨b0,hb0,hbv⟩:=VR h hr;have hbv:b0=_:=hbv;subst hbv
  have hroot:st.root (p.root.mu μ)=some (.sl .own e'.size (l.map (e'.enc tt'))):=by
   rw[←hb0];have:=BA st rs
   cases p.root with
   |slot t j=>simp[Root.mu,St.root,this.1]
   |obj b c=>simp[Root.mu,St.root,this.2]
  have hstat:st.at (p.mu μ)=some (.sl .own e'.size (l.map (e'.enc tt'))):=by
   simp only[St.at,Place.mu,hroot,hp,Qa0];rfl
  have hput:st.putAt (p.mu μ) .dead=st.Ap (p.root.mu μ) .dead:=by
   simp only[St.putAt,Place.mu,hroot,hp,AV.put]
  have fin:∀{Γ2:TS},E5 F Γ (Jj p.root) (Jj p.root) p.root .dead=some Γ2→Sim μ F Γ2 ((st.putAt (p.mu μ) .dead).bumps (rs++[p.root.mu μ]))∧∀q n,lnT F Γ2 q=some n→lnT F Γ q=some n:=by
   intro Γ2 hu
   have dead:∀q:Place,q.root=p.root→lnT F Γ2 q=none:=by
    intro q hq;unfold lnT atT;rw[hq]
    cases hc:Cy F Γ2 p.root with
    |none=>rfl
    |some c=>
     have:=Q6 h.ss hu hc;subst this
     cases q.path<;>simp[TC.atS,TC.len?]
   refine⟨?_,?_⟩
   ·refine SZ h hu hr (b:=.dead) ?_ ?_ ?_ ?_ ?_ trivial (.inl rfl)
    ·rw[(BA _ _).1,hput];exact(NI (BA st rs).1.symm (BA st rs).2.symm _ _).1
    ·rw[(BA _ _).2,hput];exact(NI (BA st rs).1.symm (BA st rs).2.symm _ _).2
    ·intro q hq;rw[LZ,hput];have e1:=Nd rs (D3 st (p.root.mu μ) .dead).1 (D3 st (p.root.mu μ) .dead).2;rw[show(((st.Ap (p.root.mu μ) .dead).bumps rs).bumps [p.root.mu μ])=((st.Ap (p.root.mu μ) .dead).bumps rs).bump (p.root.mu μ)from rfl,PF _ hq];exact Ev e1.1 e1.2 _
    ·intro q hq;rw[LZ,hput];have e1:=Nd rs (D3 st (p.root.mu μ) .dead).1 (D3 st (p.root.mu μ) .dead).2;rw[show(((st.Ap (p.root.mu μ) .dead).bumps rs).bumps [p.root.mu μ])=((st.Ap (p.root.mu μ) .dead).bumps rs).bump (p.root.mu μ)from rfl,PF _ hq];exact Ev e1.1 e1.2 _
    ·intro q hq hqr n hn;rw[dead q hqr]at hn;cases hn
   ·intro q n hn;refine AdV h.ss hu (fun hq=>?_) hn;rw[dead q hq]at hn;cases hn
  cases w with
  |none=>
   have ha:a=_:=NF ha hln;subst ha;dsimp only at hx;rw[R.Ah]at hx;obtain⟨Γ2,h1,hx⟩:=hx;have h1:=R.Cd.1 h1;have:=R.Ai.1 hx;cases this;obtain⟨f1,f2⟩:=fin h1;simp only[St.EV,hstat,M.Aa,M.Aj];refine⟨trivial,hk,by simp,M.Ab ⟨?_,f1,f2⟩⟩;show AV.sl .own _ _=_;rw[hk];unfold window;simp
  |some y=>
   obtain⟨lo,n⟩:=y;have ha:a=_:=ha;subst ha;dsimp only at hx;rw[R.Ah]at hx;obtain⟨_,h0,hx⟩:=hx;have h0:=R.HE.1 h0;rw[R.Ah]at hx;obtain⟨Γ2,h1,hx⟩:=hx;have h1:=R.Cd.1 h1;have:=R.Ai.1 hx;cases this;obtain⟨f1,f2⟩:=fin h1;simp only[St.EV,hstat,M.Aa,M.Aj];refine⟨trivial,hk,by simpa using h0,M.Ab ⟨?_,f1,f2⟩⟩;show AV.sl .own _ _=_;rw[hk]
   unfold window;split
   ·rename_i he;obtain⟨h3,h4⟩:=he;subst h3;simp only[Qc4]at h4;subst h4;simp
   ·simp
 |adr p tt e i c=>exact(R.Ae.1 hx).elim
 |iadr tt e l i c=>
  have ha:a=_:=ha;subst ha
  cases mem with
  |true=>exact(R.Ae.1 hx).elim
  |false=>have:=R.Ai.1 hx;cases this;exact same rfl rfl rfl
 |iadrd tt e l i c n j=>
  have ha:a=_:=ha;subst ha
  cases mem with
  |true=>exact(R.Ae.1 hx).elim
  |false=>have:=R.Ai.1 hx;cases this;exact same rfl rfl rfl
 |dead=>exact(R.Ae.1 hx).elim
 |sl τ tt e l=>
  have ha:a=_:=ha;subst ha
  cases τ with
  |own=>exact(R.Ae.1 hx).elim
  |imm=>have:=R.Ai.1 hx;cases this;exact same rfl rfl rfl
  |brw=>have:=R.Ai.1 hx;cases this;exact same rfl rfl rfl
 |_=>
  have ha:a=_:=ha;subst ha;have:=R.Ai.1 hx;cases this;exact same rfl rfl rfl
theorem PX{v0:Root→Nat}{mem:Bool}:∀{l l':List TC} {as:List AV} {rs:List Root} {st:St} {Γ Γ':TS},Sim μ F Γ (st.bumps rs)→avs μ v0 (lnT F Γ) l as→(PW F mem Γ l).ok (l',Γ')→
  (st.CL v0 mem as).holds fun(bs,st',rs')=>avs μ v0 (lnT F Γ') l' bs∧Sim μ F Γ' (st'.bumps (rs++rs'))∧(∀p n,lnT F Γ' p=some n→lnT F Γ p=some n)∧bs.length=as.length
 |[],l',[],rs,st,Γ,Γ',h,ha,hx=>by
  have:=R.Ai.1 hx;cases this;simp only[St.CL];exact M.Ab ⟨trivial,by simpa using h,fun _ _ h=>h,rfl⟩
 |c::l,l',a::as,rs,st,Γ,Γ',h,ha,hx=>by
  simp only[PW]at hx;rw[R.Ah]at hx;obtain⟨⟨d,Γ1⟩,h1,hx⟩:=hx;rw[R.Ah]at hx;obtain⟨⟨m,Γ2⟩,h2,hx⟩:=hx;have:=R.Ai.1 hx;cases this;simp only[St.CL,M.Aa];refine M.Af (Sm h ha.1 h1) ?_;rintro⟨b,st1,rs1⟩ ⟨k1,k2,k3⟩;refine M.Af (PX k2 (Ur k3 ha.2) h2) ?_;rintro⟨bs,st2,rs2⟩ ⟨m1,m2,m3,m4⟩
  exact M.Ab ⟨⟨AhE m3 k1,m1⟩,by rw[←List.append_assoc];exact m2,fun p n hn=>k3 p n (m3 p n hn),by simp[m4]⟩
 |[],_,_::_,_,_,_,_,_,h,_=>h.elim
 |_::_,_,[],_,_,_,_,_,h,_=>h.elim
def TSV.Jr:TSV→Bool
 |.one c=>c.A5
 |.agg l=>l.all TC.A5
 |.clo _ l=>l.all TC.A5
theorem NU{mem:Bool}{c c':TC}(hx:(Wa F mem Γ c).ok (c',Γ')):c'.A5=true:=by
 cases c with
 |ref p tt0 e w=>
  simp only[Wa]at hx;split at hx
  case h_2=>exact(R.Ae.1 hx).elim
  split at hx
  case isFalse=>exact(R.Ae.1 hx).elim
  cases w with
  |none=>
   dsimp only at hx;rw[R.Ah]at hx;obtain⟨Γ2,h1,hx⟩:=hx;have:=R.Ai.1 hx;cases this;rfl
  |some y=>
   obtain⟨lo,n⟩:=y;dsimp only at hx;rw[R.Ah]at hx;obtain⟨_,h0,hx⟩:=hx;rw[R.Ah]at hx;obtain⟨Γ2,h1,hx⟩:=hx;have:=R.Ai.1 hx;cases this;rfl
 |adr p tt e i c=>exact(R.Ae.1 hx).elim
 |iadr tt e l i c=>
  cases mem with
  |true=>exact(R.Ae.1 hx).elim
  |false=>have:=R.Ai.1 hx;cases this;rfl
 |iadrd tt e l i c n j=>
  cases mem with
  |true=>exact(R.Ae.1 hx).elim
  |false=>have:=R.Ai.1 hx;cases this;rfl
 |dead=>exact(R.Ae.1 hx).elim
 |sl τ tt e l=>
  cases τ with
  |own=>exact(R.Ae.1 hx).elim
  |imm=>have:=R.Ai.1 hx;cases this;rfl
  |brw=>have:=R.Ai.1 hx;cases this;rfl
 |_=>
  have:=R.Ai.1 hx;cases this;rfl
theorem Mx{mem:Bool}:∀{l l':List TC} {Γ Γ':TS},(PW F mem Γ l).ok (l',Γ')→l'.all TC.A5=true
 |[],l',Γ,Γ',hx=>by
  have:=R.Ai.1 hx;cases this;rfl
 |c::l,l',Γ,Γ',hx=>by
  simp only[PW]at hx;rw[R.Ah]at hx;obtain⟨⟨d,Γ1⟩,h1,hx⟩:=hx;rw[R.Ah]at hx;obtain⟨⟨m,Γ2⟩,h2,hx⟩:=hx;have:=R.Ai.1 hx;cases this;simp[NU h1,Mx h2]
theorem LC{ver ver':Root→Nat}{ln ln':Place→Option Nat}{c:TC}(hs:c.A5=true){a:AV}(h:c.av μ ver ln a):c.av μ ver' ln' a:=by
 cases c with
 |ref=>cases hs
 |adr=>cases hs
 |_=>exact h
theorem E6{ver ver':Root→Nat}{ln ln':Place→Option Nat}:∀{l:List TC},l.all TC.A5=true→∀{k:List AV},avs μ ver ln l k→avs μ ver' ln' l k
 |[],_,[],_=>trivial
 |c::l,hs,a::k,h=>by
  simp only[Qa5,Qa2]at hs;exact⟨LC hs.1 h.1,E6 hs.2 h.2⟩
 |[],_,_::_,h=>h.elim
 |_::_,_,[],h=>h.elim
theorem Rf{ver ver':Root→Nat}{ln ln':Place→Option Nat}{v:TSV}(hs:v.Jr=true){s:SV}(h:v.sv μ ver ln s):v.sv μ ver' ln' s:=by
 cases v with
 |one c=>obtain⟨a,e,h⟩:=h;exact⟨a,e,LC hs h⟩
 |agg l=>obtain⟨a,e,h⟩:=h;exact⟨a,e,E6 hs h⟩
 |clo f l=>obtain⟨a,e,h⟩:=h;exact⟨a,e,E6 hs h⟩
theorem LD(h:Sim μ F Γ st){mem:Bool}{x:Opd}{v:TSV}(hx:(Rk F Γ mem x).ok (v,Γ')):
  v.Jr=true∧(st.take mem x).holds fun(s,st')=>v.sv μ st'.ver (lnT F Γ') s∧Sim μ F Γ' st':=by
 unfold Rk at hx;rw[R.Ah]at hx;obtain⟨v0,h1,hx⟩:=hx;have hu:=FM h (b:=true) (fun _=>rfl) h1
 cases v0 with
 |one c=>
  dsimp only at hx;rw[R.Ah]at hx;obtain⟨⟨d,Γ2⟩,h2,hx⟩:=hx;have:=R.Ai.1 hx;cases this;have hs:=NU h2;refine⟨hs,?_⟩;simp only[St.take,M.Aa];refine M.Af hu ?_;rintro _ ⟨a,rfl,ha⟩;simp only[SV.cells,St.CL,M.Aa];have h0:Sim μ F Γ (st.bumps []):=h;refine M.Af (Sm h0 ha h2) ?_;rintro⟨b,st1,rs1⟩ ⟨k1,k2,k3⟩;refine M.Ab (M.Ab (M.Ab ?_))
  simp only[List.append_nil,SV.with,List.headD];exact⟨⟨b,rfl,LC hs k1⟩,k2⟩
 |agg l=>
  dsimp only at hx;rw[R.Ah]at hx;obtain⟨⟨d,Γ2⟩,h2,hx⟩:=hx;have:=R.Ai.1 hx;cases this;have hs:=Mx h2;refine⟨hs,?_⟩;simp only[St.take,M.Aa];refine M.Af hu ?_;rintro _ ⟨a,rfl,ha⟩;have h0:Sim μ F Γ (st.bumps []):=h;refine M.Af (PX h0 ha h2) ?_;rintro⟨b,st1,rs1⟩ ⟨k1,k2,k3,k4⟩;refine M.Ab ?_;exact⟨⟨b,rfl,E6 hs k1⟩,k2⟩
 |clo f l=>
  dsimp only at hx
  cases hs:l.all TC.A5 with
  |false=>rw[hs]at hx;exact(R.Ae.1 hx).elim
  |true=>
   rw[hs]at hx;have:=R.Ai.1 hx;cases this;refine⟨hs,?_⟩;simp only[St.take,M.Aa];refine M.Af hu ?_;rintro _ ⟨k,rfl,ha⟩;simp only[SV.cells,St.CL,St.EV,M.Aa];refine M.Ab (M.Ab (M.Ab (M.Ab ?_)));exact⟨⟨k,rfl,ha⟩,h⟩
end
end Go.VS
namespace Go.VS
mutual
theorem Co.trans:∀{a b:AV},Co a b→∀{c:AV},Co b c→Co a c
 |_,_,.refl _,_,h=>h
 |_,_,.nil τ k,_,h=>by
  cases h with
  |refl=>exact .nil τ k
  |sl _ τ' _ _ ys _ hl=>cases hl;exact .nil τ' k
 |_,_,.sl τ τ' k xs ys ht hl,_,h=>by
  cases h with
  |refl=>exact .sl τ τ' k xs ys ht hl
  |sl _ τ2 _ _ zs ht2 hl2=>
   refine .sl τ τ2 k xs zs ?_ (CP.trans hl hl2)
   rcases ht with rfl|⟨rfl,rfl⟩
   ·exact ht2
   ·rcases ht2 with h|⟨h,_⟩
    ·exact .inr ⟨rfl,h.symm⟩
    ·cases h
theorem CoL.trans:∀{a b:List AV},CoL a b→∀{c:List AV},CoL b c→CoL a c
 |_,_,.nil,_,h=>h
 |_,_,.cons _ _ _ _ h t,_,h2=>by
  cases h2 with
  |cons _ c _ n h' t'=>exact .cons _ _ _ _ (Co.trans h h') (CoL.trans t t')
theorem CP.trans:∀{a b:List (List AV)},CP a b→∀{c:List (List AV)},CP b c→CP a c
 |_,_,.nil,_,h=>h
 |_,_,.cons _ _ _ _ h t,_,h2=>by
  cases h2 with
  |cons _ c _ n h' t'=>exact .cons _ _ _ _ (CoL.trans h h') (CP.trans t t')
end
theorem CoL.set{l m:List AV}(h:CoL l m)(j:Nat){a b:AV}(hab:Co a b):CoL (l.set j a) (m.set j b):=by
 induction l generalizing m j with
 |nil=>cases h;exact .nil
 |cons c l ih=>
  cases h with
  |cons _ d _ m h t=>
   cases j with
   |zero=>exact .cons _ _ _ _ hab t
   |succ j=>exact .cons _ _ _ _ h (ih t j)
theorem CP.set{l m:List (List AV)}(h:CP l m)(j:Nat){a b:List AV}(hab:CoL a b):CP (l.set j a) (m.set j b):=by
 induction l generalizing m j with
 |nil=>cases h;exact .nil
 |cons c l ih=>
  cases h with
  |cons _ d _ m h t=>
   cases j with
   |zero=>exact .cons _ _ _ _ hab t
   |succ j=>exact .cons _ _ _ _ h (ih t j)
theorem CP.append:∀{l m:List (List AV)},CP l m→∀{l' m':List (List AV)},CP l' m'→CP (l++l') (m++m')
 |_,_,.nil,_,_,h=>h
 |_,_,.cons a b l m h t,_,_,k=>.cons a b _ _ h (t.append k)
def SJ(e e':BT)(l:List e'.D):Option (List e.D):=if h:e'=e then some (h▸l)else none
def Aj2(e:BT)(tt:TT)(zero:List Value):Option e.D:=e.QK tt (zero.map Km)
def TT.Fa:TT→Bool
 |.leaf=>true
 |.node .own _=>false
 |.node _ _=>true
 |.pair a b=>a.Fa&&b.Fa
def Wb(F:TS)(e:BT)(tt:TT):TS→List e.D→List (Nat×Opd)→R (List e.D×TS)
 |Γ,l,[]=>pure (l,Γ)
 |Γ,l,(i,x)::r=>do
  let(v,Γ1)←Rk F Γ true x
  match v with
  |.clo _ _=>R.fail
  |v=>do
   let y←R.Dz (e.QK tt v.cells)
   Wb F e tt Γ1 (l.set i y) r
def AmV(Γ:TS)(e:BT)(tt:TT)(k:Nat):Option (Nat×Nat)→TC→R (List e.D×TS)
 |none,.sl .own tt2 e2 l2=>if tt2.co tt∧tt2.Fa∧k=e.size then(do
   let l'←R.Dz (SJ e e2 l2)
   pure (l',Γ))
  else R.fail
 |some (lo,n),.sl .own tt2 e2 l2=>if tt2.co tt∧tt2.Fa∧k=e.size then(do
   let l'←R.Dz (SJ e e2 l2)
   R.need (lo+n≤l'.length)
   pure ((l'.drop lo).take n,Γ))
  else R.fail
 |_,_=>R.fail
def AmU(F Γ:TS)(e:BT)(tt:TT)(m:Nat):TC→R (List e.D×TS)
 |.sl .own tt' e' l=>if tt'.co tt then(do
   let l'←R.Dz (SJ e e' l)
   let Γ'←Jp F Γ m .gone
   pure (l',Γ'))
  else R.fail
 |.sl _ tt' e' l=>if tt'.co tt then(do
   let l'←R.Dz (SJ e e' l)
   pure (l',Γ))
  else R.fail
 |.nil=>pure ([],Γ)
 |.ref p _ e' w=>do
  let d←atR F Γ p
  AmV Γ e tt e'.size w d
 |_=>R.fail
def AmW(F Γ:TS)(e:BT)(tt:TT):Opd→R (List e.D×TS)
 |.c (.slice none 0 0)=>pure ([],Γ)
 |.t m=>match TS.slot F Γ m with
  |some (.val [] (.one c))=>AmU F Γ e tt m c
  |_=>R.fail
 |_=>R.fail
def AhL(e:BT)(tt:TT):TSV→R (List e.D)
 |.one (.sl .own tt' e' l)=>if tt'.co tt then R.Dz (SJ e e' l)else R.fail
 |.one .nil=>pure []
 |_=>R.fail
def ownish:TC→Bool
 |.sl .own _ _ _=>true
 |.dead=>true
 |_=>false
def DR(bump:Bool)(b c n:Nat)(p:Place):Bool:=match p.root with
 |.obj b' c'=>bump||(Qb0 b' b&&(Nat.ble c c'&&Nat.blt c' (c+n)))
 |.slot ..=>false
def AcB(i:Nat)(d:TC):Nat→List TC→Option (List TC)
 |_,[]=>some []
 |j,c::l=>match c,d,AcB i d (j+1) l with
  |.int k a,.int k' b,some m=>if k=k' then some (.int k (if i=j then b else a)::m)else none
  |.str a,.str b,some m=>some (.str (if i=j then b else a)::m)
  |_,_,_=>none
def SY:TC→List Stp→TC→R TC
 |_,[],b=>pure b
 |.sl .own tt e l,s::r,b=>if s.k=e.size then(match(e.ex tt (l.getD s.i e.dflt))[s.c]?with
   |some c=>(do
    let c'←SY c r b
    let x←R.Dz (e.QK tt ((e.ex tt (l.getD s.i e.dflt)).set s.c c'))
    pure (.sl .own tt e (l.set s.i x)))
   |none=>R.fail)
  else R.fail
 |_,_,_=>R.fail
def ZQ(bump:Bool)(r:Root)(p:Place):Bool:=Jj r p&&(bump||deep p)
def V4(F Γ:TS)(n:Nat)(cells:List TC)(p:Place)(k i c:Nat):TC→R TS
 |.sl .own tt e l=>if e.size=k∧c+n≤k then(do
   R.need (i<l.length)
   let x←R.Dz (e.QK tt (Tw (e.ex tt (l.getD i e.dflt)) c cells))
   let c0←R.Dz (Cy F Γ p.root)
   let c1←SY c0 p.path (.sl .own tt e (l.set i x))
   let bump:=(((e.ex tt (l.getD i e.dflt)).drop c).take n).any ownish
   R.Dz (E5 F Γ (ZQ bump p.root) (fun p'=>Jj p.root p'&&bump) p.root c1))
  else R.fail
 |_=>R.fail
def Sj(F Γ:TS)(n:Nat)(cells:List TC):TC→R TS
 |.box b c=>match TS.box F Γ b with
  |some l=>if c+n≤l.length∧cells.length=n then
    R.Dz (TS.upd F Γ (DR (((l.drop c).take n).any ownish) b c n) (DR (((l.drop c).take n).any ownish) b c n) CA []
     [(b,Tw (l.map (TC.sift (DR (((l.drop c).take n).any ownish) b c n) (DR (((l.drop c).take n).any ownish) b c n) CA)) c cells)])
   else R.fail
  |none=>R.fail
 |.boxd b c m i=>match TS.box F Γ b,cells with
  |some l,[d]=>match AcB i d 0 ((l.drop c).take m)with
   |some l2=>if c+m≤l.length∧n=1 then(do
     R.need (i<m)
     R.Dz (TS.upd F Γ (DR false b c m) (DR false b c m) CA [] [(b,Tw (l.map (TC.sift (DR false b c m) (DR false b c m) CA)) c l2)]))
    else R.fail
   |none=>R.fail
  |_,_=>R.fail
 |.adr p _ e i c=>if cells.length=n then(do
   let d←atR F Γ p
   V4 F Γ n cells p e.size i c d)
  else R.fail
 |_=>R.fail
def Jh(d B:Nat)(p:Place):Bool:=Ef d p||AbB B p
def Ac4(F Γ:TS)(d B:Nat)(cells:List TC):R TS:=
 bif cells.all TC.A5&&!(cells.any (TC.hit (Jh d B) (Jh d B) (Qb0 B)))then R.Dz (TS.upd F Γ (Jh d B) (Jh d B) (Qb0 B) [(d,.val [] (.one (.box B 0)))] [(B,cells)])
 else R.fail
def YT(F Γ:TS)(d:Nat)(cells:List TC):R TS:=Ac4 F Γ d (d+rbase) cells
def TC.husk:TC→TC
 |.sl .own _ _ _=>.dead
 |c=>c
def TSV.husk:TSV→TSV
 |.one c=>.one c.husk
 |.agg l=>.agg (l.map TC.husk)
 |v=>v
def TC.known:TC→Bool
 |.dead=>false
 |.ref ..=>false
 |.adr ..=>false
 |_=>true
def TSV.known:TSV→Bool
 |.one c=>c.known
 |.agg l=>l.all TC.known
 |.clo _ l=>l.all TC.known
def Ajp(F Γ:TS)(x:Opd):R (TSV×TS):=do
 let v←P0 F Γ [] x
 match v with
 |.one (.adr p tt e i c)=>pure (.one (.adr p tt e i c),Γ)
 |_=>Rk F Γ false x
def MK(F Γ:TS)(dst:Option Nat)(ty:Option (BT×TT)):AOp→R TS
 |.asg x=>match dst with
  |some d=>do
   let(v,Γ1)←Ajp F Γ x
   Jp F Γ1 d (.val [] v)
  |none=>R.fail
 |.alloc zero=>match dst with
  |some d=>YT F Γ d (zero.map Km)
  |none=>R.fail
 |.box x=>match dst with
  |some d=>do
   let(v,Γ1)←Rk F Γ true x
   match v with
   |.clo _ _=>R.fail
   |v=>YT F Γ1 d v.cells
  |none=>R.fail
 |.buildSl k zero len parts=>match dst,ty with
  |some d,some (e,tt)=>if e.size=k then(do
    let z←R.Dz (Aj2 e tt zero)
    let(l,Γ1)←Wb F e tt Γ (Qd1 len z) parts
    Jp F Γ1 d (.val [] (.one (.sl .own tt e l))))
   else R.fail
  |_,_=>R.fail
 |.mkSl k bytes zero l c=>match dst,ty with
  |some d,some (e,tt)=>if e.size=k∧0<bytes then(do
    let l←Aaa F Γ [] l
    let c←Aaa F Γ [] c
    let z←R.Dz (Aj2 e tt zero)
    R.need (0≤l∧l≤c∧bytes*c≤281474976710656)
    Jp F Γ d (.val [] (.one (.sl .own tt e (Qd1 l.toNat z)))))
   else R.fail
  |_,_=>R.fail
 |.store n a x=>do
  let(v,Γ1)←Rk F Γ true x
  match v with
  |.clo _ _=>R.fail
  |v=>do
   let c←IC F Γ1 [] a
   Sj F Γ1 n v.cells c
 |.app k bytes s x=>match dst,ty with
  |some d,some (e,tt)=>if e.size=k∧0<bytes then(do
    let(ys,Γ1)←AmW F Γ e tt x
    let(v,Γ2)←Rk F Γ1 false s
    let xs←AhL e tt v
    R.need ((xs.length+ys.length)*bytes≤140737488355328)
    Jp F Γ2 d (.val [] (.one (.sl .own tt e (xs++ys)))))
   else R.fail
  |_,_=>R.fail
 |.ext x i=>match x,dst with
  |.t n,some d=>match TS.slot F Γ n with
   |some (.tup l)=>match l[i]?with
    |some v=>if v.known then(do
      let Γ1←Jp F Γ n (.tup (l.set i v.husk))
      Jp F Γ1 d (.val [] v))
     else R.fail
    |none=>R.fail
   |_=>R.fail
  |_,_=>R.fail
 |_=>R.fail
def DZ(n:Nat)(μ μ':Nat→Nat):Prop:=(∀b,b<rbase→μ' b=μ b)∧∀b,μ' b=μ b∨n≤μ' b
theorem DZ.refl(n:Nat)(μ:Nat→Nat):DZ n μ μ:=⟨fun _ _=>rfl,fun _=>.inl rfl⟩
theorem DZ.trans{n n':Nat}{μ μ' μ'':Nat→Nat}(h:DZ n μ μ')(k:DZ n' μ' μ'')(hn:n≤n'):DZ n μ μ'':=by
 refine⟨fun b hb=>by rw[k.1 b hb,h.1 b hb],fun b=>?_⟩
 rcases k.2 b with e|e
 ·rw[e];exact h.2 b
 ·exact .inr (Nat.le_trans hn e)
def WOk(μ:Nat→Nat)(n:Nat)(F Γ:TS)(st:St):Prop:=∃μ' st',Dw st st'∧Sim μ' F Γ st'∧DZ n μ μ'
theorem Dw.refl(st:St):Dw st st:=⟨fun _=>.refl _,fun o=>by cases h:st.hp.get o with|none=>exact .inl ⟨rfl,rfl⟩|some l=>exact .inr ⟨l,l,rfl,rfl,CoL.refl l⟩,rfl,rfl,rfl⟩
theorem Dw.set{st:St}{t:Nat}{y y':TV}(h:CoT y y'):Dw (st.set t y) (st.set t y'):=by
 refine⟨fun t'=>?_,(Dw.refl st).hp,rfl,rfl,rfl⟩;simp only[St.set,upd];split
 ·exact h
 ·exact .refl _
theorem I6{e e':BT}{l:List e'.D}{m:List e.D}(h:SJ e e' l=some m):∃he:e'=e,m=he▸l:=by
 unfold SJ at h;split at h
 ·rename_i he;exact⟨he,(Qc3 h).symm⟩
 ·cases h
section
variable{μ:Nat→Nat}{ver:Root→Nat}{ln:Place→Option Nat}{F Γ Γ':TS}{st:St}
theorem Qv{v:TSV}(hv:∀f l,v≠.clo f l){s:SV}(h:v.sv μ ver ln s):avs μ ver ln v.cells s.cells:=by
 cases v with
 |one c=>obtain⟨a,rfl,ha⟩:=h;exact⟨ha,trivial⟩
 |agg l=>obtain⟨k,rfl,ha⟩:=h;exact ha
 |clo f l=>exact(hv f l rfl).elim
theorem AfB{e:BT}{tt:TT}{zero:List Value}{z:e.D}(h:Aj2 e tt zero=some z):CoL (zero.map .lit) (e.enc tt z):=by
 have hz:∀zs:List Value,avs (fun n=>n) (fun _=>0) (fun _=>none) (zs.map Km) (zs.map .lit):=by
  intro zs
  induction zs with
  |nil=>exact trivial
  |cons z zs ih=>exact⟨Lt z,ih⟩
 exact Fx h (hz zero)
theorem ZP{α:Type}(f:α→List AV){x:List AV}{z:α}(h:CoL x (f z)):∀n,CP (Qd1 n x) ((Qd1 n z).map f)
 |0=>.nil
 |n+1=>.cons _ _ _ _ h (ZP f h n)
theorem Vq{α β:Type}(f:α→β)(l:List α)(i:Nat)(y:α):(l.set i y).map f=(l.map f).set i (f y):=List.map_set
theorem Wc{e:BT}{tt:TT}:∀{parts:List (Nat×Opd)} {l l':List e.D} {xs:List (List AV)} {st:St} {Γ Γ':TS},Sim μ F Γ st→CP xs (l.map (e.enc tt))→(Wb F e tt Γ l parts).ok (l',Γ')→
  (E7 st e.size xs parts).holds fun(xs',st')=>CP xs' (l'.map (e.enc tt))∧Sim μ F Γ' st'
 |[],l,l',xs,st,Γ,Γ',h,hc,hx=>by
  have:=R.Ai.1 hx;cases this;exact M.Ab ⟨hc,h⟩
 |(i,x)::r,l,l',xs,st,Γ,Γ',h,hc,hx=>by
  simp only[Wb]at hx;rw[R.Ah]at hx;obtain⟨⟨v,Γ1⟩,h1,hx⟩:=hx;obtain⟨hs,h2⟩:=LD h h1
  have hv:∀f l,v≠.clo f l:=by rintro f l rfl;exact R.Ae.1 hx
  have hx:(do
   let y←R.Dz (e.QK tt v.cells)
   Wb F e tt Γ1 (l.set i y) r:R (List e.D×TS)).ok (l',Γ'):=by cases v<;>first|exact hx|exact(hv _ _ rfl).elim
  rw[R.Ah]at hx;obtain⟨y,h3,hx⟩:=hx;have h3:=R.Cd.1 h3;simp only[E7,M.Aa];refine M.Af h2 ?_;rintro⟨s,st1⟩ ⟨k1,k2⟩;have k3:=Fx h3 (Qv hv k1)
  have hlen:s.cells.length=e.size:=by rw[k3.length,Dr]
  rw[if_pos hlen];refine Wc k2 ?_ hx;rw[Vq];exact hc.set i k3
theorem N8:∀(t:BT) (tt:TT) (_:tt.Fa=true) (x:t.D),(t.enc tt x).any AV.B3=false
 |.int _,_,_,_=>rfl
 |.bool,_,_,_=>rfl
 |.str,_,_,_=>rfl
 |.unit,_,_,_=>rfl
 |.sl e,tt,h,l=>by
  cases tt with
  |leaf=>rfl
  |node τ a=>cases τ<;>first|rfl|cases h
  |pair a b=>rfl
 |.pair a b,tt,h,x=>by
  have h1:tt.fst.Fa=true∧tt.snd.Fa=true:=by
   cases tt with
   |leaf=>exact⟨rfl,rfl⟩
   |node τ a=>exact⟨rfl,rfl⟩
   |pair a b=>simpa[TT.Fa,TT.fst,TT.snd]using h
  simp only[BT.enc,List.any_append,N8 a _ h1.1,N8 b _ h1.2,Qe2]
theorem Vp{e:BT}{tt tt':TT}(h:tt.co tt'=true)(l:List e.D):CP (l.map (e.enc tt)) (l.map (e.enc tt')):=CP.map (fun x=>UC e h x) l
theorem Wo{α β:Type}(f:α→β)(l:List α):window 0 l.length (l.map f)=l.map f:=by simp[window]
theorem Tc{α β:Type}(f:α→β)(l:List α)(lo n:Nat):window lo n (l.map f)=((l.drop lo).take n).map f:=by
 unfold window;split
 ·rename_i he;obtain⟨rfl,he⟩:=he;simp only[Qc4]at he;subst he;simp
 ·simp
theorem Aeh{e:BT}{tt:TT}(h:Sim μ F Γ st){x:Opd}{l:List e.D}(hx:(AmW F Γ e tt x).ok (l,Γ')):
  (st.source e.size x).holds fun(ys,st')=>CP ys (l.map (e.enc tt))∧Sim μ F Γ' st':=by
 unfold AmW at hx;split at hx
 ·have:=R.Ai.1 hx;cases this;exact M.Ab ⟨.nil,h⟩
 ·rename_i m;split at hx
  case h_2=>exact(R.Ae.1 hx).elim
  rename_i c hs;obtain⟨s,heq,a,rfl,ha⟩:=h.sl m _ hs;simp only[gv]at heq
  cases c with
  |sl τ tt' e' l0=>
   have ha:a=_:=ha;subst ha
   have shared:∀σ:Tag,σ≠.own→τ=σ→(if tt'.co tt then(do
     let l'←R.Dz (SJ e e' l0)
     pure (l',Γ))else R.fail:R (List e.D×TS)).ok (l,Γ')→(st.source e.size (.t m)).holds fun(ys,st')=>CP ys (l.map (e.enc tt))∧Sim μ F Γ' st':=by
    rintro σ hσ rfl hx;split at hx
    case isFalse=>exact(R.Ae.1 hx).elim
    rename_i hco;rw[R.Ah]at hx;obtain⟨l2,h1,hx⟩:=hx;have:=R.Ai.1 hx;cases this;obtain⟨rfl,rfl⟩:=I6 (R.Cd.1 h1);simp only[St.source,heq]
    cases τ with
    |own=>exact(hσ rfl).elim
    |_=>
     simp only[M.Aa,M.Aj];exact⟨trivial,trivial,M.Ab ⟨Vp hco _,h⟩⟩
   cases τ with
   |own=>
    simp only[AmU]at hx;split at hx
    case isFalse=>exact(R.Ae.1 hx).elim
    rename_i hco;rw[R.Ah]at hx;obtain⟨l2,h1,hx⟩:=hx;rw[R.Ah]at hx;obtain⟨Γ2,h2,hx⟩:=hx;have:=R.Ai.1 hx;cases this;obtain⟨rfl,rfl⟩:=I6 (R.Cd.1 h1);simp only[St.source,heq,M.Aa,M.Aj];exact⟨trivial,trivial,M.Ab ⟨Vp hco _,DK h h2 trivial⟩⟩
   |imm=>exact shared .imm (by simp) rfl hx
   |brw=>exact shared .brw (by simp) rfl hx
  |nil=>
   have ha:a=_:=ha;subst ha;have:=R.Ai.1 hx;cases this;simp only[St.source,heq,M.Aa,M.Aj];exact⟨trivial,M.Ab ⟨.nil,h⟩⟩
  |ref p tt0 e' w=>
   simp only[AmU]at hx;rw[R.Ah]at hx;obtain⟨d,h1,hx⟩:=hx
   cases d with
   |sl τ tt2 e2 l2=>
    cases τ with
    |own=>
     obtain⟨q1,q2⟩:=Kg h h1
     cases w with
     |none=>
      have ha:a=_:=NF ha q2;subst ha;simp only[AmV]at hx;split at hx
      case isFalse=>exact(R.Ae.1 hx).elim
      rename_i hco;rw[R.Ah]at hx;obtain⟨l3,h2,hx⟩:=hx;have:=R.Ai.1 hx;cases this;obtain⟨rfl,rfl⟩:=I6 (R.Cd.1 h2);simp only[St.source,heq,q1,M.Aa,M.Aj,Wo];refine⟨trivial,hco.2.2,trivial,trivial,by simp,?_,M.Ab ⟨Vp hco.1 _,h⟩⟩;intro x hx;obtain⟨y,_,rfl⟩:=List.mem_map.1 hx;exact N8 _ _ hco.2.1 y
     |some y=>
      obtain⟨lo,n⟩:=y;have ha:a=_:=ha;subst ha;simp only[AmV]at hx;split at hx
      case isFalse=>exact(R.Ae.1 hx).elim
      rename_i hco;rw[R.Ah]at hx;obtain⟨l3,h2,hx⟩:=hx;rw[R.Ah]at hx;obtain⟨_,h3,hx⟩:=hx;have h3:=R.HE.1 h3;have:=R.Ai.1 hx;cases this;obtain⟨rfl,rfl⟩:=I6 (R.Cd.1 h2);simp only[St.source,heq,q1,M.Aa,M.Aj,Tc];refine⟨trivial,hco.2.2,trivial,trivial,by simpa using h3,?_,M.Ab ⟨Vp hco.1 _,h⟩⟩;intro x hx;obtain⟨y,_,rfl⟩:=List.mem_map.1 hx
      exact N8 _ _ hco.2.1 y
    |_=>cases w with
     |none=>exact(R.Ae.1 hx).elim
     |some y=>exact(R.Ae.1 hx).elim
   |_=>cases w with
    |none=>exact(R.Ae.1 hx).elim
    |some y=>exact(R.Ae.1 hx).elim
  |_=>exact(R.Ae.1 hx).elim
 ·exact(R.Ae.1 hx).elim
theorem AhM{e:BT}{tt:TT}(h:Sim μ F Γ st){x:Opd}{v:TSV}(hx:(Rk F Γ false x).ok (v,Γ')){l:List e.D}(hb:(AhL e tt v).ok l):
  (st.base e.size x).holds fun(ys,st')=>CP ys (l.map (e.enc tt))∧Sim μ F Γ' st':=by
 obtain⟨hs,h2⟩:=LD h hx;simp only[St.base,M.Aa];refine M.Af h2 ?_;rintro⟨s,st1⟩ ⟨k1,k2⟩;unfold AhL at hb;split at hb
 ·obtain⟨a,rfl,ha⟩:=k1;have ha:a=_:=ha;subst ha;split at hb
  case isFalse=>exact(R.Ae.1 hb).elim
  rename_i hco;obtain⟨rfl,rfl⟩:=I6 (R.Cd.1 hb);simp only[M.Aa,M.Aj];exact⟨trivial,M.Ab ⟨Vp hco _,k2⟩⟩
 ·obtain⟨a,rfl,ha⟩:=k1;have ha:a=_:=ha;subst ha;have:=R.Ai.1 hb;cases this;exact M.Ab ⟨.nil,k2⟩
 ·exact(R.Ae.1 hb).elim
theorem AfF(h:Sim μ F Γ st){d B:Nat}{cells:List TC}{as:List AV}(hu:(Ac4 F Γ d B cells).ok Γ')(ha:avs μ st.ver (lnT F Γ) cells as):
  ∃μ',μ'=upd μ B st.hp.next∧Sim μ' F Γ' (St.set ⟨st.sl,st.hp.alloc as,st.vs,st.hv⟩ d (V (.ptr st.hp.next 0))):=by
 unfold Ac4 at hu
 cases hb:(cells.all TC.A5&&!(cells.any (TC.hit (Jh d B) (Jh d B) (Qb0 B))))with
 |false=>rw[hb]at hu;exact(R.Ae.1 hu).elim
 |true=>
  rw[hb]at hu;have hu:=R.Cd.1 hu;simp only[Qa2,Bool.not_eq_true']at hb;refine⟨upd μ B st.hp.next,rfl,?_⟩;generalize hst:St.set ⟨st.sl,st.hp.alloc as,st.vs,st.hv⟩ d (V (.ptr st.hp.next 0))=st'
  have esl:st'.sl=upd st.sl d (V (.ptr st.hp.next 0)):=by rw[←hst];rfl
  have ehp:st'.hp=st.hp.alloc as:=by rw[←hst];rfl
  have hmu:∀b,Qb0 B b=false→upd μ B st.hp.next b=μ b:=by
   intro b hb'
   have:b≠B:=by rintro rfl;simp at hb'
   simp[upd,this]
  have hnb:∀p,Jh d B p=false→p.mu (upd μ B st.hp.next)=p.mu μ∧st'.ver (p.mu (upd μ B st.hp.next)).root=st.ver (p.mu μ).root:=by
   intro p hp;simp only[Jh,Qa1]at hp
   have e:p.mu (upd μ B st.hp.next)=p.mu μ:=by
    cases hr:p.root with
    |slot t j=>simp[Place.mu,hr,Root.mu]
    |obj b c=>
     have:b≠B:=by rintro rfl;rw[Yg.2 ⟨c,hr⟩]at hp;cases hp.2
     simp[Place.mu,hr,Root.mu,upd,this]
   refine⟨e,?_⟩;rw[e,←hst]
   cases hr:p.root with
   |slot t j=>
    have hne:t≠d:=by rintro rfl;rw[Eg.2 ⟨j,hr⟩]at hp;cases hp.1
    simp only[Place.mu,hr,Root.mu,St.ver,St.set];split
    ·simp[upd,hne]
    ·rfl
   |obj b c=>simp only[Place.mu,hr,Root.mu,St.ver,St.set]
  have T:Tr (Jh d B) (Jh d B) (Qb0 B) μ (upd μ B st.hp.next) st.ver st'.ver (lnT F Γ) (lnT F Γ'):=by
   refine⟨hmu,fun p hp=>⟨(hnb p hp).1,(hnb p hp).2,fun n hn=>?_⟩,fun p hp=>hnb p hp⟩;simp only[Jh,Qa1]at hp;refine H3 hu h.ss (fun t j hr=>?_) (fun b c hr=>?_) hn
   ·rw[AR,if_neg];rintro rfl;rw[Eg.2 ⟨j,hr⟩]at hp;cases hp.1
   ·rw[AR,if_neg];rintro rfl;rw[Yg.2 ⟨c,hr⟩]at hp;cases hp.2
  refine h.upd hu T ?_ ?_ ?_ ?_ ?_ ?_ (by rw[ehp];exact Nat.le_succ _)
  ·intro t ht;rw[AR]at ht;split at ht
   ·cases ht
   ·rename_i hne;rw[esl];simp[upd,Ne.symm hne]
  ·intro t x hx;rw[AR]at hx;split at hx
   case isFalse=>cases hx
   rename_i ht;cases hx;subst ht;rw[esl];simp only[upd,if_true];exact⟨.one (.ptr st.hp.next 0),rfl,_,rfl,by simp[TC.av,upd]⟩
  ·intro b l hb' hl;rw[ehp];obtain⟨k,q1,q2,q3,q4⟩:=h.bx b l hl
   have:μ b≠st.hp.next:=by omega
   simp[Heap.alloc,upd,this]
  ·intro b l hb';rw[AR]at hb';split at hb'
   case isFalse=>cases hb'
   rename_i hbb;cases hb';subst hbb;refine⟨as,by rw[ehp];simp[Heap.alloc,upd],?_,by rw[ehp];simp[Heap.alloc,upd],hb.1⟩
   have:=T.avs ha
   rwa [HT hb.2]at this
  ·intro b hb';have:B=b:=Qb6 hb';subst this;simp[AR]
  ·intro b b' l l' hb' hl' he;rw[AR]at hb';split at hb'
   case isFalse=>cases hb'
   rename_i hbb;subst hbb;rw[FL hu b',AR]at hl'
   by_cases e:B=b'
   ·exact e
   ·rw[if_neg e]at hl';simp only[Qa7]at hl';obtain⟨l2,h2,_⟩:=hl';obtain⟨k,q1,q2,q3,q4⟩:=h.bx b' l2 h2;simp only[upd,if_true,if_neg (Ne.symm e)]at he;omega
theorem Un(h:Sim μ F Γ st){d:Nat}{cells:List TC}{as:List AV}(hu:(YT F Γ d cells).ok Γ')(ha:avs μ st.ver (lnT F Γ) cells as):
  WOk μ st.hp.next F Γ' (St.set ⟨st.sl,st.hp.alloc as,st.vs,st.hv⟩ d (V (.ptr st.hp.next 0))):=by
 obtain⟨μ',rfl,k⟩:=AfF h hu ha;refine⟨_,_,Dw.refl _,k,fun b hb=>?_,fun b=>?_⟩
 ·have:b≠d+rbase:=by omega
  simp[upd,this]
 ·simp only[upd];split
  ·exact .inr (Qc0 _)
  ·exact .inl rfl
theorem AdS{c:TC}(h:ownish c=false)(hs:c.A5=true){a:AV}(ha:c.av μ ver ln a):a.B3=false:=by
 cases c with
 |sl τ tt e l=>
  have ha:a=_:=ha;subst ha
  cases τ<;>first|rfl|cases h
 |dead=>cases h
 |ref=>cases hs
 |adr=>cases hs
 |_=>(have ha:a=_:=ha);subst ha;rfl
theorem PG:∀{l:List TC},l.any ownish=false→l.all TC.A5=true→∀{as:List AV},avs μ ver ln l as→as.any AV.B3=false
 |[],_,_,[],_=>rfl
 |c::l,h,hs,a::as,ha=>by
  simp only[Qb1,Qa1]at h;simp only[Qa5,Qa2]at hs;simp only[Qb1,AdS h.1 hs.1 ha.1,PG h.2 hs.2 ha.2,Qe2]
 |[],_,_,_::_,h=>h.elim
 |_::_,_,_,[],h=>h.elim
theorem VY:∀(vs l:List TC) (c j:Nat),j<c∨c+vs.length≤j→(Tw l c vs)[j]?=l[j]?
 |[],l,c,j,_=>rfl
 |v::vs,l,c,j,h=>by
  rw[Tw,VY vs _ (c+1) j (by simp at h;omega),Qb9 (by simp at h;omega)]
theorem VZ:∀(vs l:List TC) (c:Nat),l.all TC.A5=true→vs.all TC.A5=true→(Tw l c vs).all TC.A5=true
 |[],l,c,h,_=>h
 |v::vs,l,c,h,hv=>by
  simp only[Qa5,Qa2]at hv;refine VZ vs _ (c+1) ?_ hv.2;rw[Qa8]at h⊢;intro x hx
  rcases Qd4 hx with hx|rfl
  ·exact h x hx
  ·exact hv.1
theorem Qs(h:Sim μ F Γ st){b c n:Nat}{l cells:List TC}{k:List AV}{bump:Bool}(hl:TS.box F Γ b=some l)(hn:cells.length=n)(hk:st.hp.get (μ b)=some k)
  (hu:TS.upd F Γ (DR bump b c n) (DR bump b c n) CA [] [(b,Tw (l.map (TC.sift (DR bump b c n) (DR bump b c n) CA)) c cells)]=some Γ')
  (hs:cells.all TC.A5=true) {k':List AV} (hk':∀(ver':Root→Nat) (ln':Place→Option Nat),avs μ ver' ln' (l.map (TC.sift (DR bump b c n) (DR bump b c n) CA)) k→avs μ ver' ln' (Tw (l.map (TC.sift (DR bump b c n) (DR bump b c n) CA)) c cells) k')
  {st':St} (esl:st'.sl=st.sl) (ehp:st'.hp=st.hp.set (μ b) k') (evs:st'.vs=st.vs) (ehv:bump=false→st'.hv=st.hv):Sim μ F Γ' st':=by
 obtain⟨k0,q1,q2,q3,q4⟩:=h.bx b l hl;rw[hk]at q1;cases q1
 have hver:∀p,DR bump b c n p=false→st'.ver (p.mu μ).root=st.ver (p.mu μ).root:=by
  intro p hp
  cases hr:p.root with
  |slot t j=>simp only[Place.mu,hr,Root.mu,St.ver,evs]
  |obj b' c'=>
   simp only[DR,hr,Qa1]at hp;simp only[Place.mu,hr,Root.mu,St.ver,ehv hp.1]
 have T:Tr (DR bump b c n) (DR bump b c n) CA μ μ st.ver st'.ver (lnT F Γ) (lnT F Γ'):=by
  refine⟨fun _ _=>rfl,fun p hp=>⟨rfl,hver p hp,fun m hm=>?_⟩,fun p hp=>⟨rfl,hver p hp⟩⟩
  cases hr:p.root with
  |slot t j=>exact H3 hu h.ss (fun _ _ _=>rfl) (fun _ _ e=>by rw[hr]at e;cases e) hm
  |obj b' c'=>
   by_cases hb:b'=b
   ·subst hb;simp only[DR,hr,Qa1]at hp
    have hout:c'<c∨c+n≤c':=by
     have h1:=hp.2
     have e1:Qb0 b' b'=true:=by simp
     rw[e1,Qc8]at h1
     cases h2:Nat.ble c c' with
     |false=>left;exact Nat.lt_of_not_le (fun h=>by rw[←Nat.ble_eq]at h;rw[h]at h2;cases h2)
     |true=>
      rw[h2,Qc8]at h1;right
      refine Nat.le_of_not_lt fun h3=>?_
      have:Nat.blt c' (c+n)=true:=by simp[Nat.blt];omega
      rw[this]at h1;cases h1
    unfold lnT atT at hm⊢;rw[hr]at hm⊢;simp only[Cy,FL hu,AR,if_true,hl,Qa0]at hm⊢;rw[VY _ _ _ _ (by rw[hn];exact hout),Qb5]at hm
    cases hc:l[c']?with
    |none=>rw[hc]at hm;simp at hm
    |some d0=>
     rw[hc]at hm;simp only[Qb7,Qa0]at hm⊢;exact d0.Jq p.path m hm
   ·refine H3 hu h.ss (fun _ _ _=>rfl) (fun _ _ e=>?_) hm;rw[hr]at e;cases e;rw[AR,if_neg (Ne.symm hb)]
 refine h.upd hu T (fun t _=>by rw[esl]) (fun _ _ h=>nomatch h) ?_ ?_ (fun _ h=>nomatch h) ?_ (by rw[ehp];exact Qc0 _)
 ·intro b' l' hb hl';rw[AR]at hb;split at hb
  ·cases hb
  ·rename_i hne;rw[ehp]
   have:μ b'≠μ b:=fun e=>hne (h.inj b b' l l' hl hl' e.symm)
   simp[Heap.set,upd,this]
 ·intro b' l' hb;rw[AR]at hb;split at hb
  case isFalse=>cases hb
  rename_i hbb;cases hb;subst hbb;refine⟨k',by rw[ehp];simp[Heap.set,upd],hk' _ _ (T.avs q2),by rw[ehp];exact q3,?_⟩
  refine VZ _ _ _ ?_ hs;rw[Qd6,Qa8];intro x hx;exact TC.PL (List.all_eq_true.1 q4 x hx)
 ·intro b1 b' l1 l' hb hb' he;rw[AR]at hb;split at hb
  case isFalse=>cases hb
  rename_i hbb;subst hbb;rw[FL hu b',AR]at hb'
  by_cases e:b=b'
  ·exact e
  ·rw[if_neg e]at hb';simp only[Qa7]at hb';obtain⟨l2,h2,_⟩:=hb';exact h.inj _ _ _ _ hl h2 he
theorem TY{i:Nat}{d:TC}{b:AV}(hd:d.av μ ver ln b):∀{l l2:List TC} {k:List AV} (j:Nat),AcB i d j l=some l2→avs μ ver ln l k→avs μ ver ln l2 (if j≤i then k.set (i -j) b else k)∧l2.all TC.A5=true∧l2.length=l.length
 |[],l2,[],j,h,_=>by
  simp only[AcB,Qa4]at h;subst h;refine⟨?_,rfl,rfl⟩
  split<;>simp[avs]
 |c::l,l2,a::k,j,h,ha=>by
  simp only[AcB]at h
  have step:∀(c':TC) (m:List TC),AcB i d (j+1) l=some m→l2=c'::m→c'.A5=true→(c'.av μ ver ln (if i=j then b else a))→avs μ ver ln l2 (if j≤i then(a::k).set (i -j) b else a::k)∧l2.all TC.A5=true∧l2.length=(c::l).length:=by
   rintro c' m hm rfl hs hc';obtain⟨h1,h2,h3⟩:=TY hd (j+1) hm ha.2;refine⟨?_,by simp[hs,h2],by simp[h3]⟩
   by_cases hij:i=j
   ·subst hij;rw[if_pos rfl]at hc';rw[if_neg (by omega)]at h1;simpa[avs]using⟨hc',h1⟩
   ·rw[if_neg hij]at hc'
    by_cases hle:j≤i
    ·rw[if_pos hle];rw[if_pos (by omega)]at h1
     have:i -j=(i -(j+1))+1:=by omega
     rw[this];exact⟨hc',h1⟩
    ·rw[if_neg hle];rw[if_neg (by omega)]at h1;exact⟨hc',h1⟩
  split at h
  ·rename_i k0 x k1 y m hm;split at h
   case isFalse=>cases h
   rename_i hk;cases h;subst hk;refine step _ m hm rfl rfl ?_;have h1:a=_:=ha.1;have h2:b=_:=hd;subst h1 h2
   split<;>exact rfl
  ·rename_i x y m hm;cases h;refine step _ m hm rfl rfl ?_;have h1:a=_:=ha.1;have h2:b=_:=hd;subst h1 h2
   split<;>exact rfl
  ·cases h
 |[],_,_::_,_,_,h=>h.elim
 |_::_,_,[],_,_,h=>h.elim
theorem Ta:∀(vs l:List AV) (c:Nat),c+vs.length≤l.length→setCells l c vs=l.take c++(vs++l.drop (c+vs.length))
 |[],l,c,h=>by simp[setCells]
 |v::vs,l,c,h=>by
  simp only[List.length_cons]at h;rw[setCells,Ta vs _ (c+1) (by simp;omega)]
  have hlt:c<l.length:=by omega
  rw[List.set_eq_take_append_cons_drop,if_pos hlt]
  have e1:(l.take c++v::l.drop (c+1)).take (c+1)=l.take c++[v]:=by
   have hl:(l.take c).length=c:=by simp;omega
   rw[List.take_append,Qc6 (by omega),hl];simp
  have e2:(l.take c++v::l.drop (c+1)).drop (c+1+vs.length)=l.drop (c+(vs.length+1)):=by
   rw[List.drop_append];simp only[Qd7,Nat.min_eq_left (Nat.le_of_lt hlt)];rw[List.drop_eq_nil_of_le (by simp;omega)]
   have:c+1+vs.length -c=vs.length+1:=by omega
   rw[this,List.drop_succ_cons,List.drop_drop,List.nil_append]
   congr 1;omega
  rw[e1,e2];simp
theorem AmD{l:List AV}{c m i:Nat}{a:AV}(hi:i<m)(hc:c+m≤l.length):l.set (c+i) a=setCells l c (((l.drop c).take m).set i a):=by
 have hlen:(((l.drop c).take m).set i a).length=m:=by simp;omega
 rw[Ta _ _ _ (by rw[hlen];exact hc),hlen]
 apply List.ext_getElem?;intro j;rw[Qc5]
 by_cases hj:j<c
 ·rw[if_neg (by omega),Qd5 (by simp;omega),Qa9 hj]
 ·rw[Qd3 (by simp;omega)]
  simp only[Qd7,Nat.min_eq_left (show c≤l.length by omega)]
  by_cases hj2:j<c+m
  ·rw[Qd5 (by rw[hlen];omega),Qc5]
   by_cases he:c+i=j
   ·subst he;rw[if_pos rfl,if_pos (by omega),if_pos (by omega),if_pos (by simp;omega)]
   ·rw[if_neg he,if_neg (by omega),Qa9 (by omega),Qb2]
    congr 1;omega
  ·rw[if_neg (by omega),Qd3 (by rw[hlen];omega),hlen,Qb2]
   congr 1;omega
end
def M.all{α:Type}(x:M α)(K:α→Prop):Prop:=match x with
 |none=>True
 |some (_,a)=>K a
theorem M.all_bind{α β:Type}{x:M α}{f:α→M β}{K:β→Prop}(h:x.all fun a=>(f a).all K):(x>>=f).all K:=by
 show(M.bind x f).all K
 match x,h with
 |none,_=>trivial
 |some (p,a),h=>
  show(M.bind (some (p,a)) f).all K;unfold M.bind;have h:(f a).all K:=h;dsimp only
  cases hf:f a with
  |none=>trivial
  |some y=>obtain⟨q,b⟩:=y;rw[hf]at h;exact h
theorem M.BH{α:Type}{a:α}{K:α→Prop}(h:K a):(Pure.pure a:M α).all K:=h
theorem M.B0{p:Prop}{K:Unit→Prop}(h:K ()):(M.need p).all K:=h
theorem M.BU{α:Type}{K:α→Prop}:(M.fail:M α).all K:=trivial
theorem M.all_true{α:Type}(x:M α){K:α→Prop}(h:∀a,K a):x.all K:=by
 match x with
 |none=>trivial
 |some (_,a)=>exact h a
theorem M.Dp{α:Type}{x:M α}{K K':α→Prop}(h:x.all K)(hk:∀a,K a→K' a):x.all K':=by
 match x,h with
 |none,_=>trivial
 |some (_,a),h=>exact hk a h
theorem M.Od{α:Type}{x:M α}{K K':α→Prop}(h:x.holds K)(h':x.all K'):x.holds fun a=>K a∧K' a:=by
 match x,h,h' with
 |some (_,a),h,h'=>exact⟨h.1,h.2,h'⟩
theorem RJ(st:St)(r:Root):(st.bump r).hp.next=st.hp.next:=by cases r<;>rfl
theorem Pn:∀(rs:List Root) (st:St),(st.bumps rs).hp.next=st.hp.next
 |[],_=>rfl
 |r::rs,st=>by rw[St.bumps,Pn rs,RJ]
theorem ZW(st:St)(r:Root)(b:AV):(st.Ap r b).hp.next=st.hp.next:=by
 cases r with
 |slot t j=>rfl
 |obj o c=>simp only[St.Ap];split<;>rfl
theorem PH(st:St)(p:Place)(b:AV):(st.putAt p b).hp.next=st.hp.next:=by
 unfold St.putAt;split
 ·exact ZW _ _ _
 ·rfl
theorem Xy(v0:Root→Nat)(mem:Bool)(st:St)(a:AV):(st.EV v0 mem a).all fun p=>p.2.1.hp.next=st.hp.next:=by
 unfold St.EV;split
 ·split
  ·exact M.all_bind (M.B0 (M.all_bind (M.B0 (M.all_bind (M.B0 (M.BH (PH _ _ _)))))))
  ·exact M.BU
 ·cases mem<;>first|exact M.BU|exact M.BH rfl
 ·cases mem<;>first|exact M.BU|exact M.BH rfl
 ·exact M.BU
 ·exact M.BU
 ·exact M.BH rfl
theorem JA(v0:Root→Nat)(mem:Bool):∀(l:List AV) (st:St),(st.CL v0 mem l).all fun p=>p.2.1.hp.next=st.hp.next
 |[],st=>M.BH rfl
 |a::l,st=>by
  refine M.all_bind (M.Dp (Xy v0 mem st a) ?_);rintro⟨b,st1,rs⟩ h1;refine M.all_bind (M.Dp (JA v0 mem l st1) ?_);rintro⟨m,st2,rs'⟩ h2;exact M.BH (h2.trans h1)
theorem FY(st:St)(mem:Bool)(x:Opd):(st.take mem x).all fun p=>p.2.hp.next=st.hp.next:=by
 unfold St.take;refine M.all_bind (M.all_true _ fun s=>M.all_bind (M.Dp (JA _ _ _ _) ?_));rintro⟨l,st1,rs⟩ h1;exact M.BH ((Pn _ _).trans h1)
end Go.VS
namespace Go.VS
section
variable{μ:Nat→Nat}{ver:Root→Nat}{ln:Place→Option Nat}{F Γ Γ':TS}{st:St}
theorem Vu{α:Type}{l:List α}{i:Nat}{x:α}(h:l[i]?=some x)(f:α→α):l.modify i f=l.set i (f x):=by
 rw[modify_eq f l i x h,IK l i x (f x) h]
theorem AdJ{α:Type}{l:List α}{i:Nat}(h:l.length≤i)(f:α→α):l.modify i f=l:=by
 apply List.ext_getElem?;intro j;rw[List.getElem?_modify]
 by_cases hj:i=j
 ·subst hj;simp[List.getElem?_eq_none h]
 ·simp[hj]
theorem AbQ:∀{path:List Stp} {c b c1:TC} {a b' u:AV},(SY c path b).ok c1→c.av μ ver ln a→b.av μ ver ln b'→Co u b'→∃a1,c1.av μ ver ln a1∧Co (a.put path u) a1
 |[],c,b,c1,a,b',u,hx,ha,hb,hc=>by
  have hx:(Pure.pure b:R TC).ok c1:=by cases c<;>first|exact hx|(rename_i τ _ _ _;cases τ<;>exact hx)
  have:=R.Ai.1 hx;subst this;exact⟨b',hb,by cases a<;>exact hc⟩
 |s::r,c,b,c1,a,b',u,hx,ha,hb,hc=>by
  cases c with
  |sl τ tt e l=>
   cases τ with
   |own=>
    simp only[SY]at hx;split at hx
    case isFalse=>exact(R.Ae.1 hx).elim
    rename_i hk;split at hx
    case h_2=>exact(R.Ae.1 hx).elim
    rename_i c2 hc2;rw[R.Ah]at hx;obtain⟨c',h1,hx⟩:=hx;rw[R.Ah]at hx;obtain⟨x,h2,hx⟩:=hx;have:=R.Ai.1 hx;subst this;have h2:=R.Cd.1 h2;have ha:a=_:=ha;subst ha;refine⟨_,rfl,?_⟩;simp only[AV.put,if_pos hk];refine .sl _ _ _ _ _ (.inl rfl) ?_
    by_cases hi:s.i<l.length
    ·have e1:l.getD s.i e.dflt=l[s.i]:=by simp[Qb8,Qa3 hi]
     rw[e1]at hc2 h2;obtain⟨a2,ha2,hav2⟩:=Il (E9 (μ:=μ) (ver:=ver) (ln:=ln) e tt l[s.i]) hc2;obtain⟨a3,ha3,hco3⟩:=AbQ h1 hav2 hb hc
     have e2:(l.map (e.enc tt))[s.i]?=some (e.enc tt l[s.i]):=by simp[Qa3 hi]
     rw[Vu e2,Vu ha2,Vq];refine(CP.refl _).set s.i ?_;exact((CoL.refl _).set s.c hco3).trans (Fx h2 (TE (E9 e tt l[s.i]) s.c ha3))
    ·rw[AdJ (by simpa using hi),List.set_eq_of_length_le (by simpa using hi)];exact CP.refl _
   |_=>exact(R.Ae.1 hx).elim
  |_=>exact(R.Ae.1 hx).elim
theorem Yn:∀{path:List Stp} {c b c1:TC},(SY c path b).ok c1→path≠[]→c1.len?=c.len?∧c1.A5=true
 |[],_,_,_,_,h=>(h rfl).elim
 |s::r,c,b,c1,hx,_=>by
  cases c with
  |sl τ tt e l=>
   cases τ with
   |own=>
    simp only[SY]at hx;split at hx
    case isFalse=>exact(R.Ae.1 hx).elim
    split at hx
    case h_2=>exact(R.Ae.1 hx).elim
    rw[R.Ah]at hx;obtain⟨c',h1,hx⟩:=hx;rw[R.Ah]at hx;obtain⟨x,h2,hx⟩:=hx;have:=R.Ai.1 hx;subst this;exact⟨by simp[TC.len?],rfl⟩
   |_=>exact(R.Ae.1 hx).elim
  |_=>exact(R.Ae.1 hx).elim
theorem Dw.Ap(st:St)(r:Root){b b':AV}(h:Co b b'):Dw (st.Ap r b) (st.Ap r b'):=by
 cases r with
 |slot t j=>
  refine⟨fun t'=>?_,(Dw.refl st).hp,rfl,rfl,rfl⟩;simp only[St.Ap,upd];split
  ·cases st.sl t with
   |val g s=>
    refine .val g _ _ ?_
    cases s with
    |one a=>cases j with
     |zero=>exact .one _ _ h
     |succ j=>exact .one _ _ (.refl _)
    |agg l=>exact .agg _ _ ((CoL.refl l).set j h)
   |_=>exact .refl _
  ·exact .refl _
 |obj o c=>
  simp only[St.Ap]
  cases hg:st.hp.get o with
  |none=>exact Dw.refl st
  |some l=>
   refine⟨fun _=>.refl _,fun o'=>?_,rfl,rfl,rfl⟩;simp only[Heap.set,upd];split
   ·exact .inr ⟨_,_,rfl,rfl,(CoL.refl l).set c h⟩
   ·exact(Dw.refl st).hp o'
theorem Dw.bump{st st':St}(h:Dw st st')(r:Root):Dw (st.bump r) (st'.bump r):=by
 cases r with
 |slot t j=>exact⟨h.sl,h.hp,h.nx,by simp[St.bump,h.vs],h.hv⟩
 |obj o c=>exact⟨h.sl,h.hp,h.nx,h.vs,by simp[St.bump,h.hv]⟩
theorem Z2(h:Sim μ F Γ st){n:Nat}{cells:List TC}{p:Place}{k i c:Nat}{d:TC}(hd:(atR F Γ p).ok d)(hx:(V4 F Γ n cells p k i c d).ok Γ'){as:List AV}(ha:avs μ st.ver (lnT F Γ) cells as):
  ∃xs,st.at (p.mu μ)=some (.sl .own k xs)∧i<xs.length∧c+n≤k∧
   WOk μ st.hp.next F Γ' (if(((xs.getD i []).drop c).take n).any AV.B3 then(st.putAt (p.mu μ) (.sl .own k (xs.set i (setCells (xs.getD i []) c as)))).bump (p.mu μ).root else st.putAt (p.mu μ) (.sl .own k (xs.set i (setCells (xs.getD i []) c as)))):=by
 cases d with
 |sl τ tt e l=>
  cases τ with
  |own=>
   simp only[V4]at hx;split at hx
   case isFalse=>exact(R.Ae.1 hx).elim
   rename_i hc;obtain⟨hk,hcn⟩:=hc;subst hk;rw[R.Ah]at hx;obtain⟨_,h1,hx⟩:=hx;have hi:=R.HE.1 h1;rw[R.Ah]at hx;obtain⟨x,h2,hx⟩:=hx;have h2:=R.Cd.1 h2;rw[R.Ah]at hx;obtain⟨c0,h3,hx⟩:=hx;have h3:=R.Cd.1 h3;rw[R.Ah]at hx;obtain⟨c1,h4,hx⟩:=hx;have hu:=R.Cd.1 hx;obtain⟨q1,q2⟩:=Kg h hd;refine⟨_,q1,by simpa using hi,hcn,?_⟩
   rw[QT (e.enc tt) l i e.dflt [] hi];generalize hbT:(((e.ex tt (l.getD i e.dflt)).drop c).take n).any ownish=bump at hu;generalize hbA:(((e.enc tt (l.getD i e.dflt)).drop c).take n).any AV.B3=bumpA
   have hbump:bump=false→bumpA=false:=by
    intro hb;rw[←hbA];rw[←hbT]at hb;exact PG hb (Fv (Ja _ _ _) c n) (Im (E9 (μ:=μ) (ver:=st.ver) (ln:=lnT F Γ) e tt _) c n)
   obtain⟨a0,ha0,hav0⟩:=VR h h3
   have hput:∀u,st.putAt (p.mu μ) u=st.Ap (p.root.mu μ) (a0.put p.path u):=by
    intro u;simp only[St.putAt,Place.mu,ha0]
   rw[hput];have hcoL:CoL (setCells (e.enc tt (l.getD i e.dflt)) c as) (e.enc tt x):=Fx h2 (NJ c (E9 (μ:=μ) (ver:=st.ver) (ln:=lnT F Γ) e tt _) ha)
   obtain⟨a1,hav1,hco1⟩:=AbQ (u:=.sl .own e.size ((l.map (e.enc tt)).set i (setCells (e.enc tt (l.getD i e.dflt)) c as))) h4 hav0 (show(TC.sl .own tt e (l.set i x)).av μ st.ver (lnT F Γ) _ from rfl)
    (.sl _ _ _ _ _ (.inl rfl) (by rw[Vq];exact(CP.refl _).set i hcoL))
   have hsol1:c1.A5=true:=by
    cases hp:p.path with
    |nil=>
     rw[hp]at h4
     have h4:(Pure.pure (TC.sl .own tt e (l.set i x)):R TC).ok c1:=by cases c0<;>first|exact h4|(rename_i τ _ _ _;cases τ<;>exact h4)
     have:=R.Ai.1 h4;subst this;rfl
    |cons s r=>exact(Yn h4 (by rw[hp];simp)).2
   have fin:∀st':St,st'.sl=(st.Ap (p.root.mu μ) a1).sl→st'.hp=(st.Ap (p.root.mu μ) a1).hp→(∀q,(Jj p.root q=false∨bump=false)→st'.ver (q.mu μ).root=st.ver (q.mu μ).root)→Sim μ F Γ' st':=by
    intro st' e1 e2 hv;refine SZ h hu h3 (b:=a1) e1 e2 ?_ ?_ ?_ (LC hsol1 hav1) (.inl hsol1)
    ·intro q hq;simp only[ZQ,Qd9,Qa1]at hq;exact hv q (hq.imp id (·.1))
    ·intro q hq;simp only[Qd9]at hq;exact hv q hq
    ·intro q hq hqr m hm;have h5:=AbC hqr;simp only[ZQ,h5,Qc8,Qa1]at hq
     have hpath:q.path=[]:=by
      cases hqp:q.path with
      |nil=>rfl
      |cons s r=>simp[deep,hqp]at hq
     unfold lnT atT at hm⊢;rw[hqr,hpath]at hm⊢
     cases hc1:Cy F Γ' p.root with
     |none=>rw[hc1]at hm;simp at hm
     |some c1'=>
      rw[hc1,Qa0]at hm;have:=Q6 h.ss hu hc1;subst this;rw[h3,Qa0]
      have eS:∀c:TC,c.atS []=some c:=by intro c;cases c<;>first|rfl|(rename_i τ _ _ _;cases τ<;>rfl)
      rw[eS,Qa0]at hm⊢
      cases hp:p.path with
      |nil=>
       rw[hp]at h4
       have h4:(Pure.pure (TC.sl .own tt e (l.set i x)):R TC).ok c1':=by cases c0<;>first|exact h4|(rename_i τ _ _ _;cases τ<;>exact h4)
       have:=R.Ai.1 h4;subst this;have h6:=YV hd;simp only[atT,h3,hp,Qa0,eS,Qa4]at h6;subst h6;simpa[TC.len?]using hm
      |cons s r=>rw[←(Yn h4 (by rw[hp];simp)).1];exact hm
   cases hbA2:bumpA with
   |true=>
    rw[if_pos rfl];refine⟨μ,_,(Dw.Ap st (p.root.mu μ) hco1).bump _,fin _ ?_ ?_ ?_,DZ.refl _ _⟩
    ·simp only[Place.mu];cases p.root<;>rfl
    ·simp only[Place.mu];cases p.root<;>rfl
    ·intro q hq
     rcases hq with hq|hq
     ·have e5:=PF (st.Ap (p.root.mu μ) a1) (μ:=μ) hq;simp only[Place.mu]at e5⊢;rw[e5];exact Ev (D3 _ _ _).1 (D3 _ _ _).2 _
     ·have:=hbump hq;rw[hbA2]at this;cases this
   |false=>
    rw[if_neg (by simp)];refine⟨μ,_,Dw.Ap st (p.root.mu μ) hco1,fin _ rfl rfl ?_,DZ.refl _ _⟩;intro q _;exact Ev (D3 _ _ _).1 (D3 _ _ _).2 _
  |_=>exact(R.Ae.1 hx).elim
 |_=>exact(R.Ae.1 hx).elim
theorem Aew(h:Sim μ F Γ st){n:Nat}{cells:List TC}{c:TC}{Γ':TS}(hx:(Sj F Γ n cells c).ok Γ')(hs:cells.all TC.A5=true){as:List AV}(ha:avs μ st.ver (lnT F Γ) cells as){a:AV}(hc:c.av μ st.ver (lnT F Γ) a):
  as.length=n∧(match(generalizing:=false) a with
   |.ptr o c=>match st.hp.get o with
    |some l=>do
     M.need (c+n≤l.length)
     let st2:St:=⟨st.sl,st.hp.set o (setCells l c as),st.vs,st.hv⟩
     pure (if((l.drop c).take n).any AV.B3 then st2.bump (.obj o c)else st2)
    |none=>M.fail
   |.adr p v k' i c=>match st.at p with
    |some (.sl .own k xs)=>do
     M.need (v=st.ver p.root)
     M.need (k'=k)
     M.need (i<xs.length)
     M.need (c+n≤k)
     let st2:=st.putAt p (.sl .own k (xs.set i (setCells (xs.getD i []) c as)))
     pure (if(((xs.getD i []).drop c).take n).any AV.B3 then st2.bump p.root else st2)
    |_=>M.fail
   |_=>M.fail:M St).holds fun st'=>WOk μ st.hp.next F Γ' st':=by
 have hlenA:=B2 ha
 cases c with
 |box b c=>
  have hc:a=_:=hc;subst hc;simp only[Sj]at hx;split at hx
  case h_2=>exact(R.Ae.1 hx).elim
  rename_i l hl;split at hx
  case isFalse=>exact(R.Ae.1 hx).elim
  rename_i hcn;have hu:=R.Cd.1 hx;obtain⟨k,q1,q2,q3,q4⟩:=h.bx b l hl;have hlen:=B2 q2;refine⟨by omega,?_⟩;simp only[q1,M.Aa,M.Aj];refine⟨by omega,M.Ab ⟨μ,_,Dw.refl _,?_,DZ.refl _ _⟩⟩;refine Qs h hl hcn.2 q1 hu hs (k':=setCells k c as) (fun ver' ln' hk'=>NJ c hk' (E6 hs ha)) ?_ ?_ ?_ ?_
  ·split<;>rfl
  ·split<;>rfl
  ·split<;>rfl
  ·intro hb;rw[if_neg];rw[PG hb (Fv q4 c n) (Im q2 c n)];simp
 |boxd b c m i=>
  have hc:a=_:=hc;subst hc;simp only[Sj]at hx;split at hx
  case h_2=>exact(R.Ae.1 hx).elim
  rename_i l d hl;split at hx
  case h_2=>exact(R.Ae.1 hx).elim
  rename_i l2 hl2;split at hx
  case isFalse=>exact(R.Ae.1 hx).elim
  rename_i hcn;obtain⟨hcm,rfl⟩:=hcn;rw[R.Ah]at hx;obtain⟨_,h1,hx⟩:=hx;have hi:=R.HE.1 h1;have hu:=R.Cd.1 hx;obtain⟨k,q1,q2,q3,q4⟩:=h.bx b l hl;have hlen:=B2 q2
  match as,ha with
  |[a0],ha=>
   refine⟨rfl,?_⟩;simp only[q1,M.Aa,M.Aj];refine⟨by omega,M.Ab ⟨μ,_,Dw.refl _,?_,DZ.refl _ _⟩⟩
   have hsd:d.A5=true:=by simpa using hs
   have nob:((k.drop (c+i)).take 1).any AV.B3=false:=by
    have hlt:c+i<k.length:=by omega
    rw[ZB (Qa3 hlt)]
    have hll:((l.drop c).take m)[i]?=some l[c+i]:=by
     rw[Qa9 hi,Qb2,Qa3 (by omega)]
    obtain⟨a',ha',hav⟩:=Il q2 (Qa3 (by omega:c+i<l.length))
    have e0:k[c+i]=a':=by simpa[Qa3 hlt]using ha'
    rw[e0]
    have hkind:∀(ll l2:List TC) (j0 i0:Nat) (x:TC),AcB i d j0 ll=some l2→ll[i0]?=some x→(∃k n,x=.int k n)∨∃s,x=.str s:=by
     intro ll
     induction ll with
     |nil=>intro l2 j0 i0 x _ hx;simp at hx
     |cons y ll ih=>
      intro l2 j0 i0 x hup hx;simp only[AcB]at hup;split at hup
      ·rename_i m' hm
       cases i0 with
       |zero=>simp at hx;exact .inl ⟨_,_,hx.symm⟩
       |succ i0=>exact ih _ _ i0 x hm (by simpa using hx)
      ·rename_i m' hm
       cases i0 with
       |zero=>simp at hx;exact .inr ⟨_,hx.symm⟩
       |succ i0=>exact ih _ _ i0 x hm (by simpa using hx)
      ·cases hup
    rcases hkind _ _ 0 i _ hl2 hll with⟨k',n',e1⟩|⟨s',e1⟩
    ·rw[e1]at hav;have hav:a'=_:=hav;subst hav;rfl
    ·rw[e1]at hav;have hav:a'=_:=hav;subst hav;rfl
   rw[nob,if_neg (by simp)];refine Qs (n:=m) h hl ?_ q1 hu ?_ (k':=setCells k (c+i) [a0]) ?_ rfl rfl rfl (fun _=>rfl)
   ·have:=(TY ha.1 0 hl2 (Im q2 c m)).2.2;rw[this];simp;omega
   ·exact(TY ha.1 0 hl2 (Im q2 c m)).2.1
   ·intro ver' ln' hk'
    have h5:=(TY ha.1 0 hl2 (Im q2 c m))
    have h6:avs μ ver' ln' l2 (((k.drop c).take m).set i a0):=by
     have:=E6 (ver':=ver') (ln':=ln') h5.2.1 h5.1;simpa using this
    have:=NJ c hk' h6;rw[←AmD hi (by omega)]at this;exact this
  |[],ha=>exact ha.elim
  |_::_::_,ha=>exact ha.2.elim
 |adr p tt0 e i c=>
  have hc:a=_:=hc;subst hc;simp only[Sj]at hx;split at hx
  case isFalse=>exact(R.Ae.1 hx).elim
  rename_i hn;rw[R.Ah]at hx;obtain⟨d,h1,hx⟩:=hx;obtain⟨xs,e1,e2,e3,e4⟩:=Z2 h h1 hx ha;refine⟨by omega,?_⟩;simp only[e1,M.Aa,M.Aj];exact⟨trivial,trivial,e2,e3,M.Ab e4⟩
 |_=>exact(R.Ae.1 hx).elim
theorem Ae0{c:TC}(hk:c.known=true){a:AV}(h:c.av μ ver ln a):c.husk.av μ ver ln (if a.B3 then .dead else a):=by
 cases c with
 |sl τ tt e l=>
  have h:a=_:=h;subst h
  cases τ with
  |own=>exact trivial
  |_=>exact rfl
 |dead=>cases hk
 |ref=>cases hk
 |adr=>cases hk
 |_=>(have h:a=_:=h);subst h;exact rfl
theorem Abb:∀{l:List TC},l.all TC.known=true→∀{as:List AV},avs μ ver ln l as→avs μ ver ln (l.map TC.husk) (as.map fun a=>if a.B3 then .dead else a)
 |[],_,[],_=>trivial
 |c::l,hk,a::as,h=>by
  simp only[Qa5,Qa2]at hk;exact⟨Ae0 hk.1 h.1,Abb hk.2 h.2⟩
 |[],_,_::_,h=>h.elim
 |_::_,_,[],h=>h.elim
theorem SP{c:TC}(hk:c.known=true){a:AV}(h:c.av μ ver ln a):c.A5=true∧a.solid=true:=by
 cases c with
 |dead=>cases hk
 |ref=>cases hk
 |adr=>cases hk
 |_=>(have h:a=_:=h);subst h;exact⟨rfl,rfl⟩
theorem Iv:∀{l:List TC},l.all TC.known=true→∀{as:List AV},avs μ ver ln l as→l.all TC.A5=true∧as.all AV.solid=true
 |[],_,[],_=>⟨rfl,rfl⟩
 |c::l,hk,a::as,h=>by
  simp only[Qa5,Qa2]at hk⊢;obtain⟨h1,h2⟩:=SP hk.1 h.1;obtain⟨h3,h4⟩:=Iv hk.2 h.2;exact⟨⟨h1,h3⟩,h2,h4⟩
 |[],_,_::_,h=>h.elim
 |_::_,_,[],h=>h.elim
theorem Z4:∀{l:List TSV} {m:List SV},svs μ ver ln l m→∀{i:Nat} {v:TSV},l[i]?=some v→∃s,m[i]?=some s∧v.sv μ ver ln s
 |[],[],_,i,v,h=>by simp at h
 |x::l,y::m,h,0,v,hv=>by simp at hv;subst hv;exact⟨y,rfl,h.1⟩
 |x::l,y::m,h,i+1,v,hv=>by simpa using Z4 h.2 (i:=i) (by simpa using hv)
 |[],_::_,h,_,_,_=>h.elim
 |_::_,[],h,_,_,_=>h.elim
theorem Afu:∀{l:List TSV} {m:List SV},svs μ ver ln l m→∀(i:Nat) {v:TSV} {s:SV},v.sv μ ver ln s→svs μ ver ln (l.set i v) (m.set i s)
 |[],[],_,i,v,s,_=>by simp[svs]
 |x::l,y::m,h,0,v,s,hv=>⟨hv,h.2⟩
 |x::l,y::m,h,i+1,v,s,hv=>⟨h.1,Afu h.2 i hv⟩
 |[],_::_,h,_,_,_,_=>h.elim
 |_::_,[],h,_,_,_,_=>h.elim
theorem Ahc(h:Sim μ F Γ st){x:Opd}{v:TSV}(hx:(Ajp F Γ x).ok (v,Γ')):(st.take false x).holds fun(s,st')=>v.sv μ st'.ver (lnT F Γ') s∧Sim μ F Γ' st':=by
 unfold Ajp at hx;rw[R.Ah]at hx;obtain⟨v0,h1,hx⟩:=hx;split at hx
 ·have:=R.Ai.1 hx;cases this;have hu:=FM h (b:=true) (fun _=>rfl) h1;simp only[St.take,M.Aa];refine M.Af hu ?_;rintro _ ⟨a,rfl,ha⟩;have ha:a=_:=ha;subst ha;simp only[SV.cells,St.CL,St.EV,M.Aa];refine M.Ab (M.Ab (M.Ab (M.Ab ?_)));exact⟨⟨_,rfl,rfl⟩,h⟩
 ·exact(LD h hx).2
theorem Ah3(h:Sim μ F Γ st){dst:Option Nat}{ty:Option (BT×TT)}{op:AOp}(hW:op.isW=true)(hx:(MK F Γ dst ty op).ok Γ'):(st.HR dst op).holds fun st'=>WOk μ st.hp.next F Γ' st':=by
 cases op with
 |asg x=>
  cases dst with
  |none=>exact(R.Ae.1 hx).elim
  |some d=>
   simp only[MK]at hx;rw[R.Ah]at hx;obtain⟨⟨v,Γ1⟩,h1,hx⟩:=hx;have h2:=Ahc h h1;simp only[St.HR,M.Aa];refine M.Af h2 ?_;rintro⟨s,st1⟩ ⟨k1,k2⟩;exact M.Ab ⟨μ,_,Dw.refl _,DK k2 hx ⟨s,rfl,k1⟩,DZ.refl _ _⟩
 |alloc zero=>
  cases dst with
  |none=>exact(R.Ae.1 hx).elim
  |some d=>
   simp only[MK]at hx;simp only[St.HR]
   have hz:∀zs:List Value,avs μ st.ver (lnT F Γ) (zs.map Km) (zs.map .lit):=by
    intro zs
    induction zs with
    |nil=>exact trivial
    |cons z zs ih=>exact⟨Lt z,ih⟩
   exact M.Ab (Un h hx (hz zero))
 |box x=>
  cases dst with
  |none=>exact(R.Ae.1 hx).elim
  |some d=>
   simp only[MK]at hx;rw[R.Ah]at hx;obtain⟨⟨v,Γ1⟩,h1,hx⟩:=hx;obtain⟨hs,h2⟩:=LD h h1
   have hv:∀f l,v≠.clo f l:=by rintro f l rfl;exact R.Ae.1 hx
   have hx:(YT F Γ1 d v.cells).ok Γ':=by cases v<;>first|exact hx|exact(hv _ _ rfl).elim
   simp only[St.HR,M.Aa];refine M.Af (M.Od h2 (FY st true x)) ?_;rintro⟨s,st1⟩ ⟨⟨k1,k2⟩,k0⟩;have:=Un k2 hx (Qv hv k1);rw[show st1.hp.next=st.hp.next from k0]at this;rw[show st1.hp.next=st.hp.next from k0];exact M.Ab this
 |buildSl k zero len parts=>
  cases dst with
  |none=>exact(R.Ae.1 hx).elim
  |some d=>
   cases ty with
   |none=>exact(R.Ae.1 hx).elim
   |some ety=>
    obtain⟨e,tt⟩:=ety;simp only[MK]at hx;split at hx
    case isFalse=>exact(R.Ae.1 hx).elim
    rename_i hk;subst hk;rw[R.Ah]at hx;obtain⟨z,h1,hx⟩:=hx;rw[R.Ah]at hx;obtain⟨⟨l,Γ1⟩,h2,hx⟩:=hx;have hz:=AfB (R.Cd.1 h1);simp only[St.HR,M.Aa];refine M.Af (Wc h (ZP (e.enc tt) hz len) h2) ?_;rintro⟨xs,st1⟩ ⟨k1,k2⟩;exact M.Ab ⟨μ,_,Dw.set (.val _ _ _ (.one _ _ (.sl _ _ _ _ _ (.inl rfl) k1))),DK k2 hx ⟨_,rfl,_,rfl,rfl⟩,DZ.refl _ _⟩
 |store n a x=>
  simp only[MK]at hx;rw[R.Ah]at hx;obtain⟨⟨v,Γ1⟩,h1,hx⟩:=hx;obtain⟨hs,h2⟩:=LD h h1
  have hv:∀f l,v≠.clo f l:=by rintro f l rfl;exact R.Ae.1 hx
  have hx:(do
   let c←IC F Γ1 [] a
   Sj F Γ1 n v.cells c:R TS).ok Γ':=by cases v<;>first|exact hx|exact(hv _ _ rfl).elim
  rw[R.Ah]at hx;obtain⟨c,h3,hx⟩:=hx
  have hss:v.cells.all TC.A5=true:=by
   cases v with
   |one c=>simpa[TSV.cells,TSV.Jr]using hs
   |agg l=>exact hs
   |clo f l=>rfl
  simp only[St.HR,M.Aa];refine M.Af (M.Od h2 (FY st true x)) ?_;rintro⟨s,st1⟩ ⟨⟨k1,k2⟩,k0⟩;have k0:st1.hp.next=st.hp.next:=k0;rw[←k0];have k3:=Qv hv k1
  have key:=fun a ha=>Aew k2 hx hss k3 (a:=a) ha
  obtain⟨u,hu1,hu2⟩:=(M.Av _ _).1 (CX k2 (b:=true) (fun _=>rfl) h3);have hlen:=(key u hu2).1;rw[if_pos hlen];simp only[M.Aa];refine M.Af hu1 ?_;rintro _ rfl;exact(key _ hu2).2
 |app k bytes s x=>
  cases dst with
  |none=>exact(R.Ae.1 hx).elim
  |some d=>
   cases ty with
   |none=>exact(R.Ae.1 hx).elim
   |some ety=>
    obtain⟨e,tt⟩:=ety;simp only[MK]at hx;split at hx
    case isFalse=>exact(R.Ae.1 hx).elim
    rename_i hk;obtain⟨rfl,hby⟩:=hk;rw[R.Ah]at hx;obtain⟨⟨ys,Γ1⟩,h1,hx⟩:=hx;rw[R.Ah]at hx;obtain⟨⟨v,Γ2⟩,h2,hx⟩:=hx;rw[R.Ah]at hx;obtain⟨xs,h3,hx⟩:=hx;rw[R.Ah]at hx;obtain⟨_,h4,hx⟩:=hx;have h4:(xs.length+ys.length)*bytes≤140737488355328:=R.HE.1 h4;simp only[St.HR,M.Aa];refine M.Af (Aeh h h1) ?_;rintro⟨ysA,st1⟩ ⟨k1,k2⟩
    refine M.Af (AhM k2 h2 h3) ?_;rintro⟨xsA,st2⟩ ⟨k3,k4⟩;simp only[M.Aj]
    have e1:ysA.length=ys.length:=by simpa using k1.length
    have e2:xsA.length=xs.length:=by simpa using k3.length
    refine⟨by rw[e1,e2];exact h4,?_,M.Ab ⟨μ,_,Dw.set (.val _ _ _ (.one _ _ (.sl _ _ _ _ _ (.inl rfl) (k3.append k1)))),DK k4 hx ⟨_,rfl,_,rfl,?_⟩,DZ.refl _ _⟩⟩
    ·rw[e1,e2];have:(xs.length+ys.length)*1≤(xs.length+ys.length)*bytes:=Nat.mul_le_mul_left _ hby;omega
    ·simp[TC.av]
 |ext x i=>
  cases x with
  |c v=>exact(R.Ae.1 hx).elim
  |f nm=>exact(R.Ae.1 hx).elim
  |t n=>
   cases dst with
   |none=>exact(R.Ae.1 hx).elim
   |some d=>
    simp only[MK]at hx;split at hx
    case h_2=>exact(R.Ae.1 hx).elim
    rename_i l hl;split at hx
    case h_2=>exact(R.Ae.1 hx).elim
    rename_i v hv;split at hx
    case isFalse=>exact(R.Ae.1 hx).elim
    rename_i hkn;rw[R.Ah]at hx;obtain⟨Γ1,h1,hx⟩:=hx;obtain⟨m,heq,hm⟩:=h.sl n _ hl;obtain⟨s,hs,hsv⟩:=Z4 hm hv
    have hsol:v.Jr=true∧s.cells.all AV.solid=true∧v.husk.sv μ st.ver (lnT F Γ) s.husk:=by
     cases v with
     |one c=>
      obtain⟨a,rfl,ha⟩:=hsv;obtain⟨q1,q2⟩:=SP hkn ha;exact⟨q1,by simp[SV.cells,q2],_,rfl,Ae0 hkn ha⟩
     |agg l'=>
      obtain⟨a,rfl,ha⟩:=hsv;obtain⟨q1,q2⟩:=Iv hkn ha;exact⟨q1,q2,_,rfl,Abb hkn ha⟩
     |clo f l'=>
      obtain⟨a,rfl,ha⟩:=hsv;obtain⟨q1,q2⟩:=Iv hkn ha;exact⟨q1,rfl,a,rfl,ha⟩
    have k1:=DK h h1 (y:=.tup (m.set i s.husk)) ⟨_,rfl,Afu hm i hsol.2.2⟩;have k2:=DK k1 hx (y:=.val true s) ⟨s,rfl,Rf hsol.1 hsv⟩;simp only[St.HR,heq,hs,M.Aa,M.Aj];exact⟨hsol.2.1,M.Ab ⟨μ,_,Dw.refl _,k2,DZ.refl _ _⟩⟩
 |panic x=>cases dst<;>cases ty<;>exact(R.Ae.1 hx).elim
 |_=>cases hW
theorem Amh(h:Sim μ F Γ st){dst:Option Nat}{ty:Option (BT×TT)}{k bytes:Nat}{zero:List Value}{l c:Opd}(hx:(MK F Γ dst ty (.mkSl k bytes zero l c)).ok Γ'):
  (st.BF true (.mkSl k bytes zero l c)).holds fun s=>WOk μ st.hp.next F Γ' (st.JI dst (.val true s)):=by
 cases dst with
 |none=>exact(R.Ae.1 hx).elim
 |some d=>
  cases ty with
  |none=>exact(R.Ae.1 hx).elim
  |some ety=>
   obtain⟨e,tt⟩:=ety;simp only[MK]at hx;split at hx
   case isFalse=>exact(R.Ae.1 hx).elim
   rename_i hk;obtain⟨rfl,hby⟩:=hk;rw[R.Ah]at hx;obtain⟨n,h1,hx⟩:=hx;rw[R.Ah]at hx;obtain⟨m,h2,hx⟩:=hx;rw[R.Ah]at hx;obtain⟨z,h3,hx⟩:=hx;rw[R.Ah]at hx;obtain⟨_,h4,hx⟩:=hx;have h4:=R.HE.1 h4;have hz:=AfB (R.Cd.1 h3);simp only[St.BF,M.Aa]
   refine M.Af (JC h (b:=true) (fun _=>rfl) h1) fun x0 e0=>?_
   rw[e0];clear e0 x0
   refine M.Af (JC h (b:=true) (fun _=>rfl) h2) fun x0 e0=>?_
   rw[e0];clear e0 x0;simp only[M.Aj];refine⟨fun _=>h4,fun _=>?_,trivial,M.Ab ⟨μ,_,Dw.set (.val _ _ _ (.one _ _ (.sl _ _ _ _ _ (.inl rfl) (ZP (e.enc tt) hz n.toNat)))),DK h hx ⟨_,rfl,_,rfl,rfl⟩,DZ.refl _ _⟩⟩
   have hb1:(1:Int)≤bytes:=by omega
   have hm0:0≤m:=by omega
   have:(1:Int)*m≤bytes*m:=Int.mul_le_mul_of_nonneg_right hb1 hm0;omega
end
theorem NV(k:Nat):∀(l:List (Nat×Opd)) (xs:List (List AV)) (st:St),(E7 st k xs l).all fun p=>p.2.hp.next=st.hp.next
 |[],xs,st=>M.BH rfl
 |(i,x)::r,xs,st=>by
  refine M.all_bind (M.Dp (FY st true x) ?_);rintro⟨s,st1⟩ h1;show M.all (if s.cells.length=k then E7 st1 k (xs.set i s.cells) r else M.fail) _;split
  ·exact M.Dp (NV k r _ st1) fun p hp=>hp.trans h1
  ·exact M.BU
theorem Acg(st:St)(k:Nat)(x:Opd):(st.source k x).all fun p=>p.2.hp.next=st.hp.next:=by
 unfold St.source;split
 ·exact M.BH rfl
 ·split
  ·exact M.all_bind (M.B0 (M.all_bind (M.B0 (M.BH rfl))))
  ·exact M.all_bind (M.B0 (M.all_bind (M.B0 (M.BH rfl))))
  ·exact M.all_bind (M.B0 (M.BH rfl))
  ·split
   ·exact M.all_bind (M.B0 (M.all_bind (M.B0 (M.all_bind (M.B0 (M.all_bind (M.B0 (M.all_bind (M.B0 (M.all_bind (M.B0 (M.BH rfl))))))))))))
   ·exact M.BU
  ·exact M.BU
 ·exact M.BU
theorem AfK(st:St)(k:Nat)(x:Opd):(st.base k x).all fun p=>p.2.hp.next=st.hp.next:=by
 unfold St.base;refine M.all_bind (M.Dp (FY st false x) ?_);rintro⟨s,st1⟩ h1;dsimp only;split
 ·exact M.all_bind (M.B0 (M.BH h1))
 ·exact M.BH h1
 ·exact M.BU
theorem AfY(st:St)(dst:Option Nat)(op:AOp):(st.HR dst op).all fun st'=>st.hp.next≤st'.hp.next:=by
 cases op with
 |asg x=>
  cases dst with
  |none=>exact M.BU
  |some d=>
   refine M.all_bind (M.Dp (FY st false x) ?_);rintro⟨s,st1⟩ h1;exact M.BH (Qd0 h1.symm)
 |alloc zero=>
  cases dst with
  |none=>exact M.BU
  |some d=>exact M.BH (Nat.le_succ _)
 |box x=>
  cases dst with
  |none=>exact M.BU
  |some d=>
   refine M.all_bind (M.Dp (FY st true x) ?_);rintro⟨s,st1⟩ h1;exact M.BH (Nat.le_trans (Qd0 h1.symm) (Nat.le_succ _))
 |buildSl k zero len parts=>
  cases dst with
  |none=>exact M.BU
  |some d=>
   refine M.all_bind (M.Dp (NV k parts _ st) ?_);rintro⟨s,st1⟩ h1;exact M.BH (Qd0 h1.symm)
 |store n a x=>
  refine M.all_bind (M.Dp (FY st true x) ?_);rintro⟨s,st1⟩ h1;have h1:st.hp.next≤st1.hp.next:=Qd0 h1.symm;dsimp only;split
  case isFalse=>exact M.BU
  refine M.all_bind (M.all_true _ fun a=>?_);split
  ·split
   ·refine M.all_bind (M.B0 (M.BH ?_));split
    ·rw[RJ];exact h1
    ·exact h1
   ·exact M.BU
  ·split
   ·refine M.all_bind (M.B0 (M.all_bind (M.B0 (M.all_bind (M.B0 (M.all_bind (M.B0 (M.BH ?_))))))));split
    ·rw[RJ,PH];exact h1
    ·rw[PH];exact h1
   ·exact M.BU
  ·exact M.BU
 |app k bytes s x=>
  cases dst with
  |none=>exact M.BU
  |some d=>
   refine M.all_bind (M.Dp (Acg st k x) ?_);rintro⟨ys,st1⟩ h1;refine M.all_bind (M.Dp (AfK st1 k s) ?_);rintro⟨xs,st2⟩ h2;exact M.all_bind (M.B0 (M.all_bind (M.B0 (M.BH (Qd0 (h2.trans h1).symm)))))
 |ext x i=>
  cases dst with
  |none=>cases x<;>exact M.BU
  |some d=>
   cases x with
   |t n=>
    simp only[St.HR];split
    ·split
     ·exact M.all_bind (M.B0 (M.BH (Qc0 _)))
     ·exact M.BU
    ·exact M.BU
   |_=>exact M.BU
 |_=>exact M.BU
end Go.VS
namespace Go.VS
inductive PT
 |val (agg:Bool) (t:BT) (tt:TT)
 |ptr (t:BT) (tt:TT)
 |clo (f:String×Bool) (n:Nat)
 |cap (t:BT) (tt:TT)
 |fnp (names:List String)
def PT.bt:PT→BT
 |.val _ t _=>t
 |.ptr t _=>t
 |.clo _ _=>.unit
 |.cap t _=>t
 |.fnp _=>.int .i64
def PT.tt:PT→TT
 |.val _ _ tt=>tt
 |.ptr _ tt=>tt
 |.clo _ _=>.leaf
 |.cap _ tt=>tt
 |.fnp _=>.leaf
def PT.GL:PT→Bool
 |.val ..=>false
 |.ptr ..=>true
 |.clo ..=>false
 |.cap ..=>true
 |.fnp _=>false
def PT.Lz:PT→Bool
 |.fnp _=>false
 |_=>true
def nameAt(names:List String):List TC→String×Bool
 |.int _ n::_=>(names.getD n.toNat "",true)
 |_=>("",true)
def Vx(f:String×Bool):List String→Nat→Option Nat
 |[],_=>none
 |x::l,i=>if f=(x,true)then some i else Vx f l (i+1)
def AhU:Nat→Nat→List TC
 |_,0=>[]
 |i,n+1=>.box i 0::AhU (i+1) n
structure Sig where
 ps:List PT
 rs:List PT
 deriving Inhabited
def tyP:List PT→BT
 |[]=>.unit
 |[p]=>p.bt
 |p::r=>.pair p.bt (tyP r)
def ttP:List PT→TT
 |[]=>.leaf
 |[p]=>p.tt
 |p::r=>.pair p.tt (ttP r)
@[reducible] def DP(l:List PT):Type:=(tyP l).D
def Ar(l:List PT)(x:DP l):List TC:=(tyP l).ex (ttP l) x
def Afj(l:List PT)(cs:List TC):Option (DP l):=(tyP l).QK (ttP l) cs
def ptrs(l:List PT):List PT:=l.filter PT.GL
def Be:List PT→Nat→List TC→List TSV
 |[],_,_=>[]
 |.val agg t _::r,i,cs=>mkT agg (cs.take t.size)::Be r (i+1) (cs.drop t.size)
 |.ptr t _::r,i,cs=>.one (.box i 0)::Be r (i+1) (cs.drop t.size)
 |.clo f n::r,i,cs=>.clo f (AhU (i+1) n)::Be r (i+1) cs
 |.cap t _::r,i,cs=>Be r (i+1) (cs.drop t.size)
 |.fnp names::r,i,cs=>.clo (nameAt names cs) [.box 0 0]::Be r (i+1) (cs.drop 1)
def A4:List PT→Nat→List TC→List (Nat×List TC)
 |[],_,_=>[]
 |.val _ t _::r,i,cs=>A4 r (i+1) (cs.drop t.size)
 |.ptr t _::r,i,cs=>(i,cs.take t.size)::A4 r (i+1) (cs.drop t.size)
 |.clo _ _::r,i,cs=>A4 r (i+1) cs
 |.cap t _::r,i,cs=>(i,cs.take t.size)::A4 r (i+1) (cs.drop t.size)
 |.fnp _::r,i,cs=>A4 r (i+1) (cs.drop 1)
def AD:List PT→Nat→List TC→List (Nat×List TC)
 |[],_,_=>[]
 |.val ..::r,i,cs=>AD r (i+1) cs
 |.ptr t _::r,i,cs=>(i,cs.take t.size)::AD r (i+1) (cs.drop t.size)
 |.clo ..::r,i,cs=>AD r (i+1) cs
 |.cap t _::r,i,cs=>(i,cs.take t.size)::AD r (i+1) (cs.drop t.size)
 |.fnp _::r,i,cs=>AD r (i+1) cs
def dv:Root→Nat:=fun _=>0
def dl:Place→Option Nat:=fun _=>none
structure YJ(μ:Nat→Nat)(B:List (Nat×List TC))(H:Heap):Prop where
 get:∀b l,look B b=some l→∃m,H.get (μ b)=some m∧avs μ dv dl l m∧μ b<H.next
 inj:∀b b' l l',look B b=some l→look B b'=some l'→μ b=μ b'→b=b'
 only:∀o m,H.get o=some m→∃b l,look B b=some l∧μ b=o
structure FnPost(S:Sig)(μ:Nat→Nat)(H:Heap)(d:DP S.rs)(d':DP (ptrs S.ps))(r:TV)(H':Heap):Prop where
 res:∃μ' ss ss',(∀i,i<rbase→μ' i=μ i)∧r=gather ss∧Fb ss ss'∧svs μ' dv dl (Be S.rs rbase (Ar S.rs d)) ss'∧
  (∀b l,look (AD S.ps 0 (Ar (ptrs S.ps) d')++A4 S.rs rbase (Ar S.rs d)) b=some l→∃m m',H'.get (μ' b)=some m∧CoL m m'∧avs μ' dv dl l m'∧μ' b<H'.next)∧
  (∀b,rbase≤b→H.next≤μ' b)∧H.next≤H'.next
def Fn(P:Pg)(nm:String)(S:Sig)(x:DP S.ps)(K:DP S.rs→DP (ptrs S.ps)→Prop):Prop:=
 ∀(μ:Nat→Nat) (H:Heap) (as:List SV),svs μ dv dl (Be S.ps 0 (Ar S.ps x)) as→YJ μ (A4 S.ps 0 (Ar S.ps x)) H→
  JJ P nm as H fun r H'=>∃d d',FnPost S μ H d d' r H'∧K d d'
theorem Fn.mono{P:Pg}{nm:String}{S:Sig}{x:DP S.ps}{K K':DP S.rs→DP (ptrs S.ps)→Prop}(h:Fn P nm S x K)(hk:∀d d',K d d'→K' d d'):Fn P nm S x K':=
 fun μ H as h1 h2=>(h μ H as h1 h2).mono fun _ _ ⟨d,d',h3,h4⟩=>⟨d,d',h3,hk d d' h4⟩
def TT.lend:TT→TT
 |.leaf=>.leaf
 |.node .own e=>.node .brw e.lend
 |.node τ e=>.node τ e
 |.pair a b=>.pair a.lend b.lend
def TT.frz:TT→TT
 |.leaf=>.leaf
 |.node .own e=>.node .imm e.frz
 |.node τ e=>.node τ e
 |.pair a b=>.pair a.frz b.frz
section
variable(F Γ:TS)
def AlU(w:Option (Nat×Nat))(k:Nat):TC→R TC
 |.sl .own tt e l=>if e.size=k then(match w with
   |none=>pure (.sl .brw tt.lend e l)
   |some (lo,n)=>(do
    R.need (lo+n≤l.length)
    pure (.sl .brw tt.lend e ((l.drop lo).take n))))
  else R.fail
 |_=>R.fail
def Aj6(imp:Bool):TC→R TC
 |.ref p _ e w=>if(imp&&QV p)=false then(do
   let d←atR F Γ p
   AlU w e.size d)
  else R.fail
 |.sl .own tt e l=>pure (.sl .imm tt.frz e l)
 |.adr ..=>R.fail
 |.iadr ..=>R.fail
 |.iadrd ..=>R.fail
 |.dead=>R.fail
 |c=>pure c
def AeK(imp:Bool):List TC→R (List TC)
 |[]=>pure []
 |c::l=>do
  let d←Aj6 F Γ imp c
  let m←AeK imp l
  pure (d::m)
def Aj7(imp:Bool):TSV→R TSV
 |.one c=>do
  let d←Aj6 F Γ imp c
  pure (.one d)
 |.agg l=>do
  let m←AeK F Γ imp l
  pure (.agg m)
 |.clo f l=>pure (.clo f l)
def AlV(imp:Bool)(g:Gd):Opd→R TSV
 |.c v=>pure (.one (Km v))
 |.f nm=>pure (.clo (nm,false) [])
 |.t n=>match TS.slot F Γ n with
  |some (.val gd v)=>bif gsub gd g then Aj7 F Γ imp v else R.fail
  |_=>R.fail
def Aao(imp:Bool)(g:Gd):List Opd→R (List TSV)
 |[]=>pure []
 |x::r=>do
  let a←AlV F Γ imp g x
  let l←Aao imp g r
  pure (a::l)
def Qu(imp:Bool)(g:Gd):AOp→R (String×List TSV)
 |.call f xs=>do
  let a←Aao F Γ imp g xs
  pure (f,a)
 |.callv f xs=>do
  let v←P0 F Γ g f
  match v with
  |.clo nm caps=>do
   let a←Aao F Γ imp g xs
   if caps.all TC.known then pure (nm.1,bif nm.2 then caps.map .one++a else a++caps.map .one)else R.fail
  |_=>R.fail
 |_=>R.fail
def AU:List PT→Nat→List TSV→List TC→Option (List TC×List (Nat×Nat))
 |[],_,[],[]=>some ([],[])
 |.val agg t _::ps,i,v::vs,[]=>match v,agg,AU ps (i+1) vs []with
  |.one c,false,some (cs,bs)=>if t.size=1 then some (c::cs,bs)else none
  |.agg l,true,some (cs,bs)=>if l.length=t.size then some (l++cs,bs)else none
  |_,_,_=>none
 |.ptr t _::ps,i,.one (.box b 0)::vs,[]=>match look Γ.bx b,AU ps (i+1) vs []with
  |some l,some (cs,bs)=>if bs.any (fun p=>Qb0 p.2 b)=false∧l.length=t.size then some (l++cs,(i,b)::bs)else none
  |_,_=>none
 |.clo f n::ps,i,.clo f' caps::vs,[]=>if f'=f∧caps.length=n then AU ps (i+1) vs caps else none
 |.cap t _::ps,i,vs,.box b 0::pend=>match look Γ.bx b,AU ps (i+1) vs pend with
  |some l,some (cs,bs)=>if bs.any (fun p=>Qb0 p.2 b)=false∧l.length=t.size then some (l++cs,(i,b)::bs)else none
  |_,_=>none
 |.fnp names::ps,i,.clo f [.box 0 0]::vs,[]=>match Vx f names 0,AU ps (i+1) vs []with
  |some k,some (cs,bs)=>some (.int .i64 k::cs,bs)
  |_,_=>none
 |_,_,_,_=>none
def Akn(Γ:TS):Opd→R TS
 |.t n=>match TS.slot F Γ n with
  |some (.val _ v)=>bif v.cells.any ownish then Jp F Γ n .gone else pure Γ
  |_=>Jp F Γ n .gone
 |_=>pure Γ
def X1(Γ:TS):List Opd→R TS
 |[]=>pure Γ
 |x::r=>do
  let Γ1←Akn F Γ x
  X1 Γ1 r
end
def Gz(bs:List (Nat×Nat)):List (Nat×List TC)→List (Nat×List TC)
 |[]=>[]
 |(i,l)::r=>match look bs i with
  |some b=>(b,l)::Gz bs r
  |none=>Gz bs r
def Ab7(bs:List (Nat×Nat)):TSV→TSV
 |.clo f _=>match look bs 0 with
  |some b=>.clo f [.box b 0]
  |none=>.one .dead
 |v=>v
def VP(g:Gd):List TSV→TX
 |[v]=>.val g v
 |l=>.tup l
def CF(imp:Bool)(dst:Option Nat)(rp:Bool)(p:Place):Bool:=(imp&&QV p)||(match dst with|some d=>Ef d p||(rp&&AbB (d+rbase) p)|none=>false)
def Sig.imp(S:Sig):Bool:=S.ps.any PT.GL||S.rs.any PT.GL
def XK(F Γ1:TS)(S:Sig)(g:Gd)(dst:Option Nat)(bs:List (Nat×Nat))(d:DP S.rs)(d':DP (ptrs S.ps)):Option TS:=
 match dst with
 |none=>bif S.rs.any PT.GL then none else TS.upd F Γ1 (CF S.imp none false) (CF S.imp none false) CA [] (Gz bs (AD S.ps 0 (Ar (ptrs S.ps) d')))
 |some t=>
  bif S.rs.any PT.GL then
   (match g,S.rs with
   |[],[.ptr _ _]=>bif (look (Gz bs (AD S.ps 0 (Ar (ptrs S.ps) d'))) (t+rbase)).isSome then none else
     TS.upd F Γ1 (CF S.imp (some t) true) (CF S.imp (some t) true) (fun b=>Qb0 b (t+rbase)) [(t,.val [] (.one (.box (t+rbase) 0)))] (Gz bs (AD S.ps 0 (Ar (ptrs S.ps) d'))++[(t+rbase,Ar S.rs d)])
   |_,_=>none)
  else bif (VP g ((Be S.rs rbase (Ar S.rs d)).map (Ab7 bs))).guards t then none
  else TS.upd F Γ1 (CF S.imp (some t) false) (CF S.imp (some t) false) CA [(t,VP g ((Be S.rs rbase (Ar S.rs d)).map (Ab7 bs)))] (Gz bs (AD S.ps 0 (Ar (ptrs S.ps) d')))
end Go.VS
namespace Go.VS
section
variable{μ μ':Nat→Nat}{ver:Root→Nat}{ln:Place→Option Nat}{F Γ Γ':TS}{st:St}
theorem PN:∀{l m:List TSV} {a b:List SV},svs μ ver ln l a→svs μ ver ln m b→svs μ ver ln (l++m) (a++b)
 |[],_,[],_,_,h=>h
 |x::l,m,y::a,b,h,k=>⟨h.1,PN h.2 k⟩
 |[],_,_::_,_,h,_=>h.elim
 |_::_,_,[],_,h,_=>h.elim
theorem QO:∀(t:BT) (tt:TT) (x:t.D),(t.enc tt x).map AV.lend=t.enc tt.lend x
 |.int _,_,_=>rfl
 |.bool,_,_=>rfl
 |.str,_,_=>rfl
 |.unit,_,_=>rfl
 |.sl e,tt,l=>by
  cases tt with
  |leaf=>rfl
  |node τ a=>
   cases τ with
   |own=>
    simp only[BT.enc,TT.tag,TT.elt,TT.lend,Qc7,List.map_nil,AV.lend,Og,Qd8]
    congr 2
    refine Qc2 fun x _=>?_
    exact QO e a x
   |_=>rfl
  |pair a b=>rfl
 |.pair a b,tt,x=>by
  have h1:tt.lend.fst=tt.fst.lend∧tt.lend.snd=tt.snd.lend:=by
   cases tt with
   |leaf=>exact⟨rfl,rfl⟩
   |node τ a=>cases τ<;>exact⟨rfl,rfl⟩
   |pair a b=>exact⟨rfl,rfl⟩
  simp only[BT.enc,List.map_append,QO a,QO b,h1.1,h1.2]
theorem TM:∀(t:BT) (tt:TT) (x:t.D),(t.enc tt x).map AV.frz=t.enc tt.frz x
 |.int _,_,_=>rfl
 |.bool,_,_=>rfl
 |.str,_,_=>rfl
 |.unit,_,_=>rfl
 |.sl e,tt,l=>by
  cases tt with
  |leaf=>rfl
  |node τ a=>
   cases τ with
   |own=>
    simp only[BT.enc,TT.tag,TT.elt,TT.frz,Qc7,List.map_nil,AV.frz,QD,Qd8]
    congr 2
    refine Qc2 fun x _=>?_
    exact TM e a x
   |_=>rfl
  |pair a b=>rfl
 |.pair a b,tt,x=>by
  have h1:tt.frz.fst=tt.fst.frz∧tt.frz.snd=tt.snd.frz:=by
   cases tt with
   |leaf=>exact⟨rfl,rfl⟩
   |node τ a=>cases τ<;>exact⟨rfl,rfl⟩
   |pair a b=>exact⟨rfl,rfl⟩
  simp only[BT.enc,List.map_append,TM a,TM b,h1.1,h1.2]
theorem Vn(e:BT)(tt:TT)(l:List e.D):Jf (l.map (e.enc tt))=l.map (e.enc tt.lend):=by
 rw[Og,Qd8]
 exact Qc2 fun x _=>QO e tt x
theorem XZ(e:BT)(tt:TT)(l:List e.D):Nn (l.map (e.enc tt))=l.map (e.enc tt.frz):=by
 rw[QD,Qd8]
 exact Qc2 fun x _=>TM e tt x
variable{V:Vis}{imp:Bool}
theorem Aam(h:Sim μ F Γ st)(hV:imp=false→V=none){c d:TC}{a:AV}(hx:(Aj6 F Γ imp c).ok d)(ha:c.av μ st.ver (lnT F Γ) a):
  d.A5=true∧(st.EE V a).holds fun b=>d.av μ st.ver (lnT F Γ) b:=by
 cases c with
 |ref p tt0 e w=>
  simp only[Aj6]at hx;split at hx
  case isFalse=>exact(R.Ae.1 hx).elim
  rename_i hi;rw[R.Ah]at hx;obtain⟨d0,h1,hx⟩:=hx
  have hhid:(p.mu μ).root.hid V=true:=by
   cases hr:p.root with
   |slot t j=>simp[Place.mu,hr,Root.mu,Root.hid]
   |obj b c=>
    have ho:QV p=true:=G3.2 ⟨b,c,hr⟩;rw[ho,Bool.and_true]at hi;rw[hV hi];simp[Place.mu,hr,Root.mu,Root.hid,Vis.sees]
  cases d0 with
  |sl τ tt e2 l=>
   cases τ with
   |own=>
    obtain⟨q1,q2⟩:=Kg h h1
    cases w with
    |none=>
     have ha:a=_:=NF ha q2;subst ha;simp only[AlU]at hx;split at hx
     case isFalse=>exact(R.Ae.1 hx).elim
     rename_i hk;have:=R.Ai.1 hx;subst this;refine⟨rfl,?_⟩;simp only[St.EE,q1,M.Aa,M.Aj,hhid];refine⟨trivial,trivial,hk,by simp,M.Ab ?_⟩;rw[Wo,Vn,←hk];exact rfl
    |some y=>
     obtain⟨lo,n⟩:=y;have ha:a=_:=ha;subst ha;simp only[AlU]at hx;split at hx
     case isFalse=>exact(R.Ae.1 hx).elim
     rename_i hk;rw[R.Ah]at hx;obtain⟨_,h2,hx⟩:=hx;have h2:=R.HE.1 h2;have:=R.Ai.1 hx;subst this;refine⟨rfl,?_⟩;simp only[St.EE,q1,M.Aa,M.Aj,hhid];refine⟨trivial,trivial,hk,by simpa using h2,M.Ab ?_⟩;rw[Tc,Vn,←hk];exact rfl
   |_=>exact(R.Ae.1 hx).elim
  |_=>exact(R.Ae.1 hx).elim
 |sl τ tt e l=>
  have ha:a=_:=ha;subst ha
  cases τ with
  |own=>
   have:=R.Ai.1 hx;subst this;refine⟨rfl,?_⟩;simp only[St.EE];refine M.Ab ?_;rw[XZ];exact rfl
  |imm=>have:=R.Ai.1 hx;subst this;exact⟨rfl,M.Ab rfl⟩
  |brw=>have:=R.Ai.1 hx;subst this;exact⟨rfl,M.Ab rfl⟩
 |adr=>exact(R.Ae.1 hx).elim
 |iadr=>exact(R.Ae.1 hx).elim
 |iadrd=>exact(R.Ae.1 hx).elim
 |dead=>exact(R.Ae.1 hx).elim
 |_=>
  have ha:a=_:=ha;subst ha;have:=R.Ai.1 hx;subst this;exact⟨rfl,M.Ab rfl⟩
theorem XH(h:Sim μ F Γ st)(hV:imp=false→V=none):∀{l m:List TC} {as:List AV},(AeK F Γ imp l).ok m→avs μ st.ver (lnT F Γ) l as→
  m.all TC.A5=true∧(st.Gn V as).holds fun bs=>avs μ st.ver (lnT F Γ) m bs
 |[],m,[],hx,_=>by
  have:=R.Ai.1 hx;subst this;exact⟨rfl,M.Ab trivial⟩
 |c::l,m,a::as,hx,ha=>by
  simp only[AeK]at hx;rw[R.Ah]at hx;obtain⟨d,h1,hx⟩:=hx;rw[R.Ah]at hx;obtain⟨m',h2,hx⟩:=hx;have:=R.Ai.1 hx;subst this;obtain⟨s1,k1⟩:=Aam h hV h1 ha.1;obtain⟨s2,k2⟩:=XH h hV h2 ha.2;refine⟨by simp[s1,s2],?_⟩;simp only[St.Gn,M.Aa]
  refine M.Af k1 fun b hb=>M.Af k2 fun bs hbs=>M.Ab ⟨hb,hbs⟩
 |[],_,_::_,_,h=>h.elim
 |_::_,_,[],_,h=>h.elim
theorem AhA(h:Sim μ F Γ st)(hV:imp=false→V=none){g:Gd}(hg:gv F Γ g=true){x:Opd}{v:TSV}(hx:(AlV F Γ imp g x).ok v):(st.arg V true x).holds fun s=>v.sv μ st.ver (lnT F Γ) s:=by
 cases x with
 |c u=>
  have:=R.Ai.1 hx;subst this;exact M.Ab ⟨_,rfl,Lt u⟩
 |f nm=>
  have:=R.Ai.1 hx;subst this;exact M.Ab ⟨[],rfl,trivial⟩
 |t n=>
  simp only[AlV]at hx;split at hx
  case h_2=>exact(R.Ae.1 hx).elim
  rename_i gd v0 hs
  cases hsub:gsub gd g with
  |false=>rw[hsub]at hx;exact(R.Ae.1 hx).elim
  |true=>
   rw[hsub]at hx;have hx:(Aj7 F Γ imp v0).ok v:=hx;obtain⟨s,heq,hv⟩:=h.sl n _ hs;simp only[St.arg,heq,M.Aa,M.Aj];refine⟨fun _=>X6 hsub hg,?_⟩
   cases v0 with
   |one c=>
    obtain⟨a,rfl,ha⟩:=hv;simp only[Aj7]at hx;rw[R.Ah]at hx;obtain⟨d,h1,hx⟩:=hx;have:=R.Ai.1 hx;subst this;obtain⟨s1,k1⟩:=Aam h hV h1 ha;simp only[SV.cells,St.Gn,M.Aa]
    refine M.Af k1 fun b hb=>M.Ab (M.Ab (M.Ab ⟨b,rfl,hb⟩))
   |agg l=>
    obtain⟨a,rfl,ha⟩:=hv;simp only[Aj7]at hx;rw[R.Ah]at hx;obtain⟨d,h1,hx⟩:=hx;have:=R.Ai.1 hx;subst this;obtain⟨s1,k1⟩:=XH h hV h1 ha
    refine M.Af k1 fun b hb=>M.Ab ⟨b,rfl,hb⟩
   |clo f l=>
    obtain⟨a,rfl,ha⟩:=hv;have:=R.Ai.1 hx;subst this;simp only[SV.cells,St.Gn,St.EE,M.Aa];exact M.Ab (M.Ab (M.Ab (M.Ab ⟨a,rfl,ha⟩)))
theorem RG(h:Sim μ F Γ st)(hV:imp=false→V=none){g:Gd}(hg:gv F Γ g=true):∀{xs:List Opd} {vs:List TSV},(Aao F Γ imp g xs).ok vs→(st.args V true xs).holds fun as=>svs μ st.ver (lnT F Γ) vs as
 |[],vs,hx=>by
  have:=R.Ai.1 hx;subst this;exact M.Ab trivial
 |x::xs,vs,hx=>by
  simp only[Aao]at hx;rw[R.Ah]at hx;obtain⟨d,h1,hx⟩:=hx;rw[R.Ah]at hx;obtain⟨m',h2,hx⟩:=hx;have:=R.Ai.1 hx;subst this;simp only[St.args,M.Aa]
  refine M.Af (AhA h hV hg h1) fun s hs=>M.Af (RG h hV hg h2) fun as has=>M.Ab ⟨hs,has⟩
theorem Uv:∀{l:List TC} {k:List AV},avs μ ver ln l k→svs μ ver ln (l.map TSV.one) (k.map SV.one)
 |[],[],_=>trivial
 |c::l,a::k,h=>⟨⟨a,rfl,h.1⟩,Uv h.2⟩
 |[],_::_,h=>h.elim
 |_::_,[],h=>h.elim
theorem Po(h:Sim μ F Γ st)(hV:imp=false→V=none){g:Gd}(hg:gv F Γ g=true){op:AOp}{nm:String}{vs:List TSV}(hx:(Qu F Γ imp g op).ok (nm,vs)):
  (st.callee V op).holds fun(nm',as)=>nm'=nm∧svs μ st.ver (lnT F Γ) vs as:=by
 cases op with
 |call f xs=>
  simp only[Qu]at hx;rw[R.Ah]at hx;obtain⟨a,h1,hx⟩:=hx;have:=R.Ai.1 hx;cases this;simp only[St.callee,M.Aa]
  exact M.Af (RG h hV hg h1) fun as has=>M.Ab ⟨rfl,has⟩
 |callv f xs=>
  simp only[Qu]at hx;rw[R.Ah]at hx;obtain⟨v,h1,hx⟩:=hx
  cases v with
  |clo nm' caps=>
   dsimp only at hx;rw[R.Ah]at hx;obtain⟨a,h2,hx⟩:=hx;split at hx
   case isFalse=>exact(R.Ae.1 hx).elim
   rename_i hk;have:=R.Ai.1 hx;cases this;simp only[St.callee,St.CD,M.Aa];refine M.Af (FM h (b:=true) (fun _=>hg) h1) ?_;rintro _ ⟨k,rfl,ha⟩;refine M.Ab ?_;simp only[M.Aa,M.Aj];refine⟨(Iv hk ha).2,M.Af (RG h hV hg h2) fun as has=>M.Ab ⟨rfl,?_⟩⟩;obtain⟨nm1,b⟩:=nm'
   cases b with
   |false=>exact PN has (Uv ha)
   |true=>exact PN (Uv ha) has
  |_=>exact(R.Ae.1 hx).elim
 |_=>exact(R.Ae.1 hx).elim
theorem CoL.split:∀{l1 l2 m:List AV},CoL (l1++l2) m→CoL l1 (m.take l1.length)∧CoL l2 (m.drop l1.length)
 |[],l2,m,h=>⟨.nil,by simpa using h⟩
 |a::l1,l2,_,.cons _ b _ m h t=>by
  obtain⟨h1,h2⟩:=CoL.split t;exact⟨.cons _ _ _ _ h (by simpa using h1),by simpa using h2⟩
theorem Fb.refl:∀l,Fb l l
 |[]=>.nil
 |a::l=>.cons a a l l (CoS.refl a) (Fb.refl l)
theorem Vr{names:List String}{ps:List PT}{i:Nat}{vs:List TSV}{pend cs:List TC}{bs:List (Nat×Nat)}(h:AU Γ (.fnp names::ps) i vs pend=some (cs,bs)):
  ∃f vs' k cs',vs=.clo f [.box 0 0]::vs'∧pend=[]∧Vx f names 0=some k∧AU Γ ps (i+1) vs' []=some (cs',bs)∧cs=.int .i64 (k:Nat)::cs':=by
 cases vs with
 |nil=>simp[AU]at h
 |cons v vs=>
  cases pend with
  |cons=>cases v<;>simp[AU]at h
  |nil=>
   cases v with
   |clo f l=>
    cases l with
    |nil=>simp[AU]at h
    |cons c l=>
     cases l with
     |cons=>simp[AU]at h
     |nil=>
      cases c with
      |box b c0=>
       cases b with
       |succ=>simp[AU]at h
       |zero=>
        cases c0 with
        |succ=>simp[AU]at h
        |zero=>
         simp only[AU]at h;split at h
         ·rename_i k cs' bs' hk hm;cases h;exact⟨f,vs,k,cs',rfl,rfl,hk,hm,rfl⟩
         ·cases h
      |_=>simp[AU]at h
   |_=>simp[AU]at h
theorem SX{f:String×Bool}:∀{l:List String} {i k:Nat},Vx f l i=some k→∃j,k=i+j∧f=(l.getD j "",true)
 |[],_,_,h=>nomatch h
 |x::l,i,k,h=>by
  rw[Vx]at h;split at h
  ·rename_i hf;cases h;exact⟨0,rfl,by simpa using hf⟩
  ·obtain⟨j,h1,h2⟩:=SX h;exact⟨j+1,by omega,by simpa using h2⟩
theorem Nu:∀{ps:List PT} {i:Nat} {vs:List TSV} {pend:List TC} {cs:List TC} {bs:List (Nat×Nat)},AU Γ ps i vs pend=some (cs,bs)→∀j b,look bs j=some b→i≤j:=by
 have box:∀{i b0:Nat} {bs:List (Nat×Nat)},(∀j b,look bs j=some b→i+1≤j)→∀j b,look ((i,b0)::bs) j=some b→i≤j:=by
  intro i b0 bs h j b hj;rw[Am]at hj;split at hj
  ·omega
  ·have:=h j b hj;omega
 intro ps
 induction ps with
 |nil=>
  intro i vs pend cs bs h j b hj
  cases vs with
  |cons=>simp[AU]at h
  |nil=>
   cases pend with
   |cons=>simp[AU]at h
   |nil=>
    simp only[AU,Qa4,Prod.mk.injEq]at h;obtain⟨_,rfl⟩:=h;cases hj
 |cons p ps ih=>
  intro i vs pend cs bs h j b hj
  cases p with
  |val agg t tt=>
   cases vs with
   |nil=>simp[AU]at h
   |cons v vs=>
    cases pend with
    |cons=>simp[AU]at h
    |nil=>
     simp only[AU]at h;split at h
     ·rename_i hm;split at h
      ·cases h;have:=ih hm j b hj;omega
      ·cases h
     ·rename_i hm;split at h
      ·cases h;have:=ih hm j b hj;omega
      ·cases h
     ·cases h
  |ptr t tt=>
   cases vs with
   |nil=>simp[AU]at h
   |cons v vs=>
    cases pend with
    |cons=>simp[AU]at h
    |nil=>
     cases v with
     |one c=>
      cases c with
      |box b0 c0=>
       cases c0 with
       |zero=>
        simp only[AU]at h;split at h
        case h_2=>cases h
        rename_i hm;split at h
        case isFalse=>cases h
        cases h;exact box (ih hm) j b hj
       |succ=>simp[AU]at h
      |_=>simp[AU]at h
     |_=>simp[AU]at h
  |clo f n=>
   cases vs with
   |nil=>simp[AU]at h
   |cons v vs=>
    cases pend with
    |cons=>cases v<;>simp[AU]at h
    |nil=>
     cases v with
     |clo f' caps=>
      simp only[AU]at h;split at h
      case isFalse=>cases h
      have:=ih h j b hj;omega
     |_=>simp[AU]at h
  |fnp names=>
   obtain⟨f,vs',k,cs',rfl,rfl,h1,h2,rfl⟩:=Vr h;have:=ih h2 j b hj;omega
  |cap t tt=>
   cases pend with
   |nil=>simp[AU]at h
   |cons c pend=>
    cases c with
    |box b0 c0=>
     cases c0 with
     |zero=>
      simp only[AU]at h;split at h
      case h_2=>cases h
      rename_i hm;split at h
      case isFalse=>cases h
      cases h;exact box (ih hm) j b hj
     |succ=>simp[AU]at h
    |_=>simp[AU]at h
def TC.exT:TC→Bool
 |.int ..=>true
 |.bool _=>true
 |.str _=>true
 |.sl ..=>true
 |_=>false
theorem RP:∀(t:BT) (tt:TT) (x:t.D),(t.ex tt x).all TC.exT=true
 |.int _,_,_=>rfl
 |.bool,_,_=>rfl
 |.str,_,_=>rfl
 |.unit,_,_=>rfl
 |.sl _,_,_=>rfl
 |.pair a b,tt,x=>by simp only[BT.ex,Qc9,RP a,RP b,Qd2]
theorem AaG{C:List TC}(h:C.all TC.exT=true)(n:Nat):(C.drop n).all TC.exT=true:=by
 rw[Qa8]at h⊢
 exact fun c hc=>h c (Qa6 hc)
def Matched(μ μ':Nat→Nat)(F Γ:TS)(st:St)(ps:List PT)(i:Nat)(pend cs:List TC)(bs:List (Nat×Nat))(as:List SV)(pk:List AV):Prop:=
 (∃A,avs μ st.ver (lnT F Γ) cs A∧∀C E,CoL A E→avs μ' dv dl C E→C.all TC.exT=true→
   (∃as',svs μ' dv dl (Be ps i C) as'∧Fb as as')∧
   (∀j l,look (A4 ps i C) j=some l→∃b m m',look bs j=some b∧(look Γ.bx b).isSome=true∧st.hp.get (μ b)=some m∧CoL m m'∧avs μ' dv dl l m'∧μ b<st.hp.next)∧
   (∀j b,look bs j=some b→∃l,look (A4 ps i C) j=some l))∧
  (∀j b,look bs j=some b→i≤j∧(look Γ.bx b).isSome=true)∧(∀j j' b,look bs j=some b→look bs j'=some b→j=j')∧avs μ' dv dl (AhU i pend.length) pk
theorem Yc(h:Sim μ F Γ st){ps:List PT}{i b:Nat}{t:BT}{l cs' pend':List TC}{bs':List (Nat×Nat)}{as:List SV}{pk':List AV}(hl:look Γ.bx b=some l)(hsz:bs'.any (fun p=>Qb0 p.2 b)=false∧l.length=t.size)(hib:μ' i=μ b)
  (hkey:∀j b,look bs' j=some b→i+1≤j) (hM:Matched μ μ' F Γ st ps (i+1) pend' cs' bs' as pk'):
  (∃A,avs μ st.ver (lnT F Γ) (l++cs') A∧∀C E,CoL A E→avs μ' dv dl C E→C.all TC.exT=true→
   (∃as',svs μ' dv dl (Be ps (i+1) (C.drop t.size)) as'∧Fb as as')∧
   (∀j l',look ((i,C.take t.size)::A4 ps (i+1) (C.drop t.size)) j=some l'→∃b0 m m',look ((i,b)::bs') j=some b0∧(look Γ.bx b0).isSome=true∧st.hp.get (μ b0)=some m∧CoL m m'∧avs μ' dv dl l' m'∧μ b0<st.hp.next)∧
   (∀j b0,look ((i,b)::bs') j=some b0→∃l',look ((i,C.take t.size)::A4 ps (i+1) (C.drop t.size)) j=some l'))∧
  (∀j b0,look ((i,b)::bs') j=some b0→i≤j∧(look Γ.bx b0).isSome=true)∧(∀j j' b0,look ((i,b)::bs') j=some b0→look ((i,b)::bs') j'=some b0→j=j'):=by
 obtain⟨⟨A,hA,hrest⟩,hb1,hb2,_⟩:=hM
 have hbox:TS.box F Γ b=some l:=by simp[TS.box,hl]
 obtain⟨k,q1,q2,q3,q4⟩:=h.bx b l hbox
 have hkl:k.length=t.size:=by rw[B2 q2];exact hsz.2
 refine⟨⟨k++A,EO q2 hA,?_⟩,?_,?_⟩
 ·intro C E hco hav hex;obtain⟨c1,c2⟩:=CoL.split hco;rw[hkl]at c1 c2;obtain⟨r1,r3,r4⟩:=hrest (C.drop t.size) (E.drop t.size) c2 (I3 hav _) (AaG hex _);refine⟨r1,?_,?_⟩
  ·intro j l' hj;rw[Am]at hj;split at hj
   ·rename_i hji;cases hj;subst hji;exact⟨b,k,E.take t.size,by rw[Am,if_pos rfl],by simp[hl],q1,c1,I4 hav _,q3⟩
   ·rename_i hji;obtain⟨b',m,m',w1,w2⟩:=r3 j l' hj;exact⟨b',m,m',by rw[Am,if_neg hji];exact w1,w2⟩
  ·intro j b' hj;rw[Am]at hj;split at hj
   ·rename_i hji;exact⟨_,by rw[Am,if_pos hji]⟩
   ·rename_i hji;obtain⟨l',hl'⟩:=r4 j b' hj;exact⟨l',by rw[Am,if_neg hji];exact hl'⟩
 ·intro j b' hj;rw[Am]at hj;split at hj
  ·cases hj;exact⟨by omega,by simp[hl]⟩
  ·have:=hb1 j b' hj;exact⟨by omega,this.2⟩
 ·have hnot:∀j,look bs' j≠some b:=by
   intro j hj;have:=List.any_eq_false.1 hsz.1 (j,b) (Em hj);simp at this
  intro j j' b' hj hj';rw[Am]at hj hj';split at hj
  ·rename_i e1;cases hj;split at hj'
   ·rename_i e2;omega
   ·exact(hnot _ hj').elim
  ·split at hj'
   ·cases hj';exact(hnot _ hj).elim
   ·exact hb2 j j' b' hj hj'
theorem AdI(h:Sim μ F Γ st):∀{ps:List PT} {i:Nat} {vs:List TSV} {pend cs:List TC} {bs:List (Nat×Nat)} {as:List SV} {pk:List AV},svs μ st.ver (lnT F Γ) vs as→avs μ st.ver (lnT F Γ) pend pk→AU Γ ps i vs pend=some (cs,bs)→(∀j b,look bs j=some b→μ' j=μ b)→(ps.all PT.Lz=true∨μ' 0=μ 0)→
  Matched μ μ' F Γ st ps i pend cs bs as pk:=by
 intro ps
 induction ps with
 |nil=>
  intro i vs pend cs bs as pk hv hp hm hμ h0
  cases vs with
  |cons=>simp[AU]at hm
  |nil=>
   cases pend with
   |cons=>simp[AU]at hm
   |nil=>
    cases as with
    |cons=>exact hv.elim
    |nil=>
     cases pk with
     |cons=>exact hp.elim
     |nil=>
      simp only[AU,Qa4,Prod.mk.injEq]at hm;obtain⟨rfl,rfl⟩:=hm;exact⟨⟨[],trivial,fun C E _ _ _=>⟨⟨[],trivial,.nil⟩,(fun _ _ h=>nomatch h),(fun _ _ h=>nomatch h)⟩⟩,(fun _ _ h=>nomatch h),(fun _ _ _ h=>nomatch h),trivial⟩
 |cons p ps ih=>
  intro i vs pend cs bs as pk hv hp hm hμ h0;have h0':ps.all PT.Lz=true∨μ' 0=μ 0:=h0.imp (fun h=>by rw[Qa5,Qa2]at h;exact h.2) id
  cases p with
  |fnp names=>
   obtain⟨f,vs',k,cs',rfl,rfl,h1,h2,rfl⟩:=Vr hm;have hz:μ' 0=μ 0:=h0.resolve_left (by simp[PT.Lz])
   cases as with
   |nil=>exact hv.elim
   |cons s as=>
   cases pk with
   |cons=>exact hp.elim
   |nil=>
   obtain⟨m,rfl,ha⟩:=hv.1;obtain⟨⟨A,hA,hrest⟩,k2,k3,_⟩:=ih hv.2 (pend:=[]) (pk:=[]) trivial h2 hμ h0';obtain⟨j,e1,e2⟩:=SX h1;rw[Qe1]at e1;subst e1
   match m,ha with
   |[a],ha=>
    have ha:a=_:=ha.1;subst ha;refine⟨⟨.lit (.int .i64 ((k:Nat):Int))::A,⟨rfl,hA⟩,fun C E hco hav hex=>?_⟩,fun j b hj=>⟨by have:=(k2 j b hj).1;omega,(k2 j b hj).2⟩,k3,trivial⟩
    cases hco with
    |cons _ b _ E' hab hrest2=>
     have hb:b=.lit (.int .i64 ((k:Nat):Int)):=by cases hab;rfl
     subst hb
     cases C with
     |nil=>exact hav.elim
     |cons c C=>
      simp only[Qa5,Qa2]at hex;obtain⟨⟨as',r1,r2⟩,r3,r4⟩:=hrest C E' hrest2 hav.2 hex.2;refine⟨⟨.one (.clo f [.ptr (μ 0) 0])::as',⟨?_,r1⟩,.cons _ _ _ _ (CoS.refl _) r2⟩,r3,r4⟩;have hc:c.av μ' dv dl (.lit (.int .i64 ((k:Nat):Int))):=hav.1;have hex1:=hex.1
      cases c with
      |int k' n=>
       have hc:(AV.lit (.int .i64 ((k:Nat):Int)))=.lit (.int k' n):=hc;cases hc;exact⟨[.ptr (μ 0) 0],by rw[e2];rfl,by simp[TC.av,hz],trivial⟩
      |bool b=>cases hc
      |str b=>cases hc
      |sl τ tt e l=>cases hc
      |_=>cases hex1
   |[],ha=>exact ha.elim
   |_::_::_,ha=>exact ha.2.elim
  |val agg t tt=>
   cases vs with
   |nil=>simp[AU]at hm
   |cons v vs=>
   cases pend with
   |cons=>simp[AU]at hm
   |nil=>
   cases as with
   |nil=>exact hv.elim
   |cons s as=>
   cases pk with
   |cons=>exact hp.elim
   |nil=>
   have fin:∀(l:List TC) (k:List AV) (cs':List TC) (bs':List (Nat×Nat)),AU Γ ps (i+1) vs []=some (cs',bs')→cs=l++cs'→bs=bs'→avs μ st.ver (lnT F Γ) l k→l.length=t.size→(∀m n,CoL k n→avs μ' dv dl m n→m.length=t.size→∃s',(mkT agg m).sv μ' dv dl s'∧CoS s s')→
     Matched μ μ' F Γ st (.val agg t tt::ps) i [] cs bs (s::as) []:=by
    rintro l k cs' bs' hm' rfl rfl hl hlen hmk;obtain⟨⟨A,hA,hrest⟩,hb1,hb2,_⟩:=ih hv.2 (pend:=[]) (pk:=[]) trivial hm' hμ h0'
    have hkl:k.length=t.size:=by rw[B2 hl];exact hlen
    refine⟨⟨k++A,EO hl hA,?_⟩,fun j b hj=>⟨by have:=(hb1 j b hj).1;omega,(hb1 j b hj).2⟩,hb2,trivial⟩
    intro C E hco hav hex;obtain⟨c1,c2⟩:=CoL.split hco;rw[hkl]at c1 c2;obtain⟨⟨as',r1,r2⟩,r3,r4⟩:=hrest (C.drop t.size) (E.drop t.size) c2 (I3 hav _) (AaG hex _)
    obtain⟨s',q1,q2⟩:=hmk (C.take t.size) (E.take t.size) c1 (I4 hav _) (by
     have e1:=B2 hav;have e2:=hco.length;simp only[List.length_append,hkl]at e2
     simp;omega)
    exact⟨⟨s'::as',⟨q1,r1⟩,.cons _ _ _ _ q2 r2⟩,r3,r4⟩
   simp only[AU]at hm;split at hm
   ·rename_i c cs' bs' hm';split at hm
    case isFalse=>cases hm
    rename_i hsz;simp only[Qa4,Prod.mk.injEq]at hm;obtain⟨rfl,rfl⟩:=hm;obtain⟨a,rfl,ha⟩:=hv.1;refine fin [c] [a] cs' _ hm' rfl rfl ⟨ha,trivial⟩ (by simp[hsz]) ?_;intro m n hmn hav hml
    cases hmn with
    |cons _ b _ n' hab hnil=>
     cases hnil
     match m,hav with
     |[c'],hav=>exact⟨.one b,⟨b,rfl,hav.1⟩,.one _ _ hab⟩
     |[],hav=>exact hav.elim
     |_::_::_,hav=>exact hav.2.elim
   ·rename_i l cs' bs' hm';split at hm
    case isFalse=>cases hm
    rename_i hsz;simp only[Qa4,Prod.mk.injEq]at hm;obtain⟨rfl,rfl⟩:=hm;obtain⟨k,rfl,ha⟩:=hv.1;refine fin l k cs' _ hm' rfl rfl ha hsz ?_;intro m n hmn hav hml;exact⟨.agg n,⟨n,rfl,hav⟩,.agg _ _ hmn⟩
   ·cases hm
  |ptr t tt=>
   cases vs with
   |nil=>simp[AU]at hm
   |cons v vs=>
   cases pend with
   |cons=>simp[AU]at hm
   |nil=>
   cases as with
   |nil=>exact hv.elim
   |cons s as=>
   cases pk with
   |cons=>exact hp.elim
   |nil=>
   cases v with
   |one c=>
    cases c with
    |box b c0=>
     cases c0 with
     |zero=>
      simp only[AU]at hm;split at hm
      case h_2=>cases hm
      rename_i l cs' bs' hl hm';split at hm
      case isFalse=>cases hm
      rename_i hsz;simp only[Qa4,Prod.mk.injEq]at hm;obtain⟨rfl,rfl⟩:=hm;have hkeys:=Nu hm'
      have hμ2:∀j b',look bs' j=some b'→μ' j=μ b':=fun j b' hj=>hμ j b' (by
       have:=hkeys j b' hj
       rw[Am,if_neg (by omega)];exact hj)
      have hib:μ' i=μ b:=hμ i b (by rw[Am,if_pos rfl]);obtain⟨a,rfl,ha⟩:=hv.1;have ha:a=_:=ha;subst ha;obtain⟨⟨A,hA,hrest⟩,k2,k3⟩:=Yc h hl hsz hib hkeys (ih hv.2 (pend:=[]) (pk:=[]) trivial hm' hμ2 h0');refine⟨⟨A,hA,fun C E hco hav hex=>?_⟩,k2,k3,trivial⟩;obtain⟨⟨as',r1,r2⟩,r3,r4⟩:=hrest C E hco hav hex
      exact⟨⟨.one (.ptr (μ b) 0)::as',⟨⟨_,rfl,by simp[TC.av,hib]⟩,r1⟩,.cons _ _ _ _ (CoS.refl _) r2⟩,r3,r4⟩
     |succ=>simp[AU]at hm
    |_=>simp[AU]at hm
   |_=>simp[AU]at hm
  |clo f n=>
   cases vs with
   |nil=>simp[AU]at hm
   |cons v vs=>
   cases pend with
   |cons=>cases v<;>simp[AU]at hm
   |nil=>
   cases as with
   |nil=>exact hv.elim
   |cons s as=>
   cases pk with
   |cons=>exact hp.elim
   |nil=>
   cases v with
   |clo f' caps=>
    simp only[AU]at hm;split at hm
    case isFalse=>cases hm
    rename_i hfn;obtain⟨rfl,rfl⟩:=hfn;obtain⟨m,rfl,ha⟩:=hv.1;obtain⟨⟨A,hA,hrest⟩,k2,k3,k4⟩:=ih hv.2 ha hm hμ h0';refine⟨⟨A,hA,fun C E hco hav hex=>?_⟩,fun j b hj=>⟨by have:=(k2 j b hj).1;omega,(k2 j b hj).2⟩,k3,trivial⟩
    obtain⟨⟨as',r1,r2⟩,r3,r4⟩:=hrest C E hco hav hex;exact⟨⟨.one (.clo f' m)::as',⟨⟨m,rfl,k4⟩,r1⟩,.cons _ _ _ _ (CoS.refl _) r2⟩,r3,r4⟩
   |_=>simp[AU]at hm
  |cap t tt=>
   cases pend with
   |nil=>simp[AU]at hm
   |cons c pend=>
   cases pk with
   |nil=>exact hp.elim
   |cons a pk=>
   cases c with
   |box b c0=>
    cases c0 with
    |zero=>
     simp only[AU]at hm;split at hm
     case h_2=>cases hm
     rename_i l cs' bs' hl hm';split at hm
     case isFalse=>cases hm
     rename_i hsz;simp only[Qa4,Prod.mk.injEq]at hm;obtain⟨rfl,rfl⟩:=hm;have hkeys:=Nu hm'
     have hμ2:∀j b',look bs' j=some b'→μ' j=μ b':=fun j b' hj=>hμ j b' (by
      have:=hkeys j b' hj
      rw[Am,if_neg (by omega)];exact hj)
     have hib:μ' i=μ b:=hμ i b (by rw[Am,if_pos rfl]);have hM:=ih hv hp.2 hm' hμ2 h0';have hcap:=hM.2.2.2;obtain⟨⟨A,hA,hrest⟩,k2,k3⟩:=Yc h hl hsz hib hkeys hM;refine⟨⟨A,hA,fun C E hco hav hex=>hrest C E hco hav hex⟩,k2,k3,?_,hcap⟩;have ha:a=_:=hp.1;subst ha;simp[TC.av,hib]
    |succ=>simp[AU]at hm
   |_=>simp[AU]at hm
theorem Oh(h:Sim μ F Γ st){ps:List PT}{i:Nat}{vs:List TSV}{cs:List TC}{bs:List (Nat×Nat)}{as:List SV}(hv:svs μ st.ver (lnT F Γ) vs as)(hm:AU Γ ps i vs []=some (cs,bs))(hμ:∀j b,look bs j=some b→μ' j=μ b)(h0:ps.all PT.Lz=true∨μ' 0=μ 0):
  (∃A,avs μ st.ver (lnT F Γ) cs A∧∀C E,CoL A E→avs μ' dv dl C E→C.all TC.exT=true→
   (∃as',svs μ' dv dl (Be ps i C) as'∧Fb as as')∧
   (∀j l,look (A4 ps i C) j=some l→∃b m m',look bs j=some b∧(look Γ.bx b).isSome=true∧st.hp.get (μ b)=some m∧CoL m m'∧avs μ' dv dl l m'∧μ b<st.hp.next)∧
   (∀j b,look bs j=some b→∃l,look (A4 ps i C) j=some l))∧
  (∀j b,look bs j=some b→i≤j∧(look Γ.bx b).isSome=true)∧(∀j j' b,look bs j=some b→look bs j'=some b→j=j'):=by
 obtain⟨h1,h2,h3,_⟩:=AdI h hv (pend:=[]) (pk:=[]) trivial hm hμ h0;exact⟨h1,h2,h3⟩
end
end Go.VS
namespace Go.VS
section
variable{μ μ':Nat→Nat}{ver:Root→Nat}{ln:Place→Option Nat}{F Γ Γ':TS}{st:St}
theorem QZ{c:TC}(h:ownish c=false){a:AV}(ha:c.av μ ver ln a):a.B3=false:=by
 cases c with
 |sl τ tt e l=>
  have ha:a=_:=ha;subst ha
  cases τ<;>first|rfl|cases h
 |dead=>cases h
 |ref p tt e w=>
  cases w with
  |none=>obtain⟨m,rfl,_⟩:=ha;rfl
  |some x=>have ha:a=_:=ha;subst ha;rfl
 |_=>(have ha:a=_:=ha);subst ha;rfl
theorem O5{v:TSV}(h:v.cells.any ownish=false){s:SV}(hv:v.sv μ ver ln s):s.CB=false:=by
 have key:∀{l:List TC},l.any ownish=false→∀{as:List AV},avs μ ver ln l as→as.any AV.B3=false:=by
  intro l
  induction l with
  |nil=>intro _ as ha;cases as with
   |nil=>rfl
   |cons=>exact ha.elim
  |cons c l ih=>intro h as ha;cases as with
   |nil=>exact ha.elim
   |cons a as=>
    simp only[Qb1,Qa1]at h;simp only[Qb1,QZ h.1 ha.1,ih h.2 ha.2,Qe2]
 cases v with
 |one c=>
  obtain⟨a,rfl,ha⟩:=hv;simp only[TSV.cells,Qb1,List.any_nil,Bool.or_false]at h;simp[SV.CB,SV.cells,QZ h ha]
 |agg l=>obtain⟨a,rfl,ha⟩:=hv;exact key h ha
 |clo f l=>obtain⟨a,rfl,ha⟩:=hv;rfl
theorem Vf(h:Sim μ F Γ st){n:Nat}(hx:(Jp F Γ n .gone).ok Γ')(y:TV):Sim μ F Γ' (st.set n y)∧((st.sl n).CB=false→Sim μ F Γ' st):=by
 refine⟨DK h hx trivial,fun ho=>?_⟩;have:=DK h hx (y:=st.sl n) trivial
 have e:st.set n (st.sl n)=st:=by
  have e1:upd st.sl n (st.sl n)=st.sl:=by funext t;simp only[upd];split<;>simp_all
  simp only[St.set,ho,e1];rfl
 rwa [e]at this
theorem Aif(h:Sim μ F Γ st){x:Opd}(hx:(Akn F Γ x).ok Γ'):Sim μ F Γ' (st.DW x):=by
 have gone:∀n,(Jp F Γ n .gone).ok Γ'→Sim μ F Γ' (st.DW (.t n)):=by
  intro n hx;simp only[St.DW];split
  ·exact(Vf h hx _).1
  ·rename_i ho;exact(Vf h hx .dead).2 (by simpa using ho)
 cases x with
 |c v=>have:=R.Ai.1 hx;subst this;exact h
 |f nm=>have:=R.Ai.1 hx;subst this;exact h
 |t n=>
  simp only[Akn]at hx;split at hx
  ·rename_i gd v hs
   cases ho:v.cells.any ownish with
   |true=>rw[ho]at hx;exact gone n hx
   |false=>
    rw[ho]at hx;have:=R.Ai.1 hx;subst this;obtain⟨s,heq,hv⟩:=h.sl n _ hs
    have:(st.sl n).CB=false:=by rw[heq];exact O5 ho hv
    simp only[St.DW,this];exact h
  ·exact gone n hx
theorem X3:∀{xs:List Opd} {st:St} {Γ Γ':TS},Sim μ F Γ st→(X1 F Γ xs).ok Γ'→Sim μ F Γ' (st.Gt xs)
 |[],st,Γ,Γ',h,hx=>by have:=R.Ai.1 hx;subst this;exact h
 |x::xs,st,Γ,Γ',h,hx=>by
  simp only[X1]at hx;rw[R.Ah]at hx;obtain⟨Γ1,h1,hx⟩:=hx;exact X3 (xs:=xs) (Aif h h1) hx
theorem Px:∀(xs:List Opd) (st:St),(st.Gt xs).hp=st.hp
 |[],_=>rfl
 |x::xs,st=>by
  rw[St.Gt,Px xs]
  cases x<;>simp only[St.DW]<;>(try split)<;>rfl
theorem Ace{n:Nat}{x:TX}(hx:(Jp F Γ n x).ok Γ'){b:Nat}:(look Γ'.bx b).isSome=(look Γ.bx b).isSome:=by
 unfold Jp at hx
 cases hb:(x.guards n||x.hit (Ef n) (Ef n) CA)with
 |true=>rw[hb]at hx;exact(R.Ae.1 hx).elim
 |false=>
  rw[hb]at hx;have hu:=R.Cd.1 hx;have:=(YI hu).2.2.2 b
  cases h1:look Γ'.bx b<;>cases h2:look Γ.bx b<;>simp_all [look]
theorem X2:∀{xs:List Opd} {Γ Γ':TS},(X1 F Γ xs).ok Γ'→∀b,(look Γ'.bx b).isSome=(look Γ.bx b).isSome
 |[],Γ,Γ',hx,b=>by have:=R.Ai.1 hx;subst this;rfl
 |x::xs,Γ,Γ',hx,b=>by
  simp only[X1]at hx;rw[R.Ah]at hx;obtain⟨Γ1,h1,hx⟩:=hx;rw[X2 hx b]
  cases x with
  |c v=>have:=R.Ai.1 h1;subst this;rfl
  |f nm=>have:=R.Ai.1 h1;subst this;rfl
  |t n=>
   simp only[Akn]at h1;split at h1
   ·rename_i gd v hs
    cases ho:v.cells.any ownish with
    |true=>rw[ho]at h1;exact Ace (show(Jp F Γ n .gone).ok Γ1 from h1)
    |false=>rw[ho]at h1;have:=R.Ai.1 h1;subst this;rfl
   ·exact Ace h1
mutual
theorem Co.free:∀{a b:AV},Co a b→b.free=true→a.free=true
 |_,_,.refl _,h=>h
 |_,_,.nil _ _,_=>rfl
 |_,_,.sl τ τ' k xs ys ht hl,h=>by
  have h2:Gs xs=true:=by
   refine CP.free hl ?_
   cases τ'<;>first|exact h|cases h
  cases τ with
  |brw=>
   rcases ht with rfl|⟨h3,_⟩
   ·cases h
   ·cases h3
  |_=>exact h2
theorem CoL.free:∀{a b:List AV},CoL a b→CN b=true→CN a=true
 |_,_,.nil,_=>rfl
 |_,_,.cons _ _ _ _ h t,hb=>by
  simp only[CN,Qa2]at hb⊢;exact⟨Co.free h hb.1,CoL.free t hb.2⟩
theorem CP.free:∀{a b:List (List AV)},CP a b→Gs b=true→Gs a=true
 |_,_,.nil,_=>rfl
 |_,_,.cons _ _ _ _ h t,hb=>by
  simp only[Gs,Qa2]at hb⊢;exact⟨CoL.free h hb.1,CP.free t hb.2⟩
end
mutual
theorem Co.plain:∀{a b:AV},Co a b→b.plain=true→a.plain=true
 |_,_,.refl _,h=>h
 |_,_,.nil _ _,_=>rfl
 |_,_,.sl τ τ' k xs ys ht hl,h=>by
  have h2:FJ xs=true:=by
   refine CP.plain hl ?_
   cases τ'<;>first|exact h|cases h
  cases τ with
  |brw=>
   rcases ht with rfl|⟨h3,_⟩
   ·cases h
   ·cases h3
  |_=>exact h2
theorem CoL.plain:∀{a b:List AV},CoL a b→BK b=true→BK a=true
 |_,_,.nil,_=>rfl
 |_,_,.cons _ _ _ _ h t,hb=>by
  simp only[BK,Qa2]at hb⊢;exact⟨Co.plain h hb.1,CoL.plain t hb.2⟩
theorem CP.plain:∀{a b:List (List AV)},CP a b→FJ b=true→FJ a=true
 |_,_,.nil,_=>rfl
 |_,_,.cons _ _ _ _ h t,hb=>by
  simp only[FJ,Qa2]at hb⊢;exact⟨CoL.plain h hb.1,CP.plain t hb.2⟩
end
def PT.AaT(p:PT):Bool:=TC.BC.TT.BC p.tt
def PT.wf:PT→Bool
 |.val agg t _=>agg||Qb0 t.size 1
 |.ptr _ _=>true
 |.clo ..=>false
 |.cap ..=>false
 |.fnp _=>true
def XN:List PT→Bool
 |[]=>true
 |.clo _ n::r=>Nat.ble n r.length&&XN r
 |_::r=>XN r
def AaK:List PT→Bool
 |.ptr ..::_=>true
 |_=>false
def Sig.free(S:Sig):Bool:=(ptrs S.ps).all PT.AaT&&(S.rs.all PT.AaT&&(S.rs.all PT.wf&&(Nat.ble S.ps.length rbase&&(XN S.ps&&((S.ps.all PT.Lz)&&(S.rs.all PT.Lz||AaK S.ps))))))
theorem MD{tt:TT}(h:TC.BC.TT.BC tt=true):TC.BC.TT.BC tt.fst=true∧TC.BC.TT.BC tt.snd=true:=by
 cases tt with
 |leaf=>exact⟨rfl,rfl⟩
 |node τ a=>exact⟨rfl,rfl⟩
 |pair a b=>simpa[TC.BC.TT.BC,TT.fst,TT.snd]using h
def TC.DJ:TC→Bool
 |.int ..=>true
 |.bool _=>true
 |.str _=>true
 |.sl τ tt _ _=>(match τ with|.brw=>false|_=>true)&&TC.BC.TT.BC tt
 |_=>false
theorem Y0:∀(t:BT) (tt:TT) (_:TC.BC.TT.BC tt=true) (x:t.D),(t.ex tt x).all TC.DJ=true
 |.int _,_,_,_=>rfl
 |.bool,_,_,_=>rfl
 |.str,_,_,_=>rfl
 |.unit,_,_,_=>rfl
 |.sl e,tt,h,l=>by
  cases tt with
  |leaf=>rfl
  |node τ a=>cases τ<;>simp_all [BT.ex,TC.DJ,TT.tag,TT.elt,TC.BC.TT.BC]
  |pair a b=>rfl
 |.pair a b,tt,h,x=>by
  simp only[BT.ex,Qc9,Y0 a _ (MD h).1,Y0 b _ (MD h).2,Qd2]
theorem Acz:∀{l:List PT},l.all PT.AaT=true→TC.BC.TT.BC (ttP l)=true
 |[],_=>rfl
 |[p],h=>by simpa[PT.AaT,ttP]using h
 |p::q::r,h=>by
  rw[Qa5,Qa2]at h;show(TC.BC.TT.BC p.tt&&TC.BC.TT.BC (ttP (q::r)))=true;rw[Qa2];exact⟨h.1,Acz h.2⟩
theorem Kd{l:List PT}(h:l.all PT.AaT=true)(x:DP l):(Ar l x).all TC.DJ=true:=Y0 _ _ (Acz h) x
theorem Nz{c:TC}(h:c.DJ=true):c.A5=true:=by
 cases c<;>first|rfl|cases h
theorem AbN{c:TC}(h:c.DJ=true){a:AV}{μ':Nat→Nat}{ver':Root→Nat}{ln':Place→Option Nat}(ha:c.av μ ver ln a):c.av μ' ver' ln' a:=by
 cases c<;>first|exact ha|cases h
theorem LA{μ':Nat→Nat}{ver':Root→Nat}{ln':Place→Option Nat}:∀{l:List TC},l.all TC.DJ=true→∀{as:List AV},avs μ ver ln l as→avs μ' ver' ln' l as
 |[],_,[],_=>trivial
 |c::l,h,a::as,ha=>by
  simp only[Qa5,Qa2]at h;exact⟨AbN h.1 ha.1,LA h.2 ha.2⟩
 |[],_,_::_,h=>h.elim
 |_::_,_,[],h=>h.elim
theorem Cn{l m:List TC}{q:TC→Bool}(h:l.all q=true)(hm:∀c∈m,c∈l):m.all q=true:=by
 rw[Qa8]at h⊢
 exact fun c hc=>h c (hm c hc)
theorem EP:∀(ps:List PT) (i:Nat) (cs:List TC) (j:Nat) (l:List TC),look (A4 ps i cs) j=some l→∀c∈l,c∈cs
 |[],_,_,_,_,h=>nomatch h
 |.val agg t tt::r,i,cs,j,l,h=>fun c hc=>Qa6 (EP r (i+1) _ j l h c hc)
 |.ptr t tt::r,i,cs,j,l,h=>by
  simp only[A4,Am]at h;split at h
  ·cases h;exact fun c hc=>Qb4 hc
  ·exact fun c hc=>Qa6 (EP r (i+1) _ j l h c hc)
 |.clo f n::r,i,cs,j,l,h=>EP r (i+1) _ j l h
 |.fnp names::r,i,cs,j,l,h=>fun c hc=>Qa6 (EP r (i+1) _ j l h c hc)
 |.cap t tt::r,i,cs,j,l,h=>by
  simp only[A4,Am]at h;split at h
  ·cases h;exact fun c hc=>Qb4 hc
  ·exact fun c hc=>Qa6 (EP r (i+1) _ j l h c hc)
theorem Cw:∀(ps:List PT) (i:Nat) (cs:List TC) (j:Nat) (l:List TC),look (AD ps i cs) j=some l→(∀c∈l,c∈cs)∧i≤j∧j<i+ps.length
 |[],_,_,_,_,h=>nomatch h
 |.val agg t tt::r,i,cs,j,l,h=>by
  have:=Cw r (i+1) _ j l h;exact⟨this.1,by omega,by simp;omega⟩
 |.ptr t tt::r,i,cs,j,l,h=>by
  simp only[AD,Am]at h;split at h
  ·cases h;exact⟨fun c hc=>Qb4 hc,by omega,by simp;omega⟩
  ·have:=Cw r (i+1) _ j l h;exact⟨fun c hc=>Qa6 (this.1 c hc),by omega,by simp;omega⟩
 |.clo f n::r,i,cs,j,l,h=>by
  have:=Cw r (i+1) _ j l h;exact⟨this.1,by omega,by simp;omega⟩
 |.fnp names::r,i,cs,j,l,h=>by
  have:=Cw r (i+1) _ j l h;exact⟨this.1,by omega,by simp;omega⟩
 |.cap t tt::r,i,cs,j,l,h=>by
  simp only[AD,Am]at h;split at h
  ·cases h;exact⟨fun c hc=>Qb4 hc,by omega,by simp;omega⟩
  ·have:=Cw r (i+1) _ j l h;exact⟨fun c hc=>Qa6 (this.1 c hc),by omega,by simp;omega⟩
theorem Eb:∀(ps:List PT) (i:Nat) (cs ds:List TC) (j:Nat) (l:List TC),look (A4 ps i cs) j=some l→∃l',look (AD ps i ds) j=some l'
 |[],_,_,_,_,_,h=>nomatch h
 |.val agg t tt::r,i,cs,ds,j,l,h=>Eb r (i+1) _ ds j l h
 |.ptr t tt::r,i,cs,ds,j,l,h=>by
  simp only[A4,AD,Am]at h⊢;split at h
  ·rename_i hj;rw[if_pos hj];exact⟨_,rfl⟩
  ·rename_i hj;rw[if_neg hj];exact Eb r (i+1) _ _ j l h
 |.clo f n::r,i,cs,ds,j,l,h=>Eb r (i+1) _ ds j l h
 |.fnp names::r,i,cs,ds,j,l,h=>Eb r (i+1) _ ds j l h
 |.cap t tt::r,i,cs,ds,j,l,h=>by
  simp only[A4,AD,Am]at h⊢;split at h
  ·rename_i hj;rw[if_pos hj];exact⟨_,rfl⟩
  ·rename_i hj;rw[if_neg hj];exact Eb r (i+1) _ _ j l h
theorem Et{ps:List PT}(h:ps.any PT.GL=false):∀(i:Nat) (cs:List TC),AD ps i cs=[]:=by
 induction ps with
 |nil=>intro i cs;rfl
 |cons p ps ih=>
  simp only[Qb1,Qa1]at h;intro i cs
  cases p with
  |val=>exact ih h.2 _ _
  |ptr=>cases h.1
  |clo=>exact ih h.2 _ _
  |fnp=>exact ih h.2 _ _
  |cap=>cases h.1
theorem BD{ps:List PT}(h:ps.any PT.GL=false):∀(i:Nat) (cs:List TC),A4 ps i cs=[]:=by
 induction ps with
 |nil=>intro i cs;rfl
 |cons p ps ih=>
  simp only[Qb1,Qa1]at h;intro i cs
  cases p with
  |val=>exact ih h.2 _ _
  |ptr=>cases h.1
  |clo=>exact ih h.2 _ _
  |fnp=>exact ih h.2 _ _
  |cap=>cases h.1
theorem Sg{bs:List (Nat×Nat)}:∀{B:List (Nat×List TC)} {b:Nat} {l:List TC},look (Gz bs B) b=some l→∃j,look bs j=some b∧(j,l)∈B
 |[],_,_,h=>nomatch h
 |(i,l0)::B,b,l,h=>by
  simp only[Gz]at h;split at h
  ·rename_i b0 hb0;rw[Am]at h;split at h
   ·rename_i hbb;cases h;subst hbb;exact⟨i,hb0,by simp⟩
   ·obtain⟨j,h1,h2⟩:=Sg h;exact⟨j,h1,by simp[h2]⟩
  ·obtain⟨j,h1,h2⟩:=Sg h;exact⟨j,h1,by simp[h2]⟩
theorem VO{bs:List (Nat×Nat)}:∀{B:List (Nat×List TC)} {j b:Nat} {l:List TC},look bs j=some b→look B j=some l→∃l',look (Gz bs B) b=some l'
 |[],_,_,_,_,h=>nomatch h
 |(i,l0)::B,j,b,l,hb,h=>by
  rw[Am]at h;simp only[Gz];split at h
  ·rename_i hij;subst hij;rw[hb];exact⟨l0,by rw[Am,if_pos rfl]⟩
  ·split
   ·rename_i b0 hb0;rw[Am];split
    ·exact⟨_,rfl⟩
    ·exact VO hb h
   ·exact VO hb h
theorem E1:∀(ps:List PT) (i:Nat) (cs:List TC) (j:Nat) (l:List TC),(j,l)∈AD ps i cs→look (AD ps i cs) j=some l∧i≤j
 |[],_,_,_,_,h=>nomatch h
 |.val agg t tt::r,i,cs,j,l,h=>by
  have:=E1 r (i+1) cs j l h;exact⟨this.1,by omega⟩
 |.ptr t tt::r,i,cs,j,l,h=>by
  simp only[AD,Qe0,Prod.mk.injEq]at h
  rcases h with⟨rfl,rfl⟩|h
  ·exact⟨by simp[AD,Am],Qc0 _⟩
  ·have:=E1 r (i+1) _ j l h;refine⟨?_,by omega⟩;simp only[AD,Am];rw[if_neg (by omega)];exact this.1
 |.clo f n::r,i,cs,j,l,h=>by
  have:=E1 r (i+1) cs j l h;exact⟨this.1,by omega⟩
 |.fnp names::r,i,cs,j,l,h=>by
  have:=E1 r (i+1) cs j l h;exact⟨this.1,by omega⟩
 |.cap t tt::r,i,cs,j,l,h=>by
  simp only[AD,Qe0,Prod.mk.injEq]at h
  rcases h with⟨rfl,rfl⟩|h
  ·exact⟨by simp[AD,Am],Qc0 _⟩
  ·have:=E1 r (i+1) _ j l h;refine⟨?_,by omega⟩;simp only[AD,Am];rw[if_neg (by omega)];exact this.1
theorem Kb{rs:List PT}(h:rs.any PT.GL=false)(hw:rs.all PT.wf=true)(hq:rs.all PT.Lz=true):∀(i:Nat) (cs:List TC),cs.all TC.DJ=true→∀v∈Be rs i cs,v.Jr=true∧(∀c∈v.cells,c=.dead∨c.DJ=true)∧(∀f l,v≠.clo f l):=by
 induction rs with
 |nil=>intro i cs _ v hv;cases hv
 |cons p rs ih=>
  simp only[Qb1,Qa1]at h;simp only[Qa5,Qa2]at hw hq;intro i cs hc v hv
  cases p with
  |ptr=>cases h.1
  |clo=>cases hw.1
  |cap=>cases h.1
  |fnp=>cases hq.1
  |val agg t tt=>
   simp only[Be,Qe0]at hv
   rcases hv with rfl|hv
   ·have h1:(cs.take t.size).all TC.DJ=true:=Cn hc fun c hc=>Qb4 hc
    cases agg with
    |true=>
     refine⟨?_,fun c hc=>.inr (List.all_eq_true.1 h1 c hc),fun f l=>by simp[mkT]⟩
     exact List.all_eq_true.2 fun c hc=>Nz (List.all_eq_true.1 h1 c hc)
    |false=>
     cases hl:cs.take t.size with
     |nil=>simp[mkT,TSV.Jr,TC.A5,TSV.cells]
     |cons c l=>
      rw[hl]at h1;simp only[Qa5,Qa2]at h1;exact⟨Nz h1.1,by simp[mkT,TSV.cells,h1.1],by simp[mkT]⟩
   ·exact ih h.2 hw.2 hq.2 _ _ (Cn hc fun c hc=>Qa6 hc) v hv
theorem Afd{v:TSV}(h:∀c∈v.cells,c=.dead∨c.DJ=true)(hv:∀f l,v≠.clo f l){s:SV}{μ':Nat→Nat}{ver':Root→Nat}{ln':Place→Option Nat}(hs:v.sv μ ver ln s):v.sv μ' ver' ln' s:=by
 have one:∀{c:TC} {a:AV},(c=.dead∨c.DJ=true)→c.av μ ver ln a→c.av μ' ver' ln' a:=by
  rintro c a (rfl|h) ha
  ·exact trivial
  ·exact AbN h ha
 cases v with
 |one c=>obtain⟨a,rfl,ha⟩:=hs;exact⟨a,rfl,one (h c (by simp[TSV.cells])) ha⟩
 |agg l=>
  obtain⟨k,rfl,ha⟩:=hs;refine⟨k,rfl,?_⟩
  have:∀{l:List TC} {k:List AV},(∀c∈l,c=.dead∨c.DJ=true)→avs μ ver ln l k→avs μ' ver' ln' l k:=by
   intro l
   induction l with
   |nil=>intro k _ ha;cases k with
    |nil=>exact trivial
    |cons=>exact ha.elim
   |cons c l ih=>intro k h ha;cases k with
    |nil=>exact ha.elim
    |cons a k=>exact⟨one (h c (by simp)) ha.1,ih (fun d hd=>h d (by simp[hd])) ha.2⟩
  exact this h ha
 |clo f l=>exact(hv f l rfl).elim
theorem AbO{μ':Nat→Nat}{ver':Root→Nat}{ln':Place→Option Nat}:∀{vs:List TSV} {ss:List SV},(∀v∈vs,(∀c∈v.cells,c=.dead∨c.DJ=true)∧(∀f l,v≠.clo f l))→svs μ ver ln vs ss→svs μ' ver' ln' vs ss
 |[],[],_,_=>trivial
 |v::vs,s::ss,h,hs=>⟨Afd (h v (by simp)).1 (h v (by simp)).2 hs.1,AbO (fun w hw=>h w (by simp[hw])) hs.2⟩
 |[],_::_,_,h=>h.elim
 |_::_,[],_,h=>h.elim
theorem Fb.length:∀{l m:List SV},Fb l m→l.length=m.length
 |_,_,.nil=>rfl
 |_,_,.cons _ _ _ _ _ t=>by simp[t.length]
theorem X4{ss ss':List SV}(h:Fb ss ss'):CoT (gather ss) (gather ss'):=by
 cases h with
 |nil=>exact .refl _
 |cons a b l m h t=>
  cases t with
  |nil=>exact .val true _ _ h
  |cons a2 b2 l2 m2 h2 t2=>exact .tup _ _ (.cons _ _ _ _ h (.cons _ _ _ _ h2 t2))
theorem Ak6{g:Gd}{gv:Gd→Bool}(hg:gv g=true){vs:List TSV}{ss:List SV}(h:svs μ ver ln vs ss):(VP g vs).tv μ ver ln gv (gather ss):=by
 match vs,ss,h with
 |[],[],_=>exact⟨[],rfl,trivial⟩
 |[v],[s],h=>exact⟨s,by rw[hg];rfl,h.1⟩
 |v::w::vs,s::t::ss,h=>exact⟨_,rfl,h⟩
 |[_],[],h=>exact h.elim
 |[_],_::_::_,h=>exact h.2.elim
 |_::_::_,[],h=>exact h.elim
 |_::_::_,[_],h=>exact h.2.elim
end
end Go.VS
