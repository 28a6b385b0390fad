/- A semantics of values for the model, shown sound for it, and the lifting of functions to plain propositions: part 4. -/
import Derived.Test.YtopngokkgogolaaGreatDoorFwC
import Derived.Carry
import Derived.ChangeShapes
import Derived.Laws.AppendOwn
import Derived.OpenShut
import Derived.SizedLaws
set_option linter.unusedVariables false
set_option linter.unusedSimpArgs false
set_option linter.unusedSectionVars false
open Bool renaming and_eq_true → Qa0, and_true → Qa8, and_self → Qc4
open Nat renaming eq_of_beq_eq_true → Qa1, beq → Qa3, le_refl → Qa4, le_of_ble_eq_true → Qa7, succ_lt_succ → Qb3, ble → Qb9
open List renaming all_cons → Qa2, mem_of_mem_drop → Qa5, append_nil → Qa6, length_cons → Qa9, all_nil → Qb0, getElem?_eq_getElem → Qb1, flatten_cons → Qb2, length_map → Qb4, mem_of_getElem? → Qb5, getElem?_map → Qb6, take_of_length_le → Qb8, nodup_nil → Qc0, mem_of_mem_take → Qc2, getElem?_of_mem → Qc3, map_cons → Qc5
open Option renaming map_eq_some_iff → Qb7
open Array renaming getElem?_toList → Qc1
namespace Go.VS
def AhQ(F Γ:TS)(mem:Bool):TSV→R (TSV×TS)
 |.one c=>do
  let(d,Γ')←Yx F mem Γ c
  pure (.one d,Γ')
 |.agg l=>do
  let(m,Γ')←Rj F mem Γ l
  pure (.agg m,Γ')
 |.clo _ _=>R.fail
def YA(F Γ:TS):N2→R (TSV×TS)
 |.tmp t=>Qs F Γ true (.t t)
 |.cell t agg n=>do
  let v←Iw F Γ [] (.load agg n (.t t))
  AhQ F Γ true v
def Pk(F:TS):TS→List N2→R (List TSV×TS)
 |Γ,[]=>pure ([],Γ)
 |Γ,x::r=>do
  let(v,Γ1)←YA F Γ x
  let(l,Γ2)←Pk F Γ1 r
  if v.K2 then pure (v::l,Γ2)else R.fail
def Zh(Γ:TS):List PT→Nat→Option (List TC)
 |[],_=>some []
 |.val _ _ _::r,i=>Zh Γ r (i+1)
 |.clo ..::r,i=>Zh Γ r (i+1)
 |.fnp ..::r,i=>Zh Γ r (i+1)
 |.cap t _::r,i=>match look Γ.bx i,Zh Γ r (i+1)with
  |some l,some cs=>bif Qa3 l.length t.size then some (l++cs)else none
  |_,_=>none
 |.ptr t _::r,i=>match look Γ.bx i,Zh Γ r (i+1)with
  |some l,some cs=>bif Qa3 l.length t.size then some (l++cs)else none
  |_,_=>none
def Alz(F Γ:TS)(res:List N2)(S:Sig)(K:DP S.rs→DP (ptrs S.ps)→Prop):Prop:=
 Ia (Pk F Γ res) fun r=>
 MQ (BQ r.2 S.rs rbase r.1 []) fun m=>
 bif m.2.all (fun p=>Qb9 rbase p.2)then
  MQ (Va S.rs m.1) fun d=>
  MQ (Zh r.2 S.ps 0) fun cs=>
  MQ (Va (ptrs S.ps) cs) fun d'=>K d d'
 else False
def AjH:Nat→List TSV→List (Nat×TX)
 |_,[]=>[]
 |i,v::r=>(i,.val [] v)::AjH (i+1) r
def NH(S:Sig)(x:DP S.ps):TS:=⟨AjH 0 (Bn S.ps 0 (Ar S.ps x)),Ba S.ps 0 (Ar S.ps x)⟩
def Bu(P:Pg)(A:AFn)(S:Sig)(c:D1)(x:DP S.ps)(K:DP S.rs→DP (ptrs S.ps)→Prop):Prop:=
 tw P c ⟨[],[]⟩ (NH S x) ⟨fun Γ=>Alz ⟨[],[]⟩ Γ A.res S K,fun Γ=>Alz ⟨[],[]⟩ Γ A.res S K,[]⟩
section
variable{P:Pg}{μ μ':Nat→Nat}{F Γ Γ':TS}{st st':St}
theorem Ajy(h:Sim μ F Γ st){mem:Bool}{v0 v:TSV}(hx:(AhQ F Γ mem v0).ok (v,Γ')){s0:SV}(ha:v0.sv μ st.ver (lnT F Γ) s0):
  M.holds (do let(l,st1,rs)←st.CG st.ver mem s0.cells;pure (s0.with l,st1.bumps rs):M (SV×St)) fun(s,st')=>v.sv μ st'.ver (lnT F Γ') s∧Sim μ F Γ' st':=by
 cases v0 with
 |one c=>
  simp only[AhQ]at hx;rw[R.Ai]at hx;obtain⟨⟨d,Γ2⟩,h2,hx⟩:=hx;have:=R.Aj.1 hx;cases this;have hs:=Pl h2;obtain⟨a,rfl,ha⟩:=ha;simp only[SV.cells,St.CG,M.Aa];have h0:Sim μ F Γ (st.bumps []):=h;refine M.Ah (Uv h0 ha h2) ?_;rintro⟨b,st1,rs1⟩ ⟨k1,k2,k3⟩;refine M.Ab (M.Ab (M.Ab ?_));simp only[Qa6,SV.with,List.headD];exact⟨⟨b,rfl,MV hs k1⟩,k2⟩
 |agg l=>
  simp only[AhQ]at hx;rw[R.Ai]at hx;obtain⟨⟨d,Γ2⟩,h2,hx⟩:=hx;have:=R.Aj.1 hx;cases this;have hs:=NI h2;obtain⟨a,rfl,ha⟩:=ha;have h0:Sim μ F Γ (st.bumps []):=h;simp only[M.Aa];refine M.Ah (Rk h0 ha h2) ?_;rintro⟨b,st1,rs1⟩ ⟨k1,k2,k3,k4⟩;refine M.Ab ?_;exact⟨⟨b,rfl,Gh hs k1⟩,k2⟩
 |clo f l=>exact(R.Ag.1 hx).elim
theorem Aeo(h:Sim μ F Γ st){x:N2}{v:TSV}(hx:(YA F Γ x).ok (v,Γ')):(st.NJ x).holds fun(s,st')=>v.sv μ st'.ver (lnT F Γ') s∧Sim μ F Γ' st':=by
 cases x with
 |tmp t=>exact(K5 h hx).2
 |cell t agg n=>
  simp only[YA]at hx;rw[R.Ai]at hx;obtain⟨v0,h1,hx⟩:=hx;simp only[St.NJ];rw[M.Aa]
  exact M.Ah (Ag5 h (g:=[]) rfl h1) fun s hs=>Ajy h hx hs
theorem Vf:∀{res:List N2} {vs:List TSV} {Γ Γ':TS} {st:St},Sim μ F Γ st→(Pk F Γ res).ok (vs,Γ')→(st.H5 res).holds fun(ss,st')=>svs μ st'.ver (lnT F Γ') vs ss∧Sim μ F Γ' st'
 |[],vs,Γ,Γ',st,h,hx=>by
  have:=R.Aj.1 hx;cases this;trivial
 |x::r,vs,Γ,Γ',st,h,hx=>by
  simp only[Pk]at hx;rw[R.Ai]at hx;obtain⟨⟨v,Γ1⟩,h1,hx⟩:=hx;dsimp only at hx;rw[R.Ai]at hx;obtain⟨⟨l,Γ2⟩,h2,hx⟩:=hx;split at hx
  case isFalse=>grind [R.Ag]
  rename_i hsol;have:=R.Aj.1 hx;cases this;simp only[St.H5,M.Aa];refine M.Ah (Aeo h h1) ?_;rintro⟨s,st1⟩ ⟨k1,k2⟩;simp only[M.Aa];refine M.Ah (Vf k2 h2) ?_;rintro⟨ss,st2⟩ ⟨k3,k4⟩;exact M.Ab ⟨⟨Td hsol k1,k3⟩,k4⟩
theorem PL(h:Sim μ F Γ st):∀{ps:List PT} {i:Nat} {cs:List TC},Zh Γ ps i=some cs→∃A,avs μ st.ver (lnT F Γ) cs A∧∀C E,CoL A E→avs μ' dv dl C E→
  ∀j l,look (AA ps i C) j=some l→∃m m',st.hp.get (μ j)=some m∧CoL m m'∧avs μ' dv dl l m'∧μ j<st.hp.next
 |[],i,cs,hc=>by cases hc;exact⟨[],trivial,fun _ _ _ _ _ _ h=>(nomatch h)⟩
 |.val agg t tt::r,i,cs,hc=>PL h (ps:=r) hc
 |.clo f n::r,i,cs,hc=>PL h (ps:=r) hc
 |.fnp names::r,i,cs,hc=>PL h (ps:=r) hc
 |.ptr t tt::r,i,cs,hc=>by
  simp only[Zh]at hc;split at hc
  case h_2=>cases hc
  rename_i l cs' hlk hcol
  cases hsz:Qa3 l.length t.size with
  |false=>grind
  |true=>
   rw[hsz]at hc;cases hc;have hsz:=Qa1 hsz;obtain⟨k,p1,p2,p3,p4⟩:=h.bx i l (by grind [TS.box]);obtain⟨A,hA,hrest⟩:=PL h (ps:=r) hcol
   have hkl:k.length=t.size:=by grind [Cd]
   refine⟨k++A,FR p2 hA,?_⟩;intro C E hco hav j l' hj;obtain⟨c1,c2⟩:=CoL.split hco;rw[hkl]at c1 c2;simp only[AA,Aq]at hj;split at hj
   ·grind [Kl]
   ·exact hrest _ _ c2 (Kk hav _) j l' hj
 |.cap t tt::r,i,cs,hc=>by
  simp only[Zh]at hc;split at hc
  case h_2=>cases hc
  rename_i l cs' hlk hcol
  cases hsz:Qa3 l.length t.size with
  |false=>grind
  |true=>
   rw[hsz]at hc;cases hc;have hsz:=Qa1 hsz;obtain⟨k,p1,p2,p3,p4⟩:=h.bx i l (by grind [TS.box]);obtain⟨A,hA,hrest⟩:=PL h (ps:=r) hcol
   have hkl:k.length=t.size:=by grind [Cd]
   refine⟨k++A,FR p2 hA,?_⟩;intro C E hco hav j l' hj;obtain⟨c1,c2⟩:=CoL.split hco;rw[hkl]at c1 c2;simp only[AA,Aq]at hj;split at hj
   ·grind [Kl]
   ·exact hrest _ _ c2 (Kk hav _) j l' hj
theorem Adg:∀(vs:List TSV) (i t:Nat),look (AjH i vs) t=if i≤t then(vs[t -i]?).map (TX.val [])else none
 |[],i,t=>by simp[AjH,look]
 |v::vs,i,t=>by
  simp only[AjH,Aq]
  by_cases h:i=t
  ·grind
  ·rw[if_neg h,Adg vs (i+1) t]<;>grind
def TC.Sz:TC→Bool
 |.box b _=>Nat.blt b rbase
 |.boxd ..=>false
 |c=>c.Bg
theorem Abj(hμ:∀b,b<rbase→μ' b=μ b){c:TC}(hc:c.Sz=true){a:AV}{ver ver':Root→Nat}{ln ln':Place→Option Nat}(ha:c.av μ ver ln a):c.av μ' ver' ln' a:=by
 cases c with
 |box b c=>simp_all [TC.Sz,TC.av]
 |boxd=>cases hc
 |ref=>cases hc
 |adr=>cases hc
 |_=>exact ha
theorem VW:∀(t:BT) (tt:TT) (x:t.D),(t.ex tt x).all TC.Sz=true
 |.int _,_,_=>rfl
 |.bool,_,_=>rfl
 |.str,_,_=>rfl
 |.unit,_,_=>rfl
 |.sl _,_,_=>rfl
 |.pair a b,tt,x=>by simp only[BT.ex,List.all_append,VW a,VW b,Qc4]
theorem OZ(hμ:∀b,b<rbase→μ' b=μ b){ver ver':Root→Nat}{ln ln':Place→Option Nat}:∀{l:List TC},l.all TC.Sz=true→∀{as:List AV},avs μ ver ln l as→avs μ' ver' ln' l as
 |[],_,[],_=>trivial
 |c::l,h,a::as,ha=>by
  simp only[Qa2,Qa0]at h;exact⟨Abj hμ h.1 ha.1,OZ hμ h.2 ha.2⟩
 |[],_,_::_,h=>h.elim
 |_::_,_,[],h=>h.elim
theorem Acf:∀(n i:Nat),i+n≤rbase→(Akn i n).all TC.Sz=true
 |0,_,_=>rfl
 |n+1,i,h=>by
  simp only[Akn,Qa2,Qa0];exact⟨by grind [TC.Sz,Nat.blt_eq],Acf n (i+1) zm⟩
theorem Mu(hμ:∀b,b<rbase→μ' b=μ b){ver ver':Root→Nat}{ln ln':Place→Option Nat}:∀(ps:List PT) (i:Nat) (cs:List TC),cs.all TC.Sz=true→i+ps.length≤rbase→ZD ps=true→∀{ss:List SV},svs μ ver ln (Bn ps i cs) ss→svs μ' ver' ln' (Bn ps i cs) ss
 |[],_,_,_,_,_,[],_=>trivial
 |.val agg t tt::r,i,cs,hc,hi,hk,s::ss,h=>by
  simp only[Qa9]at hi;refine⟨?_,Mu hμ r _ _ (CO hc fun c hc=>Qa5 hc) zm hk h.2⟩
  have h1:(cs.take t.size).all TC.Sz=true:=CO hc fun c hc=>Qc2 hc
  have hs:=h.1
  cases agg with
  |true=>obtain⟨a,e,ha⟩:=hs;exact⟨a,e,OZ hμ h1 ha⟩
  |false=>
   obtain⟨a,e,ha⟩:=hs;refine⟨a,e,?_⟩
   cases hl:cs.take t.size with
   |nil=>trivial
   |cons c l=>
    grind [Abj]
 |.ptr t tt::r,i,cs,hc,hi,hk,s::ss,h=>by
  simp only[Qa9]at hi;refine⟨?_,Mu hμ r _ _ (CO hc fun c hc=>Qa5 hc) zm hk h.2⟩;obtain⟨a,e,ha⟩:=h.1;exact⟨a,e,Abj hμ (by grind [TC.Sz,Nat.blt_eq]) ha⟩
 |.clo f n::r,i,cs,hc,hi,hk,s::ss,h=>by
  simp only[Qa9]at hi;simp only[ZD,Qa0]at hk;refine⟨?_,Mu hμ r _ _ hc zm hk.2 h.2⟩;obtain⟨a,e,ha⟩:=h.1;have:=Qa7 hk.1;exact⟨a,e,OZ hμ (Acf n (i+1) zm) ha⟩
 |.fnp names::r,i,cs,hc,hi,hk,s::ss,h=>by
  simp only[Qa9]at hi;refine⟨?_,Mu hμ r _ _ (CO hc fun c hc=>Qa5 hc) zm hk h.2⟩;obtain⟨a,e,ha⟩:=h.1;exact⟨a,e,OZ hμ (by rfl) ha⟩
 |.cap t tt::r,i,cs,hc,hi,hk,ss,h=>by
  simp only[Qa9]at hi;exact Mu hμ r _ _ (CO hc fun c hc=>Qa5 hc) zm hk h
 |[],_,_,_,_,_,_::_,h=>h.elim
 |.val ..::_,_,_,_,_,_,[],h=>h.elim
 |.ptr ..::_,_,_,_,_,_,[],h=>h.elim
 |.clo ..::_,_,_,_,_,_,[],h=>h.elim
 |.fnp ..::_,_,_,_,_,_,[],h=>h.elim
def npar:List PT→Nat
 |[]=>0
 |.cap ..::r=>npar r
 |_::r=>npar r+1
theorem Fi:∀(ps:List PT) (i:Nat) (cs:List TC),(Bn ps i cs).length=npar ps
 |[],_,_=>rfl
 |.val ..::r,i,cs=>by simp[Bn,npar,Fi r]
 |.ptr ..::r,i,cs=>by simp[Bn,npar,Fi r]
 |.clo ..::r,i,cs=>by simp[Bn,npar,Fi r]
 |.fnp ..::r,i,cs=>by simp[Bn,npar,Fi r]
 |.cap ..::r,i,cs=>by simp[Bn,npar,Fi r]
theorem Yt:∀{vs:List TSV} {ss:List SV} {ver:Root→Nat} {ln:Place→Option Nat},svs μ ver ln vs ss→ss.length=vs.length
 |[],[],_,_,_=>rfl
 |_::vs,_::ss,_,_,h=>by simp[Yt h.2]
 |[],_::_,_,_,h=>h.elim
 |_::_,[],_,_,h=>h.elim
theorem Ajt{S:Sig}{x:DP S.ps}{μ0:Nat→Nat}{H:Heap}{as:List SV}(hl:S.ps.length≤rbase)(hck:ZD S.ps=true)(h1:svs μ0 dv dl (Bn S.ps 0 (Ar S.ps x)) as)(h2:Aav μ0 (Ba S.ps 0 (Ar S.ps x)) H)(hμ:∀b,b<rbase→μ b=μ0 b):
  Sim μ ⟨[],[]⟩ (NH S x) (start as H):=by
 have keyb:∀b l,look (Ba S.ps 0 (Ar S.ps x)) b=some l→b<rbase:=by
  intro b l hb;obtain⟨l',hl'⟩:=EW _ _ _ (Ar S.ps x) _ _ hb;have:=(CD _ _ _ _ _ hl').2.2;omega
 refine⟨?_,?_,?_,fun _ h=>(nomatch h),fun _ h=>(nomatch h)⟩
 ·intro t x' hx
  have hx:look (AjH 0 (Bn S.ps 0 (Ar S.ps x))) t=some x':=by
   unfold TS.slot NH at hx;dsimp only at hx;split at hx
   ·grind
   trivial
  rw[Adg,if_pos (Nat.zero_le _),Nat.sub_zero,Qb7]at hx;obtain⟨v,hv,rfl⟩:=hx;have h1':svs μ (start as H).ver (lnT ⟨[],[]⟩ (NH S x)) (Bn S.ps 0 (Ar S.ps x)) as:=Mu hμ S.ps 0 _ (VW _ _ _) zm hck h1;obtain⟨s,hs,hsv⟩:=AbO h1' hv;exact⟨s,by grind [start,gv],hsv⟩
 ·intro b l hb
  have hb:look (Ba S.ps 0 (Ar S.ps x)) b=some l:=by
   unfold TS.box NH at hb;dsimp only at hb;split at hb
   ·grind
   trivial
  obtain⟨m,q1,q2,q3⟩:=h2.get b l hb;have e:=hμ b (keyb b l hb);have hsub:=FT _ _ _ _ _ hb;refine⟨m,by rw[e];exact q1,OZ hμ (CO (VW _ _ _) hsub) q2,by rw[e];exact q3,CO (Kq _ _ _) hsub⟩
 ·intro b b' l l' hb hb' he
  have get:∀{b l},TS.box ⟨[],[]⟩ (NH S x) b=some l→look (Ba S.ps 0 (Ar S.ps x)) b=some l:=by
   intro b l hb;unfold TS.box NH at hb;dsimp only at hb;split at hb
   ·grind
   trivial
  have g1:=get hb;have g2:=get hb';rw[hμ b (keyb b l g1),hμ b' (keyb b' l' g2)]at he;exact h2.inj b b' l l' g1 g2 he
theorem AnO{n:Nat}{μ0:Nat→Nat}(h:Sim μ F Γ st)(hm:∀b,b<rbase→μ b=μ0 b)(hm2:∀b,rbase≤b→n≤μ b)(hn:n≤st.hp.next){S:Sig}(hS:S.free=true){res:List N2}{K:DP S.rs→DP (ptrs S.ps)→Prop}{H:Heap}(hH:H.next=n)
  (hnx:(st.H5 res).all fun p=>p.2.hp.next=st.hp.next) (hx:Alz F Γ res S K):
  (st.H5 res).holds fun(ss,st')=>(∃d d',Wa S μ0 H d d' (gather ss) st'.hp∧K d d')∧(gather ss).kept=true:=by
 obtain⟨⟨vs,Γ1⟩,h1,hx⟩:=CE hx;obtain⟨⟨cs,bs⟩,h2,hx⟩:=Eb hx;dsimp only at h2 hx
 cases hb:bs.all (fun p=>Qb9 rbase p.2)with
 |false=>grind
 |true=>
 rw[hb,cond_true]at hx;obtain⟨d,h3,hx⟩:=Eb hx;obtain⟨cs',h4,hx⟩:=Eb hx;obtain⟨d',h5,hK⟩:=Eb hx;refine M.Ah (M.PE (Vf h h1) hnx) ?_;rintro⟨ss,st1⟩ ⟨⟨k1,k2⟩,k3⟩;have k3:st1.hp.next=st.hp.next:=k3;have keys:=O0 h2
 have hbn:∀j b,look bs j=some b→rbase≤b:=fun j b hj=>Qa7 (List.all_eq_true.1 hb (j,b) (Fc hj))
 let μ':Nat→Nat:=fun j=>if j<rbase then μ0 j else match look bs j with|some b=>μ b|none=>n
 have hμ':∀j b,look bs j=some b→μ' j=μ b:=by
  grind
 obtain⟨⟨A,hA,hrest⟩,hb1,hb2⟩:=PI k2 k1 h2 hμ' (.inr (by grind [rbase]));have hco:=GJ h3 hA;obtain⟨⟨ss',w1,w2⟩,w3,w4⟩:=hrest (Ar S.rs d) _ hco (Fb _ _ _) (TO _ _ _);obtain⟨A',hA',hout⟩:=PL (μ':=μ') k2 h4;have hout:=hout (Ar (ptrs S.ps) d') _ (GJ h5 hA') (Fb _ _ _);simp only[Sig.free,Qa0]at hS;obtain⟨hSp,hSr,hSw,hSl⟩:=hS
 have hSl:S.ps.length≤rbase:=Qa7 hSl.1;refine⟨⟨d,d',⟨μ',ss,ss',fun i hi=>zg,rfl,w2,w1,?_,?_,zg⟩,hK⟩,?_⟩
 ·intro b l hl;rw[Bj]at hl;split at hl
  ·rename_i l0 heq;cases hl
   have hlt:b<rbase:=by have:=(CD _ _ _ _ _ heq).2.2;omega
   have e:μ' b=μ b:=zg
   obtain⟨m,m',q1,q2,q3,q4⟩:=hout b l heq<;>grind
  ·obtain⟨b0,m,m',q1,q2,q3,q4,q5,q6⟩:=w3 b l hl<;>grind
 ·grind
 ·
  have pres:=LH hSr d
  have hfree:∀s∈ss,C8 s.cells=true:=by
   have key:∀(rs:List PT) (i:Nat) (cs:List TC),cs.all TC.Es=true→(rs.all PT.wf=true)→cs.length=(tyP rs).size→∀{ss':List SV},svs μ' dv dl (Bn rs i cs) ss'→∀{ss:List SV},FA ss ss'→∀s∈ss,C8 s.cells=true:=by
    intro rs
    induction rs with
    |nil=>
     intro i cs _ _ _ ss' hs ss hc s hmem
     cases ss' with
     |nil=>cases hc;grind
     |cons=>trivial
    |cons p rs ih=>
     intro i cs hc hw hl ss' hs ss hco s hmem;simp only[Qa2,Qa0]at hw;rw[Aeu]at hl
     cases ss' with
     |nil=>cases p<;>first|exact hs.elim|cases hw.1
     |cons s' ss'=>
      cases hco with
      |cons a _ l _ hab ht=>
       cases p with
       |clo=>cases hw.1
       |cap=>cases hw.1
       |fnp names=>
        rcases List.mem_cons.1 hmem with rfl|hmem
        ·obtain⟨a',rfl,ha⟩:=hs.1;refine CoL.free hab.cells ?_
         match a',ha with
         |[x],ha=>
          have ha:x=_:=ha.1;subst ha;rfl
         |[],ha=>rfl
         |_::_::_,ha=>exact ha.2.elim
        ·exact ih (i+1) _ (CO hc fun c hc=>Qa5 hc) hw.2 (by grind [PT.bt,BT.size]) hs.2 ht s hmem
       |ptr t tt=>
        rcases List.mem_cons.1 hmem with rfl|hmem
        ·obtain⟨a',rfl,ha⟩:=hs.1;have ha:a'=_:=ha;subst ha;refine CoL.free hab.cells rfl
        ·exact ih (i+1) _ (CO hc fun c hc=>Qa5 hc) hw.2 (by grind [PT.bt]) hs.2 ht s hmem
       |val agg t tt=>
        have hl:cs.length=t.size+(tyP rs).size:=hl
        rcases List.mem_cons.1 hmem with rfl|hmem
        ·refine CoL.free hab.cells ?_
         have h1:(cs.take t.size).all TC.Es=true:=CO hc fun c hc=>Qc2 hc
         cases agg with
         |true=>obtain⟨a,rfl,ha⟩:=hs.1;exact(LP h1 ha).1
         |false=>
          have hw1:t.size=1:=Qa1 (by grind [PT.wf]);obtain⟨a,rfl,ha⟩:=hs.1
          cases hlc:cs.take t.size with
          |nil=>
           have:=congrArg List.length hlc
           grind
          |cons c l=>
           grind [SQ,dv,dl,SV.cells,C8]
        ·exact ih (i+1) _ (CO hc fun c hc=>Qa5 hc) hw.2 zg hs.2 ht s hmem
   exact key S.rs rbase _ pres hSw (CZ _ _ _) w1 w2
  match ss,hfree with
  |[],_=>rfl
  |[s],hf=>exact hf s zsz
  |s::t::ss,hf=>exact List.all_eq_true.2 hf
theorem AbQ(st:St)(x:N2):(st.NJ x).all fun p=>p.2.hp.next=st.hp.next:=by
 cases x with
 |tmp t=>exact Hj st true (.t t)
 |cell t agg n=>
  refine M.all_bind (M.all_true _ fun s=>M.all_bind (M.D2 (K4 _ _ _ _) ?_))<;>grind [M.Cn,QM]
theorem Tf:∀(res:List N2) (st:St),(st.H5 res).all fun p=>p.2.hp.next=st.hp.next
 |[],st=>M.Cn rfl
 |x::r,st=>by
  refine M.all_bind (M.D2 (AbQ st x) ?_);rintro⟨s,st1⟩ h1
  refine M.all_bind (M.D2 (Tf r st1) ?_)<;>grind [M.Cn]
end
theorem Awp.after{P:Pg}{A:DS}{Q:AEx→St→Prop}{st:St}(h:Awp P A (fun e=>Wk (Q e)) st):Awp P A Q st:=by
 intro c E tm w hc hP R;refine wp_mono (h c E tm w hc hP R) ?_;intro e a w hq
 cases e with
 |panic ch=>exact hq
 |normal=>obtain⟨h1,st,h2,st2,h3,h4⟩:=hq;exact⟨h1,st2,h3 _ _ _ h2,h4⟩
 |exit id=>obtain⟨h1,st,h2,st2,h3,h4⟩:=hq;exact⟨h1,st2,h3 _ _ _ h2,h4⟩
 |ret=>obtain⟨h1,st,h2,st2,h3,h4⟩:=hq;exact⟨h1,st2,h3 _ _ _ h2,h4⟩
 |_=>trivial
theorem Br{P:Pg}{A:AFn}(hA:Has P A){S:Sig}{c:D1}(he:c.erase=A.code)(hnp:Qa3 (npar S.ps) A.np=true)(hS:S.free=true){x:DP S.ps}{K:DP S.rs→DP (ptrs S.ps)→Prop}(hx:Bu P A S c x K):Fn P A.name S x K:=by
 intro μ0 H as h1 h2
 have hSl:S.ps.length≤rbase:=by
  simp_all [Sig.free]
 refine AjU hA (by grind [Yt,Fi,Qa1]) ?_;rw[←he]
 let μ:Nat→Nat:=fun b=>if b<rbase then μ0 b else H.next
 have hs:Sim μ ⟨[],[]⟩ (NH S x) (start as H):=Ajt hSl (by grind [Sig.free]) h1 h2 fun b hb=>zg
 refine Awp.after ((GM c hs hx).mono ?_)
 have fin:∀(e:AEx) (st1:St),e.done=true→After μ (start as H).hp.next ⟨[],[]⟩ (fun Γ=>Alz ⟨[],[]⟩ Γ A.res S K) st1→Wk (AkJ A.res (fun r H'=>∃d d',Wa S μ0 H d d' r H'∧K d d') e) st1:=by
  rintro e st1 hd ⟨Γ2,⟨μ2,st2,k1,k2,k3⟩,k4,k5⟩;refine⟨st2,k1.le,hd,?_⟩;refine AnO (n:=H.next) k2 (fun b hb=>by rw[k3.1 b hb]<;>grind) (fun b hb=>?_) (by rw[k1.nx];exact k4) hS rfl (Tf _ _) k5
  rcases k3.2 b with e|e
  ·grind
  trivial
 intro e st1 h1
 cases e with
 |normal=>exact fin _ st1 rfl h1
 |exit id=>obtain⟨q,h2,_⟩:=h1;cases h2
 |ret=>exact fin _ st1 rfl h1
end Go.VS
namespace Go.VS
def TT.shared:TT→Bool
 |.leaf=>true
 |.node .own _=>false
 |.node _ e=>e.shared
 |.pair a b=>a.shared&&b.shared
def BT.gb:BT→Nat
 |.int k=>k.bits/8
 |.bool=>1
 |.str=>16
 |.unit=>0
 |.sl _=>24
 |.pair a b=>a.gb+b.gb
def BT.Good:(t:BT)→t.D→Prop
 |.int k,n=>(Lit.int k n).wf=true
 |.bool,_=>True
 |.str,s=>s.length≤140737488351232
 |.unit,_=>True
 |.sl e,l=>l.length*e.gb≤140737488351232∧∀x∈l,e.Good x
 |.pair a b,x=>a.Good x.1∧b.Good x.2
def Acy(fit:TypeId→BT→Bool)(P:Program):Nat→List (TypeId×Nat)→BT→Bool
 |_,[],.unit=>true
 |off,[(t,o)],T=>Qa3 o off&&(Qa3 (P.cellsOf t) T.size&&fit t T)
 |off,(t,o)::y::r,.pair A B=>Qa3 o off&&(Qa3 (P.cellsOf t) A.size&&(fit t A&&Acy fit P (off+A.size) (y::r) B))
 |_,_,_=>false
def fits(P:Program):Nat→TypeId→BT→Bool
 |0,_,_=>false
 |n+1,t,T=>match P.underlying t with
  |some .bool=>decide (T=.bool)
  |some (.int k)=>decide (T=.int k)
  |some .string=>decide (T=.str)
  |some (.slice e)=>match T with
   |.sl E=>Qa3 (P.cellsOf e) E.size&&(Qb9 1 E.size&&(Qb9 E.gb (P.bytesOf e)&&fits P n e E))
   |_=>false
  |some (.struct fs)=>Qa3 (P.cellsOf t) T.size&&Acy (fits P n) P 0 (fs.toList.map fun f=>(f.type,f.offset)) T
  |some (.array m e)=>Qa3 (P.cellsOf t) T.size&&Acy (fits P n) P 0 ((List.range m).map fun i=>(e,i*P.cellsOf e)) T
  |_=>false
section
variable{H:Type}{enc:TypeId×Value→H}{P:Program}{W:World}
theorem G9{tt:TT}(h:tt.shared=true):tt.tag≠.own∧tt.elt.shared=true∧tt.fst.shared=true∧tt.snd.shared=true:=by
 cases tt<;>grind [TT.tag,TT.shared,TT.elt,TT.fst,TT.snd]
theorem UR{α:Type}{Q:Nat→α→Prop}:∀{n:Nat},(∀i,i<n→∃x,Q i x)→∃X:List α,X.length=n∧∀i x,X[i]?=some x→Q i x
 |0,_=>⟨[],rfl,fun i x h=>zg⟩
 |n+1,h=>by
  obtain⟨X,h1,h2⟩:=UR (n:=n) fun i hi=>h i zm
  obtain⟨x,hx⟩:=h n zm
  refine⟨X++[x],by simp[h1],fun i y hy=>?_⟩<;>grind
theorem Yi{C:Ctx}(k:Nat):∀(X:List (List AV)) (L:List Value),(∀i x,X[i]?=some x→RVs C W x ((L.drop (i*k)).take k) [])→RVs C W X.flatten (L.take (X.length*k)) []
 |[],L,_=>by simpa using RVs.nil
 |x::X,L,h=>by
  have h0:=h 0 x zsz
  have hr:=Yi k X (L.drop k) fun i y hy=>by
   have:=h (i+1) y zg;rw[List.drop_drop,show k+i*k=(i+1)*k from zg];omega
  have e:L.take ((x::X).length*k)=L.take k++(L.drop k).take (X.length*k):=by
   rw[Qa9,Nat.succ_mul,Nat.add_comm,List.take_add]
  rw[e,Qb2];simp only[Nat.zero_mul,List.drop_zero]at h0;exact h0.append hr
theorem K9{e:TypeId}:∀{parts:List (DataW H)} {d:DataW H},d∈parts→∀n∈d.weights P e,n∈DataW.weightsAll P e parts
 |x::r,d,h,n,hn=>by
  rw[DataW.weightsAll,List.mem_append]
  rcases List.mem_cons.1 h with rfl|h
  ·grind
  ·exact .inr (K9 h n hn)
def Stands(enc:TypeId×Value→H)(P:Program)(W:World)(t:TypeId)(T:BT):Prop:=
 ∀(fuel:Nat) (cs:List Value) (d:DataW H) (ps:List MemPlace),DataW.trod enc P W 0 (fun _=>true) true fuel t cs=some (d,ps)→(∀m∈d.weights P t,m≤reachBytes)→
  ∃x:T.D,T.Good x∧∀(C:Ctx) (tt:TT),tt.shared=true→(∀b,b<W.heap.size→C.zb b∧C.zt b)→RVs C W (T.enc tt x) cs []
theorem WT{fit:TypeId→BT→Bool}(ih:∀t T,fit t T=true→Stands enc P W t T){cs:List Value}:∀(ts:List (TypeId×Nat)) (off:Nat) (T:BT),Acy fit P off ts T=true→off+T.size=cs.length→
  (∀t o,(t,o)∈ts→∃fuel d ps,DataW.trod enc P W 0 (fun _=>true) true fuel t ((cs.drop o).take (P.cellsOf t))=some (d,ps)∧∀m∈d.weights P t,m≤reachBytes)→
  ∃x:T.D,T.Good x∧∀(C:Ctx) (tt:TT),tt.shared=true→(∀b,b<W.heap.size→C.zb b∧C.zt b)→RVs C W (T.enc tt x) (cs.drop off) []
 |[],off,T,h,hl,_=>by
  cases T<;>first|cases h|skip
  refine⟨(),trivial,fun C tt _ _=>?_⟩;rw[List.drop_of_length_le (by grind [BT.size])];exact .nil
 |[(t,o)],off,T,h,hl,hr=>by
  have h:(Qa3 o off&&(Qa3 (P.cellsOf t) T.size&&fit t T))=true:=by trivial
  simp only[Qa0]at h;obtain⟨h1,h2,h3⟩:=h;obtain rfl:=Qa1 h1;have h2:=Qa1 h2;obtain⟨fuel,d,ps,h4,h5⟩:=hr t o zsz;have e:(cs.drop o).take (P.cellsOf t)=cs.drop o:=Qb8 zg;rw[e]at h4;exact ih t T h3 fuel _ d ps h4 h5
 |(t,o)::y::r,off,T,h,hl,hr=>by
  cases T with
  |pair A B=>
   simp only[Acy,Qa0]at h;obtain⟨h1,h2,h3,h4⟩:=h;obtain rfl:=Qa1 h1;have h2:=Qa1 h2;simp only[BT.size]at hl;obtain⟨fuel,d,ps,h5,h6⟩:=hr t o zsz;obtain⟨a,ga,ha⟩:=ih t A h3 fuel _ d ps h5 h6
   obtain⟨b,gb,hb⟩:=WT ih (y::r) (o+A.size) B h4 zm fun t' o' hm=>hr t' o' (List.mem_cons_of_mem _ hm)
   refine⟨(a,b),⟨ga,gb⟩,fun C tt ht hz=>?_⟩
   have e:cs.drop o=(cs.drop o).take (P.cellsOf t)++cs.drop (o+A.size):=by
    rw[h2,←List.drop_drop,List.take_append_drop]
   rw[e];exact(ha C tt.fst (G9 ht).2.2.1 hz).append (hb C tt.snd (G9 ht).2.2.2 hz)
  |_=>cases h
theorem Aib{a:Addr}{n:Nat}{l:List Value}(h:W.cells? 0 a n=some l):l.length=n∧∀j,j<n→W.cell? (a.add j)=l[j]?:=by
 unfold World.cells? at h;rw[if_pos (Nat.zero_le _)]at h;have h1:=mapM_some_length h;simp only[List.length_range]at h1;exact⟨h1,fun j hj=>mapM_some_get h j j zg⟩
theorem VX:∀(n:Nat) (t:TypeId) (T:BT),fits P n t T=true→Stands enc P W t T
 |0,_,_,h=>nomatch h
 |n+1,t,T,h=>by
  intro fuel cs d ps hd hw;simp only[fits]at h;split at h
  ·rename_i hu;obtain rfl:=of_decide_eq_true h;obtain⟨b,rfl,hx⟩:=DataW.trod_bool hu hd;exact⟨b,trivial,fun C tt _ _=>RVs.one (.lit _ rfl)⟩
  ·rename_i k hu;obtain rfl:=of_decide_eq_true h;obtain⟨m,rfl,hx,hwf⟩:=DataW.trod_int hu hd;exact⟨m,hwf,fun C tt _ _=>RVs.one (.lit _ rfl)⟩
  ·rename_i hu;obtain rfl:=of_decide_eq_true h;obtain⟨s,rfl,hx,hs⟩:=DataW.trod_string hu hd;cases hx;have:=hw s.data.toList.length (by simp[DataW.weights]);refine⟨s.data.toList,this,fun C tt _ _=>RVs.one ?_⟩
   have e:(⟨s.data.toList.toArray⟩:ByteArray)=s:=by rfl
   rw[e];exact .lit _ rfl
  ·rename_i e hu
   cases T with
   |sl E=>
    simp only[Qa0]at h;obtain⟨h1,h2,h3,h4⟩:=h;have h1:=Qa1 h1;have h2:=Qa7 h2;have h3:=Qa7 h3
    rcases DataW.trod_slice hu hd with⟨rfl,hx⟩|⟨a,len,cap,elems,rest,m,_,rfl,hx,_,hlc,hm,hel,hget,_,_⟩
    ·exact⟨[],⟨zsz,fun x hx=>nomatch hx⟩,fun C tt _ _=>RVs.one (.slNil _ _)⟩
    ·cases hx
     have hall:∀q∈(elems.map (·.1)),∀m∈DataW.weights P e q,m≤reachBytes:=by
      intro q hq m hm
      refine hw m ?_<;>grind [DataW.weights,K9]
     have hsize:len*E.gb≤140737488351232:=by
      have:=hw ((elems.length+rest.length)*P.bytesOf e) (by simp[DataW.weights,hu]);have h5:len*E.gb≤(elems.length+rest.length)*P.bytesOf e:=Nat.mul_le_mul zm h3
      grind [reachBytes]
     rcases Nat.eq_zero_or_pos len with rfl|hpos
     ·exact⟨[],⟨zsz,fun x hx=>nomatch hx⟩,fun C tt ht _=>RVs.one (.shrE _ _ _ _ (G9 ht).1)⟩
     ·have each:∀i,i<len→∃x:E.D,E.Good x∧∃l,l.length=E.size∧(∀j,j<E.size→W.cell? ((a.add (i*E.size)).add j)=l[j]?)∧∀(C:Ctx) (tt:TT),tt.shared=true→(∀b,b<W.heap.size→C.zb b∧C.zt b)→RVs C W (E.enc tt x) l []:=by
       intro i hi;have h5:=hget i hi
       have hi':i<elems.length:=zm
       rw[Qb1 hi',Option.bind_eq_some_iff]at h5;obtain⟨l,h6,h7⟩:=h5;rw[h1]at h6;obtain⟨h8,h9⟩:=Aib h6
       obtain⟨x,gx,hx⟩:=VX n e E h4 m l elems[i].1 elems[i].2 h7 (hall _ (List.mem_map.2 ⟨elems[i],List.getElem_mem hi',rfl⟩))<;>grind
      obtain⟨X,hX,hQ⟩:=UR each;obtain⟨bk,off,spot⟩:=a
      have hblk:∀i,i<len→∀j,j<E.size→∃v,W.cell? ((Addr.add ⟨bk,off,spot⟩ (i*E.size)).add j)=some v:=by
       grind
      obtain⟨v0,hv0⟩:=hblk 0 hpos 0 zm;simp only[Nat.zero_mul,Addr.add,if_true]at hv0;have hspot:spot=none:=World.cell?_spot hv0;subst hspot
      have:∃cs ty fz,W.heap[bk]?=some (.cells cs ty fz):=by
       grind [World.cell?]
      obtain⟨blk,ty,fz,hb⟩:=this
      have hcell:∀i,i<len→∀j,j<E.size→W.cell? ((Addr.add ⟨bk,off,none⟩ (i*E.size)).add j)=blk[off+i*E.size+j]?:=by
       grind [RJ,Af]
      have hbound:off+len*E.size≤blk.size:=by
       obtain⟨v,hv⟩:=hblk (len -1) zm (E.size -1) zm;rw[hcell (len -1) zm _ zm]at hv;have h5:=(Array.getElem?_eq_some_iff.1 hv).1
       have h6:len*E.size=(len -1)*E.size+E.size:=by
        rw[←Nat.succ_mul]<;>grind
       omega
      have hlt:bk<W.heap.size:=by
       grind
      refine⟨X,⟨zg,fun x hx=>?_⟩,fun C tt ht hz=>RVs.one ?_⟩
      ·grind [Qc3]
      ·have hc:=Yi (C:=C) (W:=W) E.size (X.map (E.enc tt.elt)) (blk.toList.drop off) fun i y hy=>by
        rw[Qb6,Qb7]at hy;obtain⟨x,hx,rfl⟩:=hy;obtain⟨_,l,h5,h6,h7⟩:=hQ i x hx
        have hi:i<len:=zg
        have e:((blk.toList.drop off).drop (i*E.size)).take E.size=l:=by
         refine List.ext_getElem? fun j=>?_<;>grind
        rw[e];exact h7 C tt.elt (G9 ht).2.1 hz
       rw[Qb4]at hc
       have:=RV.shr (C:=C) (w:=W) tt.tag E.size (X.map (E.enc tt.elt)) bk off cap blk ty fz (G9 ht).1 (hz bk hlt).1 (fun _=>(hz bk hlt).2) hb zg zg
        (fun y hy=>by grind [D3]) zg
       grind
   |_=>cases h
  ·rename_i fs hu;simp only[Qa0]at h;obtain⟨h1,h2⟩:=h;have h1:=Qa1 h1;obtain⟨xs,m,_,hx,hlen,hxl,hget⟩:=DataW.trod_struct hu hd;cases hx
   obtain⟨x,gx,hx⟩:=WT (cs:=cs) (VX n) _ 0 T h2 zm fun t' o' hm=>by
    obtain⟨f,hf,he⟩:=List.mem_map.1 hm;cases he;obtain⟨i,hi⟩:=Qc3 hf
    have hi':fs[i]?=some f:=zg
    have h3:=hget i f hi'
    have hlt:i<xs.length:=zg
    rw[Qb1 hlt]at h3;refine⟨m,_,_,h3,fun q hq=>hw q ?_⟩;simp only[DataW.weights,hu];exact DataW.weights_mem_each (j:=i) (t:=f.type) (d:=xs[i].1) zg zg q hq
   grind
  ·rename_i k e hu;simp only[Qa0]at h;obtain⟨h1,h2⟩:=h;have h1:=Qa1 h1;obtain⟨xs,m,_,hx,hlen,hxl,hget⟩:=DataW.trod_array hu hd;cases hx
   obtain⟨x,gx,hx⟩:=WT (cs:=cs) (VX n) _ 0 T h2 zm fun t' o' hm=>by
    obtain⟨i,hi,he⟩:=List.mem_map.1 hm;cases he;rw[List.mem_range]at hi;have h3:=hget i hi
    have hlt:i<xs.length:=zm
    rw[Qb1 hlt]at h3;refine⟨m,_,_,h3,fun q hq=>hw q ?_⟩;simp only[DataW.weights,hu];exact K9 (List.mem_map.2 ⟨xs[i],List.getElem_mem hlt,rfl⟩) q hq
   grind
  grind
end
end Go.VS
namespace Go.VS
open Go.ChangeShapes Go.RowKit
def AmD(P:Program)(t:TypeId):Bool:=match P.underlying t with
 |some (.struct _)=>true
 |some (.array _ _)=>true
 |_=>false
def Py(P:Program):List TypeId→List PT→Bool
 |[],[]=>true
 |t::ts,.val agg T tt::ps=>fits P 20 t T&&(tt.shared&&((agg==AmD P t)&&((agg||Qa3 T.size 1)&&Py P ts ps)))
 |_,_=>false
section
variable{H:Type}{enc:TypeId×Value→H}{P:Program}{W:World}{μ:Nat→Nat}
theorem TN:∀(t:BT) (tt:TT) (x:t.D),(t.enc tt x).all AV.solid=true
 |.int _,_,_=>rfl
 |.bool,_,_=>rfl
 |.str,_,_=>rfl
 |.unit,_,_=>rfl
 |.sl _,_,_=>rfl
 |.pair a b,tt,x=>by simp only[BT.enc,List.all_append,TN a,TN b,Qc4]
theorem Anl{t:TypeId}{T:BT}{tt:TT}{agg:Bool}{v:Value}{d:DataW H}{p:List MemPlace}{base:Nat}(hf:fits P 20 t T=true)(htt:tt.shared=true)(hagg:agg=AmD P t)(hsz:(agg||Qa3 T.size 1)=true)
  (ht:DataW.Trod enc P W 0 (fun _=>true) true t v d p) (hok:Value.okWide P W .any base t v) (hw:∀m∈d.weights P t,m≤reachBytes):
  ∃x:T.D,T.Good x∧∃s:SV,(mkT agg (T.ex tt x)).sv μ dv dl s∧s.cells.all AV.solid=true∧∀C:Ctx,(∀b,b<W.heap.size→C.zb b∧C.zt b)→RSV C W s v []:=by
 obtain⟨fuel,hd⟩:=ht;obtain⟨x,gx,hx⟩:=VX 20 t T hf fuel _ d p hd hw;refine⟨x,gx,?_⟩;have hav:=Fb (μ:=μ) (ver:=dv) (ln:=dl) T tt x;have hsol:=TN T tt x
 cases agg with
 |true=>
  have:∃cs,v=.agg cs:=by
   grind [AmD,Value.okWide]
  obtain⟨cs,rfl⟩:=this;exact⟨.agg (T.enc tt x),⟨_,rfl,hav⟩,hsol,fun C hz=>⟨cs,rfl,hx C tt htt hz⟩⟩
 |false=>
  have hsz:=Qa1 (show Qa3 T.size 1=true by grind)
  have hv:v.cells=#[v]:=by
   have:∀cs,v≠.agg cs:=by
    rintro cs rfl;unfold AmD at hagg;have hf':=hf;rw[fits]at hf';unfold Value.okWide at hok
    cases hu:P.underlying t with
    |none=>grind
    |some u=>
     rw[hu]at hagg hok hf'
     cases u<;>first
      |(exfalso;simp at hagg;done)
      |(exfalso;simp at hf';done)
      |(exfalso;simp[Cell.okWide,Cell.ok,hu]at hok;done)
   cases v<;>first|rfl|grind
  have hl:=D3 T tt x;have hl2:=CZ T tt x;rw[hsz]at hl hl2;obtain⟨a,ha⟩:=List.length_eq_one_iff.1 hl;obtain⟨c,hc⟩:=List.length_eq_one_iff.1 hl2;rw[ha,hc]at hav;refine⟨.one a,⟨a,rfl,by rw[hc];exact hav.1⟩,by rw[ha]at hsol;trivial,fun C hz=>?_⟩
  have h1:=hx C tt htt hz;rw[ha,hv]at h1;obtain⟨v',e,h2⟩:=h1.BU;cases e;exact h2
theorem Ab5{base:Nat}:∀(ts:List TypeId) (ps:List PT) (i:Nat) (vs:List Value) (ds:List (DataW H)) (p:List MemPlace),Py P ts ps=true→DataW.TrodAll enc P W 0 (fun _=>true) true ts vs ds p→
  (∀(j:Nat) t v,ts[j]?=some t→vs[j]?=some v→Value.okWide P W .any base t v)→(∀m∈DataW.weightsEach P ts ds,m≤reachBytes)→
  ∃x:DP ps,(tyP ps).Good x∧∃as:List SV,svs μ dv dl (Bn ps i (Ar ps x)) as∧Ba ps i (Ar ps x)=[]∧as.length=vs.length∧(∀s∈as,s.cells.all AV.solid=true)∧
   ∀C:Ctx,(∀b,b<W.heap.size→C.zb b∧C.zt b)→Ib C W as vs []
 |[],[],i,vs,ds,p,_,hA,_,_=>by
  obtain⟨rfl,rfl,rfl⟩:=trodAll_nil hA;exact⟨(),trivial,[],trivial,rfl,rfl,(fun _ h=>nomatch h),fun _ _=>rfl⟩
 |t::ts,.val agg T tt::ps,i,vs,ds,p,hf,hA,hok,hw=>by
  obtain⟨v,vs,d,ds,p1,p2,rfl,rfl,rfl,h1,h2⟩:=trodAll_cons hA;simp only[Py,Qa0]at hf;obtain⟨f1,f2,f3,f4,f5⟩:=hf
  have hw1:∀m∈d.weights P t,m≤reachBytes:=fun m hm=>hw m (by grind [DataW.weightsEach])
  have hw2:∀m∈DataW.weightsEach P ts ds,m≤reachBytes:=fun m hm=>hw m (by grind [DataW.weightsEach])
  obtain⟨x,gx,s,s1,s2,s3⟩:=Anl (μ:=μ) f1 f2 zg f4 h1 (hok 0 t v rfl rfl) hw1;obtain⟨y,gy,as,a1,a2,a3,a4,a5⟩:=Ab5 ts ps (i+1) vs ds p2 f5 h2 (fun j t v ht hv=>hok (j+1) t v zg zg) hw2
  have hcons:∀C:Ctx,(∀b,b<W.heap.size→C.zb b∧C.zt b)→Ib C W (s::as) (v::vs) []:=fun C hz=>⟨[],[],rfl,s3 C hz,a5 C hz⟩
  cases ps with
  |nil=>
   refine⟨x,gx,s::as,?_,rfl,zg,?_,hcons⟩
   ·refine⟨?_,a1⟩;show(mkT agg ((T.ex tt x).take T.size)).sv μ dv dl s
    grind [CZ]
   grind
  |cons q r=>
   refine⟨(x,y),⟨gx,gy⟩,s::as,?_,?_,zg,?_,hcons⟩
   ·have e1:(Ar (.val agg T tt::q::r) (x,y)).take T.size=T.ex tt x:=by
     show(T.ex tt x++Ar (q::r) y).take T.size=_
     grind [CZ]
    have e2:(Ar (.val agg T tt::q::r) (x,y)).drop T.size=Ar (q::r) y:=by
     show(T.ex tt x++Ar (q::r) y).drop T.size=_
     grind [CZ]
    refine⟨?_,?_⟩<;>grind
   ·have e2:(Ar (.val agg T tt::q::r) (x,y)).drop T.size=Ar (q::r) y:=by
     show(T.ex tt x++Ar (q::r) y).drop T.size=_
     grind [CZ]
    grind [Ba]
   grind
 |[],_::_,_,_,_,_,hf,_,_,_=>nomatch hf
 |_::_,[],_,_,_,_,hf,_,_,_=>nomatch hf
 |_::_,.ptr _ _::_,_,_,_,_,hf,_,_,_=>nomatch hf
 |_::_,.clo _ _::_,_,_,_,_,hf,_,_,_=>nomatch hf
 |_::_,.cap _ _::_,_,_,_,_,hf,_,_,_=>nomatch hf
 |_::_,.fnp _::_,_,_,_,_,hf,_,_,_=>nomatch hf
theorem Ib.at{C:Ctx}{w:World}:∀{l:List SV} {m:List Value},Ib C w l m []→∀{j:Nat} {s:SV},l[j]?=some s→∃v,m[j]?=some v∧RSV C w s v []
 |[],_,_,j,s,hs=>zg
 |_::_,[],h,_,_,_=>h.elim
 |a::l,v::m,h,j,s,hs=>by
  obtain⟨f1,f2,e,h1,h2⟩:=h;obtain⟨rfl,rfl⟩:=List.append_eq_nil_iff.1 e.symm
  cases j with
  |zero=>grind
  |succ j=>simpa using Ib.at h2 zg
theorem Qu(hl:laidOutB P=true){W':World}(hb:Below W.heap.size W W'):∀{ts:List TypeId} {vs:List Value} {ds:List (DataW H)} {p:List MemPlace},ts.all (fun t=>P.readableRec t&&decide (t<P.types.size))=true→
  DataW.TrodAll enc P W 0 (fun _=>true) true ts vs ds p→(∀x∈p,x.block<W.heap.size)→DataW.TrodAll enc P W' 0 (fun b=>decide (b<W.heap.size)) true ts vs ds p
 |[],vs,ds,p,_,h,_=>by
  obtain⟨rfl,rfl,rfl⟩:=trodAll_nil h;rfl
 |t::ts,vs,ds,p,ha,h,hp=>by
  obtain⟨v,vs,d,ds,p1,p2,rfl,rfl,rfl,h1,h2⟩:=trodAll_cons h;simp only[Qa2,Qa0,decide_eq_true_eq]at ha;exact trodAll_cons_mk (Below.trod hl ha.1.1 ha.1.2 h1 hb fun x hx=>hp x zg) (Qu hl hb zg h2 fun x hx=>hp x zg)
theorem Aiz(hgood:NN P W){nm:String}{ps:List PT}(h:∀x:DP ps,(tyP ps).Good x→Fn (Pg.of P) nm ⟨ps,[.val false .bool .leaf]⟩ x fun d _=>d=true){f:FuncId}{fn:Func}(hf:P.funcs[f]?=some fn)(hn:fn.name=nm)
  (hfit:Py P fn.params.toList ps=true) {base:Nat} {args:Array Value} {ds:List (DataW H)} {p:List MemPlace} (hok:∀(j:Nat) t v,fn.params[j]?=some t→args[j]?=some v→Value.okWide P W .any base t v)
  (hA:DataW.TrodAll enc P W 0 (fun _=>true) true fn.params.toList args.toList ds p) (hw:∀m∈DataW.weightsEach P fn.params.toList ds,m≤reachBytes):
  Calls P f args W fun e W'=>e=.returned (.bool true)∧Below W.heap.size W W':=by
 obtain⟨x,gx,as,a1,a2,a3,a4,a5⟩:=Ab5 (μ:=fun _=>0) _ ps 0 _ ds p hfit hA (fun j t v ht hv=>hok j t v zg zg) hw
 have hx:=h x gx (fun _=>0) Heap.empty as a1 (by
  show Aav (fun _=>0) (Ba ps 0 (Ar ps x)) Heap.empty;rw[a2]
  exact⟨fun _ _ h=>(nomatch h),fun _ _ _ _ h=>(nomatch h),fun o m h=>(nomatch h)⟩)
 obtain⟨_,_,hcall⟩:=hx f fn hf hn
 let E:Env:=⟨Pg.of P,W,fun _=>False,fun b=>b<W.heap.size,args.size,0,fun _=>0,W⟩
 have hC:∀b,b<W.heap.size→(ctx E (fun _=>0) (fun _=>False) (start as Heap.empty).hp.next).zb b∧(ctx E (fun _=>0) (fun _=>False) (start as Heap.empty).hp.next).zt b:=
  fun b hb=>⟨.inl ⟨hb,id⟩,.inl hb⟩
 have hsz:args.size=as.length:=zg
 have R:Ax E (fun _=>0) (fun _=>False) (fun _=>[]) Ao (start as Heap.empty) args W:=by
  refine⟨?_,⟨fun _=>Qc0,fun _ _ _ _ h=>(nomatch h),fun _ _ h=>(nomatch h)⟩,fun _ h=>h.elim,fun _ _ _=>rfl,rfl,rfl,rfl,Qa4 _,rfl,⟨Qa4 _,fun o ho=>absurd ho (Nat.not_lt_zero _)⟩,⟨fun b hb=>⟨hb,id⟩,fun b hb=>⟨hb,id⟩,fun _ _=>rfl,hgood⟩⟩;intro κ
  cases κ with
  |s t=>
   simp only[AQ,start]
   cases hs:as[t]?with
   |none=>rfl
   |some s=>
    obtain⟨v,hv,hr⟩:=(a5 _ hC).at hs;refine⟨fun _=>?_,fun h=>nomatch h⟩
    have:args.getD t undef=v:=by
     have hv':args[t]?=some v:=zg
     simp[Array.getD_eq_getD_getElem?,hv']
    rw[this];exact hr
  |o o=>intro l hl;cases hl
  |h i=>exact RVs.nil
 refine(hcall E W args (fun _=>0) (fun _=>[]) rfl rfl rfl rfl hsz R fun t s hs=>a4 s (Qb5 hs)).mono fun e W' he=>?_
 cases e with
 |returned v=>
  obtain⟨r,H',lam,z,fp,⟨d,d',hp,hd⟩,hk,R'⟩:=he;refine⟨?_,R'.os,R'.tape,R'.output,R'.size,fun b hb=>R'.frame b hb id⟩;have hd:d=true:=hd;subst hd;obtain⟨μ',ss,ss',_,hr,hco,hsv,_⟩:=hp.res
  have hss':ss'=[.one (.lit (.bool true))]:=by
   match ss',hsv with
   |[],hsv=>trivial
   |[s],hsv=>
    obtain⟨a,rfl,ha⟩:=hsv.1;have ha:a=_:=ha;rw[ha]
   |_::_::_,hsv=>exact hsv.2.elim
  subst hss'
  have hr':r=.val true (.one (.lit (.bool true))):=by
   rw[hr]
   cases hco with
   |cons a b l m hab ht=>
    cases ht
    cases hab with
    |one a _ hab=>cases hab;rfl
  subst hr';have hkey:=R'.keys (.s 0);have hv:RV _ W' (.lit (.bool true)) v (fp (.s 0)):=hkey.1 rfl;rw[RV.Cs hv]
 |panicked ch=>
  obtain⟨v,_,hv,_⟩:=he;trivial
 |_=>grind
theorem NN.none{P:Program}{W:World}(h:(AhO.all fun e=>!(P.globalNamed e.1).isSome)=true)(hm:P.globalNamed "internal/bytealg.MaxLen" =Option.none):NN P W:=by
 refine⟨fun e he hs=>?_,fun g hg=>?_⟩<;>grind
theorem Abd{s:ChangeSpec}{nm:String}{ps:List PT}(h:∀x:DP ps,(tyP ps).Good x→Fn (Pg.of P) nm ⟨ps,[.val false .bool .leaf]⟩ x fun d _=>d=true){f:FuncId}{fn:Func}(hf:P.funcs[f]?=some fn)(hn:fn.name=nm)
  (hfit:Py P fn.params.toList ps=true) (hl:laidOutB P=true) (hread:fn.params.toList.all (fun t=>P.readableRec t&&decide (t<P.types.size))=true) {tb:TypeId} (hres:fn.resultTypes=#[tb]) (htb:P.underlying tb=some .bool)
  (hvars:s.vars=[]) (hs:∀ds:List (DataW H),ds.length=fn.params.size→s.fn H ds={results:=[.lit (.bool true)],args:=ds}) {apart fresh handsOn:Bool} {conds:List PathCond}
  (W:World) (hgood:NN P W) (base:Nat) (args:Array Value) (ds gs:List (DataW H)) (before:List MemPlace)
  (hok:∀(j:Nat) t v,fn.params[j]?=some t→args[j]?=some v→Value.okWide P W .any base t v)
  (hW:DataW.Whole enc P fn.params.toList s.vars apart W args.toList ds gs before)
  (_:conds.all (PathCond.test P ⟨fn.params.toList,ds,s.plain.varTypes P,gs⟩)=true)
  (hsize:(DataW.weightsEach P (fn.params.toList++s.plain.varTypes P) (ds++gs)).all (·≤reachBytes)=true):
  Calls P f args W fun e W'=>∃v,e=.returned v∧s.post enc P fn apart fresh handsOn false W args v W':=by
 have hW':=hW;obtain⟨p,q,hA,hV,hbef,hfz,hnd⟩:=hW;rw[hvars]at hV;obtain⟨rfl,rfl⟩:=trodVars_none hV
 have hvt:s.plain.varTypes P=[]:=by
  grind [ChangeSpec.plain,DataSpec.varTypes]
 rw[hvt,Qa6,Qa6]at hsize
 have hw:∀m∈DataW.weightsEach P fn.params.toList ds,m≤reachBytes:=fun m hm=>zg
 have hdl:ds.length=fn.params.size:=by
  have:∀(ts:List TypeId) (vs:List Value) (ds:List (DataW H)) (p:List MemPlace),DataW.TrodAll enc P W 0 (fun _=>true) true ts vs ds p→ds.length=ts.length:=by
   intro ts
   induction ts<;>grind [trodAll_nil,trodAll_cons]
  grind
 refine(Aiz hgood h hf hn hfit hok hA hw).mono fun e W' he=>?_
 obtain⟨rfl,bel⟩:=he;have hfn:=hs ds hdl;refine⟨_,rfl,ds,[],before,[],p,[],hW',?_,?_,?_,bel.frame _,fun h=>nomatch h⟩
 ·rw[Qa6,hfn,hres];exact trodAll_mk1 (shut_bool htb true)
 ·grind [Qu,hA.lt]
 ·rw[Qa6,hfn,hvars];rfl
end
end Go.VS
namespace Go.VS
open Go.RowKit
def BT.scal:BT→Bool
 |.int _=>true
 |.bool=>true
 |.str=>true
 |_=>false
def BT.lit:(t:BT)→t.D→Value
 |.int k,n=>.int k n
 |.bool,b=>.bool b
 |.str,s=>.string ⟨s.toArray⟩
 |_,_=>undef
theorem Sw{t:BT}(ht:t.scal=true)(x:t.D){μ:Nat→Nat}(i:Nat)(as:List SV):svs μ dv dl (Bn [.val false t .leaf] i (Ar [.val false t .leaf] x)) as↔as=[.one (.lit (t.lit x))]:=by
 match as with
 |[]=>cases t<;>first|(cases ht;done)|exact⟨fun h=>h.elim,fun h=>nomatch h⟩
 |s::r::l=>cases t<;>first|(cases ht;done)|exact⟨fun h=>h.2.elim,fun h=>nomatch h⟩
 |[s]=>
  cases t<;>first|(cases ht;done)|skip
  all_goals
   constructor
   ·rintro⟨⟨a,rfl,ha⟩,_⟩;have ha:a=_:=ha;subst ha;rfl
   ·intro h;cases h;exact⟨⟨_,rfl,rfl⟩,trivial⟩
theorem Sx{t:BT}(ht:t.scal=true)(x:t.D):(t.lit x).oneCell'=true:=by
 cases t<;>first|(cases ht;done)|rfl
abbrev Ajb(t u:BT):Sig:=⟨[.val false t .leaf],[.val false u .leaf]⟩
theorem Fn.Alc{P:Pg}{nm:String}{t u:BT}(ht:t.scal=true)(hu:u.scal=true)(x:t.D)(r:u.D){K:DP (Ajb t u).rs→DP (ptrs (Ajb t u).ps)→Prop}(hK:K r ())
  (h:∀f fn,P.funcs[f]?=some fn→fn.name=nm→fn.body.isSome=true∧(fn.name== "runtime.NumGoroutine")=false∧∀(w:World),Late P w→Calls P f #[t.lit x] w fun e w'=>e=.returned (u.lit r)∧Below w.heap.size w w'):
  Fn P nm (Ajb t u) x K:=by
 intro μ H as hsv _;have has:=(Sw ht x 0 as).1 hsv;subst has;refine Wt (r:=.val true (.one (.lit (u.lit r)))) rfl ⟨r,(),⟨fun i=>if i<rbase then μ i else H.next,[.one (.lit (u.lit r))],[.one (.lit (u.lit r))],fun i hi=>if_pos hi,rfl,FA.refl _,(Sw hu r rbase _).2 rfl,?_,?_,Qa4 _⟩,hK⟩ ?_
 ·intro b l hl;trivial
 ·grind
 ·intro f fn hf hn;obtain⟨h1,h2,h3⟩:=h f fn hf hn;refine⟨h1,h2,fun w vs hw hargs=>?_⟩;obtain⟨hsz,hat⟩:=hargs;obtain⟨C,g,_,hr⟩:=hat 0 _ rfl
  have hv:vs=#[t.lit x]:=by
   have h0:vs.getD 0 undef=t.lit x:=RV.Cs hr;have hs1:vs.size=1:=hsz
   apply Array.ext<;>simp_all
  subst hv
  exact(h3 w hw).mono fun e w' ⟨he,hb⟩=>⟨_,he,fun C _=>⟨fun _=>.lit _ (Sx hu r),fun h=>nomatch h⟩,hb⟩
theorem Fn.calls{P:Pg}(hkp:∀v,¬P.kp v){nm:String}{t u:BT}(ht:t.scal=true)(hu:u.scal=true){x:t.D}{K:DP (Ajb t u).rs→DP (ptrs (Ajb t u).ps)→Prop}(h:Fn P nm (Ajb t u) x K)
  {f:FuncId} {fn:Func} (hf:P.funcs[f]?=some fn) (hn:fn.name=nm) {w:World} (hw:Late P w):Calls P f #[t.lit x] w fun e w'=>∃r d,K r d∧e=.returned (u.lit r)∧Below w.heap.size w w':=by
 have hA:=h (fun _=>0) Heap.empty [.one (.lit (t.lit x))] ((Sw ht x 0 _).2 rfl) ⟨fun b l hl=>(nomatch hl),fun b b' l l' hl=>(nomatch hl),fun o m hm=>(nomatch hm)⟩;refine(WH hkp hA hf hn hw (vs:=#[t.lit x]) rfl fun i s hs=>?_).mono ?_
 ·match i,hs with
  |0,hs=>
   cases hs;exact⟨rfl,fun C _ _=>.lit _ (Sx ht x)⟩
  |i+1,hs=>cases hs
 ·rintro e w' ⟨v,rfl,hb,r,H',⟨d,d',hp,hd⟩,hk,C,g,hC,hr⟩;obtain⟨μ',ss,ss',_,hg,hco,hsv,_⟩:=hp.res;have hss:=(Sw hu d rbase _).1 hsv;subst hss
  have hr':r=.val true (.one (.lit (u.lit d))):=by
   rw[hg]
   cases hco with
   |cons a b l m hab ht=>
    cases ht
    cases hab with
    |one a _ hab=>cases hab;rfl
  subst hr';have hv:RV C w' (.lit (u.lit d)) v g:=hr.1 rfl
  grind [RV.Cs]
def PT.Tb:PT→Bool
 |.val false t _=>t.scal
 |_=>false
def Il:(ps:List PT)→DP ps→List Value
 |[],_=>[]
 |[p],x=>[p.bt.lit x]
 |p::q::r,x=>p.bt.lit x.1::Il (q::r) x.2
def AnN:List Value→Value
 |[v]=>v
 |l=>.tuple l.toArray
theorem AhH{t:BT}(ht:t.scal=true)(tt:TT)(x:t.D):∃c,t.ex tt x=[c]∧t.size=1∧c.Es=true∧∀(μ:Nat→Nat) (ver:Root→Nat) (ln:Place→Option Nat) (a:AV),c.av μ ver ln a↔a=.lit (t.lit x):=by
 cases t<;>first|(cases ht;done)|skip
 all_goals exact⟨_,rfl,rfl,rfl,fun _ _ _ _=>Iff.rfl⟩
theorem JQ{μ:Nat→Nat}{ver:Root→Nat}{ln:Place→Option Nat}:∀(ps:List PT),ps.all PT.Tb=true→∀(x:DP ps) (i:Nat) (as:List SV),svs μ ver ln (Bn ps i (Ar ps x)) as↔as=(Il ps x).map fun v=>.one (.lit v)
 |[],_,_,_,as=>by
  cases as with
  |nil=>exact⟨fun _=>rfl,fun _=>trivial⟩
  |cons=>exact⟨fun h=>h.elim,fun h=>nomatch h⟩
 |[p],h,x,i,as=>by
  simp only[Qa2,Qb0,Qa8]at h
  cases p with
  |val agg t tt=>
   cases agg with
   |true=>cases h
   |false=>
    obtain⟨c,e1,e2,_,e3⟩:=AhH (t:=t) h tt x
    have e:Bn [.val false t tt] i (Ar [.val false t tt] x)=[.one c]:=by
     show[mkT false ((t.ex tt x).take t.size)]=_;rw[e1,e2];rfl
    rw[e]
    match as with
    |[]=>exact⟨fun h=>h.elim,fun h=>nomatch h⟩
    |[s]=>
     constructor
     ·rintro⟨⟨a,rfl,ha⟩,_⟩;rw[(e3 _ _ _ a).1 ha];rfl
     ·intro h;cases h;exact⟨⟨_,rfl,(e3 _ _ _ _).2 rfl⟩,trivial⟩
    |_::_::_=>exact⟨fun h=>h.2.elim,fun h=>nomatch h⟩
  |_=>cases h
 |p::q::r,h,x,i,as=>by
  rw[Qa2,Qa0]at h;obtain⟨h1,h2⟩:=h
  cases p with
  |val agg t tt=>
   cases agg with
   |true=>cases h1
   |false=>
    obtain⟨x,y⟩:=x;obtain⟨c,e1,e2,_,e3⟩:=AhH (t:=t) h1 tt x
    have ec:Ar (.val false t tt::q::r) (x,y)=c::Ar (q::r) y:=by
     show t.ex tt x++Ar (q::r) y=_
     grind
    have e:Bn (.val false t tt::q::r) i (Ar (.val false t tt::q::r) (x,y))=.one c::Bn (q::r) (i+1) (Ar (q::r) y):=by
     rw[ec];show mkT false ((c::_).take t.size)::Bn (q::r) (i+1) ((c::_).drop t.size)=_;rw[e2];rfl
    rw[e]
    match as with
    |[]=>exact⟨fun h=>h.elim,fun h=>nomatch h⟩
    |s::as=>
     have ih:=JQ (μ:=μ) (ver:=ver) (ln:=ln) (q::r) h2 y (i+1) as;constructor
     ·rintro⟨⟨a,rfl,ha⟩,hr⟩;rw[(e3 _ _ _ a).1 ha,ih.1 hr];rfl
     ·intro h
      have h:s::as=.one (.lit (t.lit x))::(Il (q::r) y).map fun v=>.one (.lit v):=h
      simp only[List.cons.injEq]at h;obtain⟨rfl,hh⟩:=h;exact⟨⟨_,rfl,(e3 _ _ _ _).2 rfl⟩,ih.2 hh⟩
  |_=>cases h1
theorem XH:∀(ps:List PT),ps.all PT.Tb=true→∀(x:DP ps),∀v∈Il ps x,v.oneCell'=true
 |[],_,_,v,hv=>nomatch hv
 |[p],h,x,v,hv=>by
  simp only[Qa2,Qb0,Qa8]at h;simp only[Il,List.mem_singleton]at hv;subst hv
  cases p with
  |val agg t tt=>cases agg with
   |true=>cases h
   |false=>exact Sx h x
  |_=>cases h
 |p::q::r,h,x,v,hv=>by
  rw[Qa2,Qa0]at h;simp only[Il,List.mem_cons]at hv
  rcases hv with rfl|hv
  ·cases p with
   |val agg t tt=>cases agg with
    |true=>cases h.1
    |false=>exact Sx h.1 x.1
   |_=>cases h.1
  ·exact XH (q::r) h.2 x.2 v hv
theorem K0:∀{ps:List PT},ps.all PT.Tb=true→ps.any PT.Hf=false
 |[],_=>rfl
 |p::r,h=>by
  rw[Qa2,Qa0]at h;rw[List.any_cons,K0 h.2,Bool.or_false]
  cases p<;>first|rfl|cases h.1
theorem Aak{C:Ctx}{w:World}:∀{l:List Value},(∀v∈l,v.oneCell'=true)→Ib C w (l.map fun v=>.one (.lit v)) l []
 |[],_=>rfl
 |v::l,h=>⟨[],[],rfl,.lit v (h v zsz),Aak fun u hu=>h u zg⟩
theorem Fn.Um{P:Pg}{nm:String}{S:Sig}(hp:S.ps.any PT.Hf=false)(hr:S.rs.all PT.Tb=true)(x:DP S.ps)(r:DP S.rs)(d':DP (ptrs S.ps)){K:DP S.rs→DP (ptrs S.ps)→Prop}(hK:K r d')
  (h:∀f fn,P.funcs[f]?=some fn→fn.name=nm→fn.body.isSome=true∧(fn.name== "runtime.NumGoroutine")=false∧∀(μ:Nat→Nat) (as:List SV) (w:World) (vs:Array Value),svs μ dv dl (Bn S.ps 0 (Ar S.ps x)) as→Late P w→Jp P w as vs→
   Calls P f vs w fun e w'=>e=.returned (AnN (Il S.rs r))∧Below w.heap.size w w'):
  Fn P nm S x K:=by
 intro μ H as hsv _;have hcell:=XH S.rs hr r
 have hkept:(gather ((Il S.rs r).map fun v=>SV.one (.lit v))).kept=true:=by
  match Il S.rs r with
  |[]=>rfl
  |[v]=>rfl
  |v::u::l=>
   refine List.all_eq_true.2 fun s hs=>?_
   have hs:s∈(v::u::l).map fun v=>SV.one (.lit v):=hs
   obtain⟨z,_,rfl⟩:=List.mem_map.1 hs;rfl
 refine Wt (r:=gather ((Il S.rs r).map fun v=>.one (.lit v))) hkept ⟨r,d',⟨fun i=>if i<rbase then μ i else H.next,(Il S.rs r).map fun v=>.one (.lit v),(Il S.rs r).map fun v=>.one (.lit v),fun i hi=>if_pos hi,rfl,FA.refl _,(JQ S.rs hr r rbase _).2 rfl,?_,?_,Qa4 _⟩,hK⟩ ?_
 ·intro b l hl;rw[DM hp,BJ (K0 hr)]at hl;trivial
 ·grind
 ·intro f fn hf hn;obtain⟨h1,h2,h3⟩:=h f fn hf hn;refine⟨h1,h2,fun w vs hw hargs=>?_⟩
  refine(h3 μ as w vs hsv hw hargs).mono fun e w' ⟨he,hb⟩=>⟨_,he,fun C _=>?_,hb⟩
  match hl:Il S.rs r,hcell with
  |[],_=>exact⟨#[],rfl,rfl⟩
  |[v],hc=>exact⟨fun _=>.lit _ (hc v zsz),fun h=>nomatch h⟩
  |v::u::l,hc=>exact⟨(v::u::l).toArray,rfl,Aak hc⟩
theorem TE{P:Pg}{w:World}:∀{l:List Value} {vs:Array Value},Jp P w (l.map fun v=>.one (.lit v)) vs→vs=l.toArray:=by
 rintro l vs ⟨hsz,hat⟩;rw[Qb4]at hsz;apply Array.ext
 ·grind
 ·intro i h1 h2
  have hi:i<l.length:=zg
  obtain⟨C,f,_,hr⟩:=hat i (.one (.lit l[i])) zg;have h0:vs.getD i undef=l[i]:=RV.Cs hr;simp_all
theorem Fn.PK{P:Pg}{nm:String}{S:Sig}(hp:S.ps.all PT.Tb=true)(hr:S.rs.all PT.Tb=true)(x:DP S.ps)(r:DP S.rs)(d':DP (ptrs S.ps)){K:DP S.rs→DP (ptrs S.ps)→Prop}(hK:K r d')
  (h:∀f fn,P.funcs[f]?=some fn→fn.name=nm→fn.body.isSome=true∧(fn.name== "runtime.NumGoroutine")=false∧∀(w:World),Late P w→Calls P f (Il S.ps x).toArray w fun e w'=>e=.returned (AnN (Il S.rs r))∧Below w.heap.size w w'):
  Fn P nm S x K:=
 Fn.Um (K0 hp) hr x r d' hK fun f fn hf hn=>by
  obtain⟨h1,h2,h3⟩:=h f fn hf hn;refine⟨h1,h2,fun μ as w vs hsv hw hargs=>?_⟩;have:=(JQ S.ps hp x 0 as).1 hsv
  grind [TE]
theorem Ec{P:Pg}{nm:String}{i:Nat}(h:Ao1 P nm i=true){f:FuncId}{fn:Func}(hf:P.funcs[f]?=some fn)(hn:fn.name=nm):f=i:=by
 have hlt:=(Array.getElem?_eq_some_iff.1 hf).1;have h:=List.all_eq_true.1 h f zg
 grind
end Go.VS
namespace Go.VS
open Go.RowKit
theorem TM{μ:Nat→Nat}{ver:Root→Nat}{ln:Place→Option Nat}:∀(t:BT) (tt:TT) (x:t.D) {l:List AV},avs μ ver ln (t.ex tt x) l→l=t.enc tt x
 |.int _,_,_,l,h=>by
  match l,h with
  |[a],h=>have h:a=_:=h.1;rw[h];rfl
  |[],h=>trivial
  |_::_::_,h=>exact h.2.elim
 |.bool,_,_,l,h=>by
  match l,h with
  |[a],h=>have h:a=_:=h.1;rw[h];rfl
  |[],h=>trivial
  |_::_::_,h=>exact h.2.elim
 |.str,_,_,l,h=>by
  match l,h with
  |[a],h=>have h:a=_:=h.1;rw[h];rfl
  |[],h=>trivial
  |_::_::_,h=>exact h.2.elim
 |.unit,_,_,l,h=>by
  match l,h with
  |[],h=>rfl
  |_::_,h=>trivial
 |.sl e,tt,x,l,h=>by
  match l,h with
  |[a],h=>have h:a=_:=h.1;rw[h];rfl
  |[],h=>trivial
  |_::_::_,h=>exact h.2.elim
 |.pair a b,tt,x,l,h=>by
  obtain⟨l1,l2,rfl,h1,h2⟩:=Zy h;rw[TM a tt.fst x.1 h1,TM b tt.snd x.2 h2];rfl
def hctx(P:Program)(z:Nat→Prop):Ctx:=⟨P,fun _=>0,0,z,z⟩
theorem Aia{P:Pg}{nm:String}{t:BT}{tt:TT}(htf:TC.BD.TT.BD tt=true){rs:List PT}{x:t.D}{K:DP rs→DP (ptrs [.ptr t tt])→Prop}(h:Fn P nm ⟨[.ptr t tt],rs⟩ x K){f:FuncId}{fn:Func}(hf:P.funcs[f]?=some fn)(hn:fn.name=nm)
  {w lw:World} {F:Nat→Prop} {b:Nat} (hg:NN P lw) (hlt:∀b',b'<lw.heap.size→b'<w.heap.size∧¬F b'∧b'≠b∧w.heap[b']?=lw.heap[b']?)
  {cs:Array Value} {ty:TypeId} (hb:w.heap[b]?=some (.cells cs ty (0,0))) (hcs:∀C,RVs C w (t.enc tt x) cs.toList []):
  Calls P f #[.pointer (some ⟨b,0,none⟩)] w fun e w'=>(∀b',b'<w.heap.size→¬F b'→b'≠b→w'.heap[b']?=w.heap[b']?)∧w'.os=w.os∧w'.tape=w.tape∧w'.output=w.output∧w.heap.size≤w'.heap.size∧
   ((∃v,e=.returned v∧∃(d:DP rs) (e':t.D),K d e'∧∃(cs':Array Value) (ty':TypeId) (f':List Nat) (z:Nat→Prop),w'.heap[b]?=some (.cells cs' ty' (0,0))∧RVs (hctx P z) w' (t.enc tt e') cs'.toList f'∧f'.Nodup∧b∉f'∧
     (∀b'∈f',b'<w'.heap.size∧(F b'∨w.heap.size≤b')∧¬z b')∧(∀b',z b'→b'<w'.heap.size∧(F b'∨w.heap.size≤b')∧b'≠b))∨
    (∃v,e=.panicked [{v,recovered:=false}]∧P.kp v)):=by
 let H:Heap:=⟨fun o=>if o=0 then some (t.enc tt x)else none,1⟩
 have hbx:Ba [.ptr t tt] 0 (Ar [.ptr t tt] x)=[(0,t.ex tt x)]:=by
  show[(0,(t.ex tt x).take t.size)]=_
  grind [CZ]
 have hA:=h (fun _=>0) H [.one (.ptr 0 0)] ⟨⟨_,rfl,rfl⟩,trivial⟩ (by
  refine⟨?_,?_,?_⟩
  ·intro b0 l hl;rw[hbx,Aq]at hl;split at hl
   ·grind [Fb]
   trivial
  ·intro b0 b1 l l' h0 h1 _;rw[hbx,Aq]at h0 h1;split at h0
   ·split at h1
    ·omega
    trivial
   trivial
  ·intro o m hm;simp only[H]at hm;split at hm
   ·rename_i ho;subst ho;exact⟨0,_,by rfl,rfl⟩
   grind)
 obtain⟨_,_,hcall⟩:=hA f fn hf hn
 let E:Env:=⟨P,w,fun b'=>F b'∨b'=b,fun _=>False,1,1,fun _=>b,lw⟩
 have hbl:b<w.heap.size:=by
  grind
 let fp:Ky→List Nat:=fun κ=>match κ with|.o 0=>[b]|_=>[]
 have hfp:∀κ b',b'∈fp κ→κ=.o 0∧b'=b:=by
  grind
 have R:Ax E (fun _=>b) (fun _=>False) fp Ao (start [.one (.ptr 0 0)] H) #[.pointer (some ⟨b,0,none⟩)] w:=by
  refine⟨?_,⟨?_,?_,?_⟩,fun _ h=>h.elim,fun _ _ _=>rfl,rfl,rfl,rfl,Qa4 _,rfl,⟨Qa4 _,fun _ _=>rfl⟩,⟨fun _ h=>h.elim,fun b' hb'=>?_,fun b' hb'=>(hlt b' hb').2.2.2,hg⟩⟩
  ·intro κ
   cases κ with
   |s i=>
    simp only[AQ,start]
    match i with
    |0=>exact⟨fun _=>.ptr 0 0 (by simp[ctx,start,H]),fun h=>nomatch h⟩
    |i+1=>rfl
   |o o=>
    intro l hl;have hl:(if o=0 then some (t.enc tt x)else none)=some l:=hl;split at hl
    ·rename_i ho;subst ho;cases hl;exact⟨by simp[ctx,start,H],cs,ty,[],hb,hcs _,rfl⟩
    grind
   |h i=>exact RVs.nil
  ·grind
  ·grind
  ·grind
  grind
 refine(hcall E w #[.pointer (some ⟨b,0,none⟩)] (fun _=>b) fp rfl rfl rfl rfl rfl R ?_).mono fun e w' he=>?_
 ·intro i s hs
  match i,hs with
  |0,hs=>cases hs;rfl
  |i+1,hs=>cases hs
 ·cases e with
  |outgrown=>grind
  |panicked ch=>
   obtain⟨v,rfl,hv,q1,q2,q3,q4,q5⟩:=he<;>grind
  |returned v=>
   obtain⟨r,H',lam,z,fp',⟨d,d',hp,hk⟩,hkept,R'⟩:=he;refine⟨fun b' h1 h2 h3=>R'.frame b' h1 (fun hh=>hh.elim h2 h3),R'.os,R'.tape,R'.output,R'.size,.inl ⟨v,rfl,d,d',hk,?_⟩⟩;obtain⟨μ',ss,ss',hm1,hr,hco,hsv,hbs,hfr,hnx⟩:=hp.res
   have hbo:AA [.ptr t tt] 0 (Ar (ptrs [.ptr t tt]) d')=[(0,t.ex tt d')]:=by
    exact congrArg (fun l=>[(0,l)]) (Qb8 (Nat.le_of_eq (CZ t tt d')))
   obtain⟨m,m',k1,k2,k3,k4⟩:=hbs 0 (t.ex tt d') (by
    grind [look,AA,Ar,ptrs,Bj,Aq])
   have hm':=TM t tt d' k3;subst hm';have hmu:μ' 0=0:=hm1 0 (by trivial);rw[hmu]at k1;have hkey:=R'.keys (.o 0);obtain⟨_,cs',ty',f',g1,g2,g3⟩:=hkey m k1;have hlam:lam 0=b:=R'.base.2 0 (by show 0<1;omega)
   have g1:w'.heap[lam 0]?=some (.cells cs' ty' (0,0)):=g1;rw[hlam]at g1;have hnod:=R'.fps.nod (.o 0);rw[g3]at hnod
   have hnb:b∉f':=by
    have:(ctx E.one lam z (fin r H').hp.next).lam 0=b:=hlam
    grind
   refine⟨cs',ty',f',z,g1,?_,(List.nodup_cons.1 hnod).2,hnb,fun b' hb'=>?_,fun b' hb'=>?_⟩
   ·have g2':=CoL.rvs k2 g2;have hpl:=(EY t tt htf d').2;exact RVs.E1 (C:=ctx E.one lam z (fin r H').hp.next) (C':=hctx P z) ⟨rfl,fun b' hb'=>hb'.resolve_left id,fun b' hb'=>hb'⟩ g2' hpl
   ·have:=R'.fps.ok (.o 0) b' zg;refine⟨this.1,?_,this.2.2⟩
    rcases this.2.1 with h1|h1
    ·rcases h1 with h1|h1<;>grind
    ·exact .inr h1
   ·have:=R'.z b' hb'
    have hne:b'≠b:=by
     rintro rfl;have:=R'.fps.ok (.o 0) b' (by rw[g3];show b'∈lam 0::f';grind)
     grind
    refine⟨this.1,?_,hne⟩
    rcases this.2 with h1|h1
    ·rcases h1 with h1|h1<;>grind
    ·exact .inr h1
theorem Ye{C C':Ctx}{w:World}(hC:C.Seen C'):∀{l:List SV} {m:List Value} {f:List Nat},Ib C w l m f→(l.all fun s=>BV s.cells)=true→Ib C' w l m f
 |[],[],_,h,_=>h
 |s::l,v::m,f,h,hp=>by
  simp only[Qa2,Qa0]at hp;obtain⟨f1,f2,rfl,h1,h2⟩:=h;refine⟨f1,f2,rfl,?_,Ye hC h2 hp.2⟩
  cases s with
  |one a=>exact RV.E1 hC h1 (by grind [SV.cells,BV])
  |agg k=>obtain⟨cs,e,h⟩:=h1;exact⟨cs,e,RVs.E1 hC h hp.1⟩
theorem Ai9{C C':Ctx}{w:World}(hC:C.Seen C'){r:TV}{v:Value}{f:List Nat}(h:RTV C w r v f)(hp:r.plain=true):RTV C' w r v f:=by
 cases r with
 |val g s=>
  cases g with
  |false=>cases hp
  |true=>
   refine⟨fun _=>?_,fun h=>nomatch h⟩;have h:=h.1 rfl;have hp:BV s.cells=true:=hp
   cases s with
   |one a=>exact RV.E1 hC h (by grind [SV.cells,BV])
   |agg l=>obtain⟨cs,e,h⟩:=h;exact⟨cs,e,RVs.E1 hC h hp⟩
 |tup l=>
  obtain⟨vs,e,h⟩:=h;exact⟨vs,e,Ye hC h hp⟩
 |dead=>cases hp
theorem He{P:Pg}{nm:String}{args:List SV}{H:Heap}{K:TV→Heap→Prop}
  (h:∀f fn,P.funcs[f]?=some fn→fn.name=nm→fn.body.isSome=true∧(fn.name== "runtime.NumGoroutine")=false∧∀(w:World) (vs:Array Value),Late P w→Jp P w args vs→
   Calls P f vs w fun e w'=>Below w.heap.size w w'∧((∃v,e=.returned v∧∃(r:TV) (f:List Nat) (z:Nat→Prop),K r H∧r.kept=true∧r.plain=true∧RTV (hctx P z) w' r v f∧f.Nodup∧(∀b∈f,w.heap.size≤b∧b<w'.heap.size∧¬z b)∧(∀b,z b→w.heap.size≤b∧b<w'.heap.size))∨
    (∃v,e=.panicked [{v,recovered:=false}]∧P.kp v))):Ll P nm args H K:=by
 intro f fn hf hn;obtain⟨h1,h2,h3⟩:=h f fn hf hn;refine⟨h1,h2,fun E w vs lam fp hP hw hn0 hnt hlen R hsol=>?_⟩;subst hP;refine(h3 w vs ⟨E.lw,R.i0.good,fun b hb=>?_⟩ ⟨hlen,fun t s ht=>?_⟩).mono ?_
 ·exact(R.frame b (R.i0.lt b hb).1 (R.i0.lt b hb).2).trans (R.i0.eq b hb)
 ·have:=R.keys (.s t);simp only[AQ,start,ht]at this;exact⟨_,_,rfl,this.1 rfl⟩
 rintro e w' ⟨bel,hv⟩;have R':=R.grow (w':=w') ⟨bel.os,bel.tape,bel.output,bel.size,fun b hb _=>bel.block b hb⟩
 cases e with
 |outgrown=>
  grind
 |panicked ch=>
  rcases hv with⟨v,hv,_⟩|⟨v,hv,hk⟩
  ·cases hv
  ·cases hv;exact⟨v,rfl,hk,fun b hb hf=>(bel.block b zg).trans (by rw[hw]),by grind [bel.os],by grind [bel.tape],by grind [bel.output],by grind [bel.size]⟩
 |returned v=>
 rcases hv with⟨v',hv,r,g,z,hK,hk,hpl,hr,g1,g2,g3⟩|⟨v,hv,_⟩
 case inr=>cases hv
 cases hv
 have hsz:E.w0.heap.size=w.heap.size:=by rw[hw]
 have hle:=Akr E lam (z:=fun _=>False) (z1:=z) (fun _ h=>h.elim) H.next;refine⟨r,H,lam,z,fun κ=>match κ with|.s 0=>g|.o o=>fp (.o o)|_=>[],hK,hk,?_⟩;refine⟨?_,⟨?_,?_,?_⟩,fun b hb=>⟨(g3 b hb).2,.inr (by show E.w0.heap.size≤b;grind)⟩,R'.frame,R'.os,R'.tape,R'.output,R'.size,rfl,R'.base,⟨R'.i0.own,R'.i0.lt,R'.i0.eq,R'.i0.good⟩⟩
 ·intro κ
  cases κ with
  |s t=>
   simp only[AQ,fin];split
   ·rename_i ht;subst ht
    exact Ai9 (C:=hctx E.P z) (C':=ctx E.one lam z (fin r H).hp.next) ⟨rfl,fun b hb=>.inr hb,fun b hb=>by
     rcases hb with hb|hb
     ·exact .inl (R.i0.own b hb)
     ·exact .inr hb⟩ hr hpl
   ·rename_i ht
    cases t with
    |zero=>grind
    |succ t=>rfl
  |o o=>exact AQ.frame hle (fun _ _=>rfl) (R'.keys (.o o)) (fun _ _=>rfl)
  |h i=>exact RVs.nil
 ·intro κ
  cases κ with
  |o o=>exact R'.fps.nod _
  |s t=>
   grind
  |_=>grind
 ·intro κ κ' b hne hb hb'
  have old:∀o,b∈fp (.o o)→b<w.heap.size:=fun o ho=>(R.fps.ok _ b ho).1
  cases κ with
  |o o=>
   cases κ' with
   |o o'=>exact R'.fps.dis _ _ b zg hb hb'
   |s t=>
    grind
   |_=>grind
  |s t=>
   grind
  |_=>cases hb
 ·intro κ b hb
  cases κ with
  |o o=>
   have:=R'.fps.ok _ b hb;exact⟨this.1,this.2.1,fun hz=>absurd (R.fps.ok _ b hb).1 (Nat.not_lt.2 (g3 b hz).1)⟩
  |s t=>
   cases t with
   |zero=>exact⟨(g2 b hb).2.1,.inr (by show E.w0.heap.size≤b;grind),(g2 b hb).2.2⟩
   |succ t=>cases hb
  |_=>cases hb
theorem Fn.Ald{P:Pg}{nm:String}{ps:List PT}(hp:ps.all PT.Tb=true){t:BT}{tt:TT}(htf:TC.BD.TT.BD tt=true)(x:DP ps)(l:(BT.sl t).D)(c:Int)(d':DP (ptrs ps)){K:DP [.val false (.sl t) tt,.val false (.int .i64) .leaf]→DP (ptrs ps)→Prop}(hK:K (l,c) d')
  (h:∀f fn,P.funcs[f]?=some fn→fn.name=nm→fn.body.isSome=true∧(fn.name== "runtime.NumGoroutine")=false∧∀(w:World),Late P w→
   Calls P f (Il ps x).toArray w fun e w'=>Below w.heap.size w w'∧((∃(ns:Value) (f:List Nat) (z:Nat→Prop),e=.returned (.tuple #[ns,.int .i64 c])∧RVs (hctx P z) w' ((BT.sl t).enc tt l) [ns] f∧f.Nodup∧(∀b∈f,w.heap.size≤b∧b<w'.heap.size∧¬z b)∧(∀b,z b→w.heap.size≤b∧b<w'.heap.size))∨
    (∃v,e=.panicked [{v,recovered:=false}]∧P.kp v))):Fn P nm ⟨ps,[.val false (.sl t) tt,.val false (.int .i64) .leaf]⟩ x K:=by
 intro μ H as hsv _;have hsv:=(JQ ps hp x 0 as).1 hsv;subst hsv
 obtain⟨a,ha⟩:∃a,(BT.sl t).enc tt l=[a]:=⟨_,rfl⟩
 refine He ?_;intro f fn hf hn;obtain⟨h1,h2,h3⟩:=h f fn hf hn;refine⟨h1,h2,fun w vs hw hargs=>?_⟩;have e:=TE hargs;subst e
 refine(h3 w hw).mono fun e w' ⟨hb,he⟩=>⟨hb,?_⟩
 rcases he with⟨ns,g,z,rfl,hr,g1,g2,g3⟩|he
 ·refine .inl ⟨_,rfl,.tup [.one a,.one (.lit (.int .i64 c))],g,z,⟨(l,c),d',⟨fun i=>if i<rbase then μ i else H.next,[.one a,.one (.lit (.int .i64 c))],[.one a,.one (.lit (.int .i64 c))],fun i hi=>if_pos hi,rfl,FA.refl _,?_,?_,?_,Qa4 _⟩,hK⟩,?_,?_,?_,g1,g2,g3⟩
  ·have h5:=Fb (μ:=fun i=>if i<rbase then μ i else H.next) (ver:=dv) (ln:=dl) (BT.sl t) tt l;rw[ha]at h5;exact⟨⟨a,rfl,h5.1⟩,⟨_,rfl,rfl⟩,trivial⟩
  ·intro b l' hl;rw[DM (K0 hp),BJ (by rfl)]at hl;trivial
  ·grind
  ·have h5:=(EY (BT.sl t) tt htf l).1;rw[ha]at h5;show([SV.one a,SV.one (.lit (.int .i64 c))].all fun s=>C8 s.cells)=true;simp only[Qa2,Qb0,Qa8,Qa0];trivial
  ·have h5:=(EY (BT.sl t) tt htf l).2;rw[ha]at h5;show([SV.one a,SV.one (.lit (.int .i64 c))].all fun s=>BV s.cells)=true;simp only[Qa2,Qb0,Qa8,Qa0];trivial
  ·rw[ha]at hr;obtain⟨u,hu,hr1⟩:=hr.BU;cases hu;exact⟨#[ns,.int .i64 c],rfl,g,[],zsz,hr1,[],[],rfl,.lit _ rfl,rfl⟩
 grind
end Go.VS
namespace Go.VS
open Go.RowKit
section
variable{H:Type}{enc:TypeId×Value→H}
theorem Rf{a:Assume}{C:Checked}{os:Os}{f:FuncId}{fn:Func}{s:ChangeSpec}{conds:List PathCond}{apart fresh handsOn again:Bool}{X:World→Array Value→Prop}
  (hX:∀(w w':World) (args:Array Value),w.heap=w'.heap→X w args→X w' args)
  (own:ownKnob C.prog.godebug=none) (started:os.Started) (noInit:C.prog.inits.idxOf? f=none) (hfn:C.prog.funcs[f]?=some fn)
  (witness:∃(w:World) (tape:Tape) (i:Input),w.os=os∧(w.forCall tape i).Shaped C.prog∧i.vars=[]∧Input.okWide C.prog (w.forCall tape i) .any w.heap.size f i∧
   ((s.pre enc C.prog fn conds apart (w.forCall tape i).memory i.args∧X (w.forCall tape i).memory i.args)∧sizedMet enc C.prog fn (OpenSpec.ofChange s) apart (w.forCall tape i).memory i.args)∧a.holds C.prog (lone (Frame.enter C.prog f i.args .normal) [] (w.forCall tape i)))
  (contract:∀(W:World) (base:Nat) (args:Array Value) (ds gs:List (DataW H)) (before:List MemPlace),W.ShapedOpen C.prog→
   (∀(j:Nat) t v,fn.params[j]?=some t→args[j]?=some v→Value.okWide C.prog W .any base t v)→
   DataW.Whole enc C.prog fn.params.toList s.vars apart W args.toList ds gs before→
   conds.all (PathCond.test C.prog ⟨fn.params.toList,ds,s.plain.varTypes C.prog,gs⟩)=true→
   (DataW.weightsEach C.prog (fn.params.toList++s.plain.varTypes C.prog) (ds++gs)).all (·≤reachBytes)=true→X W args→
   a.holds C.prog (lone (Frame.enter C.prog f args .normal) [] W)→
   Calls C.prog f args W fun e W'=>∃v,e=.returned v∧s.post enc C.prog fn apart fresh handsOn again W args v W'):
  ReturnsInHanded a C os f .any (fun w args=>(s.pre enc C.prog fn conds apart w args∧X w args)∧sizedMet enc C.prog fn (OpenSpec.ofChange s) apart w args) (s.post enc C.prog fn apart fresh handsOn again):=by
 refine returnsInHanded_of_calls own started noInit witness ?_;intro w tape i _ hsh _ hok hpre hholds;obtain⟨_,_,_,fn',hfn',_,_,_,_,hval⟩:=hok;have e:fn'=fn:=Option.some.inj (hfn'.symm.trans hfn);subst e;obtain⟨⟨⟨ds,gs,before,hw,hc⟩,hx⟩,hz⟩:=hpre;have hw':=DataW.Whole.of_heap (w':=w.forCall tape i) (by rfl) hw
 refine(contract (w.forCall tape i) w.heap.size i.args ds gs before hsh hval hw' hc (hz.weights hw) (hX _ _ _ (by rfl) hx) hholds).mono fun e W' ⟨v,he,hp⟩=>?_<;>grind [ChangeSpec.post_blind]
end
theorem Agh{P:Program}{W:World}(h:W.ShapedOpen P){g:Nat}{t:TypeId}(hg:g<P.globals.size)
  (h0:(((begin P (fun _ _=>0) default).world.heap[g]?).bind Obj.row?)=some (#[.int .i64 0],t)) (hb:P.buildable t=true) (hc:P.cellTypes P.depth t=some [t]) (hu:P.underlying t=some (.int .i64)):
  ∃m,W.cell? ⟨g,0,none⟩=some (.int .i64 m):=by
 obtain⟨cs,hw,hs,hok⟩:=h.1 g _ _ hg h0;obtain⟨ts,hts,_,hall⟩:=hok hb;rw[hc]at hts;cases hts;have hs:cs.size=1:=hs
 obtain⟨v,hv⟩:∃v,cs[0]?=some v:=⟨cs[0],Array.getElem?_eq_getElem zm⟩
 obtain⟨u,hu',hcell⟩:=hall 0 v hv;cases hu';unfold Cell.ok at hcell
 grind [World.cell?]
end Go.VS
namespace Go.VS
open Go.RowKit
theorem Mf{C:Ctx}{w:World}:∀{l:List Value} {vs:List Value} {f:List Nat},Ib C w (l.map fun v=>.one (.lit v)) vs f→vs=l
 |[],[],_,_=>rfl
 |[],_::_,_,h=>h.elim
 |_::_,[],_,h=>h.elim
 |v::l,u::vs,f,h=>by
  obtain⟨f1,f2,_,h1,h2⟩:=h;have e1:u=v:=RV.Cs h1;rw[e1,Mf h2]
theorem Aco:∀{l:List Value} {m:List SV},FA m (l.map fun v=>.one (.lit v))→m=l.map fun v=>.one (.lit v)
 |[],_,h=>by cases h;rfl
 |v::l,_,h=>by
  cases h with
  |cons a b x y hab ht=>
   rw[Aco ht]
   cases hab with
   |one a _ hab=>cases hab;rfl
theorem AlA{C:Ctx}{w:World}{l:List Value}{v:Value}{f:List Nat}(h:RTV C w (gather (l.map fun v=>.one (.lit v))) v f):v=AnN l:=by
 match l,h with
 |[],h=>
  obtain⟨vs,rfl,h2⟩:=(show∃vs,v=.tuple vs∧Ib C w (([]:List Value).map fun v=>.one (.lit v)) vs.toList f from h)
  have:=Mf (l:=[]) h2
  have e:vs=#[]:=by
   grind
  rw[e];rfl
 |[u],h=>
  have hv:RV C w (.lit u) v f:=h.1 rfl;exact RV.Cs hv
 |a::b::l,h=>
  obtain⟨vs,rfl,h2⟩:=(show∃vs,v=.tuple vs∧Ib C w ((a::b::l).map fun v=>.one (.lit v)) vs.toList f from h)
  have:=Mf (l:=a::b::l) h2
  have e:vs=(a::b::l).toArray:=by
   grind
  rw[e];rfl
end Go.VS
namespace Go.VS
open Go.RowKit
theorem AlB{C:Ctx}{w:World}:∀{l:List AV} {m:List Value} {f:List Nat},RVs C w l m f→∀{j:Nat} {u:Value},l[j]?=some (.lit u)→m[j]?=some u
 |_,_,_,.nil,_,_,h=>nomatch h
 |_,_,_,.cons a v f l m g h t,0,u,hj=>by
  grind [RV.Cs]
 |_,_,_,.cons a v f l m g h t,j+1,u,hj=>by
  simp only[List.getElem?_cons_succ]at hj⊢;exact AlB t hj
theorem AhG{C C':Ctx}{w w':World}:∀{l:List AV} {m:List Value} {f:List Nat},RVs C w l m f→(∀a∈l,∃u,a=.lit u)→RVs C' w' l m []
 |_,_,_,.nil,_=>.nil
 |_,_,_,.cons a v f l m g h t,hl=>by
  obtain⟨u,rfl⟩:=hl a zsz;have:=RV.Cs h;subst this;exact .cons _ _ [] _ _ [] (.lit _ h.HX) (AhG t fun b hb=>hl b zg)
theorem AbF{C:Ctx}{w:World}{k:Nat}{xs:List (List AV)}{v:Value}{f:List Nat}(h:RV C w (.sl .brw k xs) v f)(hl:∀x∈xs,∀a∈x,∃u,a=.lit u):
  ((xs=[]∧∃a c,v=.slice a 0 c)∨∃b off c,v=.slice (some ⟨b,off,none⟩) xs.length c∧b<w.heap.size∧∀j u,xs.flatten[j]?=some (.lit u)→w.cell? ⟨b,off+j,none⟩=some u)∧
  ∀{C':Ctx} {w':World},(∀b,b<w.heap.size→w'.heap[b]?=w.heap[b]?)→(∀b,b<w.heap.size→C'.zb b)→RV C' w' (.sl .brw k xs) v []:=by
 generalize ha:AV.sl .brw k xs=a at h
 cases h with
 |slNil τ k'=>
  cases ha;exact⟨.inl ⟨rfl,none,0,rfl⟩,fun _ _=>.slNil _ _⟩
 |shrE τ k' a cap ht=>
  cases ha;exact⟨.inl ⟨rfl,some a,cap,rfl⟩,fun _ _=>.shrE _ _ _ _ ht⟩
 |shr τ k' xs' b off cap cs e fz ht hz hi hb hs hc hk hr=>
  cases ha
  have hlt:b<w.heap.size:=by
   grind
  refine⟨.inr ⟨b,off,cap,rfl,hlt,fun j u hj=>?_⟩,fun hw hz'=>.shr _ _ _ b off cap cs e fz ht (hz' b hlt) (fun h=>nomatch h) ((hw b hlt).trans hb) hs hc hk (AhG hr fun a ha=>?_)⟩
  ·have h1:=AlB hr hj
   grind [World.cell?]
  grind [List.mem_flatten]
 |_=>cases ha
end Go.VS
namespace Go.VS
open Go.RowKit
def BT.flat:BT→Bool
 |.int _=>true
 |.bool=>true
 |.str=>true
 |.pair a b=>a.flat&&b.flat
 |_=>false
def BT.fl:(t:BT)→t.D→List Value
 |.int k,n=>[.int k n]
 |.bool,b=>[.bool b]
 |.str,s=>[.string ⟨s.toArray⟩]
 |.unit,_=>[]
 |.sl _,_=>[]
 |.pair a b,x=>a.fl x.1++b.fl x.2
theorem VY:∀(t:BT),t.flat=true→∀x:t.D,(t.fl x).length=t.size
 |.int _,_,_=>rfl
 |.bool,_,_=>rfl
 |.str,_,_=>rfl
 |.unit,h,_=>nomatch h
 |.sl _,h,_=>nomatch h
 |.pair a b,h,x=>by
  simp only[BT.flat,Qa0]at h;simp only[BT.fl,BT.size,List.length_append,VY a h.1,VY b h.2]
theorem RX:∀(t:BT) (x:t.D),∀v∈t.fl x,v.oneCell'=true
 |.int _,_,v,h=>by rw[List.mem_singleton.1 h];rfl
 |.bool,_,v,h=>by rw[List.mem_singleton.1 h];rfl
 |.str,_,v,h=>by rw[List.mem_singleton.1 h];rfl
 |.unit,_,_,h=>nomatch h
 |.sl _,_,_,h=>nomatch h
 |.pair a b,x,v,h=>by
  rcases List.mem_append.1 h with h|h
  ·exact RX a x.1 v h
  ·exact RX b x.2 v h
section
variable{μ:Nat→Nat}{ver:Root→Nat}{ln:Place→Option Nat}
theorem AaF:∀{l m:List TC} {as:List AV},avs μ ver ln (l++m) as↔∃p q,as=p++q∧avs μ ver ln l p∧avs μ ver ln m q
 |[],m,as=>by
  constructor
  ·intro h;exact⟨[],as,rfl,trivial,h⟩
  ·rintro⟨p,q,rfl,h1,h2⟩
   match p,h1 with
   |[],_=>exact h2
 |c::l,m,as=>by
  constructor
  ·intro h
   match as,h with
   |a::as,⟨h1,h2⟩=>
    obtain⟨p,q,rfl,h3,h4⟩:=AaF.1 h2;exact⟨a::p,q,rfl,⟨h1,h3⟩,h4⟩
  ·rintro⟨p,q,rfl,h1,h2⟩
   match p,h1 with
   |a::p,⟨h3,h4⟩=>exact⟨h3,AaF.2 ⟨p,q,rfl,h4,h2⟩⟩
theorem AaG{c:TC}{u:Value}(hc:∀a:AV,c.av μ ver ln a↔a=.lit u){as:List AV}:avs μ ver ln [c] as↔as=[.lit u]:=by
 constructor
 ·intro h
  match as,h with
  |[a],⟨h1,_⟩=>grind
 ·rintro rfl;exact⟨(hc _).2 rfl,trivial⟩
theorem WU:∀(t:BT) (tt:TT),t.flat=true→∀(x:t.D) (as:List AV),avs μ ver ln (t.ex tt x) as↔as=(t.fl x).map AV.lit
 |.int k,_,_,n,as=>AaG fun _=>Iff.rfl
 |.bool,_,_,b,as=>AaG fun _=>Iff.rfl
 |.str,_,_,s,as=>AaG fun _=>Iff.rfl
 |.unit,_,h,_,_=>nomatch h
 |.sl _,_,h,_,_=>nomatch h
 |.pair a b,tt,h,x,as=>by
  simp only[BT.flat,Qa0]at h;simp only[BT.ex,BT.fl,List.map_append];rw[AaF];constructor
  ·rintro⟨p,q,rfl,h1,h2⟩;rw[(WU a _ h.1 _ _).1 h1,(WU b _ h.2 _ _).1 h2]
  ·rintro rfl;exact⟨_,_,rfl,(WU a _ h.1 _ _).2 rfl,(WU b _ h.2 _ _).2 rfl⟩
end
def PT.fv:(p:PT)→p.bt.D→Value
 |.val true t _,x=>.agg (t.fl x).toArray
 |.val false t _,x=>t.lit x
 |_,_=>undef
def PT.fs:(p:PT)→p.bt.D→SV
 |.val true t _,x=>.agg ((t.fl x).map AV.lit)
 |.val false t _,x=>.one (.lit (t.lit x))
 |_,_=>.one .dead
section
variable{μ:Nat→Nat}{ver:Root→Nat}{ln:Place→Option Nat}
end
theorem AbG{C:Ctx}{w:World}:∀{l:List Value},(∀v∈l,v.oneCell'=true)→RVs C w (l.map AV.lit) l []
 |[],_=>.nil
 |v::l,h=>.cons _ _ [] _ _ [] (.lit v (h v zsz)) (AbG fun u hu=>h u zg)
theorem Vc{C:Ctx}{w:World}:∀{l:List Value} {vs:List Value} {f:List Nat},RVs C w (l.map AV.lit) vs f→vs=l
 |[],_,_,h=>by cases h;rfl
 |v::l,_,_,h=>by
  cases h with
  |cons a u f1 l' m f2 h1 h2=>rw[RV.Cs h1,Vc h2]
end Go.VS
namespace Go.VS
open Go.RowKit
theorem Fn.ApJ{P:Pg}{nm:String}{ps:List PT}(hp:ps.all PT.Tb=true){t:BT}{tt:TT}(htf:TC.BD.TT.BD tt=true)(x:DP ps)(l:(BT.sl t).D)(d':DP (ptrs ps)){K:DP [.val false (.sl t) tt]→DP (ptrs ps)→Prop}(hK:K l d')
  (h:∀f fn,P.funcs[f]?=some fn→fn.name=nm→fn.body.isSome=true∧(fn.name== "runtime.NumGoroutine")=false∧∀(w:World),Late P w→
   Calls P f (Il ps x).toArray w fun e w'=>Below w.heap.size w w'∧(∃(ns:Value) (f:List Nat) (z:Nat→Prop),e=.returned ns∧RVs (hctx P z) w' ((BT.sl t).enc tt l) [ns] f∧f.Nodup∧(∀b∈f,w.heap.size≤b∧b<w'.heap.size∧¬z b)∧(∀b,z b→w.heap.size≤b∧b<w'.heap.size))):Fn P nm ⟨ps,[.val false (.sl t) tt]⟩ x K:=by
 intro μ H as hsv _;have hsv:=(JQ ps hp x 0 as).1 hsv;subst hsv
 obtain⟨a,ha⟩:∃a,(BT.sl t).enc tt l=[a]:=⟨_,rfl⟩
 refine He ?_;intro f fn hf hn;obtain⟨h1,h2,h3⟩:=h f fn hf hn;refine⟨h1,h2,fun w vs hw hargs=>?_⟩;have e:=TE hargs;subst e
 refine(h3 w hw).mono fun e w' ⟨hb,he⟩=>⟨hb,?_⟩
 obtain⟨ns,g,z,rfl,hr,g1,g2,g3⟩:=he;refine .inl ⟨_,rfl,.val true (.one a),g,z,⟨l,d',⟨fun i=>if i<rbase then μ i else H.next,[.one a],[.one a],fun i hi=>if_pos hi,rfl,FA.refl _,?_,?_,?_,Qa4 _⟩,hK⟩,?_,?_,?_,g1,g2,g3⟩
 ·have h5:=Fb (μ:=fun i=>if i<rbase then μ i else H.next) (ver:=dv) (ln:=dl) (BT.sl t) tt l;rw[ha]at h5;exact⟨⟨a,rfl,h5.1⟩,trivial⟩
 ·intro b l' hl;rw[DM (K0 hp),BJ (by rfl)]at hl;trivial
 ·grind
 ·have h5:=(EY (BT.sl t) tt htf l).1;rw[ha]at h5;exact h5
 ·have h5:=(EY (BT.sl t) tt htf l).2;rw[ha]at h5;exact h5
 ·rw[ha]at hr;obtain⟨u,hu,hr1⟩:=hr.BU;cases hu;exact⟨fun _=>hr1,fun h=>nomatch h⟩
end Go.VS
namespace Go.VS
open Go.RowKit
end Go.VS
namespace Go.VS
open Go.RowKit
theorem NW{P:Pg}(hkp:∀v,¬P.kp v){nm:String}{args:List SV}{K:TV→Heap→Prop}(h:Ll P nm args Heap.empty K){f:FuncId}{fn:Func}(hf:P.funcs[f]?=some fn)(hn:fn.name=nm){w:World}(hw:Late P w){vs:Array Value}(hlen:vs.size=args.length)
  (hz:∀(t:Nat) (s:SV),args[t]?=some s→s.cells.all AV.solid=true∧∀C:Ctx,C.P=P.toProgram→(∀b,b<w.heap.size→C.zb b∧C.zt b)→RSV C w s (vs.getD t undef) []):
  Calls P f vs w fun e w'=>∃v,e=.returned v∧Below w.heap.size w w'∧∃r H',K r H'∧r.kept=true∧∃(C:Ctx) (f:List Nat),C.P=P.toProgram∧RTV C w' r v f∧f.Nodup∧(∀b∈f,w.heap.size≤b∧b<w'.heap.size∧¬C.zb b):=by
 obtain⟨_,_,h3⟩:=h f fn hf hn;obtain⟨lw,hg,hl⟩:=hw
 have hsz:lw.heap.size≤w.heap.size:=by
  grind
 let E:Env:=⟨P,w,fun _=>False,fun b=>b<w.heap.size,vs.size,0,fun _=>0,lw⟩
 have R:Ax E (fun _=>0) (fun _=>False) (fun _=>[]) Ao (start args Heap.empty) vs w:=by
  refine⟨?_,⟨fun _=>Qc0,fun _ _ _ _ h=>(nomatch h),fun _ _ h=>(nomatch h)⟩,fun _ h=>h.elim,fun _ _ _=>rfl,rfl,rfl,rfl,Qa4 _,rfl,⟨Qa4 _,fun o ho=>absurd ho (Nat.not_lt_zero _)⟩,⟨fun b hb=>⟨hb,id⟩,fun b hb=>⟨Nat.lt_of_lt_of_le hb hsz,id⟩,hl,hg⟩⟩;intro κ
  cases κ with
  |s t=>
   simp only[AQ,start]
   cases hs:args[t]?with
   |none=>rfl
   |some s=>exact⟨fun _=>(hz t s hs).2 _ rfl fun b hb=>⟨.inl ⟨hb,id⟩,.inl hb⟩,fun h=>nomatch h⟩
  |o o=>intro l hl;cases hl
  |h i=>exact RVs.nil
 refine(h3 E w vs (fun _=>0) (fun _=>[]) rfl rfl rfl rfl hlen R fun t s hs=>(hz t s hs).1).mono fun e w' he=>?_
 cases e with
 |returned v=>
  obtain⟨r,H',lam,z,fp,hk,hkept,R'⟩:=he;refine⟨v,rfl,⟨R'.os,R'.tape,R'.output,R'.size,fun b hb=>R'.frame b hb id⟩,r,H',hk,hkept,_,_,rfl,R'.keys (.s 0),R'.fps.nod (.s 0),fun b hb=>?_⟩;have h5:=R'.fps.ok (.s 0) b hb;have hge:w.heap.size≤b:=h5.2.1.resolve_left id;exact⟨hge,h5.1,fun hzb=>hzb.elim (fun h=>absurd h.1 (Nat.not_lt.2 hge)) h5.2.2⟩
 |panicked ch=>
  obtain⟨v,_,hv,_⟩:=he<;>grind
 |_=>grind
def Reads(P:Pg)(w:World)(as:List SV)(vs:Array Value):Prop:=vs.size=as.length∧∀(t:Nat) (s:SV),as[t]?=some s→s.cells.all AV.solid=true∧∀C:Ctx,C.P=P.toProgram→(∀b,b<w.heap.size→C.zb b∧C.zt b)→RSV C w s (vs.getD t undef) []
theorem Fn.AaJ{P:Pg}(hkp:∀v,¬P.kp v){nm:String}{S:Sig}(hp:S.ps.any PT.Hf=false)(hr:S.rs.all PT.Tb=true){x:DP S.ps}{K:DP S.rs→DP (ptrs S.ps)→Prop}(h:Fn P nm S x K)
  {f:FuncId} {fn:Func} (hf:P.funcs[f]?=some fn) (hn:fn.name=nm) {w:World} (hw:Late P w) {μ:Nat→Nat} {as:List SV} {vs:Array Value} (hsv:svs μ dv dl (Bn S.ps 0 (Ar S.ps x)) as) (hrd:Reads P w as vs):
  Calls P f vs w fun e w'=>∃r d,K r d∧e=.returned (AnN (Il S.rs r))∧Below w.heap.size w w':=by
 have hA:=h μ Heap.empty as hsv ⟨fun b l hl=>by
  rw[BJ hp]at hl
  trivial,fun b b' l l' hl=>by
  rw[BJ hp]at hl
  trivial,fun o m hm=>(nomatch hm)⟩
 refine(NW hkp hA hf hn hw hrd.1 hrd.2).mono ?_;rintro e w' ⟨v,rfl,hb,r,H',⟨d,d',hp2,hd⟩,hk,C,g,hC,hrt,_⟩;obtain⟨μ',ss,ss',_,hg,hco,hsv,_⟩:=hp2.res;have hss:=(JQ S.rs hr d rbase _).1 hsv
 grind [Aco,AlA]
theorem Fn.AmO{P:Pg}(hkp:∀v,¬P.kp v){nm:String}{ps:List PT}(hp:ps.any PT.Hf=false){t:BT}{τt:TT}{x:DP ps}{K:DP [.val false (.sl t) (.node .own τt)]→DP (ptrs ps)→Prop}
  (h:Fn P nm ⟨ps,[.val false (.sl t) (.node .own τt)]⟩ x K)
  {f:FuncId} {fn:Func} (hf:P.funcs[f]?=some fn) (hn:fn.name=nm) {w:World} (hw:Late P w) {μ:Nat→Nat} {as:List SV} {vs:Array Value} (hsv:svs μ dv dl (Bn ps 0 (Ar ps x)) as) (hrd:Reads P w as vs):
  Calls P f vs w fun e w'=>Below w.heap.size w w'∧∃(l:List t.D) (d:DP (ptrs ps)),K l d∧∃(v:Value) (C:Ctx) (g:List Nat),e=.returned v∧RV C w' (.sl .own t.size (l.map (t.enc τt))) v g∧g.Nodup∧(∀b∈g,w.heap.size≤b∧b<w'.heap.size∧¬C.zb b):=by
 have hA:=h μ Heap.empty as hsv ⟨fun b l hl=>by
  rw[BJ hp]at hl
  trivial,fun b b' l l' hl=>by
  rw[BJ hp]at hl
  trivial,fun o m hm=>(nomatch hm)⟩
 refine(NW hkp hA hf hn hw hrd.1 hrd.2).mono ?_;rintro e w' ⟨v,rfl,hb,r,H',⟨d,d',hp2,hd⟩,hk,C,g,hC,hrt,hnd,hfr⟩;obtain⟨μ',ss,ss',_,hg,hco,hsv,_⟩:=hp2.res;rw[hg]at hrt;refine⟨hb,d,d',hd,?_⟩;have hlen:=hco.length
 match ss',hsv with
 |[s0],hsv=>
  match ss,hlen,hco,hrt with
  |[q0],_,hco,hrt=>
   have h1:RSV C w' q0 v g:=hrt.1 rfl
   have h2:Ib C w' [q0] [v] (g++[]):=⟨g,[],rfl,h1,rfl⟩
   obtain⟨g1,g2,hgg,h2,hg2⟩:=hco.rsvs h2;have hg2:g2=[]:=hg2;subst hg2;rw[Qa6,Qa6]at hgg;subst hgg;have hsv:svs μ' dv dl [.one (.sl .own τt t d)] [s0]:=hsv;obtain⟨⟨a0,e0,r0⟩,_⟩:=hsv;have r0:a0=.sl .own t.size (d.map (t.enc τt)):=r0;subst e0 r0;exact⟨v,C,g,rfl,h2,hnd,hfr⟩
theorem Fn.Abp{P:Pg}{nm:String}{ps:List PT}(hp:ps.any PT.Hf=false){t:BT}{tt:TT}(htf:TC.BD.TT.BD tt=true)(x:DP ps){K:DP [.val false (.sl t) tt,.val false (.int .i64) .leaf]→DP (ptrs ps)→Prop}
  (h:∀f fn,P.funcs[f]?=some fn→fn.name=nm→fn.body.isSome=true∧(fn.name== "runtime.NumGoroutine")=false∧∀(μ:Nat→Nat) (as:List SV) (w:World) (vs:Array Value),svs μ dv dl (Bn ps 0 (Ar ps x)) as→Late P w→Jp P w as vs→
   Calls P f vs w fun e w'=>Below w.heap.size w w'∧∃(l:(BT.sl t).D) (c:Int) (d':DP (ptrs ps)),K (l,c) d'∧∃(ns:Value) (f:List Nat) (z:Nat→Prop),e=.returned (.tuple #[ns,.int .i64 c])∧RVs (hctx P z) w' ((BT.sl t).enc tt l) [ns] f∧f.Nodup∧(∀b∈f,w.heap.size≤b∧b<w'.heap.size∧¬z b)∧(∀b,z b→w.heap.size≤b∧b<w'.heap.size)):
  Fn P nm ⟨ps,[.val false (.sl t) tt,.val false (.int .i64) .leaf]⟩ x K:=by
 intro μ H as hsv _;refine He ?_;intro f fn hf hn;obtain⟨h1,h2,h3⟩:=h f fn hf hn;refine⟨h1,h2,fun w vs hw hargs=>?_⟩
 refine(h3 μ as w vs hsv hw hargs).mono fun e w' ⟨hb,l,c,d',hK,ns,g,z,he,hr,g1,g2,g3⟩=>⟨hb,?_⟩
 subst he
 obtain⟨a,ha⟩:∃a,(BT.sl t).enc tt l=[a]:=⟨_,rfl⟩
 refine .inl ⟨_,rfl,.tup [.one a,.one (.lit (.int .i64 c))],g,z,⟨(l,c),d',⟨fun i=>if i<rbase then μ i else H.next,[.one a,.one (.lit (.int .i64 c))],[.one a,.one (.lit (.int .i64 c))],fun i hi=>if_pos hi,rfl,FA.refl _,?_,?_,?_,Qa4 _⟩,hK⟩,?_,?_,?_,g1,g2,g3⟩
 ·have h5:=Fb (μ:=fun i=>if i<rbase then μ i else H.next) (ver:=dv) (ln:=dl) (BT.sl t) tt l;rw[ha]at h5;exact⟨⟨a,rfl,h5.1⟩,⟨_,rfl,rfl⟩,trivial⟩
 ·intro b l' hl;rw[DM hp,BJ (by rfl)]at hl;trivial
 ·grind
 ·have h5:=(EY (BT.sl t) tt htf l).1;rw[ha]at h5;show([SV.one a,SV.one (.lit (.int .i64 c))].all fun s=>C8 s.cells)=true;simp only[Qa2,Qb0,Qa8,Qa0];trivial
 ·have h5:=(EY (BT.sl t) tt htf l).2;rw[ha]at h5;show([SV.one a,SV.one (.lit (.int .i64 c))].all fun s=>BV s.cells)=true;simp only[Qa2,Qb0,Qa8,Qa0];trivial
 ·rw[ha]at hr;obtain⟨u,hu,hr1⟩:=hr.BU;cases hu;exact⟨#[ns,.int .i64 c],rfl,g,[],zsz,hr1,[],[],rfl,.lit _ rfl,rfl⟩
theorem Fn.SF{P:Pg}{nm:String}{ps:List PT}(hp:ps.any PT.Hf=false){t:BT}{tt:TT}(htf:TC.BD.TT.BD tt=true)(x:DP ps){K:DP [.val false (.sl t) tt]→DP (ptrs ps)→Prop}
  (h:∀f fn,P.funcs[f]?=some fn→fn.name=nm→fn.body.isSome=true∧(fn.name== "runtime.NumGoroutine")=false∧∀(μ:Nat→Nat) (as:List SV) (w:World) (vs:Array Value),svs μ dv dl (Bn ps 0 (Ar ps x)) as→Late P w→Jp P w as vs→
   Calls P f vs w fun e w'=>Below w.heap.size w w'∧∃(l:(BT.sl t).D) (d':DP (ptrs ps)),K l d'∧∃(ns:Value) (f:List Nat) (z:Nat→Prop),e=.returned ns∧RVs (hctx P z) w' ((BT.sl t).enc tt l) [ns] f∧f.Nodup∧(∀b∈f,w.heap.size≤b∧b<w'.heap.size∧¬z b)∧(∀b,z b→w.heap.size≤b∧b<w'.heap.size)):
  Fn P nm ⟨ps,[.val false (.sl t) tt]⟩ x K:=by
 intro μ H as hsv _;refine He ?_;intro f fn hf hn;obtain⟨h1,h2,h3⟩:=h f fn hf hn;refine⟨h1,h2,fun w vs hw hargs=>?_⟩
 refine(h3 μ as w vs hsv hw hargs).mono fun e w' ⟨hb,l,d',hK,ns,g,z,he,hr,g1,g2,g3⟩=>⟨hb,?_⟩
 subst he
 obtain⟨a,ha⟩:∃a,(BT.sl t).enc tt l=[a]:=⟨_,rfl⟩
 refine .inl ⟨_,rfl,.val true (.one a),g,z,⟨l,d',⟨fun i=>if i<rbase then μ i else H.next,[.one a],[.one a],fun i hi=>if_pos hi,rfl,FA.refl _,?_,?_,?_,Qa4 _⟩,hK⟩,?_,?_,?_,g1,g2,g3⟩
 ·have h5:=Fb (μ:=fun i=>if i<rbase then μ i else H.next) (ver:=dv) (ln:=dl) (BT.sl t) tt l;rw[ha]at h5;exact⟨⟨a,rfl,h5.1⟩,trivial⟩
 ·intro b l' hl;rw[DM hp,BJ (by rfl)]at hl;trivial
 ·grind
 ·have h5:=(EY (BT.sl t) tt htf l).1;rw[ha]at h5;exact h5
 ·have h5:=(EY (BT.sl t) tt htf l).2;rw[ha]at h5;exact h5
 ·rw[ha]at hr;obtain⟨u,hu,hr1⟩:=hr.BU;cases hu;exact⟨fun _=>hr1,fun h=>nomatch h⟩
theorem TL:∀(t:BT),t.flat=true→∀(tt:TT) (x:t.D),t.enc tt x=(t.fl x).map AV.lit
 |.int _,_,_,_=>rfl
 |.bool,_,_,_=>rfl
 |.str,_,_,_=>rfl
 |.unit,h,_,_=>nomatch h
 |.sl _,h,_,_=>nomatch h
 |.pair a b,h,tt,x=>by
  simp only[BT.flat,Qa0]at h;simp only[BT.enc,BT.fl,List.map_append,TL a h.1,TL b h.2]
theorem AaR{t:BT}(ht:t.flat=true)(l:List t.D):(l.map (t.enc .leaf)).flatten=((l.map t.fl).flatten).map AV.lit:=by
 induction l<;>grind [TL]
theorem JU{t:BT}(ht:t.flat=true){l:List t.D}{w:World}{base:Nat}{e:TypeId}{v:Value}(h:w.ownsRow base e t.size v l.length (l.map t.fl).flatten):
  (∀C:Ctx,(∀b,base≤b→b<w.heap.size→C.zb b)→RV C w (.sl .brw t.size (l.map (t.enc .leaf))) v [])∧
  ∃f:List Nat,f.Nodup∧(∀b∈f,base≤b∧b<w.heap.size)∧∀C:Ctx,RV C w (.sl .own t.size (l.map (t.enc .leaf))) v f:=by
 obtain⟨hlen,h⟩:=h
 have hcell:∀u∈(l.map t.fl).flatten,u.oneCell'=true:=fun u hu=>by
  grind [RX]
 have hk:∀x∈l.map (t.enc .leaf),x.length=t.size:=fun x hx=>by
  grind [D3]
 rcases h with⟨rfl,hn⟩|⟨g,cap,cur,rfl,hg,hb,hnc,hcm,hcs,htk⟩
 ·have hn:l=[]:=List.length_eq_zero_iff.1 hn;subst hn;exact⟨fun C _=>.slNil _ _,[],Qc0,fun b hb=>(nomatch hb),fun C=>.slNil _ _⟩
 ·have hlt:g<w.heap.size:=by
   grind
  have hr:∀C:Ctx,RVs C w (l.map (t.enc .leaf)).flatten ((cur.toList.drop 0).take ((l.map (t.enc .leaf)).length*t.size)) []:=fun C=>by
   grind [AaR,AbG]
  have hml:(l.map (t.enc .leaf)).length=l.length:=Qb4 ..;refine⟨fun C hz=>?_,[g],zsz,fun b hb=>zg,fun C=>?_⟩
  ·have:=RV.shr (C:=C) (w:=w) .brw t.size (l.map (t.enc .leaf)) g 0 cap cur e (0,0) zdz (hz g hg hlt) (fun h=>nomatch h) hb (by
    grind) zg hk (hr C)
   grind
  ·have:=RV.own (C:=C) (w:=w) t.size (l.map (t.enc .leaf)) g 0 cap cur e [] hb zg zg hcm hk (hr C)
   grind
end Go.VS
namespace Go.VS
mutual
def AV.rdo:AV→Bool
 |.lit _=>true
 |.sl .own _ _=>false
 |.sl _ _ xs=>Aaj xs
 |_=>false
def VJ:List AV→Bool
 |[]=>true
 |a::l=>a.rdo&&VJ l
def Aaj:List (List AV)→Bool
 |[]=>true
 |l::ls=>VJ l&&Aaj ls
end
theorem Pb:∀(l m:List AV),VJ (l++m)=(VJ l&&VJ m)
 |[],m=>by rfl
 |a::l,m=>by simp[VJ,Pb l m,Bool.and_assoc]
theorem Mb:∀{xs:List (List AV)},Aaj xs=true→VJ xs.flatten=true
 |[],_=>rfl
 |l::ls,h=>by
  simp only[Aaj,Qa0]at h;simp[Qb2,Pb,h.1,Mb h.2]
mutual
theorem RV.reads{C C':Ctx}{w w':World}(hC:∀b,b<w.heap.size→C'.zb b∧C'.zt b)(hw:∀b,b<w.heap.size→w'.heap[b]?=w.heap[b]?):∀{a:AV} {v:Value} {f:List Nat},RV C w a v f→a.rdo=true→RV C' w' a v []
 |_,_,_,.lit v h,_=>.lit v h
 |_,_,_,.dead v h,h'=>by simp[AV.rdo]at h'
 |_,_,_,.ptr o c h,h'=>by simp[AV.rdo]at h'
 |_,_,_,.ref ..,h'=>by simp[AV.rdo]at h'
 |_,_,_,.adr ..,h'=>by simp[AV.rdo]at h'
 |_,_,_,.iadr ..,h'=>by simp[AV.rdo]at h'
 |_,_,_,.clo ..,h'=>by simp[AV.rdo]at h'
 |_,_,_,.slNil τ k,_=>.slNil τ k
 |_,_,_,.shrE τ k a cap ht,_=>.shrE τ k a cap ht
 |_,_,_,.own ..,h'=>by simp[AV.rdo]at h'
 |_,_,_,.shr .own k xs b off cap cs e fz ht z hi hb hs hc hk hr,h'=>absurd rfl ht
 |_,_,_,.shr .imm k xs b off cap cs e fz ht z hi hb hs hc hk hr,h'=>
  have hlt:b<w.heap.size:=(Array.getElem?_eq_some_iff.1 hb).1
  .shr .imm k xs b off cap cs e fz ht (hC b hlt).1 (fun _=>(hC b hlt).2) (by rw[hw b hlt];exact hb) hs hc hk (RVs.reads hC hw hr (Mb (by simpa[AV.rdo]using h')))
 |_,_,_,.shr .brw k xs b off cap cs e fz ht z hi hb hs hc hk hr,h'=>
  have hlt:b<w.heap.size:=(Array.getElem?_eq_some_iff.1 hb).1
  .shr .brw k xs b off cap cs e fz ht (hC b hlt).1 (fun h=>nomatch h) (by rw[hw b hlt];exact hb) hs hc hk (RVs.reads hC hw hr (Mb (by simpa[AV.rdo]using h')))
theorem RVs.reads{C C':Ctx}{w w':World}(hC:∀b,b<w.heap.size→C'.zb b∧C'.zt b)(hw:∀b,b<w.heap.size→w'.heap[b]?=w.heap[b]?):∀{l:List AV} {m:List Value} {f:List Nat},RVs C w l m f→VJ l=true→RVs C' w' l m []
 |_,_,_,.nil,_=>.nil
 |_,_,_,.cons a v f l m g h t,h'=>by
  simp only[VJ,Qa0]at h';exact .cons a v [] l m [] (RV.reads hC hw h h'.1) (RVs.reads hC hw t h'.2)
end
theorem MT{e:BT}{f:e.D→List AV}(h:∀x,VJ (f x)=true):∀l:List e.D,Aaj (l.map f)=true
 |[]=>rfl
 |x::l=>by simp[Aaj,h x,MT h l]
theorem RU:∀(t:BT) (tt:TT) (_:tt.shared=true) (x:t.D),VJ (t.enc tt x)=true
 |.int _,_,_,_=>rfl
 |.bool,_,_,_=>rfl
 |.str,_,_,_=>rfl
 |.unit,_,_,_=>rfl
 |.sl e,tt,h,l=>by
  have k:=G9 h;have key:=MT (fun x=>RU e tt.elt k.2.1 x) l;have ht:=k.1
  cases hτ:tt.tag<;>grind [BT.enc,VJ,AV.rdo]
 |.pair a b,tt,h,x=>by
  have k:=G9 h;simp only[BT.enc,Pb,RU a tt.fst k.2.2.1 x.1,RU b tt.snd k.2.2.2 x.2,Qc4]
open Go.RowKit Go
theorem Fn.Ani{P:Pg}{nm:String}{ps:List PT}(hp:ps.any PT.Hf=false){t t2:BT}{tt tt2:TT}(htf:TC.BD.TT.BD tt=true)(htf2:TC.BD.TT.BD tt2=true)(x:DP ps){K:DP [.val false (.sl t) tt,.val false (.sl t2) tt2]→DP (ptrs ps)→Prop}
  (h:∀f fn,P.funcs[f]?=some fn→fn.name=nm→fn.body.isSome=true∧(fn.name== "runtime.NumGoroutine")=false∧∀(μ:Nat→Nat) (as:List SV) (w:World) (vs:Array Value),svs μ dv dl (Bn ps 0 (Ar ps x)) as→Late P w→Jp P w as vs→
   Calls P f vs w fun e w'=>Below w.heap.size w w'∧∃(l:(BT.sl t).D) (m:(BT.sl t2).D) (d':DP (ptrs ps)),K (l,m) d'∧∃(n1 n2:Value) (f1 f2:List Nat) (z:Nat→Prop),e=.returned (.tuple #[n1,n2])∧RVs (hctx P z) w' ((BT.sl t).enc tt l) [n1] f1∧RVs (hctx P z) w' ((BT.sl t2).enc tt2 m) [n2] f2∧(f1++f2).Nodup∧(∀b∈f1++f2,w.heap.size≤b∧b<w'.heap.size∧¬z b)∧(∀b,z b→w.heap.size≤b∧b<w'.heap.size)):
  Fn P nm ⟨ps,[.val false (.sl t) tt,.val false (.sl t2) tt2]⟩ x K:=by
 intro μ H as hsv _;refine He ?_;intro f fn hf hn;obtain⟨h1,h2,h3⟩:=h f fn hf hn;refine⟨h1,h2,fun w vs hw hargs=>?_⟩
 refine(h3 μ as w vs hsv hw hargs).mono fun e w' ⟨hb,l,m,d',hK,n1,n2,f1,f2,z,he,hr,hr2,g1,g2,g3⟩=>⟨hb,?_⟩
 subst he
 obtain⟨a,ha⟩:∃a,(BT.sl t).enc tt l=[a]:=⟨_,rfl⟩
 obtain⟨b,hbq⟩:∃a,(BT.sl t2).enc tt2 m=[a]:=⟨_,rfl⟩
 refine .inl ⟨_,rfl,.tup [.one a,.one b],f1++f2,z,⟨(l,m),d',⟨fun i=>if i<rbase then μ i else H.next,[.one a,.one b],[.one a,.one b],fun i hi=>if_pos hi,rfl,FA.refl _,?_,?_,?_,Qa4 _⟩,hK⟩,?_,?_,?_,g1,g2,g3⟩
 ·have h5:=Fb (μ:=fun i=>if i<rbase then μ i else H.next) (ver:=dv) (ln:=dl) (BT.sl t) tt l;have h6:=Fb (μ:=fun i=>if i<rbase then μ i else H.next) (ver:=dv) (ln:=dl) (BT.sl t2) tt2 m;rw[ha]at h5;rw[hbq]at h6;exact⟨⟨a,rfl,h5.1⟩,⟨b,rfl,h6.1⟩,trivial⟩
 ·intro b l' hl;rw[DM hp,BJ (by rfl)]at hl;trivial
 ·grind
 ·have h5:=(EY (BT.sl t) tt htf l).1;have h6:=(EY (BT.sl t2) tt2 htf2 m).1;rw[ha]at h5;rw[hbq]at h6;show([SV.one a,SV.one b].all fun s=>C8 s.cells)=true;simp only[Qa2,Qb0,Qa8,Qa0];trivial
 ·have h5:=(EY (BT.sl t) tt htf l).2;have h6:=(EY (BT.sl t2) tt2 htf2 m).2;rw[ha]at h5;rw[hbq]at h6;show([SV.one a,SV.one b].all fun s=>BV s.cells)=true;simp only[Qa2,Qb0,Qa8,Qa0];trivial
 ·rw[ha]at hr;rw[hbq]at hr2;obtain⟨u,hu,hr1⟩:=hr.BU;obtain⟨u2,hu2,hr3⟩:=hr2.BU;cases hu;cases hu2;exact⟨#[n1,n2],rfl,f1,f2,rfl,hr1,f2,[],zsz,hr3,rfl⟩
theorem Yh{t:BT}(ht:t.flat=true){l:List t.D}{w:World}{base:Nat}{e:TypeId}{v:Value}(h:w.ownsRow base e t.size v l.length (l.map t.fl).flatten)(C:Ctx):RV C w (.sl .own t.size (l.map (t.enc .leaf))) v v.ownBlock.toList:=by
 obtain⟨hlen,h⟩:=h
 have hcell:∀u∈(l.map t.fl).flatten,u.oneCell'=true:=fun u hu=>by
  grind [RX]
 have hk:∀x∈l.map (t.enc .leaf),x.length=t.size:=fun x hx=>by
  grind [D3]
 rcases h with⟨rfl,hn⟩|⟨g,cap,cur,rfl,hg,hb,hnc,hcm,hcs,htk⟩
 ·have hn:l=[]:=List.length_eq_zero_iff.1 hn;subst hn;exact .slNil _ _
 ·have hr:RVs C w (l.map (t.enc .leaf)).flatten ((cur.toList.drop 0).take ((l.map (t.enc .leaf)).length*t.size)) []:=by
   grind [AaR,AbG]
  have hml:(l.map (t.enc .leaf)).length=l.length:=Qb4 ..;have:=RV.own (C:=C) (w:=w) t.size (l.map (t.enc .leaf)) g 0 cap cur e [] hb zg zg hcm hk hr;rw[hml]at this;trivial
theorem Ad1{C:Ctx}{w:World}{t:BT}:∀(rows:List (List t.D)) (vs:List Value),rows.length=vs.length→(∀j,j<vs.length→RV C w (.sl .own t.size ((rows.getD j []).map (t.enc .leaf))) (vs.getD j undef) (vs.getD j undef).ownBlock.toList)→
  RVs C w (rows.map fun r=>AV.sl .own t.size (r.map (t.enc .leaf))) vs (vs.map fun v=>v.ownBlock.toList).flatten
 |[],[],_,_=>.nil
 |r::rows,v::vs,hl,h=>by
  rw[Qc5,Qc5,Qb2];exact .cons _ _ _ _ _ _ (h 0 (Nat.zero_lt_succ _)) (Ad1 rows vs zg fun j hj=>h (j+1) (Qb3 hj))
 |[],_::_,hl,_=>by cases hl
 |_::_,[],hl,_=>by cases hl
theorem Ali{vs:List Value}(hd:∀i j,i<vs.length→j<vs.length→i≠j→∀b,(vs.getD i undef).ownBlock=some b→(vs.getD j undef).ownBlock≠some b):(vs.map fun v=>v.ownBlock.toList).flatten.Nodup:=by
 induction vs with
 |nil=>grind
 |cons v vs ih=>
  rw[Qc5,Qb2,List.nodup_append];refine⟨zg,ih fun i j hi hj hij b hb=>hd (i+1) (j+1) (Qb3 hi) (Qb3 hj) zm b hb,fun a ha b hb e=>?_⟩;subst e;obtain⟨l,hl,hal⟩:=List.mem_flatten.1 hb;obtain⟨u,hu,rfl⟩:=List.mem_map.1 hl;obtain⟨j,hj,rfl⟩:=List.getElem_of_mem hu
  refine hd 0 (j+1) (Nat.zero_lt_succ _) (Qb3 hj) zm a (by simpa using ha) ?_<;>grind
end Go.VS
namespace Go.VS
open Go.RowKit Go
end Go.VS
namespace Go.VS
structure Ans where
 A:Type
 no:A
 yes:A
 and:A→A→A
 chk:Bool→A→A
@[reducible] def Ans.ver:Ans:=⟨Bool,false,true,fun a b=>bif a then b else false,fun b a=>bif b then a else false⟩
@[reducible] def Ans.cand(V:Type):Ans:=⟨Option V,none,none,fun a b=>match a with|some v=>some v|none=>b,fun _ a=>a⟩
def eqL{α:Type}(f:α→α→Bool):List α→List α→Bool
 |[],[]=>true
 |a::l,b::m=>bif f a b then eqL f l m else false
 |_,_=>false
def BT.eqD:(t:BT)→t.D→t.D→Bool
 |.int _,a,b=>decide ((a:Int)=b)
 |.bool,a,b=>decide ((a:Bool)=b)
 |.str,a,b=>eqL (fun x y:UInt8=>decide (x=y)) a b
 |.unit,_,_=>true
 |.sl e,a,b=>eqL e.eqD a b
 |.pair s t,a,b=>bif s.eqD a.1 b.1 then t.eqD a.2 b.2 else false
theorem EA{a b:Bool}(h:(bif a then b else false)=true):a=true∧b=true:=by cases a<;>simp_all
theorem Afo{α:Type}{f:α→α→Bool}(hf:∀x y,f x y=true→x=y):∀{l m:List α},eqL f l m=true→l=m
 |[],[],_=>rfl
 |a::l,b::m,h=>by rw[hf _ _ (EA h).1,Afo hf (EA h).2]
 |[],_::_,h=>nomatch h
 |_::_,[],h=>nomatch h
theorem BT.QQ:∀(t:BT) {x y:t.D},t.eqD x y=true→x=y
 |.int _,_,_,h=>of_decide_eq_true h
 |.bool,_,_,h=>of_decide_eq_true h
 |.str,_,_,h=>Afo (fun _ _=>of_decide_eq_true) h
 |.unit,_,_,_=>rfl
 |.sl e,_,_,h=>Afo (fun _ _=>e.QQ) h
 |.pair s t,(_,_),(_,_),h=>by rw[Prod.mk.injEq];exact⟨s.QQ (EA h).1,t.QQ (EA h).2⟩
def Ao7:List Ob→Bool
 |[]=>true
 |o::r=>match o.d with
  |.isTrue _=>Ao7 r
  |.isFalse _=>false
theorem AgS:∀{l:List Ob} {q:Prop},Ao7 l=true→q→Amz l q
 |[],_,_,k=>k
 |⟨_,.isTrue h⟩::_,_,b,k=>⟨h,AgS b k⟩
 |⟨_,.isFalse _⟩::_,_,b,_=>nomatch b
abbrev CB:=(Z:Ans)→(nm:String)→(S:Sig)→DP S.ps→(DP S.rs→DP (ptrs S.ps)→Z.A)→Z.A
section
variable(Z:Ans)
def La{α:Type}(x:R α)(k:α→Z.A):Z.A:=match x with
 |none=>Z.no
 |some (ps,a)=>Z.chk (Ao7 ps) (k a)
def Od{α:Type}(x:Option α)(k:α→Z.A):Z.A:=match x with
 |none=>Z.no
 |some a=>k a
def gkn(F Γ:TS):Gd→Bool
 |[]=>true
 |(t,_)::r=>(Gr F Γ t).isSome&&gkn F Γ r
variable(cb:CB)
def Akk(F Γ:TS)(S:Sig)(dst:Option Nat)(op:AOp)(k:TS→Z.A):Z.A:=
 bif S.free then
  La Z (Nn F Γ S.imp [] op) fun c=>
  Od Z (BQ Γ S.ps 0 c.2 []) fun m=>
  Od Z (Va S.ps m.1) fun x=>
  La Z (Xk F Γ op.given) fun Γ1=>
  cb Z c.1 S x fun d d'=>Od Z (WC F Γ1 S [] dst m.2 d d') k
 else Z.no
def Afu(F Γ:TS)(S:Sig)(dst:Option Nat)(g:Gd)(k:TS→Z.A)(d:DP S.rs):Z.A:=match dst with
 |some t=>La Z (Ie F Γ t (VK g (Bn S.rs rbase (Ar S.rs d)))) k
 |none=>Z.no
def Afv(F Γ:TS)(S:Sig)(dst:Option Nat)(op:AOp)(g:Gd)(k:TS→Z.A):Z.A:=
 bif S.free&&(!S.imp&&(SE F Γ op.given&&one? S.rs))then
  La Z (Nn F Γ false g op) fun c=>
  Od Z (BQ Γ S.ps 0 c.2 []) fun m=>
  Od Z (Va S.ps m.1) fun x=>
  bif gkn F Γ g then(bif gv F Γ g then cb Z c.1 S x fun d _=>Afu Z F Γ S dst g k d else Afu Z F Γ S dst g k (tyP S.rs).dflt)else Z.no
 else Z.no
def V7(F Γ:TS)(o:TOp)(k:TS→Z.A):Z.A:=
 match V1 F Γ o.g with
 |some (n,d,l)=>La Z (Ie F Γ n .gone) fun Γ1=>La Z (Ie F Γ1 d (.tup l)) k
 |none=>
 Od Z (QY F Γ o.g.guard) fun g=>
  bif o.g.op.KK then(match g with
   |[]=>Akk Z cb F Γ o.sg o.g.dst o.g.op k
   |p::g=>Afv Z cb F Γ o.sg o.g.dst o.g.op (p::g) k)
  else bif o.g.op.isW||o.g.op.Am1 then(match g with
   |[]=>(match o.g.op.pan? with
    |some _=>Z.no
    |none=>La Z (MD F Γ o.g.dst o.ty o.g.op) k)
   |_::_=>Z.no)
  else La Z (Iw F Γ g o.g.op) fun v=>match o.g.dst with
   |none=>k Γ
   |some d=>La Z (Ie F Γ d (.val g v)) k
def AbT(F Γ:TS)(o:TOp)(k:TS→Z.A):Z.A:=match o.hv with
 |false=>V7 Z cb F Γ o k
 |true=>match Ak4 F Γ o.g.guard with
  |some true=>V7 Z cb F Γ ⟨⟨o.g.dst,o.g.op,none⟩,o.ty,o.sg,o.fz,none,false,false⟩ k
  |some false=>(match o.g.dst with
   |none=>k Γ
   |some d=>La Z (Ie F Γ d (AlH F Γ o.sb o.g.guard)) k)
  |none=>Z.no
def Tg(F Γ:TS)(o:TOp)(k:TS→Z.A):Z.A:=AbT Z cb F Γ o fun Γ'=>bif o.fz then La Z (Ais F Γ' o.g.dst) k else k Γ'
def YH(F Γ:TS)(o:TOp)(k:TS→Z.A):Z.A:=match o.sp with
 |none=>Tg Z cb F Γ o k
 |some t=>match look Γ.sl t with
  |some (.val [] (.one (.bool b)))=>bif b then Tg Z cb F (Γ.setb t true) o k else Tg Z cb F (Γ.setb t false) o k
  |some (.val (_::_) _)=>Tg Z cb F Γ o k
  |_=>Z.no
def Ama(F:TS):List TOp→TS→(TS→Z.A)→Z.A
 |[],Γ,k=>k Γ
 |o::r,Γ,k=>YH Z cb F Γ o fun Γ'=>Ama F r Γ' k
def YI(F:TS):HL→TS→(TS→Z.A)→Z.A
 |.done,Γ,k=>k Γ
 |.first o r,Γ,k=>YH Z cb F Γ o fun Γ'=>YI F r Γ' k
 |.alt o r m,Γ,k=>Z.and (YH Z cb F Γ o fun Γ'=>YI F r Γ' k) (YI F m Γ k)
 |.stop,_,_=>Z.yes
def YE(F:TS)(Γ:TS)(k:TS→Z.A):List HL→Z.A
 |[]=>Z.yes
 |t::ts=>Z.and (YI Z cb F t Γ k) (YE F Γ k ts)
structure KtZ where
 norm:TS→Z.A
 ret:TS→Z.A
 ex:List (Nat×(TS→Z.A))
def KtZ.map(k:KtZ Z)(f:TS→TS):KtZ Z:=⟨fun Γ=>k.norm (f Γ),fun Γ=>k.ret (f Γ),k.ex.map fun p=>(p.1,fun Γ=>p.2 (f Γ))⟩
def Ahl{D:Type}(f:D→(D→Z.A)→Z.A):Nat→D→Z.A
 |0,_=>Z.no
 |n+1,x=>f x (Ahl f n)
def D1.dr:D1→Option (List HL)
 |.draw ts=>some ts
 |_=>none
def twZ(N:Nat):D1→TS→TS→KtZ Z→Z.A
 |.skip,_,Γ,k=>k.norm Γ
 |.region ops,F,Γ,k=>Ama Z cb F ops Γ k.norm
 |.draw ts,F,Γ,k=>YE Z cb F Γ k.norm ts
 |.seq a b,F,Γ,k=>twZ N a F Γ ⟨fun Γ'=>twZ N b F Γ' k,k.ret,k.ex⟩
 |.cond x a b,F,Γ,k=>La Z (Zq F Γ [] x) fun c=>bif c then twZ N a F Γ k else twZ N b F Γ k
 |.block id a,F,Γ,k=>twZ N a F Γ ⟨k.norm,k.ret,(id,k.norm)::k.ex⟩
 |.loop L a,F,Γ,k=>Od Z (MU L F Γ) fun x=>Ahl Z (fun d J=>twZ N a F (build L d) ⟨fun Γ'=>Od Z (MU L F Γ') J,k.ret,k.ex⟩) N x
 |.exit id,_,Γ,k=>Od Z (look k.ex id) fun q=>q Γ
 |.ret,_,Γ,k=>k.ret Γ
 |.join L a,F,Γ,k=>match a.dr with
  |some ts=>Od Z (YE (.cand (DL L)) cb F Γ (fun Γ'=>MU L F Γ') ts) fun d=>
   Z.chk (YE .ver cb F Γ (fun Γ'=>Od .ver (MU L F Γ') fun e=>(tyL L).eqD e d) ts) (k.norm (build L d))
  |none=>twZ N a F Γ ⟨fun Γ'=>Od Z (MU L F Γ') fun d=>k.norm (build L d),k.ret,k.ex⟩
 |.frame ms mb ob a,F,Γ,k=>bif F.sl.any (fun p=>p.2.gdd)then Z.no else
  twZ N a ((Ex Γ ms mb ob).over F) (SC Γ ms mb) (k.map Z fun Γ'=>Γ'.over (Ex Γ ms mb ob))
 |.frz l a,F,Γ,k=>La Z (Xh F Γ l) fun Γ'=>twZ N a F Γ' k
def Ap2(F Γ:TS)(res:List N2)(S:Sig)(k:DP S.rs→DP (ptrs S.ps)→Z.A):Z.A:=
 La Z (Pk F Γ res) fun r=>
 Od Z (BQ r.2 S.rs rbase r.1 []) fun m=>
 bif m.2.all (fun p=>Qb9 rbase p.2)then
  Od Z (Va S.rs m.1) fun d=>
  Od Z (Zh r.2 S.ps 0) fun cs=>
  Od Z (Va (ptrs S.ps) cs) fun d'=>k d d'
 else Z.no
def Aq1(N:Nat)(A:AFn)(S:Sig)(c:D1)(x:DP S.ps)(k:DP S.rs→DP (ptrs S.ps)→Z.A):Z.A:=
 twZ Z cb N c ⟨[],[]⟩ (NH S x) ⟨fun Γ=>Ap2 Z ⟨[],[]⟩ Γ A.res S k,fun Γ=>Ap2 Z ⟨[],[]⟩ Γ A.res S k,[]⟩
end
def CB.ok(P:Pg)(cb:CB):Prop:=∀(nm:String) (S:Sig) (x:DP S.ps) (k:DP S.rs→DP (ptrs S.ps)→Bool) (K:DP S.rs→DP (ptrs S.ps)→Prop),cb .ver nm S x k=true→(∀d d',k d d'=true→K d d')→Fn P nm S x K
section
variable{P:Pg}{F Γ:TS}{cb:CB}
theorem D9{α:Type}{x:R α}{k:α→Bool}{K:α→Prop}(h:La .ver x k=true)(hk:∀a,k a=true→K a):Ia x K:=by
 match x,h with
 |some (ps,a),h=>exact AgS (EA h).1 (hk a (EA h).2)
theorem Er{α:Type}{x:Option α}{k:α→Bool}{K:α→Prop}(h:Od .ver x k=true)(hk:∀a,k a=true→K a):MQ x K:=by
 match x,h with
 |some a,h=>exact hk a h
theorem Akl(hc:cb.ok P){S:Sig}{dst:Option Nat}{op:AOp}{k:TS→Bool}{K:TS→Prop}(h:Akk .ver cb F Γ S dst op k=true)(hk:∀a,k a=true→K a):Ace P F Γ S dst op K:=by
 unfold Akk at h;unfold Ace
 cases hf:S.free with
 |false=>rw[hf]at h;cases h
 |true=>
  rw[hf]at h
  exact D9 h fun c h=>Er h fun m h=>Er h fun x h=>D9 h fun Γ1 h=>hc _ _ _ _ _ h fun d d' h=>Er h hk
theorem Ahd:∀{g:Gd} {p:Prop},gkn F Γ g=true→(gv F Γ g=true→p)→gimp F Γ g p
 |[],_,_,h=>h rfl
 |(t,w)::r,p,hk,h=>by
  unfold gkn at hk;unfold gv at h;unfold gimp;rw[Qa0]at hk
  cases hs:Gr F Γ t with
  |none=>rw[hs]at hk;cases hk.1
  |some b=>
   rw[hs]at h;intro e
   refine Ahd hk.2 fun k=>h ?_
   rw[e,k];simp
theorem AcM:∀{g:Gd} {q:Prop},gkn F Γ g=true→(gv F Γ g=false→q)→gnimp F Γ g q
 |[],_,_,_=>trivial
 |(t,w)::r,p,hk,h=>by
  unfold gkn at hk;unfold gv at h;unfold gnimp;rw[Qa0]at hk
  cases hs:Gr F Γ t with
  |none=>rw[hs]at hk;cases hk.1
  |some b=>
   rw[hs]at h;refine⟨fun e=>h ?_,AcM hk.2 fun k=>h ?_⟩
   ·subst e;cases w<;>rfl
   ·rw[k];cases b<;>cases w<;>rfl
theorem Aiu(hc:cb.ok P){S:Sig}{dst:Option Nat}{op:AOp}{g:Gd}{k:TS→Bool}{K:TS→Prop}(h:Afv .ver cb F Γ S dst op g k=true)(hk:∀a,k a=true→K a):Xo P F Γ S dst op g K:=by
 unfold Afv at h;unfold Xo
 cases hf:(S.free&&(!S.imp&&(SE F Γ op.given&&one? S.rs)))with
 |false=>rw[hf]at h;cases h
 |true=>
  rw[hf]at h;refine⟨fun d=>Afu .ver F Γ S dst g k d=true,⟨?_,?_⟩,fun d hd=>?_⟩
  ·refine D9 h fun c h=>Er h fun m h=>Er h fun x h=>?_
   obtain⟨h1,h2⟩:=EA h
   refine Ahd h1 fun hv=>?_
   rw[hv]at h2
   exact hc _ _ _ _ _ h2 fun d _ h=>h
  ·obtain⟨c,-,h⟩:=CE (D9 h fun c h=>h);obtain⟨m,-,h⟩:=Eb (Er h fun c h=>h);obtain⟨x,-,h⟩:=Eb (Er h fun c h=>h);obtain⟨h1,h2⟩:=EA h
   refine AcM h1 fun hv=>?_
   rw[hv]at h2;exact h2
  ·cases dst with
   |none=>cases hd
   |some t=>exact D9 hd hk
theorem YF(hc:cb.ok P){o:TOp}{k:TS→Bool}{K:TS→Prop}(h:V7 .ver cb F Γ o k=true)(hk:∀a,k a=true→K a):Uy P F Γ o K:=by
 unfold V7 at h;unfold Uy;generalize V1 F Γ o.g=q at h⊢
 match q,h with
 |some (n,d,l),h=>exact D9 h fun Γ1 h=>D9 h hk
 |none,h=>
  refine Er h fun g h=>?_
  cases hi:o.g.op.KK with
  |true=>
   rw[hi]at h
   cases g with
   |nil=>exact Akl hc h hk
   |cons p g=>exact Aiu hc h hk
  |false=>
   rw[hi]at h;dsimp only[cond_false]at h⊢
   cases hw:o.g.op.isW||o.g.op.Am1 with
   |true=>
    rw[hw]at h
    cases g with
    |cons p g=>cases h
    |nil=>
     dsimp only[cond_true]at h⊢
     cases hp:o.g.op.pan? with
     |some x=>rw[hp]at h;cases h
     |none=>rw[hp]at h;exact D9 h hk
   |false=>
    rw[hw]at h
    refine D9 h fun v h=>?_
    cases hd:o.g.dst with
    |none=>rw[hd]at h;exact hk _ h
    |some d=>rw[hd]at h;exact D9 h hk
theorem AgG(hc:cb.ok P){o:TOp}{k:TS→Bool}{K:TS→Prop}(h:AbT .ver cb F Γ o k=true)(hk:∀a,k a=true→K a):YG P F Γ o K:=by
 unfold AbT at h;unfold YG
 cases hv:o.hv with
 |false=>rw[hv]at h;exact YF hc h hk
 |true=>
  rw[hv]at h;dsimp only at h⊢;generalize Ak4 F Γ o.g.guard=q at h⊢
  match q,h with
  |some true,h=>exact YF hc h hk
  |some false,h=>
   cases hd:o.g.dst with
   |none=>rw[hd]at h;exact hk _ h
   |some d=>rw[hd]at h;exact D9 h hk
  |none,h=>cases h
theorem NL(hc:cb.ok P){o:TOp}{k:TS→Bool}{K:TS→Prop}(h:Tg .ver cb F Γ o k=true)(hk:∀a,k a=true→K a):Uz P F Γ o K:=by
 refine AgG hc h fun Γ' h=>?_
 cases hz:o.fz with
 |false=>rw[hz]at h;exact hk _ h
 |true=>rw[hz]at h;exact D9 h hk
theorem UA(hc:cb.ok P){o:TOp}{k:TS→Bool}{K:TS→Prop}(h:YH .ver cb F Γ o k=true)(hk:∀a,k a=true→K a):tstep P F Γ o K:=by
 unfold YH at h;unfold tstep
 cases hs:o.sp with
 |none=>rw[hs]at h;exact NL hc h hk
 |some t=>
  rw[hs]at h;dsimp only at h⊢;generalize look Γ.sl t=q at h⊢;split at h
  ·rename_i b;refine⟨fun e=>?_,fun e=>?_⟩
   ·subst e;exact NL hc h hk
   ·subst e;exact NL hc h hk
  ·exact NL hc h hk
  ·cases h
theorem Aeq(hc:cb.ok P){k:TS→Bool}{K:TS→Prop}(hk:∀a,k a=true→K a):∀{l:List TOp} {Γ:TS},Ama .ver cb F l Γ k=true→tops P F l Γ K
 |[],_,h=>hk _ h
 |_::_,_,h=>UA hc h fun _ h=>Aeq hc hk h
theorem MW(hc:cb.ok P){k:TS→Bool}{K:TS→Prop}(hk:∀a,k a=true→K a):∀{t:HL} {Γ:TS},YI .ver cb F t Γ k=true→ttree P F t Γ K
 |.done,_,h=>hk _ h
 |.first _ _,_,h=>UA hc h fun _ h=>MW hc hk h
 |.alt _ _ _,_,h=>⟨UA hc (EA h).1 fun _ h=>MW hc hk h,MW hc hk (EA h).2⟩
 |.stop,_,_=>trivial
theorem Ux(hc:cb.ok P){k:TS→Bool}{K:TS→Prop}(hk:∀a,k a=true→K a):∀{l:List HL},YE .ver cb F Γ k l=true→trees P F Γ K l
 |[],_=>trivial
 |[_],h=>MW hc hk (EA h).1
 |_::u::l,h=>⟨MW hc hk (EA h).1,Ux hc hk (l:=u::l) (EA h).2⟩
structure AeE(b:KtZ .ver)(k:Kt):Prop where
 norm:∀Γ,b.norm Γ=true→k.norm Γ
 ret:∀Γ,b.ret Γ=true→k.ret Γ
 ex:∀id q,look b.ex id=some q→∃Q,look k.ex id=some Q∧∀Γ,q Γ=true→Q Γ
theorem AeE.map{b:KtZ .ver}{k:Kt}(h:AeE b k)(f:TS→TS):AeE (b.map .ver f) (k.map f):=by
 refine⟨fun Γ=>h.norm _,fun Γ=>h.ret _,fun id q hq=>?_⟩;have hq:look (b.ex.map fun p=>(p.1,fun Γ=>p.2 (f Γ))) id=some q:=hq;rw[HT (fun(q:TS→Bool) Γ=>q (f Γ))]at hq;obtain⟨q0,h0,rfl⟩:=Option.map_eq_some_iff.1 hq;obtain⟨Q,h1,h2⟩:=h.ex id q0 h0;refine⟨fun Γ=>Q (f Γ),?_,fun Γ=>h2 _⟩;show look (k.ex.map fun p=>(p.1,fun Γ=>p.2 (f Γ))) id=_
 rw[HT (fun(q:TS→Prop) Γ=>q (f Γ)),h1];rfl
theorem AeE.norm'{b:KtZ .ver}{k:Kt}(h:AeE b k){n:TS→Bool}{N:TS→Prop}(hn:∀Γ,n Γ=true→N Γ):AeE ⟨n,b.ret,b.ex⟩ ⟨N,k.ret,k.ex⟩:=⟨hn,h.ret,h.ex⟩
theorem Ak7{D:Type}{f:D→(D→Bool)→Bool}{body:D→(D→Prop)→Prop}(hf:∀x k (K:D→Prop),f x k=true→(∀d,k d=true→K d)→body x K){n:Nat}{x:D}(h:Ahl .ver f n x=true):AJ x body:=by
 refine⟨fun n d=>Ahl .ver f n d=true,⟨n,h⟩,fun n d hd=>?_⟩
 cases n with
 |zero=>cases hd
 |succ n=>exact hf d _ _ hd fun d' h'=>⟨n,Nat.lt_succ_self n,h'⟩
theorem Mh(hc:cb.ok P){N:Nat}:∀(c:D1) {F Γ:TS} {b:KtZ .ver} {k:Kt},twZ .ver cb N c F Γ b=true→AeE b k→tw P c F Γ k
 |.skip,_,_,_,_,h,hk=>hk.norm _ h
 |.region _,_,_,_,_,h,hk=>Aeq hc hk.norm h
 |.draw _,_,_,_,_,h,hk=>Ux hc hk.norm h
 |.seq a b,_,_,_,_,h,hk=>Mh hc a h (hk.norm' fun _ h=>Mh hc b h hk)
 |.cond x a b,_,_,_,_,h,hk=>D9 h fun c h=>by
  cases c with
  |true=>exact⟨fun _=>Mh hc a h hk,fun e=>nomatch e⟩
  |false=>exact⟨(fun e=>nomatch e),fun _=>Mh hc b h hk⟩
 |.block id a,_,_,b,k,h,hk=>Mh hc a h ⟨hk.norm,hk.ret,fun id' q hq=>by
  have hq:look ((id,b.norm)::b.ex) id'=some q:=hq;show∃Q,look ((id,k.norm)::k.ex) id'=some Q∧_;rw[Aq]at hq⊢;split at hq
  ·rename_i e;cases hq;rw[if_pos e];exact⟨_,rfl,hk.norm⟩
  ·rename_i e;rw[if_neg e]
   exact hk.ex _ _ hq⟩
 |.loop L a,F,_,_,k,h,hk=>Er h fun x h=>Ak7 (body:=fun d J=>tw P a F (build L d) ⟨fun Γ'=>MQ (MU L F Γ') J,k.ret,k.ex⟩) (fun d J K h hJ=>Mh hc a h (hk.norm' fun _ h=>Er h hJ)) h
 |.exit id,_,_,b,k,h,hk=>by
  have h:Od .ver (look b.ex id) (fun q=>q _)=true:=h
  cases hl:look b.ex id with
  |none=>rw[hl]at h;cases h
  |some q=>
   rw[hl]at h;obtain⟨Q,h1,h2⟩:=hk.ex _ _ hl;show MQ (look k.ex id) _;rw[h1];exact h2 _ h
 |.ret,_,_,_,_,h,hk=>hk.ret _ h
 |.join L a,F,Γ,b,k,h,hk=>by
  unfold twZ at h
  cases ha:a.dr with
  |none=>
   rw[ha]at h;exact⟨fun d=>b.norm (build L d)=true,Mh hc a h (hk.norm' fun _ h=>Er h fun _ h=>h),fun d hd=>hk.norm _ hd⟩
  |some ts=>
   rw[ha]at h
   cases a with
   |draw ts'=>
    cases ha;obtain⟨d,-,h⟩:=Eb (Er h fun _ h=>h);obtain⟨h1,h2⟩:=EA h;exact⟨fun e=>e=d,Ux hc (fun Γ' h=>Er h fun e h=>(tyL L).QQ h) h1,fun e he=>by subst he;exact hk.norm _ h2⟩
   |_=>cases ha
 |.frame ms mb ob a,F,Γ,b,k,h,hk=>by
  unfold twZ at h;unfold tw
  cases hg:F.sl.any (fun p=>p.2.gdd)with
  |true=>rw[hg]at h;cases h
  |false=>rw[hg]at h;exact Mh hc a h (hk.map _)
 |.frz _ a,_,_,_,_,h,hk=>D9 h fun _ h=>Mh hc a h hk
theorem AhB{res:List N2}{S:Sig}{k:DP S.rs→DP (ptrs S.ps)→Bool}{K:DP S.rs→DP (ptrs S.ps)→Prop}(h:Ap2 .ver F Γ res S k=true)(hk:∀d d',k d d'=true→K d d'):Alz F Γ res S K:=by
 refine D9 h fun r h=>Er h fun m h=>?_
 cases hm:m.2.all fun p=>Qb9 rbase p.2 with
 |false=>rw[hm]at h;cases h
 |true=>rw[hm]at h;exact Er h fun d h=>Er h fun cs h=>Er h fun d' h=>hk d d' h
end
structure Ent where
 A:AFn
 S:Sig
 c:D1
structure Ent.ok(P:Pg)(e:Ent):Prop where
 h:Has P e.A
 he:e.c.erase=e.A.code
 hn:Qa3 (npar e.S.ps) e.A.np=true
 hS:e.S.free=true
def Tm(P:Pg):List Ent→Prop
 |[]=>True
 |e::r=>e.ok P∧Tm P r
def Ank(nm0:String)(S0:Sig)(f:(Z:Ans)→DP S0.ps→(DP S0.rs→DP (ptrs S0.ps)→Z.A)→Z.A)(rest:CB):CB:=fun Z nm S x k=>
 match decEq nm nm0 with
 |.isTrue _=>(match decEq S0 S with
  |.isTrue h=>(match S,h,x,k with|_,rfl,x,k=>f Z x k)
  |.isFalse _=>rest Z nm S x k)
 |.isFalse _=>rest Z nm S x k
theorem Aht{P:Pg}{nm0:String}{S0:Sig}{f:(Z:Ans)→DP S0.ps→(DP S0.rs→DP (ptrs S0.ps)→Z.A)→Z.A}{rest:CB}(hr:rest.ok P)
  (hf:∀x (k:DP S0.rs→DP (ptrs S0.ps)→Bool) (K:DP S0.rs→DP (ptrs S0.ps)→Prop),f .ver x k=true→(∀d d',k d d'=true→K d d')→Fn P nm0 S0 x K):(Ank nm0 S0 f rest).ok P:=by
 intro nm S x k K h hk;unfold Ank at h;split at h
 ·rename_i e _;subst e;split at h
  ·rename_i e _;subst e;exact hf x k K h hk
  ·exact hr _ _ _ _ _ h hk
 ·exact hr _ _ _ _ _ h hk
def Aqr(N:Nat)(cb:CB):List Ent→CB
 |[]=>fun Z _ _ _ _=>Z.no
 |e::r=>Ank e.A.name e.S (fun Z x k=>Aq1 Z cb N e.A e.S e.c x k) (Aqr N cb r)
theorem AhS{P:Pg}{N:Nat}{cb:CB}(hc:cb.ok P):∀{l:List Ent},Tm P l→(Aqr N cb l).ok P
 |[],_=>fun _ _ _ _ _ h=>nomatch h
 |e::_,h=>Aht (AhS hc h.2) fun _ _ _ hx hk=>Br h.1.h h.1.he h.1.hn h.1.hS (Mh hc e.c hx ⟨fun _ h=>AhB h hk,fun _ h=>AhB h hk,fun _ _ h=>nomatch h⟩)
def knC(nm:String)(S:Sig)(f:DP S.ps→Option (DP S.rs×DP (ptrs S.ps)))(cb:CB):CB:=Ank nm S (fun Z x k=>match f x with
 |some v=>k v.1 v.2
 |none=>cb Z nm S x k) cb
theorem ApB{P:Pg}{nm:String}{S:Sig}{f:DP S.ps→Option (DP S.rs×DP (ptrs S.ps))}{cb:CB}(hf:∀x v,f x=some v→Fn P nm S x fun d e=>d=v.1∧e=v.2)(hc:cb.ok P):(knC nm S f cb).ok P:=
 Aht hc fun x k K h hk=>by
  cases h1:f x with
  |some v=>rw[h1]at h;exact(hf x v h1).mono fun d e ⟨h3,h4⟩=>by subst h3 h4;exact hk _ _ h
  |none=>rw[h1]at h;exact hc _ _ _ _ _ h hk
def knV{S:Sig}(x0:DP S.ps)(v:DP S.rs×DP (ptrs S.ps))(x:DP S.ps):Option (DP S.rs×DP (ptrs S.ps)):=bif (tyP S.ps).eqD x x0 then some v else none
theorem ApC{P:Pg}{nm:String}{S:Sig}{x0:DP S.ps}{v:DP S.rs×DP (ptrs S.ps)}(h:Fn P nm S x0 fun d e=>d=v.1∧e=v.2):∀x u,knV x0 v x=some u→Fn P nm S x fun d e=>d=u.1∧e=u.2:=by
 intro x u hx;unfold knV at hx
 cases he:(tyP S.ps).eqD x x0 with
 |false=>rw[he]at hx;cases hx
 |true=>
  rw[he]at hx;cases hx;rw[BT.QQ _ he];exact h
def Ap5(kn:CB→CB)(N:Nat)(l:List Ent):Nat→CB
 |0=>fun Z _ _ _ _=>Z.no
 |n+1=>kn (Aqr N (Ap5 kn N l n) l)
theorem AhE{P:Pg}{kn:CB→CB}{N:Nat}{l:List Ent}(hk:∀cb:CB,cb.ok P→(kn cb).ok P)(hl:Tm P l):∀n,(Ap5 kn N l n).ok P
 |0=>fun _ _ _ _ _ h=>nomatch h
 |n+1=>hk _ (AhS (AhE hk hl n) hl)
theorem AkK{P:Pg}{kn:CB→CB}{N:Nat}{l:List Ent}(hk:∀cb:CB,cb.ok P→(kn cb).ok P)(hl:Tm P l)(n:Nat){nm:String}{S:Sig}{x:DP S.ps}{d:DP S.rs}{e:DP (ptrs S.ps)}
  (h:Ap5 kn N l n .ver nm S x (fun d' e'=>bif (tyP S.rs).eqD d' d then(tyP (ptrs S.ps)).eqD e' e else false)=true):Fn P nm S x fun d' e'=>d'=d∧e'=e:=
 AhE hk hl n nm S x _ _ h fun _ _ h=>⟨BT.QQ _ (EA h).1,BT.QQ _ (EA h).2⟩
end Go.VS
namespace Go.VS
open Go
inductive De
 |j (L:List LE)
 |f (ms mb:List Nat) (ob:Bool)
 |z (l:List Nat)
 |l (L:List LE)
 |t (ty:Option (BT×TT)) (sg:Sig) (fz:Bool) (sp:Option Nat) (hv sb:Bool)
structure AnS where
 n:Nat
 d:List (Nat×De)
 s:List Sig
def De.wrap:De→D1→D1
 |.j L,c=>.join L c
 |.f ms mb ob,c=>.frame ms mb ob c
 |.z m,c=>.frz m c
 |_,c=>c
def AhR(n:Nat):List (Nat×De)→List De×List (Nat×De)
 |[]=>([],[])
 |(m,x)::r=>match x,Qa3 m n with
  |.l _,_=>([],(m,x)::r)
  |.t ..,_=>([],(m,x)::r)
  |_,false=>([],(m,x)::r)
  |_,true=>match AhR n r with
   |(a,b)=>(x::a,b)
def anW(st:AnS)(k:AnS→D1×AnS):D1×AnS:=match st with
 |⟨n,d,s⟩=>match AhR n d with
  |(ws,d')=>match k ⟨n+1,d',s⟩with
   |(t,st')=>(ws.foldr De.wrap t,st')
def AOp.AqS:AOp→Bool
 |.call ..=>true
 |.callv ..=>true
 |_=>false
def Aps(g:GOp)(n:Nat):List (Nat×De)→Option (TOp×List (Nat×De))
 |(m,.t ty sg fz sp hv sb)::d=>bif Qa3 m n then some (⟨g,ty,sg,fz,sp,hv,sb⟩,d)else none
 |_=>none
def Vj(g:GOp)(st:AnS):TOp×AnS:=match Aps g st.n st.d with
 |some (o,d)=>(o,⟨st.n+1,d,st.s⟩)
 |none=>match g.op.AqS,st.s with
  |true,S::s=>(oS g S,⟨st.n+1,st.d,s⟩)
  |_,_=>(o0 g,⟨st.n+1,st.d,st.s⟩)
def AgT:List GOp→AnS→List TOp×AnS
 |[],st=>([],st)
 |g::r,st=>match Vj g st with
  |(o,st)=>match AgT r st with
   |(l,st)=>(o::l,st)
def anT:Ha→AnS→HL×AnS
 |.done,st=>(.done,st)
 |.stop,st=>(.stop,st)
 |.first g r,st=>match Vj g st with
  |(o,st)=>match anT r st with
   |(t,st)=>(.first o t,st)
 |.alt g r m,st=>match Vj g st with
  |(o,st)=>match anT r st with
   |(t,st)=>match anT m st with
    |(u,st)=>(.alt o t u,st)
def AmE:List Ha→AnS→List HL×AnS
 |[],st=>([],st)
 |t::r,st=>match anT t st with
  |(a,st)=>match AmE r st with
   |(l,st)=>(a::l,st)
def an:DS→AnS→D1×AnS
 |.skip,st=>anW st fun st=>(.skip,st)
 |.ret,st=>anW st fun st=>(.ret,st)
 |.exit id,st=>anW st fun st=>(.exit id,st)
 |.region l _,st=>anW st fun st=>match AgT l st with
  |(a,st)=>(.region a,st)
 |.draw ts,st=>anW st fun st=>match AmE ts st with
  |(a,st)=>(.draw a,st)
 |.seq a b,st=>anW st fun st=>match an a st with
  |(x,st)=>match an b st with
   |(y,st)=>(.seq x y,st)
 |.cond c a b,st=>anW st fun st=>match an a st with
  |(x,st)=>match an b st with
   |(y,st)=>(.cond c x y,st)
 |.block id a,st=>anW st fun st=>match an a st with
  |(x,st)=>(.block id x,st)
 |.loop a,st=>anW st fun st=>match st with
  |⟨n,(_,.l L)::d,s⟩=>match an a ⟨n,d,s⟩with
   |(x,st)=>(.loop L x,st)
  |st=>match an a st with
   |(x,st)=>(.loop [] x,st)
def anF(P:Program)(fn:Func)(s:List Sig)(d:List (Nat×De)):D1:=match fn.body with
 |some b=>match codeOf P fn.ntmps b with
  |some c=>(an c ⟨0,d,s⟩).1
  |none=>.skip
 |none=>.skip
def anI(P:Program)(i:Nat)(s:List Sig)(d:List (Nat×De)):D1:=match P.funcs[i]?with
 |some f=>anF P f s d
 |none=>.skip
def DS.fl:DS→DS
 |.region l _=>.region l false
 |.seq a b=>.seq a.fl b.fl
 |.cond c a b=>.cond c a.fl b.fl
 |.block id a=>.block id a.fl
 |.loop a=>.loop a.fl
 |c=>c
theorem Aew:∀(ws:List De) (t:D1),(ws.foldr De.wrap t).erase=t.erase
 |[],_=>rfl
 |w::ws,t=>by
  have h:=Aew ws t
  cases w<;>simpa[De.wrap,D1.erase]using h
theorem Apt{g:GOp}{n:Nat}{d d':List (Nat×De)}{o:TOp}(h:Aps g n d=some (o,d')):o.g=g:=by
 unfold Aps at h;split at h
 ·revert h
  cases Qa3 _ n<;>intro h<;>cases h
  rfl
 ·cases h
theorem AeY(g:GOp)(st:AnS):(Vj g st).1.g=g:=by
 unfold Vj;split
 ·exact Apt (by assumption)
 ·split<;>rfl
theorem AgU:∀(l:List GOp) (st:AnS),(AgT l st).1.map (·.g)=l
 |[],_=>rfl
 |g::r,st=>by
  show(Vj g st).1.g::(AgT r (Vj g st).2).1.map (·.g)=_;rw[AeY,AgU]
theorem AaD:∀(t:Ha) (st:AnS),(anT t st).1.erase=t
 |.done,_=>rfl
 |.stop,_=>rfl
 |.first g r,st=>by
  show Ha.first (Vj g st).1.g (anT r (Vj g st).2).1.erase=_;rw[AeY,AaD]
 |.alt g r m,st=>by
  show Ha.alt (Vj g st).1.g (anT r (Vj g st).2).1.erase (anT m (anT r (Vj g st).2).2).1.erase=_;rw[AeY,AaD,AaD]
theorem AgV:∀(l:List Ha) (st:AnS),(AmE l st).1.map HL.erase=l
 |[],_=>rfl
 |t::r,st=>by
  show(anT t st).1.erase::(AmE r (anT t st).2).1.map HL.erase=_;rw[AaD,AgV]
theorem Nj{st:AnS}{k:AnS→D1×AnS}{c:DS}(h:∀st,(k st).1.erase=c):(anW st k).1.erase=c:=by
 obtain⟨n,d,s⟩:=st;show((AhR n d).1.foldr De.wrap (k ⟨n+1,(AhR n d).2,s⟩).1).erase=c;rw[Aew,h]
theorem UJ:∀(c:DS) (st:AnS),(an c st).1.erase=c.fl
 |.skip,_=>Nj fun _=>rfl
 |.ret,_=>Nj fun _=>rfl
 |.exit _,_=>Nj fun _=>rfl
 |.region l _,_=>Nj fun st=>congrArg (DS.region · false) (AgU l st)
 |.draw ts,_=>Nj fun st=>congrArg DS.draw (AgV ts st)
 |.seq a b,_=>Nj fun st=>by
  show DS.seq (an a st).1.erase (an b (an a st).2).1.erase=_;rw[UJ a,UJ b];rfl
 |.cond c a b,_=>Nj fun st=>by
  show DS.cond c (an a st).1.erase (an b (an a st).2).1.erase=_;rw[UJ a,UJ b];rfl
 |.block id a,_=>Nj fun st=>congrArg (DS.block id) (UJ a st)
 |.loop a,_=>Nj fun st=>by
  dsimp only;split
  ·exact congrArg DS.loop (UJ a _)
  ·exact congrArg DS.loop (UJ a _)
theorem Iu{P:Program}{nt:Nat}:∀(b:Code) {c:DS},codeOf P nt b=some c→c.fl=c
 |.skip,_,h=>by cases h;rfl
 |.ret,_,h=>by cases h;rfl
 |.exit _,_,h=>by cases h;rfl
 |.region _ ops draw,c,h=>by
  have h:Pd P nt ops draw=some c:=h;unfold Pd at h;split at h
  ·split at h
   ·split at h
    ·obtain⟨t,_,rfl⟩:=Option.map_eq_some_iff.1 h;rfl
    ·split at h<;>cases h
     rfl
   ·cases h
  ·obtain⟨l,_,rfl⟩:=Option.map_eq_some_iff.1 h;rfl
 |.seq a b,c,h=>by
  simp only[codeOf]at h
  split at h<;>cases h
  rename_i x y h1 h2;show DS.seq _ _=_;rw[Iu a h1,Iu b h2]
 |.cond x a b,c,h=>by
  simp only[codeOf]at h
  split at h<;>cases h
  rename_i x y z h1 h2 h3;show DS.cond _ _ _=_;rw[Iu a h2,Iu b h3]
 |.block id a,c,h=>by
  obtain⟨x,hx,rfl⟩:=Option.map_eq_some_iff.1 (show(codeOf P nt a).map (DS.block id)=some c from h);exact congrArg _ (Iu a hx)
 |.loop a,c,h=>by
  obtain⟨x,hx,rfl⟩:=Option.map_eq_some_iff.1 (show(codeOf P nt a).map DS.loop=some c from h);exact congrArg _ (Iu a hx)
theorem AjV{P:Program}{fn:Func}{s:List Sig}{d:List (Nat×De)}(h:(fn.body.bind (codeOf P fn.ntmps)).isSome=true):fn.body.bind (codeOf P fn.ntmps)=some (anF P fn s d).erase:=by
 unfold anF
 cases hb:fn.body with
 |none=>rw[hb]at h;cases h
 |some b=>
  rw[hb]at h;dsimp only[Option.bind]at h⊢
  cases hc:codeOf P fn.ntmps b with
  |none=>rw[hc]at h;cases h
  |some c=>
   dsimp only;rw[UJ,Iu b hc]
theorem Ao8{P:Program}{i:Nat}{fn:Func}(h:P.funcs[i]?=some fn)(s:List Sig)(d:List (Nat×De)):anI P i s d=anF P fn s d:=by
 unfold anI;rw[h]
structure AnF where
 nm:String
 i:Nat
 s:List Sig
 d:List (Nat×De)
 res:List N2
 np:Nat
def AnF.c(F:AnF)(p:Program):D1:=anI p F.i F.s F.d
def AnF.A(F:AnF)(p:Program):AFn:=⟨F.nm,(F.c p).erase,F.res,F.np⟩
def AnF.e(F:AnF)(S:Sig)(p:Program):Ent:=⟨F.A p,S,F.c p⟩
theorem ArQ{P:Pg}{A:AnF}{S:Sig}{p:Program}{x:DP S.ps}{K:DP S.rs→DP (ptrs S.ps)→Prop}{W:Prop}(hA:Has P (A.A p))(hw:W)(h2:Qa3 (npar S.ps) A.np=true)(h3:S.free=true)(h4:Bu P (A.A p) S (A.c p) x K=W):Fn P A.nm S x K:=
 Br (c:=A.c p) (A:=A.A p) hA rfl h2 h3 (Eq.mpr h4 hw)
theorem Apq{P:Pg}{F:AnF}{S:Sig}{p:Program}(h:Has P (F.A p))(hn:Qa3 (npar S.ps) F.np=true)(hS:S.free=true):Ent.ok P (F.e S p):=⟨h,rfl,hn,hS⟩
def hN(s:String):Nat:=s.toByteArray.data.toList.foldl (fun a b=>a*256+b.toNat) 0
def ndB:List Nat→Bool
 |[]=>true
 |x::r=>r.all (fun y=>!(Qa3 x y))&&ndB r
theorem Ahp:∀{l:List Nat} {i j a:Nat},ndB l=true→l[i]?=some a→l[j]?=some a→i=j
 |[],i,_,_,_,hi,_=>by simp at hi
 |x::r,0,0,_,_,_,_=>rfl
 |x::r,0,j+1,a,h,hi,hj=>by
  have h:=(Bool.and_eq_true_iff.1 h).1;have:=List.all_eq_true.1 h a (Qb5 (by simpa using hj))
  obtain rfl:x=a:=by simpa using hi
  simp at this
 |x::r,i+1,0,a,h,hi,hj=>by
  have h:=(Bool.and_eq_true_iff.1 h).1;have:=List.all_eq_true.1 h a (Qb5 (by simpa using hi))
  obtain rfl:x=a:=by simpa using hj
  simp at this
 |x::r,i+1,j+1,a,h,hi,hj=>by
  have:=Ahp (Bool.and_eq_true_iff.1 h).2 (by simpa using hi) (by simpa using hj);omega
def ndP(P:Program):Bool:=ndB (P.funcs.toList.map fun f=>hN f.name)
theorem ArB{P:Pg}{F:AnF}(hd:ndP P.toProgram=true)(fn:Func)(h1:fn.name=F.nm)(h2:P.funcs[F.i]?=some fn)(h3:(fn.name== "runtime.NumGoroutine")=false)(h4:F.np≤fn.ntmps)(h5:LQ P fn.results.toList=some F.res)
  (h6:(fn.body.bind (codeOf P fn.ntmps)).isSome=true):Has P (F.A P.toProgram):=
 Ap (F:=F.A P.toProgram) F.i fn (List.all_eq_true.2 fun f _=>by
  cases hg:P.funcs[f]?with
  |none=>simp
  |some g=>
   by_cases hn:g.name=F.nm
   ·have e:f=F.i:=Ahp (a:=hN F.nm) hd (by rw[Qb6,Qc1,hg];exact congrArg some (congrArg hN hn)) (by rw[Qb6,Qc1,h2];exact congrArg some (congrArg hN h1))
    simp[e]
   ·have:(g.name !=F.nm)=true:=by simpa using hn
    simp[AnF.A,this]) h2 h3 h4 h5 ((AjV h6).trans (congrArg some (congrArg D1.erase (Ao8 h2 F.s F.d).symm)))
abbrev dF(n:Nat)(a:List Nat)(k m:Nat):Nat×De:=(n,.f (rg a k m) [] false)
abbrev dJ(n:Nat)(L:List LE):Nat×De:=(n,.j L)
abbrev dI(n:Nat)(l:List Nat):Nat×De:=(n,.j (l.map .si))
abbrev dK(l:List Nat):Nat×De:=(0,.l (l.map .si))
abbrev dL(L:List LE):Nat×De:=(0,.l L)
abbrev dT(n:Nat)(t:BT×TT):Nat×De:=(n,.t (some t) ⟨[],[]⟩ false none false false)
end Go.VS
